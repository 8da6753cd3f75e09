import Derived.Test.YtgpmeaicjonenaaGreata02
import Derived.Test.YtgpmeaicjonenaaGreata06
import Derived.Test.YtgpmeaicjonenaaGreata07
import Derived.Test.YtgpmeaicjonenaaGreata04
set_option linter.unusedVariables false
namespace Go.Proofs.YtgpmeaicjonenaaGreat
open Go.Proofs.Tryz
open Go.Eng
def vj (w w':World) (e sz:Nat) (a a':Option Addr) (n cap:Nat) (xs:List Value):Prop:=
 New w w'∧Owns w' e sz a' n cap xs∧(∀ k,isB a' k→w.heap.size≤k)∧(a'=none↔a=none)
theorem nQ {t ty e:TypeId} {i:TypeInfo} {z:Value} (ht:prog.underlying t=some (.slice e)) (hi:prog.info? e=some i) (hz:i.zero=some z) (hzs:z.cells.size=i.size) (hsz:0<i.size)
  {w:World} {a:Addr} {n c:Nat} {xs:List Value} (hl:xs.length=n * i.size) (hr:Rd w (some a) xs) (h1:∀ u ∈ xs,single u=true) (hb1:n≤140737488355328) (hb2:n * i.bytes≤140737488355328) :
  ∃ a' cap' w',(Builtin.append_ #[t,t] ty #[.slice (some ⟨w.heap.size,0,none⟩) 0 0,.slice (some a) n c]).run prog (w.alloc (.cells #[] e))=.ok (.slice a' n cap') w'∧vj w w' e i.size (some a) a' n cap' xs:=by
 have ho:Owns (w.alloc (.cells #[] e)) e i.size (some ⟨w.heap.size,0,none⟩) 0 0 []:=by
  refine ⟨by simp,.inr ⟨w.heap.size,[],rfl,?_,by omega,by simp [maxLen],by simp,by simp⟩⟩
  exact jK w [] e
 obtain ⟨a',cap',w',hrun,hown,hk,ha⟩:=ho.append (P:=prog) (ty:=ty) ht hi hz hzs hsz hl (hr.new (dP _ _)) h1 (c:=c) (by omega) (by simpa using hb2)
 simp only [Nat.zero_add,List.nil_append] at hrun hown
 refine ⟨a',cap',w',hrun,?_,hown,?_,?_⟩
 ·refine (dP w _).trans hk ?_
  rintro k hlt ⟨o,ho⟩
  simp at ho <;> omega
 ·rintro k ⟨o,rfl⟩
  rcases ha with ha | ha
  ·simp at ha <;> omega
  ·simp at ha <;> omega
 ·rcases ha with rfl | rfl<;>simp
theorem oT {w:World} {a:Option Addr} {n c:Nat} {xs:List Value} (hl:xs.length=n) (hr:Rd w a xs) (h1:∀ u ∈ xs,single u=true) (hb:n≤1000000000) (hn:a=none→n=0) :
  Does 80 [.slice a n c] w λv w'=>∃ a' cap,v=.slice a' n cap∧vj w w' 30 1 a a' n cap xs:=by
 refine does Tryz.func80 ?_
 rw [jP]
 obtain ⟨i,hi,hz,hsz,hby⟩:=iF (T:=30) (z:=.int .u64 0) (n:=1) (m:=8) (by kernel_rfl)
 cases a with
 |none=>
  refine gE rfl ⟨none,0,by rw [hn rfl],Keep.refl _ _,?_,?_,by simp⟩
  ·rw [hn rfl] at hl ⊢
   rw [List.eq_nil_of_length_eq_zero hl]
   exact Owns.nil _ _ _
  ·rintro k ⟨o,ho⟩;cases ho
 |some a=>
  refine er rfl ?_
  rintro b1 w1 rfl rfl
  obtain ⟨a',cap',w',hrun,hc⟩:=nQ (t:=106) (ty:=106) (z:=.int .u64 0) (n:=n) (c:=c) (w:=w) (a:=a) (xs:=xs) Tryz.underlying106 hi hz (by rw [hsz];rfl) (by omega) (by rw [hl,hsz];omega) hr h1 (by omega) (by rw [hby];omega)
  exact ⟨a',n,cap',w',hrun,a',cap',rfl,by rw [hsz] at hc;exact hc⟩
structure aP where
 words:List Int
 down:Bool
structure bM (w:World) (b bw:Nat) (n:aP):Prop where
 node:Blk w b [.slice (some ⟨bw,0,none⟩) n.words.length n.words.length,.bool n.down] 152
 words:Blk w bw (us n.words) 30
 len:n.words.length≤2048
 len2:8≤n.words.length
 wf:∀ x ∈ n.words,0≤x∧x<18446744073709551616
theorem bM.ne {w:World} {b bw:Nat} {n:aP} (h:bM w b bw n):b≠bw:=h.node.ne h.words (by decide)
theorem bM.keep {M:Nat→Prop} {w w':World} {b bw:Nat} {n:aP} (h:bM w b bw n) (hk:Keep M w w') (h1:¬ M b) (h2:¬ M bw):bM w' b bw n:=
 ⟨hk.blk h.node h1,hk.blk h.words h2,h.len,h.len2,h.wf⟩
theorem bM.new {w w':World} {b bw:Nat} {n:aP} (h:bM w b bw n) (hk:New w w'):bM w' b bw n:=h.keep hk id id
def aP.get (n:aP) (i:Nat):Int:=n.words.getD i 0
theorem aP.get_some {n:aP} {i:Nat} (h:i<n.words.length):n.words[i]?=some (n.get i):=by
 simp [aP.get,h]
theorem bM.wf_get {w:World} {b bw:Nat} {n:aP} (h:bM w b bw n) (i:Nat):0≤n.get i∧n.get i<18446744073709551616:=by
 by_cases hi:i<n.words.length
 ·exact h.wf _ (List.mem_of_getElem? (aP.get_some hi))
 ·simp [aP.get,hi]
theorem bM.cell {w:World} {b bw:Nat} {n:aP} (h:bM w b bw n) {i:Nat} (hi:i<n.words.length):w.cell? ⟨bw,i,none⟩=some (.int .u64 (n.get i)):=
 h.words.cell (uY (aP.get_some hi))
theorem Up_c {w:World} {b bw:Nat} {n:aP} (h:bM w b bw n):Does 109 [.pointer (some ⟨b,0,none⟩)] w λv w'=>v=.bool (!n.down)∧w'=w:=by
 refine does Tryz.func109 ?_
 rw [pw]
 exact ⟨n.down,h.node.cell rfl,rfl,rfl⟩
theorem pF {w:World} {b bw:Nat} {n:aP} (h:bM w b bw n):Does 89 [.pointer (some ⟨b,0,none⟩)] w λv w'=>v=.int .i64 (n.words.length / 8:Nat)∧w'=w:=by
 refine does Tryz.func89 ?_
 rw [mZ]
 have:=h.len
 refine ⟨_,_,_,h.node.cell rfl,?_,rfl⟩
 rw [Int.tdiv_eq_ediv_of_nonneg (by omega),w64 (by omega) (by omega)]
 rfl
theorem EE {w:World} {b bw:Nat} {n:aP} (h:bM w b bw n):Does 96 [.pointer (some ⟨b,0,none⟩)] w λv w'=>v=.int .u64 (n.get 1)∧w'=w:=by
 refine does Tryz.func96 ?_
 rw [nZ]
 have:=h.len2
 refine ⟨_,_,_,h.node.cell rfl,bE (by omega) (by omega) ⟨_,h.cell (by omega),rfl,rfl⟩⟩
theorem bM.setDown {w:World} {b bw:Nat} {n:aP} (h:bM w b bw n) (d:Bool):bM (w.setCell ⟨b,1,none⟩ (.bool d)) b bw { n with down:=d }:=
 ⟨h.node.setCell _,h.words.setCell_ne h.ne.symm _,h.len,h.len2,h.wf⟩
theorem EF (l:List Int) (i:Nat) (x:Int):(us l).set i (.int .u64 x)=us (l.set i x):=by simp [us]
theorem bM.setWord {w:World} {b bw:Nat} {n:aP} (h:bM w b bw n) (i:Nat) {x:Int} (h0:0≤x) (h1:x<18446744073709551616):bM (w.setCell ⟨bw,i,none⟩ (.int .u64 x)) b bw { n with words:=n.words.set i x }:=by
 refine ⟨?_,?_,by simpa using h.len,by simpa using h.len2,?_⟩
 ·have:=h.node.setCell_ne (i:=i) h.ne (.int .u64 x)
  simpa using this
 ·have:=h.words.setCell (i:=i) (.int .u64 x)
  rw [EF] at this
  exact this
 ·intro y hy
  rcases List.mem_or_eq_of_mem_set hy with hy | rfl
  ·exact h.wf y hy
  ·exact ⟨h0,h1⟩
theorem EG {w:World} {b bw:Nat} {n:aP} (h:bM w b bw n):Does 67 [.pointer (some ⟨b,0,none⟩)] w λv w'=>v=.tuple #[]∧bM w' b bw { n with down:=true }∧Keep (λk=>k=b) w w':=by
 refine does Tryz.func67 ?_
 rw [nX]
 refine ⟨⟨_,h.node.cell rfl⟩,h.node.frozen,?_⟩
 rintro w1 rfl
 exact ⟨rfl,h.setDown true,aR _ _ _ _⟩
def aP.back (n:aP):aP×Bool:=if n.down=true∧n.get 1<31 then (⟨n.words.set 1 (n.get 1+1),false⟩,true) else (n,false)
theorem EH {w:World} {b bw:Nat} {n:aP} (h:bM w b bw n):Does 68 [.pointer (some ⟨b,0,none⟩)] w λv w'=>v=.bool n.back.2∧bM w' b bw n.back.1∧Keep (λk=>k=b∨k=bw) w w':=by
 refine does Tryz.func68 ?_
 rw [nY]
 have hl:=h.len2
 have hw:=h.wf_get 1
 refine ⟨_,h.node.cell rfl,dG (λhd=>?_) (λhd=>?_)⟩
 ·have:n.back=(n,false):=by simp [aP.back,hd]
  rw [this]
  exact ⟨rfl,h,Keep.refl _ _⟩
 ·refine aF (EE h) ?_
  rintro v w1 ⟨rfl,rfl⟩
  refine ⟨_,rfl,aH (λhb=>?_) (λhb=>?_)⟩
  ·have:n.back=(n,false):=by
    have:¬ n.get 1<31:=by omega
    simp [aP.back,this]
   rw [this]
   exact ⟨rfl,h,Keep.refl _ _⟩
  ·refine ⟨⟨_,h.node.cell rfl⟩,h.node.frozen,?_⟩
   rintro w2 rfl
   have h2:=h.setDown false
   refine ⟨_,_,_,h2.node.cell rfl,bE (by omega) (by simpa using by omega) ⟨_,h2.cell (i:=1) (by simpa using by omega),bE (by omega) (by simpa using by omega) ⟨⟨_,h2.cell (i:=1) (by simpa using by omega)⟩,h2.words.frozen,?_⟩⟩⟩
   rintro w3 rfl
   have e:n.back=(⟨n.words.set 1 (n.get 1+1),false⟩,true):=by
    have:n.get 1<31:=by omega
    simp [aP.back,hd,this]
   rw [e]
   refine ⟨rfl,?_,((aR _ _ _ _).mono λ_ _ h=>.inl h).setCell (.inl (.inr rfl)) _⟩
   have e2:IntKind.u64.wrap (aP.get { words:=n.words,down:=false } 1+1)=n.get 1+1:=wu64 (by show 0≤n.get 1+1;omega) (by show n.get 1+1<_;omega)
   rw [e2]
   exact h2.setWord 1 (by omega) (by omega)
def aP.chk (n:aP) (at_ count:Int):Int:=
 if count<1∨at_<0∨(n.words.length:Int)≤at_∨(n.words.length:Int) - at_<count then 2 else if n.down=true then 4 else 0
theorem aP.chk_zero {n:aP} {at_ count:Int} (h:n.chk at_ count=0):1≤count∧0≤at_∧at_+count≤n.words.length∧n.down=false:=by
 unfold aP.chk at h
 split at h
 ·omega
 ·rename_i hc
  split at h
  ·omega
  ·rename_i hd
   exact ⟨by omega,by omega,by omega,by simpa using hd⟩
theorem ub {w:World} {b bw:Nat} {n:aP} (h:bM w b bw n) (at_ count:Int):Does 79 [.pointer (some ⟨b,0,none⟩),.int .i64 at_,.int .i64 count] w λv w'=>v=.int .i64 (n.chk at_ count)∧w'=w:=by
 refine does Tryz.func79 ?_
 rw [mW]
 have hl:=h.len
 refine aH (λh1=>⟨?_,rfl⟩) (λh1=>aH (λh2=>⟨?_,rfl⟩) (λh2=>⟨_,_,_,h.node.cell rfl,aH (λh3=>⟨?_,rfl⟩) (λh3=>⟨_,_,_,h.node.cell rfl,aH (λh4=>⟨?_,rfl⟩) (λh4=>⟨_,h.node.cell rfl,uX (λh5=>⟨?_,rfl⟩) (λh5=>⟨?_,rfl⟩)⟩)⟩)⟩))
 ·rw [aP.chk,if_pos (.inl h1)]
 ·rw [aP.chk,if_pos (.inr (.inl h2))]
 ·rw [aP.chk,if_pos (.inr (.inr (.inl h3)))]
 ·rw [w64 (by omega) (by omega)] at h4
  rw [aP.chk,if_pos (.inr (.inr (.inr (by omega))))]
 ·rw [w64 (by omega) (by omega)] at h4
  rw [aP.chk,if_neg (by omega),if_pos h5]
 ·rw [w64 (by omega) (by omega)] at h4
  rw [aP.chk,if_neg (by omega),if_neg (by simp [h5])]
def aP.read (n:aP) (at_ count:Int):List Int:=(n.words.drop at_.toNat).take count.toNat
theorem wL (l:List Int) (k:Nat):(us l).take k=us (l.take k):=by simp [us]
theorem wM (l:List Int) (k:Nat):(us l).drop k=us (l.drop k):=by simp [us]
theorem rR (l m:List Int):us l++us m=us (l++m):=by simp [us]
def BJ (n:aP) (at_ count:Int) (w:World) (v:Value) (w':World):Prop:=
 (n.chk at_ count≠0∧v=.tuple #[.slice none 0 0,.int .i64 (n.chk at_ count)]∧w'=w)∨
 (n.chk at_ count=0∧∃ a cap,v=.tuple #[.slice (some a) count.toNat cap,.int .i64 0]∧New w w'∧Owns w' 30 1 (some a) count.toNat cap (us (n.read at_ count))∧w.heap.size≤a.block)
theorem aP.read_len {n:aP} {at_ count:Int} (h:n.chk at_ count=0):(n.read at_ count).length=count.toNat:=by
 obtain ⟨h1,h2,h3,_⟩:=aP.chk_zero h
 simp [aP.read]
 omega
theorem CX {w:World} {b bw:Nat} {n:aP} (h:bM w b bw n) (at_ count:Int):Does 45 [.pointer (some ⟨b,0,none⟩),.int .i64 at_,.int .i64 count] w (BJ n at_ count w):=by
 refine does Tryz.func45 ?_
 rw [nW]
 refine aF (ub h at_ count) ?_
 rintro v w1 ⟨rfl,rfl⟩
 refine ⟨_,rfl,cU (λhc=>?_) (λhc=>?_)⟩
 ·exact .inl ⟨hc,rfl,rfl⟩
 ·obtain ⟨h1,h2,h3,_⟩:=aP.chk_zero hc
  have hl:=h.len
  refine ⟨_,_,_,h.node.cell rfl,?_⟩
  rw [w64 (by omega) (by omega)]
  refine oC h2 (by omega) h3 (by omega) (by omega) ?_
  intro a ha
  rcases ha with rfl | ⟨hx,_⟩
  ·have hrd:Rd w1 (some ⟨bw,0+at_.toNat * 1,none⟩) (us (n.read at_ count)):=by
    refine eQ h.words ?_
    rw [kV,aP.read_len hc,wM,wL,aP.read]
    simp
   have e:(at_+count).toNat - at_.toNat=count.toNat:=by omega
   rw [e]
   refine aF (oT (by rw [kV,aP.read_len hc]) hrd (kw _) (by omega) (by simp)) ?_
   rintro v w2 ⟨a',cap,rfl,hn,ho,hb,hi⟩
   refine ⟨_,_,_,rfl,.inr ⟨hc,?_⟩⟩
   cases a' with
   |none=>simp at hi
   |some a'=>
    refine ⟨a',cap,rfl,hn,ho,?_⟩
    rcases ho.2 with ⟨hx,_⟩ | ⟨g,cur,hx,_⟩
    ·cases hx
    ·exact hb _ ⟨a'.off,by simp at hx;rw [hx]⟩
  ·omega
theorem xv {P:Program} {w:World} {t ty e:TypeId} {i:TypeInfo} (ht:P.underlying t=some (.slice e)) (hi:P.info? e=some i) (hsz:i.size=1) {b o dl dc:Nat} {s:Option Addr} {m c:Nat} {news:List Value} (hl:news.length=m)
  (hm:m≤dl) (hs:Rd w s news) (hn:s=none→m=0) (hw:wrAt w ⟨b,o,none⟩ 0 news):(Builtin.copy_ #[t,t] ty #[.slice (some ⟨b,o,none⟩) dl dc,.slice s m c]).run P w=.ok (.int .i64 m) (puts w ⟨b,o,none⟩ 0 news):=by
 have hmin:Nat.min m dl=m:=Nat.min_eq_left hm
 have hst:=gD (P:=P) hw
 cases s with
 |none=>
  have:=hn rfl
  subst this
  have:news=[]:=List.eq_nil_of_length_eq_zero hl
  subst this
  simp [Builtin.copy_,run_underlying ht,Builtin.lenOf,hmin,sizeOf,typeInfo,hi,Builtin.firstCells,goInt,storeCells,puts]
 |some s=>
  have hld:(loadCells s m).run P w=.ok news.toArray w:=by
   have:aC w s 0 news:=by
    rcases hs with rfl | ⟨sb,so,he,hc⟩
    ·trivial
    ·simp at he
     subst he
     exact kr λj v hj=>by simpa using hc j v hj
   have:=Eng.run_loadCellsFrom (P:=P) (acc:=#[]) this
   rw [hl] at this
   simpa [loadCells] using this
  simp [Builtin.copy_,run_underlying ht,Builtin.lenOf,hmin,sizeOf,typeInfo,hi,Builtin.firstCells,goInt,hsz,hld,hst]
def aP.write (n:aP) (at_:Nat) (ws:List Int):aP:={ n with words:=n.words.take at_++ws++n.words.drop (at_+ws.length) }
theorem bM.write {w:World} {b bw:Nat} {n:aP} (h:bM w b bw n) {o:Nat} {ws:List Int} (hl:o+ws.length≤n.words.length) (hw:∀ x ∈ ws,0≤x∧x<18446744073709551616):bM (puts w ⟨bw,o,none⟩ 0 (us ws)) b bw (n.write o ws):=by
 have hlen:(n.write o ws).words.length=n.words.length:=by simp [aP.write];omega
 refine ⟨?_,?_,by rw [hlen];exact h.len,by rw [hlen];exact h.len2,?_⟩
 ·rw [hlen]
  exact (dD _ _ _ _ _).blk h.node h.ne
 ·have:=h.words.puts (o:=o) (i:=0) (vs:=us ws)
  rw [jL (by rw [kV,kV];omega),Nat.add_zero,kV,wL,wM,rR,rR] at this
  exact this
 ·intro x hx
  simp only [aP.write,List.mem_append] at hx
  rcases hx with (hx | hx) | hx
  ·exact h.wf x (List.mem_of_mem_take hx)
  ·exact hw x hx
  ·exact h.wf x (List.mem_of_mem_drop hx)
theorem zG {w:World} {b bw:Nat} {n:aP} (h:bM w b bw n) (at_:Int) {a:Option Addr} {c:Nat} {ws:List Int} (hr:Rd w a (us ws)) (hw:∀ x ∈ ws,0≤x∧x<18446744073709551616) (hn:a=none→ws.length=0) :
  Does 117 [.pointer (some ⟨b,0,none⟩),.int .i64 at_,.slice a ws.length c] w λv w'=>v=.int .i64 (n.chk at_ ws.length)∧
   bM w' b bw (if n.chk at_ ws.length=0 then n.write at_.toNat ws else n)∧Keep (λk=>k=bw) w w':=by
 refine does Tryz.func117 ?_
 rw [m4]
 refine aF (ub h at_ _) ?_
 rintro v w1 ⟨rfl,rfl⟩
 refine ⟨_,rfl,cU (λhc=>?_) (λhc=>?_)⟩
 ·rw [if_neg hc]
  exact ⟨rfl,h,Keep.refl _ _⟩
 ·obtain ⟨h1,h2,h3,_⟩:=aP.chk_zero hc
  have hl:=h.len
  rw [if_pos hc,hc]
  refine ⟨_,_,_,h.node.cell rfl,oC h2 (by omega) (by omega) (by omega) (by omega) ?_⟩
  intro a' ha
  rcases ha with rfl | ⟨hx,_⟩
  ·obtain ⟨i,hi,hz,hsz,hby⟩:=iF (T:=30) (z:=.int .u64 0) (n:=1) (m:=8) (by kernel_rfl)
   have hrun:=xv (P:=prog) (w:=w1) (t:=106) (ty:=3) (b:=bw) (o:=0+at_.toNat * 1) (dl:=(n.words.length:Int).toNat - at_.toNat) (dc:=(n.words.length:Int).toNat - at_.toNat) (c:=c) Tryz.underlying106 hi hsz (kV ws) (by omega) hr hn
    (cK h.words (by rw [kV,kV];omega) (kw ws))
   refine ⟨_,_,hrun,rfl,?_,dD _ _ _ _ _⟩
   have:=h.write (o:=at_.toNat) (ws:=ws) (by omega) hw
   simpa using this
  ·omega
def aP.cas (n:aP) (at_ old new:Int):aP:=if n.get at_.toNat=old then { n with words:=n.words.set at_.toNat new } else n
theorem FE {w:World} {b bw:Nat} {n:aP} (h:bM w b bw n) (at_ old new:Int) (h0:0≤new) (h1:new<18446744073709551616) :
  Does 149 [.pointer (some ⟨b,0,none⟩),.int .i64 at_,.int .u64 old,.int .u64 new] w λv w'=>
   v=.tuple #[.int .u64 (if n.chk at_ 1=0 then n.get at_.toNat else 0),.int .i64 (n.chk at_ 1)]∧bM w' b bw (if n.chk at_ 1=0 then n.cas at_ old new else n)∧Keep (λk=>k=bw) w w':=by
 refine does Tryz.func149 ?_
 rw [oP]
 refine aF (ub h at_ _) ?_
 rintro v w1 ⟨rfl,rfl⟩
 refine ⟨_,rfl,cU (λhc=>?_) (λhc=>?_)⟩
 ·rw [if_neg hc,if_neg hc]
  exact ⟨rfl,h,Keep.refl _ _⟩
 ·obtain ⟨b1,b2,b3,_⟩:=aP.chk_zero hc
  rw [if_pos hc,if_pos hc,hc]
  have ea:0+at_.toNat * 1=at_.toNat:=by omega
  refine ⟨_,_,_,h.node.cell rfl,bE b2 (by omega) ?_⟩
  rw [ea]
  refine ⟨_,h.cell (by omega),bK (λhe=>?_) (λhe=>?_)⟩
  ·refine ⟨_,_,_,h.node.cell rfl,bE b2 (by omega) ?_⟩
   rw [ea]
   refine ⟨⟨_,h.cell (by omega)⟩,h.words.frozen,?_⟩
   rintro w2 rfl
   refine ⟨rfl,?_,aR _ _ _ _⟩
   rw [aP.cas,if_pos he]
   exact h.setWord _ h0 h1
  ·rw [aP.cas,if_neg he]
   exact ⟨rfl,h,Keep.refl _ _⟩
def aP.add (n:aP) (at_ by_:Int):aP:={ n with words:=n.words.set at_.toNat (IntKind.u64.wrap (n.get at_.toNat+by_)) }
theorem rS (x:Int):0≤IntKind.u64.wrap x∧IntKind.u64.wrap x<18446744073709551616:=by
 simp only [IntKind.wrap,IntKind.bits,IntKind.signed];simp;omega
theorem FF {w:World} {b bw:Nat} {n:aP} (h:bM w b bw n) (at_ by_:Int) :
  Does 150 [.pointer (some ⟨b,0,none⟩),.int .i64 at_,.int .u64 by_] w λv w'=>
   v=.tuple #[.int .u64 (if n.chk at_ 1=0 then n.get at_.toNat else 0),.int .i64 (n.chk at_ 1)]∧bM w' b bw (if n.chk at_ 1=0 then n.add at_ by_ else n)∧Keep (λk=>k=bw) w w':=by
 refine does Tryz.func150 ?_
 rw [oQ]
 refine aF (ub h at_ _) ?_
 rintro v w1 ⟨rfl,rfl⟩
 refine ⟨_,rfl,cU (λhc=>?_) (λhc=>?_)⟩
 ·rw [if_neg hc,if_neg hc]
  exact ⟨rfl,h,Keep.refl _ _⟩
 ·obtain ⟨b1,b2,b3,_⟩:=aP.chk_zero hc
  rw [if_pos hc,if_pos hc,hc]
  have ea:0+at_.toNat * 1=at_.toNat:=by omega
  refine ⟨_,_,_,h.node.cell rfl,bE b2 (by omega) ?_⟩
  rw [ea]
  refine ⟨_,h.cell (by omega),_,_,_,h.node.cell rfl,bE b2 (by omega) ?_⟩
  rw [ea]
  refine ⟨_,h.cell (by omega),bE b2 (by omega) ?_⟩
  rw [ea]
  refine ⟨⟨_,h.cell (by omega)⟩,h.words.frozen,?_⟩
  rintro w2 rfl
  exact ⟨rfl,h.setWord _ (rS _).1 (rS _).2,aR _ _ _ _⟩
theorem xx (n:Nat) (v:Value):reps n [v]=List.replicate n v:=by
 induction n with
 |zero=>rfl
 |succ n ih=>simp [reps,List.replicate_succ] at *
theorem BK {w:World} {lines:Int} (h0:1≤lines) (h1:lines≤256):Does 81 [.int .i64 lines] w λv w'=>
  v=.tuple #[.pointer (some ⟨w.heap.size+1,0,none⟩),.int .i64 0]∧bM w' (w.heap.size+1) w.heap.size ⟨List.replicate (8 * lines.toNat) 0,false⟩∧New w w'∧w'.heap.size=w.heap.size+2:=by
 refine does Tryz.func81 ?_
 rw [sQ]
 refine aH (λh=>by omega) (λ_=>aH (λh=>by omega) (λ_=>?_))
 have e:IntKind.i64.wrap (lines * 8)=lines * 8:=w64 (by omega) (by omega)
 rw [e]
 refine ⟨by omega,by omega,by omega,by omega,?_⟩
 rintro b1 w1 rfl rfl b2 w2 rfl rfl
 have e2:(lines * 8).toNat=8 * lines.toNat:=by omega
 rw [e2,xx]
 have hs:(w.alloc (.cells (List.replicate (8 * lines.toNat) (Value.int .u64 0)).toArray 30)).heap.size=w.heap.size+1:=by simp
 refine ⟨by rw [hs],?_,(dP _ _).alloc _,by simp⟩
 refine ⟨?_,?_,by simp;omega,by simp;omega,?_⟩
 ·have:=jK (w.alloc (.cells (List.replicate (8 * lines.toNat) (Value.int .u64 0)).toArray 30)) [.slice (some ⟨w.heap.size,0,none⟩) (8 * lines.toNat) (8 * lines.toNat),.bool false] 152
  rw [hs] at this
  simpa using this
 ·have:=(jK w (List.replicate (8 * lines.toNat) (Value.int .u64 0)) 30).alloc (.cells #[.slice (some ⟨w.heap.size,0,none⟩) (8 * lines.toNat) (8 * lines.toNat),.bool false] 152)
  simpa [us] using this
 ·intro x hx
  simp only [List.mem_replicate] at hx
  omega
end Go.Proofs.YtgpmeaicjonenaaGreat
namespace Go.Proofs.YtgpmeaicjonenaaGreat
open Go.Eng
def aJ.last (v:aJ):Int:=if v.Kind=1 then 3 else 2
theorem qs (w:World) (v:aJ):Does 143 [v.val] w λx w'=>x=.int .i64 v.last∧New w w':=by
 refine does Tryz.func143 ?_
 refine Eq.mpr (qZ v.Kind v.Node v.At v.N v.Old v.New v.Words v.Wl v.Wc v.Key v.Boot w _) ?_
 rintro b1 w1 rfl rfl
 have hb:=pt w v
 have hn:=dP w (.cells v.cells.toArray TV)
 refine ⟨_,hb.cell rfl,bK (λh1=>⟨?_,hn⟩) (λh1=>⟨?_,hn⟩)⟩<;>simp [aJ.last,h1]
def aJ.rets (v:aJ):Int:=if v.Kind=1 then v.N else if v.Kind=3∨v.Kind=4 then 1 else 0
theorem zH (w:World) (v:aJ):Does 279 [v.val] w λx w'=>x=.int .i64 v.rets∧New w w':=by
 refine does Tryz.func279 ?_
 refine Eq.mpr (rQ v.Kind v.Node v.At v.N v.Old v.New v.Words v.Wl v.Wc v.Key v.Boot w _) ?_
 rintro b1 w1 rfl rfl
 have hb:=pt w v
 have hn:=dP w (.cells v.cells.toArray TV)
 refine ⟨_,hb.cell rfl,bK (λh1=>⟨_,hb.cell rfl,?_,hn⟩) (λh1=>bK (λh3=>bK (λ_=>⟨?_,hn⟩) (λh=>absurd h3 h)) (λh3=>bK (λh4=>⟨?_,hn⟩) (λh4=>⟨?_,hn⟩)))⟩
 ·simp [aJ.rets,h1]
 ·simp [aJ.rets,h3]
 ·simp [aJ.rets,h4]
 ·simp [aJ.rets,h1,h3,h4]
def aJ.l0 (v:aJ):Int:=v.At / 8
def aJ.l1 (v:aJ):Int:=(v.At+v.count - 1) / 8
theorem CY (w:World) (v:aJ) (h0:0≤v.At) (h1:v.At≤1000000) (h2:1≤v.count) (h3:v.count≤1000000) :
  Does 142 [v.val] w λx w'=>x=.tuple #[.int .i64 v.l0,.int .i64 v.l1]∧New w w':=by
 refine does Tryz.func142 ?_
 refine Eq.mpr (ve v.Kind v.Node v.At v.N v.Old v.New v.Words v.Wl v.Wc v.Key v.Boot w _) ?_
 rintro b1 w1 rfl rfl w2 rfl
 have hb:Blk (w.alloc (.cells v.cells.toArray TV)).drew w.heap.size v.cells TV:=pt w v
 have hn:Go.Eng.New w (w.alloc (.cells v.cells.toArray TV)).drew:=(dP w (.cells v.cells.toArray TV)).drew
 refine ⟨λu=>Go.Eng.New (w.alloc (.cells v.cells.toArray TV)).drew u,Keep.refl _ _,_,λu hu=>(New.blk hu hb).cell rfl,_,λu hu=>(New.blk hu hb).cell rfl,mV (λu hu=>vbox (New.blk hu hb)) ?_⟩
 refine aF (tY _ v) ?_
 rintro x w3 ⟨rfl,hk⟩
 refine ⟨_,rfl,hk,?_,hn.new hk⟩
 rw [w64 (x:=v.At+v.count) (by omega) (by omega),w64 (x:=v.At+v.count - 1) (by omega) (by omega),Int.tdiv_eq_ediv_of_nonneg h0,Int.tdiv_eq_ediv_of_nonneg (by omega),w64 (by omega) (by omega),w64 (by omega) (by omega)]
 rfl
def aJ.inside (v:aJ) (nodes lines:Int):Bool:=
 decide (1≤nodes∧nodes≤5∧1≤lines∧lines≤256∧0≤v.Node∧v.Node<nodes∧0≤v.At∧v.At<lines * 8∧v.count≤1024∧v.l1<lines∧v.l1 - v.l0<128)
theorem BL (w:World) (v:aJ) (nodes lines:Int) (hc:1≤v.count):Does 141 [v.val,.int .i64 nodes,.int .i64 lines] w λx w'=>x=.bool (v.inside nodes lines)∧New w w':=by
 refine does Tryz.func141 ?_
 refine Eq.mpr (sU v.Kind v.Node v.At v.N v.Old v.New v.Words v.Wl v.Wc v.Key v.Boot nodes lines w _) ?_
 rintro b1 w1 rfl rfl
 have hb:=pt w v
 have hn:=dP w (.cells v.cells.toArray TV)
 have no:∀ {w'},Go.Eng.New w w'→¬ (1≤nodes∧nodes≤5∧1≤lines∧lines≤256∧0≤v.Node∧v.Node<nodes∧0≤v.At∧v.At<lines * 8∧v.count≤1024∧v.l1<lines∧v.l1 - v.l0<128)→
   (Value.bool false=.bool (v.inside nodes lines)∧Go.Eng.New w w'):=λhk h=>⟨by simp only [aJ.inside,decide_eq_false h],hk⟩
 refine aH (λh1=>no hn (by omega)) (λh1=>aH (λh2=>no hn (by omega)) (λh2=>aH (λh3=>no hn (by omega)) (λh3=>aH (λh4=>no hn (by omega)) (λh4=>
  ⟨_,hb.cell rfl,aH (λh5=>no hn (by omega)) (λh5=>⟨_,hb.cell rfl,aH (λh6=>no hn (by omega)) (λh6=>⟨_,hb.cell rfl,aH (λh7=>no hn (by omega)) (λh7=>⟨_,hb.cell rfl,?_⟩)⟩)⟩)⟩))))
 rw [w64 (x:=lines * 8) (by omega) (by omega)]
 refine aH (λh8=>no hn (by omega)) (λh8=>mv (vbox hb) ?_)
 refine aF (tY _ v) ?_
 rintro x w2 ⟨rfl,hk⟩
 refine ⟨_,rfl,aH (λh9=>no (hn.new hk) (by omega)) (λh9=>mv (vbox (New.blk hk hb)) ?_)⟩
 refine aF (CY _ v (by omega) (by omega) hc (by omega)) ?_
 rintro x w3 ⟨rfl,hk2⟩
 have hl:v.l0=v.At / 8:=rfl
 have hl1:v.l1=(v.At+v.count - 1) / 8:=rfl
 refine ⟨_,_,rfl,aH (λha=>⟨?_,(hn.new hk).new hk2⟩) (λha=>no ((hn.new hk).new hk2) (by omega))⟩
 rw [w64 (x:=v.l1 - v.l0) (by omega) (by omega)]
 congr 1
 unfold aJ.inside
 rw [decide_eq_decide]
 constructor
 ·intro h;exact ⟨by omega,by omega,by omega,by omega,by omega,by omega,by omega,by omega,by omega,ha,h⟩
 ·intro h;exact h.2.2.2.2.2.2.2.2.2.2
def aJ.valid (v:aJ) (nodes lines:Int):Int:=
 if v.count<1 then 1 else if v.inside nodes lines=false then 2 else if v.l0≤v.last∧v.last<v.l1 then 2 else 0
theorem fP {v:aJ} {nodes lines:Int} (h:v.inside nodes lines=true):1≤nodes∧nodes≤5∧1≤lines∧lines≤256∧0≤v.Node∧v.Node<nodes∧0≤v.At∧v.At<lines * 8∧v.count≤1024∧v.l1<lines∧v.l1 - v.l0<128:=of_decide_eq_true h
theorem wN (w:World) (v:aJ) (nodes lines:Int):Does 102 [v.val,.int .i64 nodes,.int .i64 lines] w λx w'=>x=.int .i64 (v.valid nodes lines)∧New w w':=by
 refine does Tryz.func102 ?_
 refine Eq.mpr (t5 v.Kind v.Node v.At v.N v.Old v.New v.Words v.Wl v.Wc v.Key v.Boot nodes lines w _) ?_
 rintro b1 w1 rfl rfl
 have hb:=pt w v
 have hn:=dP w (.cells v.cells.toArray TV)
 refine mv (vbox hb) ?_
 refine aF (tY _ v) ?_
 rintro x w2 ⟨rfl,hk⟩
 have hb2:=New.blk hk hb
 have hn2:=hn.new hk
 refine ⟨_,rfl,aH (λh1=>⟨by simp [aJ.valid,h1],hn2⟩) (λh1=>mv (vbox hb2) ?_)⟩
 refine aF (BL _ v nodes lines (by omega)) ?_
 rintro x w3 ⟨rfl,hk3⟩
 have hb3:=New.blk hk3 hb2
 have hn3:=hn2.new hk3
 refine ⟨_,rfl,dG (λh2=>⟨by simp [aJ.valid,h1,h2],hn3⟩) (λh2=>mv (vbox hb3) ?_)⟩
 have hi:=fP h2
 refine aF (CY _ v (by omega) (by omega) (by omega) (by omega)) ?_
 rintro x w4 ⟨rfl,hk4⟩
 have hb4:=New.blk hk4 hb3
 have hn4:=hn3.new hk4
 refine ⟨_,_,rfl,mv (vbox hb4) ?_⟩
 refine aF (qs _ v) ?_
 rintro x w5 ⟨rfl,hk5⟩
 have hb5:=New.blk hk5 hb4
 have hn5:=hn4.new hk5
 refine ⟨_,rfl,aH (λh3=>mv (vbox hb5) ?_) (λh3=>⟨?_,hn5⟩)⟩
 ·refine aF (qs _ v) ?_
  rintro x w6 ⟨rfl,hk6⟩
  refine ⟨_,rfl,aH (λh4=>⟨?_,hn5.new hk6⟩) (λh4=>⟨?_,hn5.new hk6⟩)⟩
  ·simp [aJ.valid,h1,h2,h3,h4]
  ·have:¬ v.last<v.l1:=by omega
   simp [aJ.valid,h1,h2,h3,this]
 ·simp [aJ.valid,h1,h2,h3]
def aJ.cls (v:aJ):Int:=if v.l0≤v.last then 1 else 2
theorem Dq (w:World) (v:aJ) (h0:0≤v.At) (h1:v.At≤1000000):Does 199 [v.val] w λx w'=>x=.int .i64 v.cls∧New w w':=by
 refine does Tryz.func199 ?_
 refine Eq.mpr (t8 v.Kind v.Node v.At v.N v.Old v.New v.Words v.Wl v.Wc v.Key v.Boot w _) ?_
 rintro b1 w1 rfl rfl w2 rfl
 have hb:Blk (w.alloc (.cells v.cells.toArray TV)).drew w.heap.size v.cells TV:=pt w v
 have hn:Go.Eng.New w (w.alloc (.cells v.cells.toArray TV)).drew:=(dP w (.cells v.cells.toArray TV)).drew
 refine ⟨λu=>Go.Eng.New (w.alloc (.cells v.cells.toArray TV)).drew u,Keep.refl _ _,_,λu hu=>(New.blk hu hb).cell rfl,mV (λu hu=>vbox (New.blk hu hb)) ?_⟩
 refine aF (qs _ v) ?_
 rintro x w3 ⟨rfl,hk⟩
 refine ⟨_,rfl,hk,?_⟩
 rw [Int.tdiv_eq_ediv_of_nonneg h0,w64 (by omega) (by omega)]
 have hl:v.l0=v.At / 8:=rfl
 refine aH (λh=>⟨?_,hn.new hk⟩) (λh=>⟨?_,hn.new hk⟩)
 ·rw [aJ.cls,hl,if_pos h]
 ·rw [aJ.cls,hl,if_neg h]
def aJ.check (v:aJ) (inc door key boot:Int):Int:=
 if v.cls=1∧v.Kind=1 then 0 else if inc<0∨inc<door then 5 else if v.cls=1 then 0 else if v.Boot<0∨v.Boot≠boot∨v.Key≠key then 5 else 0
theorem Dr (w:World) (v:aJ) (inc door key boot:Int) (h0:0≤v.At) (h1:v.At≤1000000) (hi:inc≤1000000) (hb1:v.Boot<9223372036854775808) :
  Does 146 [v.val,.int .i64 inc,.int .u64 door,.int .u64 key,.int .u64 boot] w λx w'=>x=.int .i64 (v.check inc door key boot)∧New w w':=by
 refine does Tryz.func146 ?_
 refine Eq.mpr (t6 v.Kind v.Node v.At v.N v.Old v.New v.Words v.Wl v.Wc v.Key v.Boot inc door key boot w _) ?_
 rintro b1 w1 rfl rfl
 have hb:=pt w v
 have hn:=dP w (.cells v.cells.toArray TV)
 refine mv (vbox hb) ?_
 refine aF (Dq _ v h0 h1) ?_
 rintro x w2 ⟨rfl,hk⟩
 have hb2:=New.blk hk hb
 have hn2:=hn.new hk
 refine ⟨_,rfl,bK (λhc=>?_) (λhc=>?_)⟩
 ·refine ⟨_,hb2.cell rfl,bK (λhk1=>⟨by simp [aJ.check,hc,hk1],hn2⟩) (λhk1=>aH (λhx=>⟨by simp [aJ.check,hk1,hx],hn2⟩) (λhx=>?_))⟩
  rw [wu64 (x:=inc) (by omega) (by omega)]
  refine aH (λhy=>⟨by simp [aJ.check,hk1,hy],hn2⟩) (λhy=>bK (λ_=>⟨by simp [aJ.check,hk1,hx,hy,hc],hn2⟩) (λh=>absurd hc h))
 ·refine aH (λhx=>⟨by simp [aJ.check,hc,hx],hn2⟩) (λhx=>?_)
  rw [wu64 (x:=inc) (by omega) (by omega)]
  refine aH (λhy=>⟨by simp [aJ.check,hc,hy],hn2⟩) (λhy=>bK (λh=>absurd h hc) (λ_=>⟨_,hb2.cell rfl,aH (λhz=>⟨by simp [aJ.check,hc,hx,hy,hz],hn2⟩) (λhz=>⟨_,hb2.cell rfl,?_⟩)⟩))
  rw [wu64 (x:=v.Boot) (by omega) (by omega)]
  refine cU (λhu=>⟨by simp [aJ.check,hc,hx,hy,hu],hn2⟩) (λhu=>⟨_,hb2.cell rfl,cU (λht=>⟨by simp [aJ.check,hc,hx,hy,ht],hn2⟩) (λht=>⟨?_,hn2⟩)⟩)
  have:¬ boot<0:=by omega
  simp [aJ.check,hc,hx,hy,hu,ht,this]
abbrev TD:TypeId:=146
def fits (v:aJ) (d:aY):Bool:=
 if d.Code=0 then decide ((d.Wl:Int)=v.rets) else if d.Code=4∨d.Code=5 then decide (d.Wl=0) else false
theorem EI (w:World) (v:aJ) (d:aY):Does 214 [v.val,d.val] w λx w'=>x=.bool (fits v d)∧New w w':=by
 refine does Tryz.func214 ?_
 refine Eq.mpr (vf v.Kind v.Node v.At v.N v.Old v.New v.Words v.Wl v.Wc v.Key v.Boot d.Code d.Words d.Wl d.Wc w _) ?_
 rintro b1 w1 rfl rfl b2 w2 rfl rfl
 have hb:=(pt w v).alloc (.cells d.cells.toArray TD)
 have hd:=jK (w.alloc (.cells v.cells.toArray TV)) d.cells TD
 have hn:=(dP w (.cells v.cells.toArray TV)).alloc (.cells d.cells.toArray TD)
 have e0:∀ x:Nat,(((x:Nat):Int) == 0)=decide (x=0):=λx=>by
  rw [Bool.eq_iff_iff];simp
 refine ⟨_,hd.cell rfl,bK (λh0=>?_) (λh0=>bK (λh4=>bK (λ_=>⟨_,_,_,hd.cell rfl,?_,hn⟩) (λh=>absurd h4 h)) (λh4=>bK (λh5=>⟨_,_,_,hd.cell rfl,?_,hn⟩) (λh5=>⟨?_,hn⟩)))⟩
 ·rintro w3 rfl
  refine ⟨λu=>Go.Eng.New ((w.alloc (.cells v.cells.toArray TV)).alloc (.cells d.cells.toArray TD)).drew u,Keep.refl _ _,_,_,_,λu hu=>(New.blk hu hd).cell rfl,mV (λu hu=>vbox (New.blk hu hb)) ?_⟩
  refine aF (zH _ v) ?_
  rintro x w4 ⟨rfl,hk⟩
  refine ⟨_,rfl,hk,?_,hn.drew.new hk⟩
  rw [fits,if_pos h0]
  rfl
 ·rw [e0];simp [fits,h4]
 ·rw [e0];simp [fits,h5]
 ·simp [fits,h0,h4,h5]
def eC (vs:List aJ):List (List Value):=vs.map aJ.cells
def j1 (ds:List aY):List (List Value):=ds.map aY.cells
theorem nl (vs:List aJ):∀ r ∈ eC vs,r.length=9:=by
 intro r hr
 simp only [eC,List.mem_map] at hr
 obtain ⟨v,_,rfl⟩:=hr
 rfl
theorem pG (ds:List aY):∀ r ∈ j1 ds,r.length=2:=by
 intro r hr
 simp only [j1,List.mem_map] at hr
 obtain ⟨v,_,rfl⟩:=hr
 rfl
theorem rT {vs:List aJ} {i:Nat} {v:aJ} (h:vs[i]?=some v):(eC vs)[i]?=some v.cells:=by simp [eC,h]
theorem vk {ds:List aY} {i:Nat} {d:aY} (h:ds[i]?=some d):(j1 ds)[i]?=some d.cells:=by simp [j1,h]
def rU (vs:List aJ) (ds:List aY):Bool:=decide (vs.length=ds.length) && (vs.zip ds).all λp=>fits p.1 p.2
theorem FG {w:World} {a b:Option Addr} {ca cb:Nat} {vs:List aJ} {ds:List aY} (ha:Rd w a (eC vs).flatten) (hb:Rd w b (j1 ds).flatten) (hl:vs.length≤1000000) (hl2:ds.length≤1000000000) :
  Does 164 [.slice a vs.length ca,.slice b ds.length cb] w λx w'=>x=.bool (rU vs ds)∧New w w':=by
 refine does Tryz.func164 ?_
 rw [wK]
 refine cU (λh=>⟨?_,Keep.refl _ _⟩) (λh=>?_)
 ·have:¬ vs.length=ds.length:=by omega
  simp [rU,this]
 have hlen:vs.length=ds.length:=by omega
 refine aT mix (λm env u=>∃ (i:Nat) (j:List Value),i≤vs.length∧m=vs.length - i∧env=kd b ds.length cb a vs.length ca vs.length i j∧New w u∧(∀ k,k<i→∀ v d,vs[k]?=some v→ds[k]?=some d→fits v d=true)) vs.length
  ⟨0,_,by omega,by omega,rfl,Keep.refl _ _,λk hk=>by omega⟩ ?_
 rintro m env u ⟨i,j,hi,rfl,rfl,hk,hall⟩
 rw [oR]
 refine aH (λhlt=>?_) (λhlt=>?_)
 ·have hlt':i<vs.length:=by omega
  have hv:vs[i]?=some vs[i]:=by simp [hlt']
  have hd:ds[i]?=some ds[i]:=by simp [hlen▸hlt']
  obtain ⟨ba,oa,rfl,hca,hcell⟩:=(ha.new hk).row (nl vs) (by omega) (rT hv)
  obtain ⟨bb,ob,rfl,_,_⟩:=(hb.new hk).row (pG ds) (by omega) (vk hd)
  refine bE (by omega) (by omega) ?_
  refine mv (v:=vs[i]) (by simpa using hca) ?_
  rintro b1 w1 hb1 hw1
  obtain ⟨hz,hn1⟩:=aO hb1 hw1
  refine ⟨cK (vs:=aJ.cells vs[i]) hz (by simp [aJ.cells]) (aJ.single vs[i]),?_⟩
  rintro w2 hw2 w3 rfl
  obtain ⟨hbox,hn2⟩:=mb (vs:=aJ.cells vs[i]) hz (by simp [aJ.cells]) hn1 (by omega) hw2
  clear hw1 hw2 hz hn1
  have hnw':Go.Eng.New w w2.drew:=(Keep.new hk hn2).drew
  refine ⟨λz=>Go.Eng.New w2.drew z,Keep.refl _ _,mV (v:=vs[i]) (λz hz=>vbox (New.blk hz hbox)) ?_⟩
  refine bE (by omega) (by omega) ?_
  refine ⟨ds[i].Code,ds[i].Words,ds[i].Wl,ds[i].Wc,λz hz=>?_,?_⟩
  ·obtain ⟨b',o',he,hc',_⟩:=(hb.new (Keep.new hnw' hz)).row (pG ds) (by omega) (vk hd)
   simp only [Option.some.injEq,Addr.mk.injEq,and_true] at he
   rw [he.1,he.2]
   exact hc'
  refine aF (EI _ vs[i] ds[i]) ?_
  rintro x w4 ⟨rfl,hk4⟩
  refine ⟨_,rfl,dG (λhf=>?_) (λhf=>?_)⟩
  ·refine ⟨?_,Keep.new hnw' hk4⟩
   congr 1
   symm
   unfold rU
   rw [Bool.and_eq_false_iff]
   refine .inr ?_
   rw [List.all_eq_false]
   exact ⟨(vs[i],ds[i]),List.mem_of_getElem? (i:=i) (by simp [List.zip,List.getElem?_zipWith,hv,hd]),by simp [hf]⟩
  ·rw [show IntKind.i64.wrap ((i:Int)+1)=((i+1:Nat):Int) by rw [w64 (by omega) (by omega)];rfl]
   refine ⟨vs.length - (i+1),by omega,i+1,_,by omega,rfl,rfl,Keep.new hnw' hk4,?_⟩
   ·intro k hk v d hv' hd'
    by_cases he:k=i
    ·subst he
     rw [hv] at hv';rw [hd] at hd'
     cases hv';cases hd'
     exact hf
    ·exact hall k (by omega) v d hv' hd'
 ·have hi':i=vs.length:=by omega
  rw [q7]
  refine ⟨?_,hk⟩
  congr 1
  symm
  unfold rU
  rw [Bool.and_eq_true]
  refine ⟨by simp [hlen],?_⟩
  rw [List.all_eq_true]
  rintro ⟨v,d⟩ hm
  obtain ⟨k,hk',he⟩:=List.mem_iff_getElem.1 hm
  simp only [List.length_zip] at hk'
  simp only [List.getElem_zip,Prod.mk.injEq] at he
  exact hall k (by omega) v d (by rw [List.getElem?_eq_getElem (by omega),he.1]) (by rw [List.getElem?_eq_getElem (by omega),he.2])
end Go.Proofs.YtgpmeaicjonenaaGreat
