import Derived.Test.YtegepanmkjemjaaGreatq03
import Derived.Test.YtegepanmkjemjaaGreatq05
import Derived.Test.YtegepanmkjemjaaGreatq06
set_option linter.unusedVariables false
namespace Go.Proofs.YtegepanmkjemjaaGreat
open Go.Proofs.Tryz
open Go.Eng
def sZ (w w':World) (e sz:Nat) (a a':Option Addr) (n cap:Nat) (xs:List Value):Prop:=
 New w w'∧Owns w' e sz a' n cap xs∧(∀ k,isB a' k→w.heap.size≤k)∧(a'=none↔a=none)
theorem mK {t ty e:TypeId} {i:TypeInfo} {z:Value} (ht:prog.underlying t=some (.slice e)) (hi:prog.info? e=some i) (hz:i.zero=some z) (hzs:z.cells.size=i.size) (hsz:0<i.size)
  {w:World} {a:Addr} {n c:Nat} {xs:List Value} (hl:xs.length=n * i.size) (hr:Rd w (some a) xs) (h1:∀ u ∈ xs,single u=true) (hb1:n≤140737488355328) (hb2:n * i.bytes≤140737488355328) :
  ∃ a' cap' w',(Builtin.append_ #[t,t] ty #[.slice (some ⟨w.heap.size,0,none⟩) 0 0,.slice (some a) n c]).run prog (w.alloc (.cells #[] e))=.ok (.slice a' n cap') w'∧sZ w w' e i.size (some a) a' n cap' xs:=by
 have ho:Owns (w.alloc (.cells #[] e)) e i.size (some ⟨w.heap.size,0,none⟩) 0 0 []:=by
  refine ⟨by simp,.inr ⟨w.heap.size,[],rfl,?_,by omega,by simp [maxLen],by simp,by simp⟩⟩
  exact iJ w [] e
 obtain ⟨a',cap',w',hrun,hown,hk,ha⟩:=ho.append (P:=prog) (ty:=ty) ht hi hz hzs hsz hl (hr.new (dA _ _)) h1 (c:=c) (by omega) (by simpa using hb2)
 simp only [Nat.zero_add,List.nil_append] at hrun hown
 refine ⟨a',cap',w',hrun,?_,hown,?_,?_⟩
 ·refine (dA w _).trans hk ?_
  rintro k hlt ⟨o,ho⟩
  simp at ho
  omega
 ·rintro k ⟨o,rfl⟩
  rcases ha with ha | ha
  ·simp at ha;omega
  ·simp at ha;omega
 ·rcases ha with rfl | rfl<;>simp
theorem nO {w:World} {a:Option Addr} {n c:Nat} {xs:List Value} (hl:xs.length=n) (hr:Rd w a xs) (h1:∀ u ∈ xs,single u=true) (hb:n≤1000000000) (hn:a=none→n=0) :
  Does 53 [.slice a n c] w λv w'=>∃ a' cap,v=.slice a' n cap∧sZ w w' 43 1 a a' n cap xs:=by
 refine does Tryz.func53 ?_
 rw [iN]
 obtain ⟨i,hi,hz,hsz,hby⟩:=iR (T:=43) (z:=.int .u64 0) (n:=1) (m:=8) (by kernel_rfl)
 cases a with
 |none=>
  refine iL rfl ⟨none,0,by rw [hn rfl],Keep.refl _ _,?_,?_,by simp⟩
  ·rw [hn rfl] at hl ⊢
   rw [List.eq_nil_of_length_eq_zero hl]
   exact Owns.nil _ _ _
  ·rintro k ⟨o,ho⟩;cases ho
 |some a=>
  refine dE rfl ?_
  rintro b1 w1 rfl rfl
  obtain ⟨a',cap',w',hrun,hc⟩:=mK (t:=104) (ty:=104) (z:=.int .u64 0) (n:=n) (c:=c) (w:=w) (a:=a) (xs:=xs) Tryz.underlying104 hi hz (by rw [hsz];rfl) (by omega) (by rw [hl,hsz];omega) hr h1 (by omega) (by rw [hby];omega)
  exact ⟨a',n,cap',w',hrun,a',cap',rfl,by rw [hsz] at hc;exact hc⟩
structure aP where
 words:List Int
 down:Bool
structure bL (w:World) (b bw:Nat) (n:aP):Prop where
 node:Blk w b [.slice (some ⟨bw,0,none⟩) n.words.length n.words.length,.bool n.down] 115
 words:Blk w bw (us n.words) 43
 len:n.words.length≤2048
 len2:8≤n.words.length
 wf:∀ x ∈ n.words,0≤x∧x<18446744073709551616
theorem bL.ne {w:World} {b bw:Nat} {n:aP} (h:bL w b bw n):b≠bw:=h.node.ne h.words (by decide)
theorem bL.keep {M:Nat→Prop} {w w':World} {b bw:Nat} {n:aP} (h:bL w b bw n) (hk:Keep M w w') (h1:¬ M b) (h2:¬ M bw):bL w' b bw n:=
 ⟨hk.blk h.node h1,hk.blk h.words h2,h.len,h.len2,h.wf⟩
theorem bL.new {w w':World} {b bw:Nat} {n:aP} (h:bL w b bw n) (hk:New w w'):bL w' b bw n:=h.keep hk id id
def aP.get (n:aP) (i:Nat):Int:=n.words.getD i 0
theorem aP.get_some {n:aP} {i:Nat} (h:i<n.words.length):n.words[i]?=some (n.get i):=by
 simp [aP.get,h]
theorem bL.wf_get {w:World} {b bw:Nat} {n:aP} (h:bL w b bw n) (i:Nat):0≤n.get i∧n.get i<18446744073709551616:=by
 by_cases hi:i<n.words.length
 ·exact h.wf _ (List.mem_of_getElem? (aP.get_some hi))
 ·simp [aP.get,hi]
theorem bL.cell {w:World} {b bw:Nat} {n:aP} (h:bL w b bw n) {i:Nat} (hi:i<n.words.length):w.cell? ⟨bw,i,none⟩=some (.int .u64 (n.get i)):=
 h.words.cell (sR (aP.get_some hi))
theorem Up_c {w:World} {b bw:Nat} {n:aP} (h:bL w b bw n):Does 26 [.pointer (some ⟨b,0,none⟩)] w λv w'=>v=.bool (!n.down)∧w'=w:=by
 refine does Tryz.func26 ?_
 rw [ol]
 exact ⟨n.down,h.node.cell rfl,rfl,rfl⟩
theorem oB {w:World} {b bw:Nat} {n:aP} (h:bL w b bw n):Does 88 [.pointer (some ⟨b,0,none⟩)] w λv w'=>v=.int .i64 (n.words.length / 8:Nat)∧w'=w:=by
 refine does Tryz.func88 ?_
 rw [l8]
 have:=h.len
 refine ⟨_,_,_,h.node.cell rfl,?_,rfl⟩
 rw [Int.tdiv_eq_ediv_of_nonneg (by omega),w64 (by omega) (by omega)]
 rfl
theorem Cs {w:World} {b bw:Nat} {n:aP} (h:bL w b bw n):Does 72 [.pointer (some ⟨b,0,none⟩)] w λv w'=>v=.int .u64 (n.get 1)∧w'=w:=by
 refine does Tryz.func72 ?_
 rw [mV]
 have:=h.len2
 refine ⟨_,_,_,h.node.cell rfl,aZ (by omega) (by omega) ⟨_,h.cell (by omega),rfl,rfl⟩⟩
theorem bL.setDown {w:World} {b bw:Nat} {n:aP} (h:bL w b bw n) (d:Bool):bL (w.setCell ⟨b,1,none⟩ (.bool d)) b bw { n with down:=d }:=
 ⟨h.node.setCell _,h.words.setCell_ne h.ne.symm _,h.len,h.len2,h.wf⟩
theorem Ct (l:List Int) (i:Nat) (x:Int):(us l).set i (.int .u64 x)=us (l.set i x):=by simp [us]
theorem bL.setWord {w:World} {b bw:Nat} {n:aP} (h:bL w b bw n) (i:Nat) {x:Int} (h0:0≤x) (h1:x<18446744073709551616):bL (w.setCell ⟨bw,i,none⟩ (.int .u64 x)) b bw { n with words:=n.words.set i x }:=by
 refine ⟨?_,?_,by simpa using h.len,by simpa using h.len2,?_⟩
 ·have:=h.node.setCell_ne (i:=i) h.ne (.int .u64 x)
  simpa using this
 ·have:=h.words.setCell (i:=i) (.int .u64 x)
  rw [Ct] at this
  exact this
 ·intro y hy
  rcases List.mem_or_eq_of_mem_set hy with hy | rfl
  ·exact h.wf y hy
  ·exact ⟨h0,h1⟩
theorem Cu {w:World} {b bw:Nat} {n:aP} (h:bL w b bw n):Does 55 [.pointer (some ⟨b,0,none⟩)] w λv w'=>v=.tuple #[]∧bL w' b bw { n with down:=true }∧Keep (λk=>k=b) w w':=by
 refine does Tryz.func55 ?_
 rw [mT]
 refine ⟨⟨_,h.node.cell rfl⟩,h.node.frozen,?_⟩
 rintro w1 rfl
 exact ⟨rfl,h.setDown true,aO _ _ _ _⟩
def aP.back (n:aP):aP×Bool:=if n.down=true∧n.get 1<31 then (⟨n.words.set 1 (n.get 1+1),false⟩,true) else (n,false)
theorem Cv {w:World} {b bw:Nat} {n:aP} (h:bL w b bw n):Does 56 [.pointer (some ⟨b,0,none⟩)] w λv w'=>v=.bool n.back.2∧bL w' b bw n.back.1∧Keep (λk=>k=b∨k=bw) w w':=by
 refine does Tryz.func56 ?_
 rw [mU]
 have hl:=h.len2
 have hw:=h.wf_get 1
 refine ⟨_,h.node.cell rfl,dG (λhd=>?_) (λhd=>?_)⟩
 ·have:n.back=(n,false):=by simp [aP.back,hd]
  rw [this]
  exact ⟨rfl,h,Keep.refl _ _⟩
 ·refine aE (Cs h) ?_
  rintro v w1 ⟨rfl,rfl⟩
  refine ⟨_,rfl,aH (λhb=>?_) (λhb=>?_)⟩
  ·have:n.back=(n,false):=by
    have:¬ n.get 1<31:=by omega
    simp [aP.back,this]
   rw [this]
   exact ⟨rfl,h,Keep.refl _ _⟩
  ·refine ⟨⟨_,h.node.cell rfl⟩,h.node.frozen,?_⟩
   rintro w2 rfl
   have h2:=h.setDown false
   refine ⟨_,_,_,h2.node.cell rfl,aZ (by omega) (by simpa using by omega) ⟨_,h2.cell (i:=1) (by simpa using by omega),aZ (by omega) (by simpa using by omega) ⟨⟨_,h2.cell (i:=1) (by simpa using by omega)⟩,h2.words.frozen,?_⟩⟩⟩
   rintro w3 rfl
   have e:n.back=(⟨n.words.set 1 (n.get 1+1),false⟩,true):=by
    have:n.get 1<31:=by omega
    simp [aP.back,hd,this]
   rw [e]
   refine ⟨rfl,?_,((aO _ _ _ _).mono λ_ _ h=>.inl h).setCell (.inl (.inr rfl)) _⟩
   have e2:IntKind.u64.wrap (aP.get { words:=n.words,down:=false } 1+1)=n.get 1+1:=wu64 (by show 0≤n.get 1+1;omega) (by show n.get 1+1<_;omega)
   rw [e2]
   exact h2.setWord 1 (by omega) (by omega)
def aP.chk (n:aP) (at_ count:Int):Int:=
 if count<1∨at_<0∨(n.words.length:Int)≤at_∨(n.words.length:Int) - at_<count then 2 else if n.down=true then 4 else 0
theorem aP.chk_zero {n:aP} {at_ count:Int} (h:n.chk at_ count=0):1≤count∧0≤at_∧at_+count≤n.words.length∧n.down=false:=by
 unfold aP.chk at h
 split at h
 ·omega
 ·rename_i hc
  split at h
  ·omega
  ·rename_i hd
   exact ⟨by omega,by omega,by omega,by simpa using hd⟩
theorem sq {w:World} {b bw:Nat} {n:aP} (h:bL w b bw n) (at_ count:Int):Does 52 [.pointer (some ⟨b,0,none⟩),.int .i64 at_,.int .i64 count] w λv w'=>v=.int .i64 (n.chk at_ count)∧w'=w:=by
 refine does Tryz.func52 ?_
 rw [l5]
 have hl:=h.len
 refine aH (λh1=>⟨?_,rfl⟩) (λh1=>aH (λh2=>⟨?_,rfl⟩) (λh2=>⟨_,_,_,h.node.cell rfl,aH (λh3=>⟨?_,rfl⟩) (λh3=>⟨_,_,_,h.node.cell rfl,aH (λh4=>⟨?_,rfl⟩) (λh4=>⟨_,h.node.cell rfl,sf (λh5=>⟨?_,rfl⟩) (λh5=>⟨?_,rfl⟩)⟩)⟩)⟩))
 ·rw [aP.chk,if_pos (.inl h1)]
 ·rw [aP.chk,if_pos (.inr (.inl h2))]
 ·rw [aP.chk,if_pos (.inr (.inr (.inl h3)))]
 ·rw [w64 (by omega) (by omega)] at h4
  rw [aP.chk,if_pos (.inr (.inr (.inr (by omega))))]
 ·rw [w64 (by omega) (by omega)] at h4
  rw [aP.chk,if_neg (by omega),if_pos h5]
 ·rw [w64 (by omega) (by omega)] at h4
  rw [aP.chk,if_neg (by omega),if_neg (by simp [h5])]
def aP.read (n:aP) (at_ count:Int):List Int:=(n.words.drop at_.toNat).take count.toNat
theorem uz (l:List Int) (k:Nat):(us l).take k=us (l.take k):=by simp [us]
theorem uF (l:List Int) (k:Nat):(us l).drop k=us (l.drop k):=by simp [us]
theorem qC (l m:List Int):us l++us m=us (l++m):=by simp [us]
def y9 (n:aP) (at_ count:Int) (w:World) (v:Value) (w':World):Prop:=
 (n.chk at_ count≠0∧v=.tuple #[.slice none 0 0,.int .i64 (n.chk at_ count)]∧w'=w)∨
 (n.chk at_ count=0∧∃ a cap,v=.tuple #[.slice (some a) count.toNat cap,.int .i64 0]∧New w w'∧Owns w' 43 1 (some a) count.toNat cap (us (n.read at_ count))∧w.heap.size≤a.block)
theorem aP.read_len {n:aP} {at_ count:Int} (h:n.chk at_ count=0):(n.read at_ count).length=count.toNat:=by
 obtain ⟨h1,h2,h3,_⟩:=aP.chk_zero h
 simp [aP.read]
 omega
theorem vp {w:World} {b bw:Nat} {n:aP} (h:bL w b bw n) (at_ count:Int):Does 40 [.pointer (some ⟨b,0,none⟩),.int .i64 at_,.int .i64 count] w (y9 n at_ count w):=by
 refine does Tryz.func40 ?_
 rw [mS]
 refine aE (sq h at_ count) ?_
 rintro v w1 ⟨rfl,rfl⟩
 refine ⟨_,rfl,cF (λhc=>?_) (λhc=>?_)⟩
 ·exact .inl ⟨hc,rfl,rfl⟩
 ·obtain ⟨h1,h2,h3,_⟩:=aP.chk_zero hc
  have hl:=h.len
  refine ⟨_,_,_,h.node.cell rfl,?_⟩
  rw [w64 (by omega) (by omega)]
  refine nr h2 (by omega) h3 (by omega) (by omega) ?_
  intro a ha
  rcases ha with rfl | ⟨hx,_⟩
  ·have hrd:Rd w1 (some ⟨bw,0+at_.toNat * 1,none⟩) (us (n.read at_ count)):=by
    refine eJ h.words ?_
    rw [kg,aP.read_len hc,uF,uz,aP.read]
    simp
   have e:(at_+count).toNat - at_.toNat=count.toNat:=by omega
   rw [e]
   refine aE (nO (by rw [kg,aP.read_len hc]) hrd (jL _) (by omega) (by simp)) ?_
   rintro v w2 ⟨a',cap,rfl,hn,ho,hb,hi⟩
   refine ⟨_,_,_,rfl,.inr ⟨hc,?_⟩⟩
   cases a' with
   |none=>simp at hi
   |some a'=>
    refine ⟨a',cap,rfl,hn,ho,?_⟩
    rcases ho.2 with ⟨hx,_⟩ | ⟨g,cur,hx,_⟩
    ·cases hx
    ·exact hb _ ⟨a'.off,by simp at hx;rw [hx]⟩
  ·omega
theorem za {P:Program} {w:World} {t ty e:TypeId} {i:TypeInfo} (ht:P.underlying t=some (.slice e)) (hi:P.info? e=some i) (hsz:i.size=1) {b o dl dc:Nat} {s:Option Addr} {m c:Nat} {news:List Value} (hl:news.length=m)
  (hm:m≤dl) (hs:Rd w s news) (hn:s=none→m=0) (hw:wrAt w ⟨b,o,none⟩ 0 news):(Builtin.copy_ #[t,t] ty #[.slice (some ⟨b,o,none⟩) dl dc,.slice s m c]).run P w=.ok (.int .i64 m) (puts w ⟨b,o,none⟩ 0 news):=by
 have hmin:Nat.min m dl=m:=Nat.min_eq_left hm
 have hst:=fM (P:=P) hw
 cases s with
 |none=>
  have:=hn rfl
  subst this
  have:news=[]:=List.eq_nil_of_length_eq_zero hl
  subst this
  simp [Builtin.copy_,run_underlying ht,Builtin.lenOf,hmin,sizeOf,typeInfo,hi,Builtin.firstCells,goInt,storeCells,puts]
 |some s=>
  have hld:(loadCells s m).run P w=.ok news.toArray w:=by
   have:aD w s 0 news:=by
    rcases hs with rfl | ⟨sb,so,he,hc⟩
    ·trivial
    ·simp at he
     subst he
     exact jG λj v hj=>by simpa using hc j v hj
   have:=Eng.run_loadCellsFrom (P:=P) (acc:=#[]) this
   rw [hl] at this
   simpa [loadCells] using this
  simp [Builtin.copy_,run_underlying ht,Builtin.lenOf,hmin,sizeOf,typeInfo,hi,Builtin.firstCells,goInt,hsz,hld,hst]
def aP.write (n:aP) (at_:Nat) (ws:List Int):aP:={ n with words:=n.words.take at_++ws++n.words.drop (at_+ws.length) }
theorem bL.write {w:World} {b bw:Nat} {n:aP} (h:bL w b bw n) {o:Nat} {ws:List Int} (hl:o+ws.length≤n.words.length) (hw:∀ x ∈ ws,0≤x∧x<18446744073709551616):bL (puts w ⟨bw,o,none⟩ 0 (us ws)) b bw (n.write o ws):=by
 have hlen:(n.write o ws).words.length=n.words.length:=by simp [aP.write];omega
 refine ⟨?_,?_,by rw [hlen];exact h.len,by rw [hlen];exact h.len2,?_⟩
 ·rw [hlen]
  exact (dB _ _ _ _ _).blk h.node h.ne
 ·have:=h.words.puts (o:=o) (i:=0) (vs:=us ws)
  rw [iK (by rw [kg,kg];omega),Nat.add_zero,kg,uz,uF,qC,qC] at this
  exact this
 ·intro x hx
  simp only [aP.write,List.mem_append] at hx
  rcases hx with (hx | hx) | hx
  ·exact h.wf x (List.mem_of_mem_take hx)
  ·exact hw x hx
  ·exact h.wf x (List.mem_of_mem_drop hx)
theorem xx {w:World} {b bw:Nat} {n:aP} (h:bL w b bw n) (at_:Int) {a:Option Addr} {c:Nat} {ws:List Int} (hr:Rd w a (us ws)) (hw:∀ x ∈ ws,0≤x∧x<18446744073709551616) (hn:a=none→ws.length=0) :
  Does 96 [.pointer (some ⟨b,0,none⟩),.int .i64 at_,.slice a ws.length c] w λv w'=>v=.int .i64 (n.chk at_ ws.length)∧
   bL w' b bw (if n.chk at_ ws.length=0 then n.write at_.toNat ws else n)∧Keep (λk=>k=bw) w w':=by
 refine does Tryz.func96 ?_
 rw [l9]
 refine aE (sq h at_ _) ?_
 rintro v w1 ⟨rfl,rfl⟩
 refine ⟨_,rfl,cF (λhc=>?_) (λhc=>?_)⟩
 ·rw [if_neg hc]
  exact ⟨rfl,h,Keep.refl _ _⟩
 ·obtain ⟨h1,h2,h3,_⟩:=aP.chk_zero hc
  have hl:=h.len
  rw [if_pos hc,hc]
  refine ⟨_,_,_,h.node.cell rfl,nr h2 (by omega) (by omega) (by omega) (by omega) ?_⟩
  intro a' ha
  rcases ha with rfl | ⟨hx,_⟩
  ·obtain ⟨i,hi,hz,hsz,hby⟩:=iR (T:=43) (z:=.int .u64 0) (n:=1) (m:=8) (by kernel_rfl)
   have hrun:=za (P:=prog) (w:=w1) (t:=104) (ty:=3) (b:=bw) (o:=0+at_.toNat * 1) (dl:=(n.words.length:Int).toNat - at_.toNat) (dc:=(n.words.length:Int).toNat - at_.toNat) (c:=c) Tryz.underlying104 hi hsz (kg ws) (by omega) hr hn
    (cB h.words (by rw [kg,kg];omega) (jL ws))
   refine ⟨_,_,hrun,rfl,?_,dB _ _ _ _ _⟩
   have:=h.write (o:=at_.toNat) (ws:=ws) (by omega) hw
   simpa using this
  ·omega
def aP.cas (n:aP) (at_ old new:Int):aP:=if n.get at_.toNat=old then { n with words:=n.words.set at_.toNat new } else n
theorem Dn {w:World} {b bw:Nat} {n:aP} (h:bL w b bw n) (at_ old new:Int) (h0:0≤new) (h1:new<18446744073709551616) :
  Does 156 [.pointer (some ⟨b,0,none⟩),.int .i64 at_,.int .u64 old,.int .u64 new] w λv w'=>
   v=.tuple #[.int .u64 (if n.chk at_ 1=0 then n.get at_.toNat else 0),.int .i64 (n.chk at_ 1)]∧bL w' b bw (if n.chk at_ 1=0 then n.cas at_ old new else n)∧Keep (λk=>k=bw) w w':=by
 refine does Tryz.func156 ?_
 rw [nL]
 refine aE (sq h at_ _) ?_
 rintro v w1 ⟨rfl,rfl⟩
 refine ⟨_,rfl,cF (λhc=>?_) (λhc=>?_)⟩
 ·rw [if_neg hc,if_neg hc]
  exact ⟨rfl,h,Keep.refl _ _⟩
 ·obtain ⟨b1,b2,b3,_⟩:=aP.chk_zero hc
  rw [if_pos hc,if_pos hc,hc]
  have ea:0+at_.toNat * 1=at_.toNat:=by omega
  refine ⟨_,_,_,h.node.cell rfl,aZ b2 (by omega) ?_⟩
  rw [ea]
  refine ⟨_,h.cell (by omega),bI (λhe=>?_) (λhe=>?_)⟩
  ·refine ⟨_,_,_,h.node.cell rfl,aZ b2 (by omega) ?_⟩
   rw [ea]
   refine ⟨⟨_,h.cell (by omega)⟩,h.words.frozen,?_⟩
   rintro w2 rfl
   refine ⟨rfl,?_,aO _ _ _ _⟩
   rw [aP.cas,if_pos he]
   exact h.setWord _ h0 h1
  ·rw [aP.cas,if_neg he]
   exact ⟨rfl,h,Keep.refl _ _⟩
def aP.add (n:aP) (at_ by_:Int):aP:={ n with words:=n.words.set at_.toNat (IntKind.u64.wrap (n.get at_.toNat+by_)) }
theorem nP (x:Int):0≤IntKind.u64.wrap x∧IntKind.u64.wrap x<18446744073709551616:=by
 simp only [IntKind.wrap,IntKind.bits,IntKind.signed];simp;omega
theorem Do {w:World} {b bw:Nat} {n:aP} (h:bL w b bw n) (at_ by_:Int) :
  Does 157 [.pointer (some ⟨b,0,none⟩),.int .i64 at_,.int .u64 by_] w λv w'=>
   v=.tuple #[.int .u64 (if n.chk at_ 1=0 then n.get at_.toNat else 0),.int .i64 (n.chk at_ 1)]∧bL w' b bw (if n.chk at_ 1=0 then n.add at_ by_ else n)∧Keep (λk=>k=bw) w w':=by
 refine does Tryz.func157 ?_
 rw [nM]
 refine aE (sq h at_ _) ?_
 rintro v w1 ⟨rfl,rfl⟩
 refine ⟨_,rfl,cF (λhc=>?_) (λhc=>?_)⟩
 ·rw [if_neg hc,if_neg hc]
  exact ⟨rfl,h,Keep.refl _ _⟩
 ·obtain ⟨b1,b2,b3,_⟩:=aP.chk_zero hc
  rw [if_pos hc,if_pos hc,hc]
  have ea:0+at_.toNat * 1=at_.toNat:=by omega
  refine ⟨_,_,_,h.node.cell rfl,aZ b2 (by omega) ?_⟩
  rw [ea]
  refine ⟨_,h.cell (by omega),_,_,_,h.node.cell rfl,aZ b2 (by omega) ?_⟩
  rw [ea]
  refine ⟨_,h.cell (by omega),aZ b2 (by omega) ?_⟩
  rw [ea]
  refine ⟨⟨_,h.cell (by omega)⟩,h.words.frozen,?_⟩
  rintro w2 rfl
  exact ⟨rfl,h.setWord _ (nP _).1 (nP _).2,aO _ _ _ _⟩
theorem vq (n:Nat) (v:Value):reps n [v]=List.replicate n v:=by
 induction n with
 |zero=>rfl
 |succ n ih=>simp [reps,List.replicate_succ] at *
theorem zb {w:World} {lines:Int} (h0:1≤lines) (h1:lines≤256):Does 69 [.int .i64 lines] w λv w'=>
  v=.tuple #[.pointer (some ⟨w.heap.size+1,0,none⟩),.int .i64 0]∧bL w' (w.heap.size+1) w.heap.size ⟨List.replicate (8 * lines.toNat) 0,false⟩∧New w w'∧w'.heap.size=w.heap.size+2:=by
 refine does Tryz.func69 ?_
 rw [rh]
 refine aH (λh=>by omega) (λ_=>aH (λh=>by omega) (λ_=>?_))
 have e:IntKind.i64.wrap (lines * 8)=lines * 8:=w64 (by omega) (by omega)
 rw [e]
 refine ⟨by omega,by omega,by omega,by omega,?_⟩
 rintro b1 w1 rfl rfl b2 w2 rfl rfl
 have e2:(lines * 8).toNat=8 * lines.toNat:=by omega
 rw [e2,vq]
 have hs:(w.alloc (.cells (List.replicate (8 * lines.toNat) (Value.int .u64 0)).toArray 43)).heap.size=w.heap.size+1:=by simp
 refine ⟨by rw [hs],?_,(dA _ _).alloc _,by simp⟩
 refine ⟨?_,?_,by simp;omega,by simp;omega,?_⟩
 ·have:=iJ (w.alloc (.cells (List.replicate (8 * lines.toNat) (Value.int .u64 0)).toArray 43)) [.slice (some ⟨w.heap.size,0,none⟩) (8 * lines.toNat) (8 * lines.toNat),.bool false] 115
  rw [hs] at this
  simpa using this
 ·have:=(iJ w (List.replicate (8 * lines.toNat) (Value.int .u64 0)) 43).alloc (.cells #[.slice (some ⟨w.heap.size,0,none⟩) (8 * lines.toNat) (8 * lines.toNat),.bool false] 115)
  simpa [us] using this
 ·intro x hx
  simp only [List.mem_replicate] at hx
  omega
end Go.Proofs.YtegepanmkjemjaaGreat
