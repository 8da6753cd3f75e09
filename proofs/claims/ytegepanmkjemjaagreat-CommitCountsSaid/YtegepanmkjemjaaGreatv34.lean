import Derived.Test.YtegepanmkjemjaaGreatv33
import Derived.Test.YtegepanmkjemjaaGreatv32
import Derived.Test.YtegepanmkjemjaaGreatv31
set_option linter.unusedVariables false
namespace Go.Proofs.YtegepanmkjemjaaGreat
open Go.Eng
theorem TW.more {A:Nat→Prop} {χ:Nat→Tag} {w u u':World} {fb:Nat} {L B:Nat→Prop} {ξ:Nat→Tag} {X:FabX} (t:TW A χ w fb L u B ξ X) (hn:New u u'):TW A χ w fb (λk=>L k∨(u.heap.size≤k∧k<u'.heap.size)) u' B ξ X:=by
 have hs:=t.next.keep.size
 refine ⟨⟨t.next.keep.trans hn λk hlt hs=>hs.elim,t.next.grow,t.next.iff⟩,?_,λk hk=>?_⟩
 ·refine (t.fab.widen hn).recolor (λk hk=>?_) λk hk=>.inl ((t.next.iff k).2 (.inl hk))
  rcases hk with hk | hk | hk
  ·exact .inl (.inl hk)
  ·exact .inl (.inr hk)
  ·exact .inr hk
 ·rcases hk with hk | hk
  ·have:=t.loc k hk
   exact ⟨this.1,Nat.lt_of_lt_of_le this.2.1 hn.size,this.2.2⟩
  ·exact ⟨by omega,hk.2,t.fab.fresh hk.1⟩
theorem TW.out {A:Nat→Prop} {χ:Nat→Tag} {w u:World} {fb:Nat} {L B:Nat→Prop} {ξ:Nat→Tag} {X:FabX} (t:TW A χ w fb L u B ξ X) {k:Nat} (hk:L k):¬ B k:=λhb=>by
 obtain ⟨h1,h2,h3⟩:=t.loc k hk
 rcases (t.next.iff k).1 hb with h | h
 ·exact h h3
 ·omega
theorem TW.mine {A:Nat→Prop} {χ:Nat→Tag} {w0 w u:World} {fb:Nat} {L B:Nat→Prop} {ξ:Nat→Tag} {X X0:FabX} (t:TW A χ w fb L u B ξ X) (hF:aW A χ w fb X0) (hn:New w0 w) (hA:∀ k,A k→w0.heap.size≤k):New w0 u:=
 hn.trans t.next.keep λk hk hc=>by
  have:=hA k (hF.avoid k hc)
  omega
theorem CY {A:Nat→Prop} {χ:Nat→Tag} {w:World} {fb:Nat} {X:FabX} (h:aW A χ w fb X) {c:Nat} {C:Comp} (hc:X.pure.clients[c]?=some C):Does 34 [ptr fb,.int .i64 c] w λv w'=>v=.int .i64 C.posted∧w'=w:=by
 refine does Tryz.func34 ?_
 rw [ptr,mT]
 have hx:∃ x,X.clients[c]?=some x∧x.pure=C:=by simpa [FabX.pure] using hc
 obtain ⟨x,h1,rfl⟩:=hx
 refine aF (gy h h1) ?_
 rintro v w' ⟨rfl,rfl⟩
 exact ⟨_,rfl,⟨_,h.ccell (k:=6) h1 rfl,rfl,rfl⟩⟩
abbrev TFo:TypeId:=40
def fofC (fb:Nat) (lines:Int) (r:aM):List Value:=[ptr fb,.int .i64 lines,.int .i64 r.Number,.slice r.Members r.Members_l r.Members_c]
def sY (n:Nat):Vw:=⟨0,stM n⟩
structure Made (w u:World) (n lines:Nat) (fb p:Nat) (A:Nat→Prop) (χ:Nat→Tag) (X:FabX) (r:aM):Prop where
 fab:aW A χ u fb X
 pure:X.pure=Fab.fresh n 6 lines
 new:New w u
 own:∀ k,A k→w.heap.size≤k
 box:Blk u p (fofC fb lines r) TFo
 out:¬ A p
 view:ViewAt A u r (sY n)
theorem EM {w:World} {n:Nat} (hn:1≤n∧n≤5) {x:Int} (hx:I64 x):Does 12 [.int .i64 n,.int .i64 x] w λv u=>∃ fb p A χ X r,v=.tuple #[ptr p,.bool true]∧Made w u n (98+(x % 7).toNat) fb p A χ X r:=by
 refine does Tryz.func12 ?_
 rw [oU]
 have e:(98+x % 7:Int)=((98+(x % 7).toNat:Nat):Int):=by omega
 refine aF (zS _ hx) ?_
 rintro v u1 ⟨rfl,rfl⟩
 rw [e]
 refine ⟨_,rfl,?_⟩
 refine aF (AF (c:=6) (lines:=98+(x % 7).toNat) hn (by omega) (by omega)) ?_
 rintro v u2 ⟨fb,A,χ,X,rfl,hF,hn2,hA,hX⟩
 refine ⟨_,_,rfl,?_⟩
 refine aF (zS _ hx) ?_
 rintro v u3 ⟨rfl,rfl⟩
 rw [e]
 refine ⟨_,rfl,?_⟩
 refine aF (zU _ (n:=n) (by omega) (by omega)) ?_
 rintro v u4 ⟨r,vw,rfl,hv,hn4,_,rfl⟩
 refine aM.mk_ex r ⟨rfl,?_⟩
 rintro b1 u5 hb1 hu5
 obtain ⟨hz5,hn5⟩:=aN hb1 hu5
 clear hu5
 have hs4:=hn4.size
 refine ⟨fb,b1,A,χ,X,r,rfl,(hF.new hn4).new hn5,hX,(hn2.new hn4).new hn5,hA,hz5,λh=>?_,?_⟩
 ·have:=hF.low _ h
  omega
 ·have h1:ViewAt A u4 r ⟨0,stM (n:Int).toNat⟩:=hv.mono λk _ hk=>hF.low k hk
  exact h1.new hn5
def CZ (x q:Nat):Bool:=(x+1) / 2 ^ q % 2 == 1
def g9 (x i:Nat):List Nat:=((List.range i).filter (CZ x)).map (96+·)
def bD (x:Nat):List Nat:=g9 x 4
def ns (l:List Nat):List Int:=l.map Int.ofNat
theorem qE (x i:Nat):g9 x (i+1)=g9 x i++(if CZ x i=true then [96+i] else []):=by
 unfold g9
 rw [List.range_succ,List.filter_append,List.map_append]
 congr 1
 cases h:CZ x i<;>simp [h]
theorem zw:∀ x,x<14→∀ i,i<4→(band .i64 (bshr .i64 (((x+1:Nat):Int)) ((i:Nat):Int)) 1 == 1)=CZ x i:=by decide
theorem mw {x l:Nat} (h:l ∈ bD x):96≤l∧l<100:=by
 simp only [bD,g9,List.mem_map,List.mem_filter,List.mem_range] at h
 obtain ⟨q,⟨h1,_⟩,rfl⟩:=h
 omega
theorem wz (x i:Nat):(g9 x i).length≤i:=by
 unfold g9
 rw [List.length_map]
 exact Nat.le_trans (List.length_filter_le _ _) (by simp)
theorem yk {w:World} {x:Int} (hx:I64 x):Does 22 [.int .i64 x] w λv u=>∃ a c,v=.slice a (bD (x % 14).toNat).length c∧Rd u a (is (ns (bD (x % 14).toNat)))∧New w u:=by
 refine does Tryz.func22 ?_
 rw [oh]
 obtain ⟨y,hy,hy14⟩:∃ y:Nat,x % 14=y∧y<14:=⟨(x % 14).toNat,by omega,by omega⟩
 refine aQ mix (λm env u=>∃ (i:Nat) (a:Option Addr) (n c:Nat) (jj:List Value),m=4 - i∧i≤4∧n=(g9 y i).length∧env=cX x a n c i jj∧New w u∧Owns u 3 1 a n c (is (ns (g9 y i)))∧∀ k,isB a k→w.heap.size≤k) 4
  ⟨0,none,0,0,_,rfl,by omega,rfl,rfl,Keep.refl _ _,Owns.nil _ _ _,λk hk=>(lB hk).elim⟩ ?_
 rintro m env u ⟨i,a,n,c,jj,rfl,hi,rfl,rfl,hn,hown,hfr⟩
 rw [kg]
 refine aH (λhlt=>?_) (λhge=>?_)
 ·have hlt:i<4:=by omega
  refine aF (nv _ _ _ hx (by omega)) ?_
  rintro v u1 ⟨rfl,rfl⟩
  rw [if_neg (by omega),hy]
  refine ⟨_,rfl,?_⟩
  have hlen:=wz y i
  have e1:IntKind.i64.wrap ((y:Int)+1)=((y+1:Nat):Int):=by rw [w64 (by omega) (by omega)];omega
  have e2:IntKind.u64.wrap (i:Int)=(i:Int):=pp (by omega) (by omega)
  rw [e1,e2,zw y hy14 i hlt,w64 (x:=(i:Int)+1) (by omega) (by omega),w64 (x:=96+(i:Int)) (by omega) (by omega)]
  refine ⟨by omega,sm (λhb=>?_) (λhb=>?_)⟩
  ·refine Az hown (x:=96+(i:Int)) (by omega) ?_
   intro b ap cap u3 hb3 ho3 hk3 hap
   have hsz:=hn.size
   have hs:=qE y i
   rw [if_pos hb] at hs
   refine ⟨4 - (i+1),by omega,i+1,ap,_,cap,_,rfl,by omega,by rw [hs,List.length_append];rfl,rfl,kI hn hk3 hfr,?_,λk hk=>?_⟩
   ·rw [hs]
    have:is (ns (g9 y i++[96+i]))=is (ns (g9 y i)++[96+(i:Int)]):=by simp [is,ns]
    rw [this]
    exact ho3
   ·rcases hap k hk with h1 | h1
    ·exact hfr k h1
    ·omega
  ·have hs:=qE y i
   rw [if_neg (by simp [hb]),List.append_nil] at hs
   exact ⟨4 - (i+1),by omega,i+1,a,_,c,_,rfl,by omega,by rw [hs],rfl,hn,by rw [hs];exact hown,hfr⟩
 ·have:i=4:=by omega
  subst this
  rw [lq]
  have e:(x % 14).toNat=y:=by omega
  rw [e]
  exact ⟨a,c,rfl,hown.rd,hn⟩
end Go.Proofs.YtegepanmkjemjaaGreat
namespace Go.Proofs.YtegepanmkjemjaaGreat
open Go.Eng C12
def mm (m:Nat):aC:=⟨(m:Int),1,true⟩
def wV (m:Nat) (a:Int) (ws:List Int):Verb:=⟨2,(m:Int),a,0,0,0,ws,1,1⟩
def cV (a old new:Int):Verb:=⟨3,0,a,0,old,new,[],1,1⟩
def rV (a:Int):Verb:=⟨1,0,a,1,0,0,[],1,1⟩
theorem C1 {n L m:Nat} {a:Int} {ws:List Int} (hn:n≤5) (hm:m<n) (hL:1≤L∧L≤256) (ha:24≤a) (h1:1≤ws.length) (h2:ws.length≤1000) (h3:a+ws.length≤L * 8):VGo n L (wV m a ws):=by
 refine ⟨λk hk hk5=>?_,⟨by show (0:Int)≤m;omega,by show (m:Int)<n;omega⟩,rfl,rfl⟩
 have hc:(wV m a ws).v.count=ws.length:=rfl
 have hi:(wV m a ws).v.inside k L=true:=by
  unfold aK.inside aK.l0 aK.l1
  rw [hc]
  apply decide_eq_true
  show 1≤k∧k≤5∧1≤(L:Int)∧(L:Int)≤256∧0≤(m:Int)∧(m:Int)<k∧0≤a∧a<(L:Int) * 8∧(ws.length:Int)≤1024∧(a+ws.length - 1) / 8<(L:Int)∧(a+ws.length - 1) / 8 - a / 8<128
  omega
 unfold aK.valid
 rw [hc,if_neg (by omega),hi,if_neg (by simp),if_neg]
 unfold aK.l0 aK.l1 aK.last
 rw [hc]
 show ¬ (a / 8≤(if (2:Int)=1 then 3 else 2)∧(if (2:Int)=1 then 3 else 2)<(a+ws.length - 1) / 8)
 rw [if_neg (by omega)]
 omega
theorem Gx {n L:Nat} {a old new:Int} (hn:1≤n∧n≤5) (hL:1≤L∧L≤256) (ha:32≤a) (h3:a+1≤L * 8):VGo n L (cV a old new):=by
 refine ⟨λk hk hk5=>?_,⟨by show (0:Int)≤0;omega,by show (0:Int)<n;omega⟩,rfl,rfl⟩
 have hc:(cV a old new).v.count=1:=rfl
 have hi:(cV a old new).v.inside k L=true:=by
  unfold aK.inside aK.l0 aK.l1
  rw [hc]
  apply decide_eq_true
  show 1≤k∧k≤5∧1≤(L:Int)∧(L:Int)≤256∧0≤(0:Int)∧(0:Int)<k∧0≤a∧a<(L:Int) * 8∧(1:Int)≤1024∧(a+1 - 1) / 8<(L:Int)∧(a+1 - 1) / 8 - a / 8<128
  omega
 unfold aK.valid
 rw [hc,if_neg (by omega),hi,if_neg (by simp),if_neg]
 unfold aK.l0 aK.l1 aK.last
 rw [hc]
 show ¬ (a / 8≤(if (3:Int)=1 then 3 else 2)∧(if (3:Int)=1 then 3 else 2)<(a+1 - 1) / 8)
 rw [if_neg (by omega)]
 omega
theorem Gy {n L:Nat} {a:Int} (hn:1≤n∧n≤5) (hL:1≤L∧L≤256) (ha:32≤a) (h3:a+1≤L * 8):VGo n L (rV a):=by
 refine ⟨λk hk hk5=>?_,⟨by show (0:Int)≤0;omega,by show (0:Int)<n;omega⟩,rfl,rfl⟩
 have hc:(rV a).v.count=1:=rfl
 have hi:(rV a).v.inside k L=true:=by
  unfold aK.inside aK.l0 aK.l1
  rw [hc]
  apply decide_eq_true
  show 1≤k∧k≤5∧1≤(L:Int)∧(L:Int)≤256∧0≤(0:Int)∧(0:Int)<k∧0≤a∧a<(L:Int) * 8∧(1:Int)≤1024∧(a+1 - 1) / 8<(L:Int)∧(a+1 - 1) / 8 - a / 8<128
  omega
 unfold aK.valid
 rw [hc,if_neg (by omega),hi,if_neg (by simp),if_neg]
 unfold aK.l0 aK.l1 aK.last
 rw [hc]
 show ¬ (a / 8≤(if (1:Int)=1 then 3 else 2)∧(if (1:Int)=1 then 3 else 2)<(a+1 - 1) / 8)
 rw [if_pos rfl]
 omega
structure Env where
 n:Nat
 L:Nat
 base:Nat→Nat→Int
 bc:Nat→Int
 ids:List Nat
 J:Nat→CJob
 tr:Bool
def Env.on (E:Env) (i:Nat):Prop:=i ∈ E.ids
structure cA (E:Env) (i:Nat) (j:CJob):Prop where
 cl:j.client=(i:Int)
 i6:i<6
 valid:j.valid=0
 view:j.v=sY E.n
 some_:j.writes≠[]
 few:j.writes.length≤12
 rfew:j.reads.length≤24
 line:∀ p ∈ j.writes,∃ l:Nat,p.Line=(l:Int)∧96≤l∧l<E.L
 rline:∀ s ∈ j.reads,∃ l:Nat,s.Line=(l:Int)∧96≤l∧l<E.L
 uniq:∀ p ∈ j.writes,∀ q ∈ j.writes,p.Line=q.Line→p=q
 nodup:(j.writes.map (·.Line)).Nodup
 head:∀ p ∈ j.writes,p.Head=E.base p.Line.toNat 0
 locks:∀ p ∈ j.writes,∀ k:Nat,k<6→fC p.Head k≠p.Head∧(fC p.Head k=fC p.Head i→k=i)
 next:∀ p ∈ j.writes,tL p.Head≠p.Head
 rhead:∀ s ∈ j.reads,s.Head=E.base s.Line.toNat 0
 rdis:∀ s ∈ j.reads,∀ p ∈ j.writes,s.Line≠p.Line
structure fE (E:Env):Prop where
 n:1≤E.n∧E.n≤5
 L:98≤E.L∧E.L≤256
 ids:E.ids.Nodup
 job:∀ i,E.on i→cA E i (E.J i)
section
variable {E:Env} {i:Nat} {j:CJob}
theorem cA.mem (h:cA E i j):j.v.mem=(List.range E.n).map mm:=by rw [h.view];rfl
theorem cA.num (h:cA E i j):j.v.number=0:=by rw [h.view];rfl
theorem cA.m0 (h:cA E i j) (hn:1≤E.n):m0Of j=mm 0:=by
 unfold m0Of
 rw [h.mem]
 obtain ⟨k,hk⟩:∃ k,E.n=k+1:=⟨E.n - 1,by omega⟩
 rw [hk,List.range_succ_eq_map]
 rfl
theorem cA.tail (h:cA E i j):j.v.mem.tail=(List.range (E.n - 1)).map λm=>mm (m+1):=by
 rw [h.mem]
 cases hk:E.n with
 |zero=>rfl
 |succ k=>
  rw [List.range_succ_eq_map]
  simp
theorem cA.log (h:cA E i j) (a:Int) (ws:List Int):logV j a ws=(List.range E.n).map λm=>wV m a ws:=by
 unfold logV
 rw [h.mem,h.num,List.map_map]
 rfl
theorem cA.cas (h:cA E i j) (hn:1≤E.n) (p:aG):casV j p=cV (p.Line * 8) p.Head (fC p.Head i):=by
 unfold casV
 rw [h.num,h.m0 hn,h.cl]
 rfl
theorem cA.read (h:cA E i j) (hn:1≤E.n) (s:aV):uZ j s=rV (s.Line * 8):=by
 unfold uZ
 rw [h.num,h.m0 hn]
 rfl
def pgV (m:Nat) (p:aG):Verb:=wV m (p.Line * 8) (appL p)
def ckV (i:Nat) (seq:Int) (m:Nat):Verb:=wV m (32+(i:Int)) [seq]
theorem cA.page (h:cA E i j) (m:Nat) (p:aG):n9 j (mm m) p=pgV m p:=by
 unfold n9
 rw [h.num]
 rfl
theorem cA.clock (h:cA E i j) (m:Nat):mt j (mm m)=ckV i j.seq m:=by
 unfold mt
 rw [h.num,h.cl]
 rfl
theorem cA.lockL (h:cA E i j) (hn:1≤E.n):bF j=(j.writes.map λp=>cV (p.Line * 8) p.Head (fC p.Head i))++j.reads.map λs=>rV (s.Line * 8):=by
 unfold bF
 congr 1
 ·exact List.map_congr_left λp _=>h.cas hn p
 ·exact List.map_congr_left λs _=>h.read hn s
theorem cA.backL (h:cA E i j):gM j=((List.range (E.n - 1)).map λm=>(j.writes.map (pgV (m+1))++[ckV i j.seq (m+1)])).flatten:=by
 unfold gM
 rw [h.tail,List.map_map]
 congr 1
 refine List.map_congr_left λm _=>?_
 show memV j (mm (m+1))=_
 unfold memV
 rw [if_neg h.some_,h.clock]
 congr 1
 exact List.map_congr_left λp _=>h.page (m+1) p
theorem cA.finL (h:cA E i j) (hn:1≤E.n):finV j=ckV i j.seq 0::j.writes.map (pgV 0):=by
 have hm:=h.mem
 unfold finV
 obtain ⟨k,hk⟩:∃ k,E.n=k+1:=⟨E.n - 1,by omega⟩
 rw [hk,List.range_succ_eq_map] at hm
 rw [hm]
 simp only [List.map_cons]
 rw [h.clock]
 congr 1
 exact List.map_congr_left λp _=>h.page 0 p
theorem cA.bodyE (h:cA E i j):fI j=(List.range E.n).map λm=>wV m (56+120 * (i:Int)) (oQ j.seq j.writes):=by
 unfold fI
 rw [h.log,h.cl]
 have e:q8 (i:Int)+8=56+120 * (i:Int):=by unfold q8;omega
 rw [e]
theorem cA.markE (h:cA E i j):ja j=(List.range E.n).map λm=>wV m (48+120 * (i:Int)) [xv j.seq]:=by
 unfold ja
 rw [h.log,h.cl]
 rfl
end
end Go.Proofs.YtegepanmkjemjaaGreat
namespace Go.Proofs.YtegepanmkjemjaaGreat
open Go.Eng C12
structure CS where
 ph:Nat
 dn:Nat→Option Done
 D:List Done
def vsOf (j:CJob) (s:CS):List Verb:=match s.ph with
 | 0=>fI j
 | 1=>bF j
 | 2=>ja j
 | 3=>gM j
 | 4=>finV j
 | 5=>jc j s.D
 | _=>[]
def Ex (vs:List Verb) (dn:Nat→Option Done) (v:Verb):Prop:=∃ r d,vs[r]?=some v∧dn r=some d
def Pe (vs:List Verb) (dn:Nat→Option Done) (v:Verb):Prop:=∃ r,vs[r]?=some v∧dn r=none
def qF (i:Nat) (p:aG):Verb:=cV (p.Line * 8) (fC p.Head i) p.Head
def Lk (j:CJob) (i:Nat) (s:CS) (p:aG):Prop:=match s.ph with
 | 1=>∃ r d,(bF j)[r]?=some (cV (p.Line * 8) p.Head (fC p.Head i))∧s.dn r=some d∧gH d=p.Head
 | 2=>True
 | 3=>True
 | 4=>Pe (finV j) s.dn (pgV 0 p)
 | 5=>Pe (jc j s.D) s.dn (qF i p)
 | _=>False
def Nw (j:CJob) (s:CS) (m:Nat) (p:aG):Prop:=match s.ph with
 | 3=>Ex (gM j) s.dn (pgV m p)
 | 4=>1≤m∨Ex (finV j) s.dn (pgV m p)
 | 6=>True
 | _=>False
def Ck (j:CJob) (i:Nat) (s:CS) (m:Nat):Prop:=match s.ph with
 | 3=>Ex (gM j) s.dn (ckV i j.seq m)
 | 4=>1≤m∨Ex (finV j) s.dn (ckV i j.seq m)
 | 6=>True
 | _=>False
def Tch (n:Nat) (j:CJob) (i:Nat) (s:CS) (p:aG):Prop:=Lk j i s p∨∃ m,m<n∧Nw j s m p
structure hU (E:Env) (ns:List aO) (S:Nat→CS):Prop where
 len:ns.length=E.n
 fix:∀ (m:Nat) (x:aO),ns[m]?=some x→NFix E.L x
 new:∀ i,E.on i→∀ p ∈ (E.J i).writes,∀ (m:Nat) (x:aO),ns[m]?=some x→Nw (E.J i) (S i) m p→∀ k,k<8→x.get (p.Line.toNat * 8+k)=(appL p).getD k 0
 lock:∀ i,E.on i→∀ p ∈ (E.J i).writes,∀ (x:aO),ns[0]?=some x→Lk (E.J i) i (S i) p→x.get (p.Line.toNat * 8)=fC p.Head i∧∀ k,1≤k→k<8→x.get (p.Line.toNat * 8+k)=E.base p.Line.toNat k
 free:∀ l:Nat,96≤l→l<E.L→∀ (m:Nat) (x:aO),ns[m]?=some x→(∀ i,E.on i→∀ p ∈ (E.J i).writes,p.Line.toNat=l→¬ Nw (E.J i) (S i) m p∧(m=0→¬ Lk (E.J i) i (S i) p))→∀ k,k<8→x.get (l * 8+k)=E.base l k
 excl:∀ i i',E.on i→E.on i'→i≠i'→∀ p ∈ (E.J i).writes,∀ p' ∈ (E.J i').writes,p.Line.toNat=p'.Line.toNat→Tch E.n (E.J i) i (S i) p→¬ Tch E.n (E.J i') i' (S i') p'
 clock:∀ i,E.on i→∀ (m:Nat) (x:aO),ns[m]?=some x→(Ck (E.J i) i (S i) m→x.get (32+i)=(E.J i).seq)∧(¬ Ck (E.J i) i (S i) m→x.get (32+i)=E.bc i)
 both:∀ i,E.on i→∀ p ∈ (E.J i).writes,Lk (E.J i) i (S i) p→¬ Nw (E.J i) (S i) 0 p
 oth:∀ c:Nat,c<6→¬ E.on c→∀ (m:Nat) (x:aO),ns[m]?=some x→x.get (32+c)=E.bc c
def updS (S:Nat→CS) (i:Nat) (s:CS):Nat→CS:=λk=>if k=i then s else S k
theorem bV (S:Nat→CS) (i:Nat) (s:CS):updS S i s i=s:=if_pos rfl
theorem eF {S:Nat→CS} {i k:Nat} {s:CS} (h:k≠i):updS S i s k=S k:=if_neg h
section
variable {E:Env} {ns:List aO} {S:Nat→CS} {i m:Nat} {s:CS} {x x':aO}
theorem hU.idle (h:hU E ns S) (hi:E.on i) (hx:ns[m]?=some x) (hf:NFix E.L x') (hp:∀ l:Nat,96≤l→l<E.L→∀ k,k<8→x'.get (l * 8+k)=x.get (l * 8+k)) (hc:∀ c:Nat,c<6→x'.get (32+c)=x.get (32+c)) (hE:fE E)
  (hL:∀ p ∈ (E.J i).writes,Lk (E.J i) i s p↔Lk (E.J i) i (S i) p) (hN:∀ p ∈ (E.J i).writes,∀ m,m<E.n→(Nw (E.J i) s m p↔Nw (E.J i) (S i) m p)) (hK:∀ m,m<E.n→(Ck (E.J i) i s m↔Ck (E.J i) i (S i) m)) :
  hU E (ns.set m x') (updS S i s):=by
 have hlt:=aP hx
 have hn:=h.len
 have gL:∀ i',E.on i'→∀ p ∈ (E.J i').writes,Lk (E.J i') i' (updS S i s i') p↔Lk (E.J i') i' (S i') p:=λi' hi' p hp=>by
  by_cases e:i'=i
  ·subst e;rw [bV];exact hL p hp
  ·rw [eF e]
 have gN:∀ i',E.on i'→∀ p ∈ (E.J i').writes,∀ m,m<E.n→(Nw (E.J i') (updS S i s i') m p↔Nw (E.J i') (S i') m p):=λi' hi' p hp=>by
  by_cases e:i'=i
  ·subst e;rw [bV];exact hN p hp
  ·intro m _;rw [eF e]
 have gK:∀ i',E.on i'→∀ m,m<E.n→(Ck (E.J i') i' (updS S i s i') m↔Ck (E.J i') i' (S i') m):=λi' hi'=>by
  by_cases e:i'=i
  ·subst e;rw [bV];exact hK
  ·intro m _;rw [eF e]
 have gT:∀ i',E.on i'→∀ p ∈ (E.J i').writes,Tch E.n (E.J i') i' (updS S i s i') p↔Tch E.n (E.J i') i' (S i') p:=λi' hi' p hp=>by
  unfold Tch
  rw [gL i' hi' p hp]
  constructor
  ·rintro (a | ⟨m,b,c⟩)
   ·exact .inl a
   ·exact .inr ⟨m,b,(gN i' hi' p hp m b).1 c⟩
  ·rintro (a | ⟨m,b,c⟩)
   ·exact .inl a
   ·exact .inr ⟨m,b,(gN i' hi' p hp m b).2 c⟩
 have gx:∀ (m':Nat) (y:aO),(ns.set m x')[m']?=some y→∃ z,ns[m']?=some z∧NFix E.L y∧(∀ l:Nat,96≤l→l<E.L→∀ k,k<8→y.get (l * 8+k)=z.get (l * 8+k))∧∀ c:Nat,c<6→y.get (32+c)=z.get (32+c):=λm' y hy=>by
  by_cases e:m=m'
  ·subst e
   rw [List.getElem?_set_self hlt] at hy
   cases hy
   exact ⟨x,hx,hf,hp,hc⟩
  ·rw [List.getElem?_set_ne e] at hy
   exact ⟨y,hy,h.fix m' y hy,λ_ _ _ _ _=>rfl,λ_ _=>rfl⟩
 have gl:∀ i',E.on i'→∀ p ∈ (E.J i').writes,96≤p.Line.toNat∧p.Line.toNat<E.L:=λi' hi' p hp=>by
  obtain ⟨l,e,h1,h2⟩:=(hE.job i' hi').line p hp
  rw [e,Int.toNat_natCast]
  exact ⟨h1,h2⟩
 have gm:∀ (m':Nat) (y:aO),ns[m']?=some y→m'<E.n:=λm' y hy=>by have:=aP hy;omega
 refine ⟨by simpa using hn,λm' y hy=>?_,λi' hi' p hp m' y hy hw k hk=>?_,λi' hi' p hp y hy hl=>?_,λl h1 h2 m' y hy hno k hk=>?_,λa b ha hb hab p hp p' hp' hl ht=>?_,λi' hi' m' y hy=>?_,λi' hi' p hp hl=>?_,λc h6 hno m' y hy=>?_⟩
 ·obtain ⟨z,_,g,_⟩:=gx m' y hy
  exact g
 ·obtain ⟨z,hz,_,g,_⟩:=gx m' y hy
  obtain ⟨l1,l2⟩:=gl i' hi' p hp
  rw [g _ l1 l2 k hk]
  exact h.new i' hi' p hp m' z hz ((gN i' hi' p hp m' (gm m' z hz)).1 hw) k hk
 ·obtain ⟨z,hz,_,g,_⟩:=gx 0 y hy
  obtain ⟨l1,l2⟩:=gl i' hi' p hp
  obtain ⟨a,b⟩:=h.lock i' hi' p hp z hz ((gL i' hi' p hp).1 hl)
  refine ⟨?_,λk hk1 hk8=>by rw [g _ l1 l2 k hk8];exact b k hk1 hk8⟩
  have:=g _ l1 l2 0 (by omega)
  rw [Nat.add_zero] at this
  rw [this]
  exact a
 ·obtain ⟨z,hz,_,g,_⟩:=gx m' y hy
  rw [g l h1 h2 k hk]
  refine h.free l h1 h2 m' z hz (λi' hi' p hp hpl=>?_) k hk
  obtain ⟨a,b⟩:=hno i' hi' p hp hpl
  exact ⟨λc=>a ((gN i' hi' p hp m' (gm m' z hz)).2 c),λe c=>b e ((gL i' hi' p hp).2 c)⟩
 ·rw [gT b hb p' hp']
  rw [gT a ha p hp] at ht
  exact h.excl a b ha hb hab p hp p' hp' hl ht
 ·obtain ⟨z,hz,_,_,g⟩:=gx m' y hy
  rw [g i' (hE.job i' hi').i6,gK i' hi' m' (gm m' z hz)]
  exact h.clock i' hi' m' z hz
 ·rw [gN i' hi' p hp 0 (by have:=hE.n;omega)]
  exact h.both i' hi' p hp ((gL i' hi' p hp).1 hl)
 ·obtain ⟨z,hz,_,_,g⟩:=gx m' y hy
  rw [g c h6]
  exact h.oth c h6 hno m' z hz
theorem hU.tick (h:hU E ns S) (hi:E.on i) (hx:ns[m]?=some x) (hf:NFix E.L x') (hp:∀ l:Nat,96≤l→l<E.L→∀ k,k<8→x'.get (l * 8+k)=x.get (l * 8+k)) (hc:∀ c:Nat,c<6→x'.get (32+c)=if c=i then (E.J i).seq else x.get (32+c)) (hE:fE E)
  (hL:∀ p ∈ (E.J i).writes,Lk (E.J i) i s p↔Lk (E.J i) i (S i) p) (hN:∀ p ∈ (E.J i).writes,∀ m,m<E.n→(Nw (E.J i) s m p↔Nw (E.J i) (S i) m p)) (hK:∀ m',m'<E.n→(Ck (E.J i) i s m'↔m'=m∨Ck (E.J i) i (S i) m')) :
  hU E (ns.set m x') (updS S i s):=by
 have hlt:=aP hx
 have hn:=h.len
 have gL:∀ i',E.on i'→∀ p ∈ (E.J i').writes,Lk (E.J i') i' (updS S i s i') p↔Lk (E.J i') i' (S i') p:=λi' hi' p hp=>by
  by_cases e:i'=i
  ·subst e;rw [bV];exact hL p hp
  ·rw [eF e]
 have gN:∀ i',E.on i'→∀ p ∈ (E.J i').writes,∀ m,m<E.n→(Nw (E.J i') (updS S i s i') m p↔Nw (E.J i') (S i') m p):=λi' hi' p hp=>by
  by_cases e:i'=i
  ·subst e;rw [bV];exact hN p hp
  ·intro m _;rw [eF e]
 have gT:∀ i',E.on i'→∀ p ∈ (E.J i').writes,Tch E.n (E.J i') i' (updS S i s i') p↔Tch E.n (E.J i') i' (S i') p:=λi' hi' p hp=>by
  unfold Tch
  rw [gL i' hi' p hp]
  constructor
  ·rintro (a | ⟨m,b,c⟩)
   ·exact .inl a
   ·exact .inr ⟨m,b,(gN i' hi' p hp m b).1 c⟩
  ·rintro (a | ⟨m,b,c⟩)
   ·exact .inl a
   ·exact .inr ⟨m,b,(gN i' hi' p hp m b).2 c⟩
 have gx:∀ (m':Nat) (y:aO),(ns.set m x')[m']?=some y→∃ z,ns[m']?=some z∧NFix E.L y∧(∀ l:Nat,96≤l→l<E.L→∀ k,k<8→y.get (l * 8+k)=z.get (l * 8+k))∧∀ c:Nat,c<6→y.get (32+c)=if m'=m∧c=i then (E.J i).seq else z.get (32+c):=λm' y hy=>by
  by_cases e:m=m'
  ·subst e
   rw [List.getElem?_set_self hlt] at hy
   cases hy
   refine ⟨x,hx,hf,hp,λc h6=>?_⟩
   rw [hc c h6]
   by_cases e2:c=i
   ·rw [if_pos e2,if_pos ⟨rfl,e2⟩]
   ·rw [if_neg e2,if_neg λe3=>e2 e3.2]
  ·rw [List.getElem?_set_ne e] at hy
   refine ⟨y,hy,h.fix m' y hy,λ_ _ _ _ _=>rfl,λc _=>?_⟩
   rw [if_neg λe3=>e e3.1.symm]
 have gl:∀ i',E.on i'→∀ p ∈ (E.J i').writes,96≤p.Line.toNat∧p.Line.toNat<E.L:=λi' hi' p hp=>by
  obtain ⟨l,e,h1,h2⟩:=(hE.job i' hi').line p hp
  rw [e,Int.toNat_natCast]
  exact ⟨h1,h2⟩
 have gm:∀ (m':Nat) (y:aO),ns[m']?=some y→m'<E.n:=λm' y hy=>by have:=aP hy;omega
 refine ⟨by simpa using hn,λm' y hy=>?_,λi' hi' p hp m' y hy hw k hk=>?_,λi' hi' p hp y hy hl=>?_,λl h1 h2 m' y hy hno k hk=>?_,λa b ha hb hab p hp p' hp' hl ht=>?_,λi' hi' m' y hy=>?_,λi' hi' p hp hl=>?_,λc h6 hno m' y hy=>?_⟩
 ·obtain ⟨z,_,g,_⟩:=gx m' y hy
  exact g
 ·obtain ⟨z,hz,_,g,_⟩:=gx m' y hy
  obtain ⟨l1,l2⟩:=gl i' hi' p hp
  rw [g _ l1 l2 k hk]
  exact h.new i' hi' p hp m' z hz ((gN i' hi' p hp m' (gm m' z hz)).1 hw) k hk
 ·obtain ⟨z,hz,_,g,_⟩:=gx 0 y hy
  obtain ⟨l1,l2⟩:=gl i' hi' p hp
  obtain ⟨a,b⟩:=h.lock i' hi' p hp z hz ((gL i' hi' p hp).1 hl)
  refine ⟨?_,λk hk1 hk8=>by rw [g _ l1 l2 k hk8];exact b k hk1 hk8⟩
  have:=g _ l1 l2 0 (by omega)
  rw [Nat.add_zero] at this
  rw [this]
  exact a
 ·obtain ⟨z,hz,_,g,_⟩:=gx m' y hy
  rw [g l h1 h2 k hk]
  refine h.free l h1 h2 m' z hz (λi' hi' p hp hpl=>?_) k hk
  obtain ⟨a,b⟩:=hno i' hi' p hp hpl
  exact ⟨λc=>a ((gN i' hi' p hp m' (gm m' z hz)).2 c),λe c=>b e ((gL i' hi' p hp).2 c)⟩
 ·rw [gT b hb p' hp']
  rw [gT a ha p hp] at ht
  exact h.excl a b ha hb hab p hp p' hp' hl ht
 ·obtain ⟨z,hz,_,_,g⟩:=gx m' y hy
  rw [g i' (hE.job i' hi').i6]
  have hck:=h.clock i' hi' m' z hz
  by_cases e:i'=i
  ·subst e
   rw [bV,hK m' (gm m' z hz)]
   by_cases e2:m'=m
   ·rw [if_pos ⟨e2,rfl⟩]
    exact ⟨λ_=>rfl,λhno=>absurd (.inl e2) hno⟩
   ·rw [if_neg λe3=>e2 e3.1]
    exact ⟨λhor=>hck.1 (hor.resolve_left e2),λhno=>hck.2 λhc=>hno (.inr hc)⟩
  ·rw [eF e,if_neg λe3=>e e3.2]
   exact hck
 ·rw [gN i' hi' p hp 0 (by have:=hE.n;omega)]
  exact h.both i' hi' p hp ((gL i' hi' p hp).1 hl)
 ·obtain ⟨z,hz,_,_,g⟩:=gx m' y hy
  rw [g c h6,if_neg λe3=>hno (by rw [e3.2];exact hi)]
  exact h.oth c h6 hno m' z hz
end
end Go.Proofs.YtegepanmkjemjaaGreat
namespace Go.Proofs.YtegepanmkjemjaaGreat
open Go.Eng C12
theorem cA.pl {E:Env} {i:Nat} {j:CJob} (h:cA E i j) {p:aG} (hp:p ∈ j.writes):p.Line=((p.Line.toNat:Nat):Int)∧96≤p.Line.toNat∧p.Line.toNat<E.L:=by
 obtain ⟨l,e,h1,h2⟩:=h.line p hp
 rw [e,Int.toNat_natCast]
 exact ⟨rfl,h1,h2⟩
theorem hU.page {E:Env} {ns:List aO} {S:Nat→CS} {i m:Nat} {s:CS} {x x':aO} (h:hU E ns S) (hE:fE E) (hi:E.on i) {p0:aG} (hp0:p0 ∈ (E.J i).writes) (hx:ns[m]?=some x) (hf:NFix E.L x')
  (hp:∀ l:Nat,96≤l→l<E.L→l≠p0.Line.toNat→∀ k,k<8→x'.get (l * 8+k)=x.get (l * 8+k)) (hc:∀ c:Nat,c<6→x'.get (32+c)=x.get (32+c))
  (hLo:∀ p ∈ (E.J i).writes,p≠p0→(Lk (E.J i) i s p↔Lk (E.J i) i (S i) p)) (hLm:m≠0→(Lk (E.J i) i s p0↔Lk (E.J i) i (S i) p0))
  (hNo:∀ p ∈ (E.J i).writes,∀ m',m'<E.n→(p≠p0∨m'≠m)→(Nw (E.J i) s m' p↔Nw (E.J i) (S i) m' p)) (hK:∀ m,m<E.n→(Ck (E.J i) i s m↔Ck (E.J i) i (S i) m))
  (cN:Nw (E.J i) s m p0→∀ k,k<8→x'.get (p0.Line.toNat * 8+k)=(appL p0).getD k 0)
  (cL:m=0→Lk (E.J i) i s p0→x'.get (p0.Line.toNat * 8)=fC p0.Head i∧∀ k,1≤k→k<8→x'.get (p0.Line.toNat * 8+k)=E.base p0.Line.toNat k)
  (cF:¬ Nw (E.J i) s m p0→(m=0→¬ Lk (E.J i) i s p0)→∀ k,k<8→x'.get (p0.Line.toNat * 8+k)=E.base p0.Line.toNat k)
  (hT:∀ i',E.on i'→i'≠i→∀ p' ∈ (E.J i').writes,p'.Line.toNat=p0.Line.toNat→¬ Tch E.n (E.J i') i' (S i') p') (hB:∀ p ∈ (E.J i).writes,Lk (E.J i) i s p→¬ Nw (E.J i) s 0 p) :
  hU E (ns.set m x') (updS S i s):=by
 have hlt:=aP hx
 have hn:=h.len
 have hn1:=hE.n
 have gu:∀ p ∈ (E.J i).writes,p≠p0→p.Line.toNat≠p0.Line.toNat:=λp hpm hne e=>hne ((hE.job i hi).uniq p hpm p0 hp0 (by
  rw [((hE.job i hi).pl hpm).1,((hE.job i hi).pl hp0).1,e]))
 have gm:∀ (m':Nat) (y:aO),ns[m']?=some y→m'<E.n:=λm' y hy=>by have:=aP hy;omega
 have gx:∀ (m':Nat) (y:aO),(ns.set m x')[m']?=some y→∃ z,ns[m']?=some z∧NFix E.L y∧(m'=m→y=x')∧(m'≠m→y=z)∧(∀ l:Nat,96≤l→l<E.L→(m'≠m∨l≠p0.Line.toNat)→∀ k,k<8→y.get (l * 8+k)=z.get (l * 8+k))∧∀ c:Nat,c<6→y.get (32+c)=z.get (32+c):=λm' y hy=>by
  by_cases e:m=m'
  ·subst e
   rw [List.getElem?_set_self hlt] at hy
   cases hy
   exact ⟨x,hx,hf,λ_=>rfl,λe=>absurd rfl e,λl h1 h2 hor k hk=>hp l h1 h2 (hor.resolve_left λe=>e rfl) k hk,hc⟩
  ·rw [List.getElem?_set_ne e] at hy
   exact ⟨y,hy,h.fix m' y hy,λe2=>absurd e2.symm e,λ_=>rfl,λ_ _ _ _ _ _=>rfl,λ_ _=>rfl⟩
 have go:∀ i',E.on i'→i'≠i→∀ p' ∈ (E.J i').writes,∀ m',m'<E.n→(Nw (E.J i') (S i') m' p'∨Lk (E.J i') i' (S i') p')→p'.Line.toNat≠p0.Line.toNat:=λi' hi' hne p' hp' m' hm' ht e=>by
  refine hT i' hi' hne p' hp' e ?_
  rcases ht with a | a
  ·exact .inr ⟨m',hm',a⟩
  ·exact .inl a
 refine ⟨by simpa using hn,λm' y hy=>?_,λi' hi' p hpm m' y hy hw k hk=>?_,λi' hi' p hpm y hy hl=>?_,λl h1 h2 m' y hy hno k hk=>?_,λa b ha hb hab p hpm p' hpm' hl ht=>?_,λi' hi' m' y hy=>?_,λi' hi' p hpm hl=>?_,λc h6 hno m' y hy=>?_⟩
 ·obtain ⟨z,_,g,_⟩:=gx m' y hy
  exact g
 ·obtain ⟨z,hz,_,ge,gne,g,_⟩:=gx m' y hy
  obtain ⟨_,l1,l2⟩:=(hE.job i' hi').pl hpm
  by_cases e:i'=i
  ·subst e
   rw [bV] at hw
   by_cases e2:p=p0∧m'=m
   ·obtain ⟨rfl,rfl⟩:=e2
    rw [ge rfl]
    exact cN hw k hk
   ·have hor:p≠p0∨m'≠m:=by
     by_cases e3:p=p0
     ·exact .inr λe4=>e2 ⟨e3,e4⟩
     ·exact .inl e3
    rw [g _ l1 l2 (hor.symm.imp id λe3=>gu p hpm e3) k hk]
    exact h.new i' hi' p hpm m' z hz ((hNo p hpm m' (gm m' z hz) hor).1 hw) k hk
  ·rw [eF e] at hw
   rw [g _ l1 l2 (.inr (go i' hi' e p hpm m' (gm m' z hz) (.inl hw))) k hk]
   exact h.new i' hi' p hpm m' z hz hw k hk
 ·obtain ⟨z,hz,_,ge,gne,g,_⟩:=gx 0 y hy
  obtain ⟨_,l1,l2⟩:=(hE.job i' hi').pl hpm
  by_cases e:i'=i
  ·subst e
   rw [bV] at hl
   by_cases e2:p=p0
   ·subst e2
    by_cases e3:0=m
    ·rw [ge e3]
     exact cL e3.symm hl
    ·rw [gne e3]
     exact h.lock i' hi' p hpm z hz ((hLm λe4=>e3 e4.symm).1 hl)
   ·have hl':=(hLo p hpm e2).1 hl
    obtain ⟨a,b⟩:=h.lock i' hi' p hpm z hz hl'
    refine ⟨?_,λk hk1 hk8=>by rw [g _ l1 l2 (.inr (gu p hpm e2)) k hk8];exact b k hk1 hk8⟩
    have:=g _ l1 l2 (.inr (gu p hpm e2)) 0 (by omega)
    rw [Nat.add_zero] at this
    rw [this]
    exact a
  ·rw [eF e] at hl
   have hne:=go i' hi' e p hpm 0 (by omega) (.inr hl)
   obtain ⟨a,b⟩:=h.lock i' hi' p hpm z hz hl
   refine ⟨?_,λk hk1 hk8=>by rw [g _ l1 l2 (.inr hne) k hk8];exact b k hk1 hk8⟩
   have:=g _ l1 l2 (.inr hne) 0 (by omega)
   rw [Nat.add_zero] at this
   rw [this]
   exact a
 ·obtain ⟨z,hz,_,ge,gne,g,_⟩:=gx m' y hy
  by_cases e:m'=m∧l=p0.Line.toNat
  ·obtain ⟨rfl,rfl⟩:=e
   rw [ge rfl]
   have:=hno i hi p0 hp0 rfl
   rw [bV] at this
   exact cF this.1 this.2 k hk
  ·have hor:m'≠m∨l≠p0.Line.toNat:=by
    by_cases e3:m'=m
    ·exact .inr λe4=>e ⟨e3,e4⟩
    ·exact .inl e3
   rw [g l h1 h2 hor k hk]
   refine h.free l h1 h2 m' z hz (λi' hi' p hpm hpl=>?_) k hk
   obtain ⟨a,b⟩:=hno i' hi' p hpm hpl
   by_cases e2:i'=i
   ·subst e2
    rw [bV] at a b
    have hor2:p≠p0∨m'≠m:=by
     rcases hor with e3 | e3
     ·exact .inr e3
     ·exact .inl λe4=>e3 (by rw [←e4];exact hpl.symm)
    refine ⟨λc=>a ((hNo p hpm m' (gm m' z hz) hor2).2 c),λe5 c=>b e5 ?_⟩
    by_cases e4:p=p0
    ·subst e4
     exact (hLm λe6=>hor2.elim (λe7=>e7 rfl) λe7=>e7 (e5.trans e6.symm)).2 c
    ·exact (hLo p hpm e4).2 c
   ·rw [eF e2] at a b
    exact ⟨a,b⟩
 ·
  have gt:∀ p ∈ (E.J i).writes,p≠p0→(Tch E.n (E.J i) i s p↔Tch E.n (E.J i) i (S i) p):=λp hpm hne=>by
   unfold Tch
   rw [hLo p hpm hne]
   constructor
   ·rintro (c | ⟨m,c,d⟩)
    ·exact .inl c
    ·exact .inr ⟨m,c,(hNo p hpm m c (.inl hne)).1 d⟩
   ·rintro (c | ⟨m,c,d⟩)
    ·exact .inl c
    ·exact .inr ⟨m,c,(hNo p hpm m c (.inl hne)).2 d⟩
  by_cases ea:a=i
  ·subst ea
   rw [bV] at ht
   rw [eF (λe=>hab e.symm)]
   by_cases e:p=p0
   ·subst e
    exact hT b hb (λe=>hab e.symm) p' hpm' hl.symm
   ·exact h.excl a b ha hb hab p hpm p' hpm' hl ((gt p hpm e).1 ht)
  ·rw [eF ea] at ht
   by_cases eb:b=i
   ·subst eb
    rw [bV]
    by_cases e:p'=p0
    ·subst e
     exact λ_=>hT a ha hab p hpm hl ht
    ·rw [gt p' hpm' e]
     exact h.excl a b ha hb hab p hpm p' hpm' hl ht
   ·rw [eF eb]
    exact h.excl a b ha hb hab p hpm p' hpm' hl ht
 ·obtain ⟨z,hz,_,_,_,_,g⟩:=gx m' y hy
  rw [g i' (hE.job i' hi').i6]
  by_cases e:i'=i
  ·subst e
   rw [bV,hK m' (gm m' z hz)]
   exact h.clock i' hi' m' z hz
  ·rw [eF e]
   exact h.clock i' hi' m' z hz
 ·by_cases e:i'=i
  ·subst e
   rw [bV] at hl ⊢
   exact hB p hpm hl
  ·rw [eF e] at hl ⊢
   exact h.both i' hi' p hpm hl
 ·obtain ⟨z,hz,_,_,_,_,g⟩:=gx m' y hy
  rw [g c h6]
  exact h.oth c h6 hno m' z hz
end Go.Proofs.YtegepanmkjemjaaGreat
