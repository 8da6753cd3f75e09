import Derived.Test.YtgpmeaicjonenaaGreata34
import Derived.Test.YtgpmeaicjonenaaGreata33
set_option linter.unusedVariables false
namespace Go.Proofs.YtgpmeaicjonenaaGreat
open Go.Eng C12
def bitF (m q:Nat):Bool:=m / 2 ^ q % 2 == 1
def pgF (q:Nat):aG:=⟨96+(q:Int),256,1,2,3,4,5,6,7⟩
def setF (m:Nat):List aG:=((List.range 4).filter (bitF m)).map pgF
def jobF (n m:Nat):CJob:=⟨0,1,100,rg n,[],setF m⟩
def sD:List Int:=[96,97,98,99]
def fetF (n:Nat):FJob:=⟨100,rg n,sD⟩
def envF (n m:Nat):Env:=⟨n,100,Ek,λ_=>0,[0],λ_=>jobF n m,false⟩
def okF (m q:Nat) (ws:List Int):Prop:=ws=[256,0,0,0,0,0,0,0]∨ws=[257,0,0,0,0,0,0,0]∨(q<4∧bitF m q=true∧ws=[512,1,2,3,4,5,6,7])
theorem Fn:((List.range 3).all λn=>(List.range 14).all λm=>(jobF (n+1) (m+1)).valid == 0)=true:=by kernel_rfl
theorem za {n m:Nat} (hn:1≤n∧n≤3) (hm:1≤m∧m≤14):(jobF n m).valid=0:=by
 have h:=Fn
 rw [List.all_eq_true] at h
 have h1:=h (n - 1) (List.mem_range.2 (by omega))
 rw [List.all_eq_true] at h1
 have h2:=h1 (m - 1) (List.mem_range.2 (by omega))
 rw [show n - 1+1=n by omega,show m - 1+1=m by omega] at h2
 simpa using h2
theorem El {m:Nat} (hm:1≤m∧m≤14):setF m≠[]:=by
 have h:((List.range 14).all λm=>!(setF (m+1)).isEmpty)=true:=by kernel_rfl
 rw [List.all_eq_true] at h
 have h1:=h (m - 1) (List.mem_range.2 (by omega))
 rw [show m - 1+1=m by omega] at h1
 intro e
 rw [e] at h1
 cases h1
theorem ry {m:Nat} {p:aG} (h:p ∈ setF m):∃ q,q<4∧bitF m q=true∧p=pgF q:=by
 obtain ⟨q,hq,rfl⟩:=List.mem_map.1 h
 obtain ⟨h1,h2⟩:=List.mem_filter.1 hq
 exact ⟨q,List.mem_range.1 h1,h2,rfl⟩
theorem A8 {n m:Nat} (hn:1≤n∧n≤3) (hm:1≤m∧m≤14):eU (envF n m):=by
 refine ⟨by show 1≤n∧n≤5;omega,by show 98≤100∧100≤256;omega,by show [0].Nodup;simp,λi hi=>?_⟩
 have hi:i=0:=List.mem_singleton.1 hi
 subst hi
 exact cG.of_valid (za hn hm) rfl (by omega) rfl rfl (El hm) (λp hp=>by
  obtain ⟨q,_,_,rfl⟩:=ry hp
  rfl) (λs hs=>by cases hs)
theorem Fo:((List.range 3).all λn=>(fetF (n+1)).valid == 0)=true:=by kernel_rfl
theorem zb {n:Nat} (hn:1≤n∧n≤3):(fetF n).valid=0:=by
 have h:=Fo
 rw [List.all_eq_true] at h
 have h1:=h (n - 1) (List.mem_range.2 (by omega))
 rw [show n - 1+1=n by omega] at h1
 simpa using h1
def vsF:List Verb:=[rdV 768 8,rdV 776 8,rdV 784 8,rdV 792 8]
theorem Fp {n:Nat} (hn:1≤n∧n≤3):fetV (fetF n)=vsF:=by
 obtain rfl | rfl | rfl:n=1∨n=2∨n=3:=by omega
 all_goals rfl
def resF (D:List Done):C16.conv.O:=.inr (0,lg sD D)
theorem oneF {n:Nat} (hn:1≤n∧n≤3):OneB C16.conv n 100 (.inr (fetF n)) vsF resF:=by
 have hv:=zb hn
 have hvs:=Fp hn
 refine ⟨by omega,by omega,⟨.inr (0,[]),?_⟩,λD hD=>?_,by simp [vsF],by simp [vsF],λv hv=>?_⟩
 ·have e:eV (fetF n) []=(vsF,(0,[]),false):=by
   have hb:batch [] vsF=⟨[],false,[],some vsF,false⟩:=rfl
   unfold eV
   rw [if_neg (by rw [hv];simp),hvs,hb]
  show ((eV (fetF n) []).1,Sum.inr (eV (fetF n) []).2.1,(eV (fetF n) []).2.2)=_
  rw [e]
  rfl
 ·have e:eV (fetF n) [D]=([],(0,lg sD D),true):=by
   have hb:batch [D] vsF=⟨D,true,[],none,false⟩:=by
    unfold batch
    rw [if_neg (by simp [vsF])]
    simp only [hD.fitL,if_true]
   unfold eV
   rw [if_neg (by rw [hv];simp),hvs,hb]
   simp only
   rw [if_neg (by simp),if_neg (by rw [hD.codes];simp)]
   rfl
  show ((eV (fetF n) [D]).1,Sum.inr (eV (fetF n) [D]).2.1,(eV (fetF n) [D]).2.2)=_
  rw [e]
  rfl
 ·simp only [vsF,List.mem_cons,List.not_mem_nil,or_false] at hv
  rcases hv with rfl | rfl | rfl | rfl
  all_goals exact ⟨_,_,rfl,by omega,by omega,by omega,by show (_:Int)≤100 * 8;omega⟩
theorem Fq {x:aP} {a:Nat} (h:a+8≤x.words.length):x.read (a:Int) 8=[x.get a,x.get (a+1),x.get (a+2),x.get (a+3),x.get (a+4),x.get (a+5),x.get (a+6),x.get (a+7)]:=by
 unfold aP.read
 rw [show ((a:Int)).toNat=a by omega,show (8:Int).toNat=8 by rfl]
 apply List.ext_getElem?
 intro k
 rw [List.getElem?_take]
 by_cases hk:k<8
 ·rw [if_pos hk,List.getElem?_drop]
  have hs:=aP.get_some (n:=x) (i:=a+k) (by omega)
  rw [hs]
  rcases k with _ | _ | _ | _ | _ | _ | _ | _ | k
  all_goals first | rfl | omega
 ·rw [if_neg hk,List.getElem?_eq_none (by simp;omega)]
theorem Em {n m:Nat} (hn:1≤n∧n≤3) (hm:1≤m∧m≤14) {ns:List aP} {S:Nat→CS} (h:gy (envF n m) ns S) {q:Nat} {a k:Int} (hq:vsF[q]?=some (rdV a k)) {x:aP} (hx:ns[0]?=some x):okF m q (x.read a k):=by
 have hE:=A8 hn hm
 have hon:(envF n m).on 0:=List.mem_singleton_self _
 have hlen:=(h.fix 0 x hx).len
 have hL:(envF n m).L=100:=rfl
 rw [hL] at hlen
 obtain ⟨hq4,rfl,rfl⟩:q<4∧a=((96+q) * 8:Nat)∧k=8:=by
  have hlt:=aN hq
  have hlt:q<4:=hlt
  rcases q with _ | _ | _ | _ | q
  all_goals first | omega | skip
  all_goals
   simp only [vsF,List.getElem?_cons_zero,List.getElem?_cons_succ,Option.some.injEq,rdV,Verb.mk.injEq] at hq
   obtain ⟨_,_,h1,h2,_⟩:=hq
   exact ⟨by omega,by omega,by omega⟩
 rw [Fq (by omega)]
 have hall:∀ i,(envF n m).on i→i=0:=λi hi=>List.mem_singleton.1 hi
 by_cases hN:∃ p ∈ setF m,p.Line.toNat=96+q∧Nw (jobF n m) (S 0) 0 p
 ·obtain ⟨p,hp,hpl,hnw⟩:=hN
  have g:=h.new 0 hon p hp 0 x hx hnw
  obtain ⟨q',_,hb,rfl⟩:=ry hp
  have hqq:q'=q:=by
   have:(96+(q':Int)).toNat=96+q:=hpl
   omega
  subst hqq
  rw [hpl] at g
  right;right
  refine ⟨hq4,hb,?_⟩
  have g0:=g 0 (by omega)
  rw [Nat.add_zero] at g0
  rw [g0,g 1 (by omega),g 2 (by omega),g 3 (by omega),g 4 (by omega),g 5 (by omega),g 6 (by omega),g 7 (by omega)]
  have e:rf 256=512:=by kernel_rfl
  show [rf 256,1,2,3,4,5,6,7]=_
  rw [e]
 ·by_cases hK:∃ p ∈ setF m,p.Line.toNat=96+q∧Lk (jobF n m) 0 (S 0) p
  ·obtain ⟨p,hp,hpl,hlk⟩:=hK
   obtain ⟨g0,g⟩:=h.lock 0 hon p hp x hx hlk
   obtain ⟨q',_,hb,rfl⟩:=ry hp
   rw [hpl] at g0 g
   right;left
   rw [g0,g 1 (by omega) (by omega),g 2 (by omega) (by omega),g 3 (by omega) (by omega),g 4 (by omega) (by omega),g 5 (by omega) (by omega),g 6 (by omega) (by omega),g 7 (by omega) (by omega)]
   have e:eT 256 ((0:Nat):Int)=257:=by kernel_rfl
   show [eT 256 ((0:Nat):Int),0,0,0,0,0,0,0]=_
   rw [e]
  ·have g:=h.free (96+q) (by omega) (by show 96+q<100;omega) 0 x hx λi hi p hp hpl=>by
    have:=hall i hi
    subst this
    exact ⟨λc=>hN ⟨p,hp,hpl,c⟩,λ_ c=>hK ⟨p,hp,hpl,c⟩⟩
   left
   have g0:=g 0 (by omega)
   rw [Nat.add_zero] at g0
   rw [g0,g 1 (by omega),g 2 (by omega),g 3 (by omega),g 4 (by omega),g 5 (by omega),g 6 (by omega),g 7 (by omega)]
   rfl
end Go.Proofs.YtgpmeaicjonenaaGreat
set_option linter.unusedSectionVars false
namespace Go.Proofs.YtgpmeaicjonenaaGreat
open Go.Eng C12
section
variable {j:CJob} (hv:j.valid=0) (hW:j.writes=[])
include hv hW
theorem uI:aX j=j.reads.map (sY j):=by
 unfold aX
 rw [hW]
 rfl
theorem En:fU j=[]:=by
 unfold fU
 have:∀ l:List aE,(l.map (memV j)).flatten=[]:=λl=>by
  induction l with
  |nil=>rfl
  |cons m l ih=>
   rw [List.map_cons,List.flatten_cons,ih,List.append_nil]
   unfold memV
   rw [if_pos hW]
 exact this _
theorem A9 (G:List (List Done)):runM j G=ia (mF j G) λG=>⟨true,[],(0,0),G,none,false⟩:=by
 have hb:∀ G,wX j G=ow G:=λG=>by unfold wX logM;rw [if_pos hW]
 have hm:∀ G,vS j G=ow G:=λG=>by unfold vS logM;rw [if_pos hW]
 have hk:∀ G,mE j G=ow G:=λG=>by unfold mE;rw [En hv hW,nD];rfl
 have hf:∀ G,finM j G=ow G:=λG=>by unfold finM;rw [if_pos hW]
 unfold runM pV
 rw [runL]
 unfold ia
 rw [hb]
 simp only [ow,if_true]
 rw [runL]
 unfold ia
 congr 1
 rw [runL]
 unfold ia
 rw [hm]
 simp only [ow,if_true]
 rw [runL]
 unfold ia
 rw [hk]
 simp only [ow,if_true]
 rw [runL]
 unfold ia
 rw [hf]
 simp only [ow,if_true]
 rfl
theorem Cz (hr:j.reads≠[]):bZ j []=(aX j,(0,0),false):=by
 have hl:aX j≠[]:=by rw [uI hv hW];simpa using hr
 have e:runM j []=⟨false,[],(0,0),[],some (aX j),false⟩:=by
  rw [A9 hv hW]
  unfold ia mF
  rw [hH hl]
  rfl
 unfold bZ
 rw [if_neg (by rw [hv];simp),e]
theorem CA (hr:j.reads≠[]) {D:List Done} (hD:Fit (aX j) D) (hc:eM (dR j) D=false):bZ j [D]=([],(0,3),true):=by
 have hl:aX j≠[]:=by rw [uI hv hW];simpa using hr
 have e:runM j [D]=⟨true,[],(0,0),[],none,false⟩:=by
  rw [A9 hv hW]
  unfold ia mF
  rw [fV [] hl hD]
  simp only [hc,if_true]
  rfl
 unfold bZ
 rw [if_neg (by rw [hv];simp),e]
 rfl
end
end Go.Proofs.YtgpmeaicjonenaaGreat
namespace Go.Proofs.YtgpmeaicjonenaaGreat
open Go.Eng C12
structure One {cv:Conv} (n L i:Nat) (ns:List aP) (job:cv.J) (vs:List Verb) (res:List Done→cv.O) (ok:Nat→List Int→Prop) (F:Fab) (t:Tk cv) (ph:Nat) (dn:Nat→Option Done):Prop where
 fine:Fine F
 lines:F.lines=L
 nodes:F.nodes=ns
 orph:F.orphans=[]
 rest:∀ (k:Nat) (C:Comp),k≠i→F.clients[k]?=some C→hO C
 one:∃ C,F.clients[i]?=some C∧OneC n i job vs res ok C t ph dn
section
variable {cv:Conv} {n L i:Nat} {ns:List aP} {job:cv.J} {vs:List Verb} {res:List Done→cv.O} {ok:Nat→List Int→Prop}
theorem One.turn (hj:OneB cv n L job vs res) (hn:ns.length=n) {F:Fab} {t:Tk cv} {ph:Nat} {dn:Nat→Option Done} (h:One n L i ns job vs res ok F t ph dn) :
  ∃ F' t' ph' dn',turn F t=(F',t')∧One n L i ns job vs res ok F' t' ph' dn'∧eK F' i+rk1 ph'≤eK F i+rk1 ph∧(ph'=2∨∃ C,F'.clients[i]?=some C∧¬ hO C)∧(ph=2→ph'=2)∧ph'≠0:=by
 obtain ⟨C,hC,hc⟩:=h.one
 obtain ⟨C',t',ph',dn',q1,q2,q3,q4,q5,q6⟩:=yb hj h.fine (by rw [h.nodes];exact hn) h.lines hC hc
 have hf:=h.fine.turn t
 rw [q1] at hf
 have hself:(putC F i C').clients[i]?=some C':=List.getElem?_set_self (aN hC)
 refine ⟨putC F i C',t',ph',dn',q1,⟨hf,h.lines,h.nodes,h.orph,λk C2 hk hC2=>?_,C',hself,q2⟩,?_,?_,λe=>(q5 e).1,q6⟩
 ·have e:(putC F i C').clients[k]?=F.clients[k]?:=List.getElem?_set_ne λe=>hk e.symm
  rw [e] at hC2
  exact h.rest k C2 hk hC2
 ·unfold eK
  rw [hself,hC]
  exact q3
 ·rcases q4 with e | e
  ·exact .inl e
  ·exact .inr ⟨C',hself,e⟩
theorem Dd (hj:OneB cv n L job vs res) (hi:i<6) (hn:ns.length=n) (hfix:∀ (m:Nat) (x:aP),ns[m]?=some x→NFix L x) (hok:∀ (q:Nat) (a k:Int),vs[q]?=some (rdV a k)→∀ x,ns[0]?=some x→ok q (x.read a k)) (cs sch:List Int) :
  ∀ (f k:Nat) {F:Fab} {t:Tk cv} {ph:Nat} {dn:Nat→Option Done},One n L i ns job vs res ok F t ph dn→eK F i+rk1 ph<f→∃ F' t' dn',driveGo cs sch [] f k F [t]=(F',[t'])∧One n L i ns job vs res ok F' t' 2 dn'
 | 0,k,F,t,ph,dn,h,hw=>by omega
 |f+1,k,F,t,ph,dn,h,hw=>by
  obtain ⟨F1,t1,ph1,dn1,e1,g1,g2,g3,g4,g5⟩:=h.turn hj hn
  have htn:turns F [t]=(F1,[t1]):=by
   have:turns F [t]=((turn F t).1,[(turn F t).2]):=rfl
   rw [this,e1]
  unfold driveGo
  have hh:happens F cs k []=F:=rfl
  rw [hh,htn]
  simp only
  obtain ⟨C,hC,hc⟩:=g1.one
  rcases wg g1.fine g1.orph sch k with ⟨e,hq⟩ | ⟨i',m,F',hs,e⟩
  ·rw [e,if_neg (by simp)]
   have h2:ph1=2:=by
    rcases g3 with g3 | ⟨C,hC,hnq⟩
    ·exact g3
    ·exact absurd (hq i C hC) hnq
   subst h2
   exact ⟨F1,t1,dn1,rfl,g1⟩
  ·rw [e,if_pos rfl]
   have hii:i=i':=by
    obtain ⟨C2,l,x,hC2,hl,_,hv,_⟩:=fC.1 hs
    by_cases e2:i'=i
    ·exact e2.symm
    ·exact absurd (by rw [g1.rest i' C2 e2 hC2 m l hl];rfl) hv
   subst hii
   obtain ⟨z1,z2,z3,z4,C',dn',z5,z6,z7⟩:=ya hj hi g1.fine (λm x hx=>hfix m x (by rw [←g1.nodes];exact hx)) (λq a k hq x hx=>hok q a k hq x (by rw [←g1.nodes];exact hx)) hC hc hs
   subst z1
   have hself:F'.clients[i]?=some C':=by rw [z5];exact List.getElem?_set_self (aN hC)
   have hT:One n L i ns job vs res ok F' t1 1 dn':=⟨g1.fine.stepL hs,z3.trans g1.lines,z2.trans g1.nodes,z4.trans g1.orph,λk C2 hk hC2=>by
    have e3:F'.clients[k]?=F1.clients[k]?:=by rw [z5];exact List.getElem?_set_ne λe=>hk e.symm
    rw [e3] at hC2
    exact g1.rest k C2 hk hC2,C',hself,z6⟩
   have hlt:eK F' i+rk1 1<eK F1 i+rk1 1:=by
    unfold eK
    rw [hself,hC]
    simp only
    omega
   exact Dd hj hi hn hfix hok cs sch f (k+1) hT (show eK F' i+rk1 1<f by omega)
theorem wm (hj:OneB cv n L job vs res) (hi:i<6) (hn:ns.length=n) (hfix:∀ (m:Nat) (x:aP),ns[m]?=some x→NFix L x) (hok:∀ (q:Nat) (a k:Int),vs[q]?=some (rdV a k)→∀ x,ns[0]?=some x→ok q (x.read a k)) (sch:List Int)
  {F:Fab} {t:Tk cv} {ph:Nat} {dn:Nat→Option Done} (h:One n L i ns job vs res ok F t ph dn) {most:Nat} (hw:eK F i+rk1 ph<most):∃ F' t' dn',drive F [t] sch [] most=(F',[t'])∧One n L i ns job vs res ok F' t' 2 dn':=by
 unfold drive
 obtain ⟨F1,t1,dn1,e1,g1⟩:=Dd hj hi hn hfix hok ([t].map Tk.client) sch most 0 h hw
 rw [e1]
 simp only
 obtain ⟨F2,t2,ph2,dn2,e2,g2,_,_,g4,_⟩:=g1.turn hj hn
 have:=g4 rfl
 subst this
 have htn:turns F1 [t1]=(F2,[t2]):=by
  have:turns F1 [t1]=((turn F1 t1).1,[(turn F1 t1).2]):=rfl
  rw [this,e2]
 exact ⟨F2,t2,dn2,htn,g2⟩
end
structure EndF (n m:Nat) (F:Fab):Prop where
 fine:Fine F
 lines:F.lines=100
 len:F.nodes.length=n
 fix:∀ (k:Nat) (x:aP),F.nodes[k]?=some x→NFix 100 x
 head:∀ q,q<4→∀ x,F.nodes[0]?=some x→x.get ((96+q) * 8)=if bitF m q then 512 else 256
 orph:F.orphans=[]
 two:F.clients.length=2
 idle0:∀ C,F.clients[0]?=some C→hO C
 idle1:∃ C,F.clients[1]?=some C∧Cu n C
def t0F (n m:Nat):Tk conv:=⟨0,jobF n m,[],false,false,(0,0)⟩
def t1F (n:Nat):Tk C16.conv:=⟨1,.inr (fetF n),[],false,false,.inr (0,[])⟩
theorem newF {n m q:Nat} (hq:q<4) {dn:Nat→Bool} (hd:dn 0=true):uH (envF n m) dn (96+q) 0=if bitF m q then 512 else 256:=by
 have e:rf 256=512:=by kernel_rfl
 have hw:xh (envF n m) dn (96+q)=if bitF m q then some (pgF q) else none:=by
  unfold xh
  have:(envF n m).ids.filter dn=[0]:=by
   show [0].filter dn=[0]
   simp [hd]
  rw [this]
  show List.findSome? (λi=>(setF m).find? λp=>p.Line.toNat == 96+q) [0]=_
  simp only [List.findSome?_cons,List.findSome?_nil]
  have hf:(setF m).find? (λp=>p.Line.toNat == 96+q)=if bitF m q then some (pgF q) else none:=by
   unfold setF
   rw [List.find?_map]
   have hl:List.range 4=[0,1,2,3]:=rfl
   rw [hl]
   obtain rfl | rfl | rfl | rfl:q=0∨q=1∨q=2∨q=3:=by omega
   all_goals
    cases h0:bitF m 0<;>cases h1:bitF m 1<;>cases h2:bitF m 2<;>cases h3:bitF m 3<;>simp only [List.filter_cons,List.filter_nil,h0,h1,h2,h3,if_true,if_false,Bool.false_eq_true]<;>rfl
  rw [hf]
  cases bitF m q<;>rfl
 unfold uH
 rw [hw]
 cases bitF m q
 ·rfl
 ·show (appL (pgF q)).getD 0 0=512
  exact e
theorem CB {n m:Nat} (hn:1≤n∧n≤3) (hm:1≤m∧m≤14) (sch:List Int) :
  ∃ F' u0 u1,drive (Fab.fresh n 2 100) [C16.up (t0F n m),t1F n] sch [] 3000=(F',[u0,u1])∧u0.out=.inl (0,3)∧u1.over=true∧EndF n m F'∧∃ D,u1.out=resF D∧D.length=4∧∀ (q:Nat) (d:Done),D[q]?=some d→okF m q d.words:=by
 have hE:=A8 hn hm
 have hst:=sC (n:=n) (L:=100) (by omega) (by omega) (xj (by omega))
 have hinv:Inv (envF n m) (Fab.fresh n 6 100) [t0F n m] st8:=xg.start hE hst rfl (λk i hk=>by
  have hk0:k=0:=by have:=aN hk;have:k<1:=this;omega
  subst hk0
  cases hk
  exact ⟨t0F n m,rfl,rfl,rfl,rfl,rfl,rfl⟩) (λe=>by cases e)
 have hmsk:Msk 0 (Fab.fresh n 2 100) (Fab.fresh n 6 100):=⟨rfl,rfl,rfl,by simp [Fab.fresh],⟨gI n 0,rfl,rfl⟩,λi C hi hC=>by
  have hlt:=aN hC
  have hlt:i<6:=by simpa [Fab.fresh] using hlt
  have e:(Fab.fresh n 6 100).clients[i]?=some (gI n i):=by simp [Fab.fresh,hlt]
  rw [e] at hC
  cases hC
  simp [Fab.fresh]⟩
 have hb:=@p5 n 1
 have hone:OneC n 1 (Sum.inr (fetF n):C16.conv.J) vsF resF (okF m) (gI n 1) (t1F n) 0 noD:=⟨rfl,rfl,rfl,hb.inc,hb.live,hb.lanes,hb.dry,λ_=>⟨rfl,rfl,hb.batch,hb.quiet⟩,(λe=>by cases e),(λe=>by cases e),by omega⟩
 have htwo:Two (envF n m) (Sum.inr (fetF n)) vsF resF (okF m) (Fab.fresh n 2 100) (t1F n) (Fab.fresh n 6 100) (t0F n m) st8 0 noD:=⟨Fine.fresh (by omega) (by omega) (by omega),hmsk,hinv,by simp [Fab.fresh],rfl,gI n 1,rfl,hone⟩
 have hw:wt2 (Fab.fresh n 2 100) (Fab.fresh n 6 100) st8 0<3000:=by
  have p0:eK (Fab.fresh n 6 100) 0=0:=kJ (@p5 n 0).quiet
  have p1:eK (Fab.fresh n 2 100) 1=0:=kJ (@p5 n 1).quiet
  unfold wt2
  rw [p0,p1]
  show 0+rk 8+(0+rk1 0)<3000
  decide
 obtain ⟨F',u1,G',t',S',dn',hd,hT,h6⟩:=A5 hE rfl (oneF hn) (λns S hM q a k hq x hx=>Em hn hm hM hq hx) sch htwo ⟨by show (8:Nat)≠5;omega,by show (8:Nat)≠7;omega,λe=>by cases e⟩ hw
 have hon:(envF n m).on 0:=List.mem_singleton_self _
 have hall:∀ i,(envF n m).on i→i=0:=λi hi=>List.mem_singleton.1 hi
 have hr:=Inv.round hE (r:=(G',[t'])) hT.inv (λi hi=>by rw [hall i hi];exact .inl h6) (λi hi=>by
  have:i=0:=by have hi:[0]=[i]:=hi;cases hi;rfl
  rw [this];exact h6)
 obtain ⟨u,hu,hleft⟩:=hr.left 0 0 rfl
 cases hu
 obtain ⟨C1,hC1,hc1⟩:=hT.one
 obtain ⟨hov,hbn,hq1,D,hout,hfit,hD⟩:=hc1.p2 rfl
 have hst':=hr.still
 have hnodes:=hT.msk.nodes
 refine ⟨F',C16.up t',u1,hd,?_,hov,⟨hT.fine,?_,?_,λk x hx=>?_,λq hq x hx=>?_,hT.orph,hT.two,λC hC=>?_,C1,hC1,⟨hbn,hq1,hc1.inc,hc1.live,hc1.lanes,hc1.dry⟩⟩,D,hout,?_,hD⟩
 ·show Sum.inl t'.out=_
  rw [hleft.out,if_pos (by show ((S' 0).ph == 6)=true;rw [h6];rfl)]
  rfl
 ·rw [←hT.msk.lines]
  exact hst'.lines
 ·rw [←hnodes]
  exact hst'.len
 ·rw [←hnodes] at hx
  exact hst'.fix k x hx
 ·rw [←hnodes] at hx
  have:=hst'.heap (96+q) (by omega) (by show 96+q<100;omega) 0 x hx 0 (by omega)
  rw [Nat.add_zero] at this
  rw [this]
  exact newF hq (by show ((S' 0).ph == 6)=true;rw [h6];rfl)
 ·obtain ⟨C2,h1,h2⟩:=hT.msk.here
  rw [hC] at h1
  cases h1
  exact (hst'.cli 0 C h2).quiet
 ·rw [hfit.len];rfl
end Go.Proofs.YtgpmeaicjonenaaGreat
namespace Go.Proofs.YtgpmeaicjonenaaGreat
open Go.Eng C12
theorem Ba {j:CJob} (hv:j.valid=0) (hW:j.writes=[]) (hr:j.reads≠[]) {D:List Done} (hD:Fit (aX j) D) (hc:eM (dR j) D=true):bZ j [D]=([],(7,1),true):=by
 have hl:aX j≠[]:=by rw [uI hv hW];simpa using hr
 have hu:∀ (vs:List Verb) (xs:List Int) (ds:List Done),(∀ v ∈ vs,v.kind≠3)→eO vs xs ds=[]:=λvs=>by
  induction vs with
  |nil=>intro xs ds _;simp [eO]
  |cons v vs ih=>
   intro xs ds h
   cases xs with
   |nil=>simp [eO]
   |cons x xs=>
    cases ds with
    |nil=>simp [eO]
    |cons d ds=>
     unfold eO
     rw [if_neg (λe=>h v List.mem_cons_self e.2),ih xs ds λu hu=>h u (List.mem_cons_of_mem _ hu)]
     rfl
 have hu:=hu (aX j) (dR j) D λv hv2=>by
  rw [uI hv hW] at hv2
  obtain ⟨s,_,rfl⟩:=List.mem_map.1 hv2
  show (1:Int)≠3
  decide
 have e:runM j [D]=⟨false,[],(7,1),[],none,false⟩:=by
  rw [A9 hv hW]
  unfold ia mF
  rw [fV [] hl hD]
  simp only [hc,hu,nD]
  rfl
 unfold bZ
 rw [if_neg (by rw [hv];simp),e]
 rfl
def hdB (b:Bool):Int:=if b then 512 else 256
def chkG (n:Nat) (a b c d:Bool):CJob:=⟨1,1,100,rg n,[⟨96,hdB a⟩,⟨97,hdB b⟩,⟨98,hdB c⟩,⟨99,hdB d⟩],[]⟩
def vsC:List Verb:=[rdV 768 1,rdV 776 1,rdV 784 1,rdV 792 1]
def resC (a b c d:Bool) (D:List Done):C16.conv.O:=.inl (if eM [hdB a,hdB b,hdB c,hdB d] D=true then (7,1) else (0,3))
theorem zc {n:Nat} (hn:1≤n∧n≤3) (a b c d:Bool):(chkG n a b c d).valid=0:=by
 obtain rfl | rfl | rfl:n=1∨n=2∨n=3:=by omega
 all_goals cases a<;>cases b<;>cases c<;>cases d<;>kernel_rfl
theorem oneC {n:Nat} (hn:1≤n∧n≤3) (a b c d:Bool):OneB C16.conv n 100 (.inl (chkG n a b c d)) vsC (resC a b c d):=by
 have hv:=zc hn a b c d
 have hvs:aX (chkG n a b c d)=vsC:=by
  obtain rfl | rfl | rfl:n=1∨n=2∨n=3:=by omega
  all_goals rfl
 refine ⟨by omega,by omega,⟨.inl (0,0),?_⟩,λD hD=>?_,by simp [vsC],by simp [vsC],λv hv=>?_⟩
 ·have e:=Cz hv rfl (by simp [chkG])
  rw [hvs] at e
  show ((bZ (chkG n a b c d) []).1,Sum.inl (bZ (chkG n a b c d) []).2.1,(bZ (chkG n a b c d) []).2.2)=_
  rw [e]
  rfl
 ·show ((bZ (chkG n a b c d) [D]).1,Sum.inl (bZ (chkG n a b c d) [D]).2.1,(bZ (chkG n a b c d) [D]).2.2)=_
  have hw:dR (chkG n a b c d)=[hdB a,hdB b,hdB c,hdB d]:=rfl
  unfold resC
  cases hc:eM [hdB a,hdB b,hdB c,hdB d] D with
  |true=>
   rw [Ba hv rfl (by simp [chkG]) (by rw [hvs];exact hD) (by rw [hw];exact hc)]
   rfl
  |false=>
   rw [CA hv rfl (by simp [chkG]) (by rw [hvs];exact hD) (by rw [hw];exact hc)]
   rfl
 ·simp only [vsC,List.mem_cons,List.not_mem_nil,or_false] at hv
  rcases hv with rfl | rfl | rfl | rfl
  all_goals exact ⟨_,_,rfl,by omega,by omega,by omega,by show (_:Int)≤100 * 8;omega⟩
theorem CC {n m:Nat} (hn:1≤n∧n≤3) {F:Fab} (h:EndF n m F) (a b c d:Bool) :
  ∃ F' u,alone F (⟨1,.inl (chkG n a b c d),[],false,false,.inl (0,0)⟩:Tk C16.conv)=(F',[u])∧u.out=.inl (if a=bitF m 0∧b=bitF m 1∧c=bitF m 2∧d=bitF m 3 then (0,3) else (7,1)):=by
 obtain ⟨C1,hC1,hi1⟩:=h.idle1
 have hok:∀ (q:Nat) (x k:Int),vsC[q]?=some (rdV x k)→∀ y,F.nodes[0]?=some y→(y.read x k)=[hdB (bitF m q)]:=λq x k hq y hy=>by
  have hl:=(h.fix 0 y hy).len
  obtain ⟨hq4,rfl,rfl⟩:q<4∧x=((96+q) * 8:Nat)∧k=1:=by
   have hlt:=aN hq
   have hlt:q<4:=hlt
   rcases q with _ | _ | _ | _ | q
   all_goals first | omega | skip
   all_goals
    simp only [vsC,List.getElem?_cons_zero,List.getElem?_cons_succ,Option.some.injEq,rdV,Verb.mk.injEq] at hq
    obtain ⟨_,_,h1,h2,_⟩:=hq
    exact ⟨by omega,by omega,by omega⟩
  rw [xP (by omega),h.head q hq4 y hy]
  rfl
 have hone:One n 100 1 F.nodes (Sum.inl (chkG n a b c d):C16.conv.J) vsC (resC a b c d) (λq ws=>ws=[hdB (bitF m q)]) F (⟨1,.inl (chkG n a b c d),[],false,false,.inl (0,0)⟩:Tk C16.conv) 0 noD:=by
  refine ⟨h.fine,h.lines,rfl,h.orph,λk C hk hC=>?_,C1,hC1,rfl,rfl,rfl,hi1.inc,hi1.live,hi1.lanes,hi1.dry,λ_=>⟨rfl,rfl,hi1.batch,hi1.quiet⟩,(λe=>by cases e),(λe=>by cases e),by omega⟩
  have:=aN hC
  rw [h.two] at this
  have:k=0:=by omega
  subst this
  exact h.idle0 C hC
 have hw:eK F 1+rk1 0<20000:=by
  have:eK F 1=0:=by unfold eK;rw [hC1];exact kJ hi1.quiet
  rw [this]
  decide
 obtain ⟨F',u,dn',e,g⟩:=wm (oneC hn a b c d) (by omega) h.len h.fix hok [] hone hw
 obtain ⟨C,hC,hc⟩:=g.one
 obtain ⟨_,_,_,D,hout,hfit,hD⟩:=hc.p2 rfl
 refine ⟨F',u,e,?_⟩
 rw [hout]
 have hl:D.length=4:=hfit.len
 obtain ⟨d0,d1,d2,d3,rfl⟩:∃ d0 d1 d2 d3,D=[d0,d1,d2,d3]:=by
  match D,hl with
  | [d0,d1,d2,d3],_=>exact ⟨d0,d1,d2,d3,rfl⟩
 have w0:eA d0=hdB (bitF m 0):=by unfold eA;rw [hD 0 d0 rfl];rfl
 have w1:eA d1=hdB (bitF m 1):=by unfold eA;rw [hD 1 d1 rfl];rfl
 have w2:eA d2=hdB (bitF m 2):=by unfold eA;rw [hD 2 d2 rfl];rfl
 have w3:eA d3=hdB (bitF m 3):=by unfold eA;rw [hD 3 d3 rfl];rfl
 unfold resC
 simp only [eM,w0,w1,w2,w3]
 congr 1
 generalize bitF m 0=b0
 generalize bitF m 1=b1
 generalize bitF m 2=b2
 generalize bitF m 3=b3
 cases a<;>cases b<;>cases c<;>cases d<;>cases b0<;>cases b1<;>cases b2<;>cases b3<;>rfl
def fetA:FJob:=⟨98,rg 1,[96]⟩
def t0A:Tk C16.conv:=⟨0,.inr fetA,[],false,false,.inr (0,[])⟩
def resA (D:List Done):C16.conv.O:=.inr (0,lg [96] D)
theorem oneA:OneB C16.conv 1 98 (.inr fetA) [rdV 768 8] resA:=by
 have hv:fetA.valid=0:=by kernel_rfl
 have hvs:fetV fetA=[rdV 768 8]:=rfl
 refine ⟨by omega,by omega,⟨.inr (0,[]),?_⟩,λD hD=>?_,by simp,by simp,λv hv=>?_⟩
 ·have e:eV fetA []=([rdV 768 8],(0,[]),false):=by
   have hb:batch [] [rdV 768 8]=⟨[],false,[],some [rdV 768 8],false⟩:=rfl
   unfold eV
   rw [if_neg (by rw [hv];simp),hvs,hb]
  show ((eV fetA []).1,Sum.inr (eV fetA []).2.1,(eV fetA []).2.2)=_
  rw [e]
  rfl
 ·have e:eV fetA [D]=([],(0,lg [96] D),true):=by
   have hb:batch [D] [rdV 768 8]=⟨D,true,[],none,false⟩:=by
    unfold batch
    rw [if_neg (by simp)]
    simp only [hD.fitL,if_true]
   unfold eV
   rw [if_neg (by rw [hv];simp),hvs,hb]
   simp only
   rw [if_neg (by simp),if_neg (by rw [hD.codes];simp)]
   rfl
  show ((eV fetA [D]).1,Sum.inr (eV fetA [D]).2.1,(eV fetA [D]).2.2)=_
  rw [e]
  rfl
 ·rw [List.mem_singleton.1 hv]
  exact ⟨_,_,rfl,by omega,by omega,by omega,by show (_:Int)≤98 * 8;omega⟩
theorem CD:∃ F' u,alone (Fab.fresh 1 1 98) t0A=(F',[u])∧u.over=true∧u.out=.inr (0,[⟨96,256,0,0,0,0,0,0,0⟩]):=by
 have hst:=sC (n:=1) (L:=98) (by omega) (by omega) (by kernel_rfl)
 have hb:=@p5 1 0
 have hnod:(Fab.fresh 1 1 98).nodes=(Fab.fresh 1 6 98).nodes:=rfl
 have hok:∀ (q:Nat) (x k:Int),[rdV 768 8][q]?=some (rdV x k)→∀ y,(Fab.fresh 1 1 98).nodes[0]?=some y→(y.read x k)=[256,0,0,0,0,0,0,0]:=λq x k hq y hy=>by
  have hlt:=aN hq
  have hlt:q<1:=hlt
  have:q=0:=by omega
  subst this
  simp only [List.getElem?_cons_zero,Option.some.injEq,rdV,Verb.mk.injEq] at hq
  obtain ⟨_,_,rfl,rfl,_⟩:=hq
  have g:=hst.heap 96 (by omega) (by omega) 0 y hy
  have g0:=g 0 (by omega)
  have hl:=(hst.fix 0 y hy).len
  have h8:=Fq (x:=y) (a:=768) (by omega)
  rw [Nat.add_zero] at g0
  refine (show y.read 768 8=_ from h8).trans ?_
  rw [show y.get 768=_ from g0,show y.get (768+1)=_ from g 1 (by omega),show y.get (768+2)=_ from g 2 (by omega),show y.get (768+3)=_ from g 3 (by omega),show y.get (768+4)=_ from g 4 (by omega),show y.get (768+5)=_ from g 5 (by omega),show y.get (768+6)=_ from g 6 (by omega),show y.get (768+7)=_ from g 7 (by omega)]
  rfl
 have hone:One 1 98 0 (Fab.fresh 1 1 98).nodes (Sum.inr fetA:C16.conv.J) [rdV 768 8] resA (λq ws=>ws=[256,0,0,0,0,0,0,0]) (Fab.fresh 1 1 98) t0A 0 noD:=by
  refine ⟨Fine.fresh (by omega) (by omega) (by omega),rfl,rfl,rfl,λk C hk hC=>?_,gI 1 0,rfl,rfl,rfl,rfl,hb.inc,hb.live,hb.lanes,hb.dry,λ_=>⟨rfl,rfl,hb.batch,hb.quiet⟩,(λe=>by cases e),(λe=>by cases e),by omega⟩
  have:=aN hC
  have:k<1:=this
  omega
 have hw:eK (Fab.fresh 1 1 98) 0+rk1 0<20000:=by
  have:eK (Fab.fresh 1 1 98) 0=0:=kJ hb.quiet
  rw [this]
  decide
 have hfix:∀ (m:Nat) (x:aP),(Fab.fresh 1 1 98).nodes[m]?=some x→NFix 98 x:=λk x hx=>hst.fix k x hx
 obtain ⟨F',u,dn',e,g⟩:=wm oneA (by omega) rfl hfix hok [] hone hw
 obtain ⟨C,hC,hc⟩:=g.one
 obtain ⟨hov,_,_,D,hout,hfit,hD⟩:=hc.p2 rfl
 refine ⟨F',u,e,hov,?_⟩
 rw [hout]
 have hl:D.length=1:=hfit.len
 obtain ⟨d0,rfl⟩:∃ d0,D=[d0]:=List.length_eq_one_iff.1 hl
 have:=hD 0 d0 rfl
 show Sum.inr ((0:Int),[pgW 96 d0.words])=_
 rw [this]
 rfl
end Go.Proofs.YtgpmeaicjonenaaGreat
