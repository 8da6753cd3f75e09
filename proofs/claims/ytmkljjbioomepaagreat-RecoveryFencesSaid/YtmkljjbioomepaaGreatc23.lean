import Derived.Test.YtmkljjbioomepaaGreatc22
import Derived.Test.YtmkljjbioomepaaGreatc21
set_option linter.all false
namespace Go.Proofs.YtmkljjbioomepaaGreat
open Go.Proofs.Tryz Go.br
section
structure Conv where
 a1:Type
 O:Type
 next:a1->List (List aL)->List aP×O×Bool
structure b9 (c:Conv) where
 a3:Int
 bN:c.a1
 a7:List (List aL)
 eK:Bool
 bad:Bool
 out:c.O
section
variable {c:Conv}
def b9.told (t:b9 c):b9 c:={ t with eK:=(c.next t.bN t.a7).2.2,out:=(c.next t.bN t.a7).2.1 }
def b9.zJ (t:b9 c):Option (List aL)->b9 c
 |none=>t
 |some d=>{ t with a7:=t.a7++[d] }
def b9.fail (t:b9 c):b9 c:={ t with eK:=true,bad:=true }
def kH (F:aM) (t:b9 c):aM×b9 c:=
 if 200<t.a7.length then (F,t.fail) else if (c.next t.bN t.a7).2.2=true then (F,t.told)
 else if (F.post t.a3 (c.next t.bN t.a7).1).1≠0 then ((F.post t.a3 (c.next t.bN t.a7).1).2,t.told.fail) else ((F.post t.a3 (c.next t.bN t.a7).1).2,t.told)
def cV (F:aM) (t:b9 c):aM×b9 c:=
 if t.eK=true\/F.alive t.a3=false\/0<F.waiting t.a3 then (F,t) else kH (F.take t.a3).2 (t.zJ (F.take t.a3).1)
def turns:aM->List (b9 c)->aM×List (b9 c)
 |F,[]=>(F,[])
 |F,t::ts=>((turns (cV F t).1 ts).1,(cV F t).2::(turns (cV F t).1 ts).2)
def kn (F:aM) (cs:bb) (n:Nat):List j1->aM
 | []=>F
 |e::es=>kn (if e.at_ % 60=n then F.t' cs e else F) cs n es
def hl (cs sch:bb) (es:List j1):Nat->Nat->aM->List (b9 c)->aM×List (b9 c)
 | 0,_,F,l=>(F,l)
 |f+1,n,F,l=>
  if (hc (turns (kn F cs n es) l).1 sch n).1=true then hl cs sch es f (n+1) (hc (turns (kn F cs n es) l).1 sch n).2 (turns (kn F cs n es) l).2
  else ((hc (turns (kn F cs n es) l).1 sch n).2,(turns (kn F cs n es) l).2)
def eX (F:aM) (l:List (b9 c)) (sch:bb) (es:List j1) (most:Nat):aM×List (b9 c):=
 turns (hl (l.map b9.a3) sch es most 0 F l).1 (hl (l.map b9.a3) sch es most 0 F l).2
def mO (F:aM) (t:b9 c):aM×List (b9 c):=eX F [t] [] [] 20000
theorem cp.tail {F:aM} (h:cp F) (t:b9 c):cp (kH F t).1:=by
 unfold kH;split
 ·exact h
 ·split
  ·exact h
  ·split
   ·exact h.post _ _
   ·exact h.post _ _
theorem cp.cV {F:aM} (h:cp F) (t:b9 c):cp (cV F t).1:=by
 unfold Go.Proofs.YtmkljjbioomepaaGreat.cV;split
 ·exact h
 ·exact (h.take _).tail _
theorem cp.turns:∀ (l:List (b9 c)) {F:aM},cp F->cp (turns F l).1
 | [],_,h=>h
 |t::l,F,h=>by unfold Go.Proofs.YtmkljjbioomepaaGreat.turns;exact cp.turns l (h.cV t)
theorem cp.kn {cs:bb} {n:Nat}:∀ (es:List j1) {F:aM},cp F->cp (kn F cs n es)
 | [],F,h=>h
 |e::es,F,h=>by
  unfold Go.Proofs.YtmkljjbioomepaaGreat.kn;refine cp.kn es ?_;split
  ·exact h.t' cs e
  ·exact h
theorem cp.hl (cs sch:bb) (es:List j1):∀ (f n:Nat) {F:aM} (l:List (b9 c)),cp F->cp (hl cs sch es f n F l).1
 | 0,_,_,_,h=>h
 |f+1,n,F,l,h=>by
  unfold Go.Proofs.YtmkljjbioomepaaGreat.hl;have a:=(cp.turns l (cp.kn (cs:=cs) (n:=n) es h)).hc sch n;split
  ·exact cp.hl cs sch es f (n+1) _ a
  ·exact a
theorem cp.eX {F:aM} (h:cp F) (l:List (b9 c)) (sch:bb) (es:List j1) (most:Nat):cp (eX F l sch es most).1:=cp.turns _ (cp.hl _ _ _ _ _ _ h)
def lU (t:b9 c):Prop:=t.eK=false->t.a7.length<=200
theorem IC {F:aM} {t:b9 c}:lU (kH F t).2:=by
 unfold kH;split
 ·intro e;cases e
 ·rename_i a;split
  ·intro _;show t.a7.length<=200;omega
  ·split
   ·intro e;cases e
   ·intro _;show t.a7.length<=200;omega
theorem ID {F:aM} {t:b9 c} (h:lU t):lU (cV F t).2:=by
 unfold cV;split
 ·exact h
 ·exact IC
structure l7 (CV:aM) (cU:List (b9 c)) (i:Nat) (F:aM) (l:List (b9 c)):Prop where
 cl:(turns F (l.drop i)).1=(turns CV cU).1
 rest:l.take i++(turns F (l.drop i)).2=(turns CV cU).2
 len:l.length=cU.length
theorem l7.start (F:aM) (l:List (b9 c)):l7 F l 0 F l:=⟨rfl,rfl,rfl⟩
theorem l7.step {b F:aM} {cU l:List (b9 c)} {i:Nat} (h:l7 b cU i F l) {t:b9 c} (j:l[i]?=some t):l7 b cU (i+1) (cV F t).1 (l.set i (cV F t).2):=by
 obtain ⟨a,he⟩:=lq.1 j;obtain ⟨d,f,g⟩:=h;rw [oM a,he,turns] at d f;refine ⟨?_,?_,by rw [p5];exact g⟩
 ·rw [List.drop_set_of_lt (by omega)];exact d
 ·rw [List.drop_set_of_lt (by omega),<-f];rw [Hc (by simpa using a)];have e:List.take i (l.set i (cV F t).2)=List.take i l:=by
   apply j';intro q;rw [oN,oN];split
   ·rw [h6 (by omega)]
   ·rfl
  rw [e];simp
theorem l7.done {b F:aM} {cU l:List (b9 c)} {i:Nat} (h:l7 b cU i F l) (e:i=l.length):turns b cU=(F,l):=by obtain ⟨d,a,f⟩:=h;subst e;rw [rb,turns] at d a;rw [hv,iW] at a;exact Prod.ext d.symm a.symm
theorem xF:∀ (F:aM) (l:List (b9 c)),(turns F l).2.length=l.length
 | _,[]=>rfl
 |F,t::ts=>by simp [turns,xF]
theorem G2 (cs sch:bb) (es:List j1):∀ (f n:Nat) (F:aM) (l:List (b9 c)),(hl cs sch es f n F l).2.length=l.length
 | 0,_,_,_=>rfl
 |f+1,n,F,l=>by
  unfold hl;split
  ·rw [G2,xF]
  ·exact xF _ _
theorem JY (F:aM) (t:b9 c):∃ a,(mO F t).2=[a]:=by
 have:(mO F t).2.length=1:=by unfold mO eX;rw [xF,G2];rfl
 exact uZ.1 this
end
def nX (A:a5) (u:ak) (a:al) (xs:ax):Prop:=bh u a xs/\(xs=[]\/gd A a)
theorem nX.az {A A':a5} {w w':ak} {a:al} {xs:ax} (h:nX A w a xs) (c:ao A w w') (b:∀ k,k<w.heap.size->A' k->A k):nX A' w' a xs:=⟨h.1.az c h.2,gd.az h.1 h.2 b⟩
theorem a2.Sc {w:ak} {e sz n cap g:Nat} {rows:List ax} (h:a2 w e sz (some ⟨g,0,none⟩) n cap rows.flatten) (a:∀ r ∈ rows,r.length=sz) (p:rows.length=n) {i:Nat} (k:i<n) {vs:ax} (an:vs.length=sz) (d:∀ v ∈ vs,single v=true) :
  eh w ⟨g,i * sz,none⟩ 0 vs/\a2 (ct w ⟨g,i * sz,none⟩ 0 vs) e sz (some ⟨g,0,none⟩) n cap (rows.set i vs).flatten:=by
 subst p;rcases h.2 with ⟨he,_⟩ | ⟨bU,cur,he,b,c,hm,y,x⟩
 ·cases he
 ·simp at he;subst he;have j:=mf a;have l:i * sz+sz<=rows.length * sz:=by rw [<-h5];exact sV _ k
  have s:rows.length * sz<=cap * sz:=sV _ c;refine ⟨f7 b (by omega) d,?_⟩;have t:=b.ct (o:=i * sz) (i:=0) (vs:=vs);refine ⟨?_,.inr ⟨g,_,rfl,t,c,hm,?_,?_⟩⟩
  ·rw [mf (sz:=sz),p5];intro r u;rcases nQ u with f | rfl
   ·exact a r f
   ·exact an
  ·rw [pq (by omega)];simp;omega
  ·rw [<-G9 a (by omega) an,lY,pq (by omega),pq (by omega),<-x];apply j';intro q;simp only [oN,p3,iG,dH,lo];repeat' split
   all_goals first | rfl | omega | (congr 1;omega) | skip
   all_goals first | rfl | (exfalso;omega) | skip
end
section
section
variable {S aW:Type} (st:aW->S->Option S) (ok:S->Prop)
variable {st ok}
end
def mG (c j:Nat) (F:aM):Option aM:=match F.aX[c]? with
 |none=>none
 |some C=>match C.aD[j]?,F.nodes[j]? with
  |some l,some n=>if l.pair.ba.length=0 then none else some { F with nodes:=F.nodes.set j (l.pair.step n).2.1,aX:=F.aX.set c (C.comes j l (l.pair.step n).1 (l.pair.step n).2.2) }
  | _,_=>none
theorem sn {c j:Nat} {F F':aM}:mG c j F=some F'↔∃ C l n,F.aX[c]?=some C/\C.aD[j]?=some l/\F.nodes[j]?=some n/\l.pair.ba.length≠0/\F'={ F with nodes:=F.nodes.set j (l.pair.step n).2.1,aX:=F.aX.set c (C.comes j l (l.pair.step n).1 (l.pair.step n).2.2) }:=by
 unfold mG;constructor
 ·intro h;cases b:F.aX[c]? with
  |none=>rw [b] at h;cases h
  |some C=>
   rw [b] at h;simp only at h;cases a:C.aD[j]? with
   |none=>rw [a] at h;cases h
   |some l=>
    rw [a] at h;cases d:F.nodes[j]? with
    |none=>rw [d] at h;cases h
    |some n=>
     rw [d] at h;simp only at h;split at h
     ·cases h
     ·rename_i an;exact ⟨C,l,n,rfl,a,rfl,an,(nN h).symm⟩
 ·rintro ⟨C,l,n,b,a,d,an,rfl⟩;rw [b];simp only [a,d,if_neg an]
theorem An {c j:Nat} {F F':aM} (h:mG c j F=some F'):F.step ⟨-1,c,j⟩=(true,F'):=by
 obtain ⟨C,l,n,b,d,e,an,rfl⟩:=sn.1 h;unfold aM.step;have a:F.dj (c:Int)=some C:=by unfold aM.dj;rw [if_neg (by omega)];simpa using b
 simp only [show ¬ (0:Int)<=-1 by omega,show ¬ (-1:Int) < -1 by omega,if_false,a,show ¬ ((j:Nat):Int)<0 by omega,fY,d,e,if_neg an]
theorem kw {C:bP} {j:Nat} {l:cP} {p:c4} {d:Option aL} {i:Nat} (h:i≠j):(C.comes j l p d).aD[i]?=C.aD[i]?:=by cases d<;>simp [bP.comes,h6 (λe=>h e.symm)]
end
section
theorem w9 {x:fK} {i:Nat}:∀ {ls:List cP} {j:Nat},x ∈ kP i j ls↔∃ q l,ls[q]?=some l/\0<l.pair.ba.length/\x=⟨-1,i,(j+q:Nat)⟩
 | [],j=>by simp [kP]
 |l::ls,j=>by
  unfold kP;rw [jL,w9 (ls:=ls) (j:=j+1)];constructor
  ·rintro (h | ⟨q,l',a,b,c⟩)
   ·split at h
    ·rename_i an;simp at h;exact ⟨0,l,rfl,an,by rw [h];simp⟩
    ·cases h
   ·exact ⟨q+1,l',by simpa using a,b,by rw [c];congr 2;omega⟩
  ·rintro ⟨q,l',a,b,c⟩;cases q with
   |zero=>left;simp at a;subst a;rw [if_pos b,c];simp
   |succ q=>exact .inr ⟨q,l',by simpa using a,b,by rw [c];congr 2;omega⟩
theorem w_ {x:fK}:∀ {cs:List bP} {i:Nat},x ∈ jQ i cs↔∃ q C,cs[q]?=some C/\x ∈ kP (i+q) 0 C.aD
 | [],i=>by simp [jQ]
 |C::cs,i=>by
  unfold jQ;rw [jL,w_ (cs:=cs) (i:=i+1)];constructor
  ·rintro (h | ⟨q,C',a,b⟩)
   ·exact ⟨0,C,rfl,h⟩
   ·exact ⟨q+1,C',by simpa using a,by rw [show i+(q+1)=i+1+q by omega];exact b⟩
  ·rintro ⟨q,C',a,b⟩;cases q with
   |zero=>left;simp at a;subst a;exact b
   |succ q=>exact .inr ⟨q,C',by simpa using a,by rw [show i+1+q=i+(q+1) by omega];exact b⟩
end
section
def Below (C:bP) (k:Nat):Prop:=∀ (i:Nat) (l:cP),C.aD[i]?=some l->∀ q ∈ l.bT,q<k
theorem H3 {C:bP} {k:Nat} {v:aP} {i:Nat} {l:cP} (h:(C.gk k v).aD[i]?=some l):∃ cU,C.aD[i]?=some cU/\((l.bT=cU.bT/\l.pair.ba=cU.pair.ba/\v.node.toNat≠i)\/(l.bT=cU.bT++[k]/\l.pair.ba=cU.pair.ba++[v]/\v.node.toNat=i)):=by
 unfold bP.gk at h;simp only [sY] at h;cases a:C.aD[i]? with
 |none=>rw [a] at h;simp at h
 |some cU=>
  rw [a] at h;refine ⟨cU,rfl,?_⟩;by_cases e:v.node.toNat=i
  ·right;simp [e] at h;subst h;exact ⟨rfl,rfl,e⟩
  ·left;simp [e] at h;subst h;exact ⟨rfl,rfl,e⟩
theorem BZ {jg:Conv} {F:aM} {t:b9 jg} (h:0<F.waiting t.a3):cV F t=(F,t):=by unfold cV;rw [if_pos (.inr (.inr h))]
end
section
theorem jX (F:aM) (c:Nat):F.dj (c:Int)=F.aX[c]?:=by unfold aM.dj;rw [if_neg (by omega)];simp
end
section
section
variable {jg:Conv}
theorem cp.mG {F F':aM} (h:cp F) {c j:Nat} (b:mG c j F=some F'):cp F':=by have a:=h.step ⟨-1,c,j⟩;rw [An b] at a;exact a
end
end
section
def fh (bs:Nat->Option aL) (q:Nat) (d:aL):Nat->Option aL:=λk=>if k=q then some d else bs k
theorem sF (bs:Nat->Option aL) (q:Nat) (d:aL):fh bs q d q=some d:=if_pos rfl
theorem rr {bs:Nat->Option aL} {q k:Nat} {d:aL} (h:k≠q):fh bs q d k=bs k:=if_neg h
structure zb (vs:List aP) (bs:Nat->Option aL) (j:Nat) (l:cP):Prop where
 len:l.bT.length=l.pair.ba.length
 v5:l.bT.Pairwise (·<·)
 at_:∀ (t q:Nat),l.bT[t]?=some q->∃ v,vs[q]?=some v/\l.pair.ba[t]?=some v/\v.node.toNat=j/\bs q=none
structure gB (C:bP) (vs:List aP) (bs:Nat->Option aL):Prop where
 live:C.alive=true
 ds:∃ ds,C.batch=some ds/\ds.length=vs.length/\∀ q d,bs q=some d->ds[q]?=some d
 lane:∀ (j:Nat) (l:cP),C.aD[j]?=some l->zb vs bs j l
 left:∀ q,q<vs.length->bs q=none->∃ (j:Nat) (l:cP),C.aD[j]?=some l/\q ∈ l.bT
theorem zb.head {vs:List aP} {bs:Nat->Option aL} {j:Nat} {l:cP} (h:zb vs bs j l) {x:aP} {xs:List aP} (an:l.pair.ba=x::xs):∃ q b_,l.bT=q::b_/\vs[q]?=some x/\x.node.toNat=j/\bs q=none:=by
 have a:=h.len;rw [an] at a;cases c:l.bT with
 |nil=>rw [c] at a;cases a
 |cons q b_=>obtain ⟨v,d,b,e,f⟩:=h.at_ 0 q (by rw [c];rfl);rw [an] at b;cases b;exact ⟨q,b_,rfl,d,e,f⟩
theorem gB.more {C:bP} {vs:List aP} {bs:Nat->Option aL} (h:gB C vs bs) {j:Nat} {l:cP} (d:C.aD[j]?=some l) {p:c4} (f:p.ba=l.pair.ba):gB (C.comes j l p none) vs bs:=by
 have b:=ch d;refine ⟨h.live,h.ds,λi l' a=>?_,λq r ar=>?_⟩
 ·by_cases e:i=j
  ·subst e;simp [bP.comes,b] at a;subst a;have c:=h.lane _ l d;exact ⟨by show l.bT.length=p.ba.length;rw [f];exact c.len,c.v5,λt q s=>by obtain ⟨v,g,k,n,o⟩:=c.at_ t q s;exact ⟨v,g,by show p.ba[t]?=some v;rw [f];exact k,n,o⟩⟩
  ·rw [kw e] at a;exact h.lane i l' a
 ·obtain ⟨i,l',a,hm⟩:=h.left q r ar;by_cases e:i=j
  ·subst e;rw [d] at a;cases a;exact ⟨i,{ l with pair:=p },by simp [bP.comes,b],hm⟩
  ·exact ⟨i,l',by rw [kw e];exact a,hm⟩
theorem gB.done {C:bP} {vs:List aP} {bs:Nat->Option aL} (h:gB C vs bs) {j:Nat} {l:cP} (D:C.aD[j]?=some l) {x:aP} {xs:List aP} (an:l.pair.ba=x::xs) {p:c4} (G:p.ba=xs) {q:Nat} {b_:cQ} (c:l.bT=q::b_) (d:aL) :
  gB (C.comes j l p (some d)) vs (fh bs q d):=by
 have u:=ch D;have z:=h.lane j l D;obtain ⟨ds,I,hlen,B⟩:=h.ds;have F:vs[q]?=some x/\x.node.toNat=j:=by obtain ⟨cx,K,e,n,r,_⟩:=z.head an;rw [c] at e;cases e;exact ⟨n,r⟩
 have J:q<vs.length:=ch F.1;have b:=z.v5;rw [c,List.pairwise_cons] at b;refine ⟨h.live,⟨ds.set q d,?_,by rw [p5];exact hlen,λk e s=>?_⟩,λi l' g=>?_,λk s ar=>?_⟩
 ·simp [bP.comes,I,c]
 ·by_cases f:k=q
  ·subst f;rw [sF] at s;cases s;rw [jK (by omega)]
  ·rw [rr f] at s;rw [h6 (λH=>f H.symm)];exact B k e s
 ·by_cases e:i=j
  ·subst e;simp [bP.comes,u] at g;subst g;refine ⟨?_,?_,λt k E=>?_⟩
   ·show l.bT.tail.length=p.ba.length;have:=z.len;rw [c,an] at this;rw [c,G];simpa using this
   ·show l.bT.tail.Pairwise (·<·);rw [c];exact b.2
   ·have w:b_[t]?=some k:=by have:l.bT.tail[t]?=some k:=E;rw [c] at this;exact this
    obtain ⟨v,n,r,y,A⟩:=z.at_ (t+1) k (by rw [c];simpa using w);have a:k≠q:=by have:=b.1 k (cg w);omega
    refine ⟨v,n,?_,y,by rw [rr a];exact A⟩;show p.ba[t]?=some v;rw [an] at r;rw [G];simpa using r
  ·rw [kw e] at g;have o:=h.lane i l' g;refine ⟨o.len,o.v5,λt k E=>?_⟩;obtain ⟨v,n,r,y,A⟩:=o.at_ t k E;have a:k≠q:=λf=>by subst f;rw [F.1] at n;cases n;exact e (y.symm.trans F.2)
   exact ⟨v,n,r,y,by rw [rr a];exact A⟩
 ·have a:k≠q:=λe=>by rw [e,sF] at ar;cases ar
  rw [rr a] at ar;obtain ⟨i,l',g,hm⟩:=h.left k s ar;by_cases e:i=j
  ·subst e;rw [D] at g;cases g;rw [c] at hm;rcases e9.1 hm with f | f
   ·exact absurd f a
   ·exact ⟨i,⟨p,l.bT.tail⟩,by simp [bP.comes,u],by show k ∈ l.bT.tail;rw [c];exact f⟩
  ·exact ⟨i,l',by rw [kw e];exact g,hm⟩
theorem gB.all {C:bP} {vs:List aP} {bs:Nat->Option aL} (h:gB C vs bs) (he:∀ (j:Nat) (l:cP),C.aD[j]?=some l->l.pair.ba=[]):∃ ds,C.batch=some ds/\ds.length=vs.length/\(∀ q d,bs q=some d->ds[q]?=some d)/\∀ q,q<vs.length->∃ d,bs q=some d:=by
 obtain ⟨ds,b,c,e⟩:=h.ds;refine ⟨ds,b,c,e,λq f=>?_⟩;cases ar:bs q with
 |some d=>exact ⟨d,rfl⟩
 |none=>obtain ⟨j,l,a,hm⟩:=h.left q f ar;have:=(h.lane j l a).len;rw [he j l a] at this;rw [nP.1 this] at hm;cases hm
structure n4 (vs:List aP) (k:Nat) (C:bP):Prop where
 lane:∀ (j:Nat) (l:cP),C.aD[j]?=some l->l.bT.length=l.pair.ba.length/\l.bT.Pairwise (·<·)/\∀ (t q:Nat),l.bT[t]?=some q->q<k/\∃ v,vs[q]?=some v/\l.pair.ba[t]?=some v/\v.node.toNat=j
 left:∀ q,q<k->∃ (j:Nat) (l:cP),C.aD[j]?=some l/\q ∈ l.bT
theorem n4.one {vs:List aP} {k:Nat} {C:bP} (h:n4 vs k C) {v:aP} (an:vs[k]?=some v) (E:v.node.toNat<C.aD.length):n4 vs (k+1) (C.gk k v):=by
 refine ⟨λj l r=>?_,λq F=>?_⟩
 ·obtain ⟨cU,z,D⟩:=H3 r;obtain ⟨o,w,p⟩:=h.lane j cU z;rcases D with ⟨g,n,_⟩ | ⟨g,n,y⟩
  ·rw [g,n];exact ⟨o,w,λt q c=>by obtain ⟨a,b⟩:=p t q c;exact ⟨by omega,b⟩⟩
  ·rw [g,n];refine ⟨by simp [o],?_,λt q c=>?_⟩
   ·rw [List.pairwise_append];refine ⟨w,List.pairwise_singleton _ _,λa A b B=>?_⟩;obtain ⟨t,c⟩:=eF.1 A;have:=(p t a c).1;simp at B <;> omega
   ·by_cases s:t<cU.bT.length
    ·rw [hP s] at c;obtain ⟨a,u,b1,aA,x⟩:=p t q c;exact ⟨by omega,u,b1,by rw [hP (by omega)];exact aA,x⟩
    ·rw [hQ (by omega)] at c;have f:t - cU.bT.length=0:=by have:=ch c;simp at this <;> omega
     rw [f] at c;simp at c;subst c;exact ⟨by omega,v,an,by rw [hQ (by omega),<-o,f];rfl,y⟩
 ·have d:∀ i,(C.gk k v).aD[i]?=(C.aD[i]?).map λl=>if v.node.toNat=i then (⟨{ l.pair with ba:=l.pair.ba++[v] },l.bT++[k]⟩:cP) else l:=λi=>by
   unfold bP.gk;simp only [sY];cases C.aD[i]? with
   |none=>rfl
   |some l=>by_cases e:v.node.toNat=i<;>simp [e]
  by_cases e:q=k
  ·subst e;refine ⟨v.node.toNat,_,by rw [d,bF E];rfl,?_⟩;simp
  ·obtain ⟨j,l,r,hm⟩:=h.left q (by omega);refine ⟨j,_,by rw [d,r];rfl,?_⟩;split
   ·exact u4 _ hm
   ·exact hm
theorem n4.from {vs:List aP}:∀ (us:List aP) {k:Nat} {C:bP},n4 vs k C->(∀ i,us[i]?=vs[k+i]?)->(∀ v ∈ us,v.node.toNat<C.aD.length)->n4 vs (k+us.length) (C.gN k us)
 | [],k,C,h,hu,a=>h
 |u::us,k,C,h,hu,a=>by
  have b:=h.one (v:=u) (by have:=hu 0;simpa using this.symm) (a u e_);have d:(C.gk k u).aD.length=C.aD.length:=by simp [bP.gk]
  have c:=n4.from us b (λi=>by have:=hu (i+1);rw [nO] at this;rw [this];congr 1;omega) (λv an=>by rw [d];exact a v (fD _ an));rw [hh,show k+(us.length+1)=k+1+us.length by omega];exact c
theorem gB.post {C:bP} {vs:List aP} (u:C.alive=true) (he:∀ (j:Nat) (l:cP),C.aD[j]?=some l->l.pair.ba=[]/\l.bT=[]) (w:∀ v ∈ vs,v.node.toNat<C.aD.length):gB (C.kz vs) vs λ_=>none:=by
 have s:n4 vs 0 C:=⟨λj l a=>by obtain ⟨g,n⟩:=he j l a;rw [g,n];exact ⟨rfl,List.Pairwise.nil,λt q b=>by simp at b⟩,λq c=>by omega⟩
 have h:=n4.from vs s (λi=>by rw [g3]) w;rw [g3] at h;refine ⟨?_,⟨List.replicate vs.length ⟨0,[]⟩,rfl,by simp,λq d e=>by cases e⟩,λj l a=>?_,λq c _=>h.left q c⟩
 ·have:∀ (us:List aP) (D:bP) (k:Nat),(D.gN k us).alive=D.alive:=λus=>by
   induction us with
   |nil=>intro D k;rfl
   |cons v vs x=>intro D k;exact (x (D.gk k v) (k+1)).trans rfl
  exact (this vs C 0).trans u
 ·obtain ⟨o,p,r⟩:=h.lane j l a;exact ⟨o,p,λt q b=>by obtain ⟨_,v,b1,aA,f⟩:=r t q b;exact ⟨v,b1,aA,f,rfl⟩⟩
end
section
theorem H4 (C:bP) (j:Nat) (l:cP) (p:c4) (d:Option aL):(C.comes j l p d).alive=C.alive:=by cases d<;>rfl
theorem B0 {n:a0} {a:Nat} {ws:bb} (h:a+ws.length<=n.words.length):(n.write a ws).words.length=n.words.length:=by unfold a0.write;simp;omega
theorem sq {n:a0} {a:Nat} {ws:bb} (h:a+ws.length<=n.words.length) (i:Nat):(n.write a ws).get i=if a<=i/\i<a+ws.length then ws.getD (i - a) 0 else n.get i:=by
 unfold a0.write a0.get;simp only [dD];by_cases b:i<a
 ·rw [if_neg (by omega),ln,hP (by simp;omega),s0 b]
 ·by_cases c:i<a+ws.length
  ·rw [if_pos ⟨by omega,c⟩,ln,hQ (by simp;omega),hP (by simp;omega)];congr 2;simp;omega
  ·rw [if_neg (by omega),hQ (by simp;omega),lo];congr 2;simp;omega
theorem L' {n:a0} {a:Nat} (h:a<n.words.length) (v:Int) (i:Nat):({ n with words:=n.words.set a v }:a0).get i=if i=a then v else n.get i:=by
 unfold a0.get;simp only [dD];by_cases e:i=a
 ·subst e;rw [if_pos rfl,jK h];rfl
 ·rw [if_neg e,h6 (λb=>e b.symm)]
theorem Lh {n:a0} {a:Nat} (h:a<n.words.length):n.read a 1=[n.get a]:=by unfold a0.read;simp only [fY];rw [oM h];have b:=a0.get_some h;rw [bF h] at b;simp at b;simp [b]
theorem qJ {v:aG} (c:1<=v.count) (d:v.bW % 8+v.count<=8) (b:0<=v.bW):v.pieces=[(v.bW,v.count)]:=by
 unfold aG.pieces;obtain ⟨f,a⟩:∃ f,v.count.toNat=f+1:=⟨v.count.toNat - 1,by omega⟩;rw [a,hy,if_neg (by omega)];have e:(if 8 - v.bW % 8<v.count then 8 - v.bW % 8 else v.count)=v.count:=by
  split
  ·omega
  ·rfl
 rw [e];cases f with
 |zero=>rfl
 |succ f=>rw [hy,if_pos (by omega)]
structure h9 (N L:Nat) (x:aP):Prop where
 valid:∀ m:Int,N<=m->m<=5->x.v.valid m L=0
 node:0<=x.node/\x.node<N
 key:x.key=1
 ee:x.ee=1
theorem uM {p:c4} {n:a0} {x:aP} {xs:List aP} (an:p.ba=x::xs) (a:p.refusal x n=0) :
  p.step n=if p.bD+1<x.v.pieces.length then ({ p with bD:=p.bD+1,words:=p.words++(exec x (x.v.pieces.getD p.bD (0,0)) n).2 },(exec x (x.v.pieces.getD p.bD (0,0)) n).1,none)
   else (p.done,(exec x (x.v.pieces.getD p.bD (0,0)) n).1,some ⟨0,p.words++(exec x (x.v.pieces.getD p.bD (0,0)) n).2⟩):=by
 unfold c4.step;rw [an];simp only;rw [if_neg (by rw [a];simp)]
theorem Co {p:c4} {n:a0} {x:aP} {xs:List aP} (c:fH p) (an:p.ba=x::xs) (d:p.refusal x n=0) {pc:Int×Int} (b:x.v.pieces=[pc]):p.step n=(p.done,(exec x pc n).1,some ⟨0,(exec x pc n).2⟩):=by
 have a:=c.hL x xs an;rw [b] at a;have he:p.bD=0:=by simp at a;exact a
 rw [uM an d,b,he];simp [c.zero he]
structure o5 (a k:Nat) (n n':a0):Prop where
 len:n'.words.length=n.words.length
 down:n'.down=n.down
 get:∀ i,i<a\/a+k<=i->n'.get i=n.get i
theorem Li {x:aP} (a:x.kind=3) {n:a0} (pc:Int×Int):exec x pc n=(n.gh x.at_ x.old x.new,[n.get x.at_.toNat]):=by unfold exec;rw [if_neg (by omega),if_neg (by omega),if_pos a]
theorem IE {x:aP} (a:x.kind=1) (c:0<=x.at_) {n:a0} (b:x.at_.toNat<n.words.length):exec x (x.at_,1) n=(n,[n.get x.at_.toNat]):=by
 unfold exec;rw [if_pos a];have:n.read x.at_ 1=[n.get x.at_.toNat]:=by have h:=Lh b;rw [show ((x.at_.toNat:Nat):Int)=x.at_ by omega] at h;exact h
 simp only [this]
end
section
def nH (j:cS):List aP:=po j (e4 j.a3+8) (fc j.seq j.writes)
def nI (j:cS):List aP:=po j (e4 j.a3) [fN j.seq]
structure Fit (vs:List aP) (ds:List aL):Prop where
 len:ds.length=vs.length
 each:∀ (q:Nat) (v:aP) (d:aL),vs[q]?=some v->ds[q]?=some d->d.code=0/\(d.words.length:Int)=v.v.iE
theorem A9:∀ {ds:List aL},(∀ d ∈ ds,d.code=0)->ho ds=0
 | [],_=>rfl
 |d::ds,h=>by unfold ho;rw [if_pos (h d e_)];exact A9 λx a=>h x (fD _ a)
theorem Fit.Pp {vs:List aP} {ds:List aL} (h:Fit vs ds):ho ds=0:=A9 λd ar=>by
 obtain ⟨q,c⟩:=eF.1 ar;have b:=ch c;have a:q<vs.length:=by rw [<-h.len];exact b
 exact (h.each q vs[q] d (bF a) c).1
theorem Fit.kk {vs:List aP} {ds:List aL} (h:Fit vs ds):Go.Proofs.YtmkljjbioomepaaGreat.kk vs ds=true:=by unfold Go.Proofs.YtmkljjbioomepaaGreat.kk;rw [eY,decide_eq_true_eq,gQ];refine ⟨h.len.symm,λp e=>?_⟩;obtain ⟨q,f⟩:=eF.1 e;obtain ⟨c,d⟩:=AW.1 f;obtain ⟨a,b⟩:=h.each q p.1 p.2 c d;unfold r2;rw [if_pos a];exact decide_eq_true b
theorem Ao {vs:List aP} (h:vs≠[]) (a:Int):cb [] vs a=⟨false,[],(0,0),[],some vs,false⟩:=by
 have c:vs.length≠0:=λe=>h (nP.1 e)
 have b:batch [] vs=⟨[],false,[],some vs,false⟩:=by unfold batch;rw [if_neg c]
 unfold cb;rw [b];rfl
theorem AD {vs:List aP} {d:List aL} (G:List (List aL)) (an:vs≠[]) (h:Fit vs d) (a:Int):cb (d::G) vs a=⟨true,d,(0,0),G,none,false⟩:=by
 have c:vs.length≠0:=λe=>an (nP.1 e)
 have b:batch (d::G) vs=⟨d,true,G,none,false⟩:=by unfold batch;rw [if_neg c];simp only [h.kk,if_true]
 unfold cb;rw [b];simp only [h.Pp];rfl
theorem B1 (G:List (List aL)) (a:Int):cb G [] a=⟨true,[],(0,0),G,none,false⟩:=by have b:batch G []=⟨[],true,G,none,false⟩:=if_pos rfl;unfold cb;rw [b];rfl
set_option linter.unusedSectionVars false
section
variable {j:cS} (an:j.valid=0) (eT:j.writes≠[])
include an eT
theorem JZ (G:List (List aL)):rC j G=cb G (nH j) 1:=by unfold rC nj nH;rw [if_neg eT]
theorem J0 (G:List (List aL)):tx j G=cb G (nI j) 2:=by unfold tx nj nI;rw [if_neg eT]
theorem Lj (G:List (List aL)):nb j G=cb G (hU j) 3:=by unfold nb;rw [if_neg eT]
theorem Ma:dF j≠[]:=by
 unfold dF;cases h:j.writes with
 |nil=>exact absurd h eT
 |cons p l=>simp
theorem Mb {D:List aL} (a:Fit (dF j) D) (b:ie (iD j) D=false) (G:List (List aL)):j0 j (D::G)=⟨true,[],(0,0),G,none,false⟩:=by unfold j0;rw [AD G (Ma an eT) a];simp only [b,if_true];rfl
end
end
section
def j2 (n:Nat):jd:=⟨0,stM n⟩
theorem e'.ia {A:a5} {aw:Nat->Tag} {w0 w u:ak} {aN:Nat} {L B:a5} {dq:Nat->Tag} {X a:bQ} (t:e' A aw w aN L u B dq X) (c:bZ A aw w aN a) (e:ai w0 w) (b:∀ k,A k->w0.heap.size<=k):ai w0 u:=
 e.trans t.next.az λk f d=>by have:=b k (c.fj k d);omega
theorem C_ {A:a5} {w u:ak} {a:al} {xs:ax} (b:bh w a xs) (e:ai w u) (d:∀ k,A k->w.heap.size<=k):nX A u a xs:=by
 refine ⟨b.new e,?_⟩;by_cases c:xs=[]
 ·exact .inl c
 ·refine .inr ?_;cases a with
  |none=>trivial
  |some a=>intro h;have:=d _ h;have:=b.lt c;omega
namespace e1
def conv:Conv:=⟨cS,Int×Int,d9⟩
structure qg (A:a5) (w:ak) (r:dv) (j:cS):Prop where
 at_:pW w r j
 view:f0 A w r.View j.v
 Vo:(DN j.reads).flatten=[]\/gd A r.Reads
 Vq:(hV j.writes).flatten=[]\/gd A r.ei
 lF:oX j
theorem f0.az {A A':a5} {w w':ak} {r:cX} {v:jd} (h:f0 A w r v) (b:ao A w w') (a:∀ k,k<w.heap.size->A' k->A k):f0 A' w' r v:=
 ⟨h.num,h.len,h.cap,h.rd.az b h.off,gd.az h.rd h.off a,h.small⟩
theorem qg.az {A A':a5} {w w':ak} {r:dv} {j:cS} (h:qg A w r j) (d:ao A w w') (c:∀ k,k<w.heap.size->A' k->A k):qg A' w' r j:=by obtain ⟨a,an,e,hw,ar⟩:=h;have b:=f0.az an d c;exact ⟨⟨a.a3,a.seq,a.lines,⟨A',b⟩,a.rd.az d e,a.len,a.eA,⟨a.bS.rd.az d hw,a.bS.len,a.bS.eA,a.bS.u64⟩⟩,b,gd.az a.rd e c,gd.az a.bS.rd hw c,ar⟩
end e1
end
section
open e1
def bg (m:Nat):aZ:=⟨(m:Int),1,true⟩
def cw (m:Nat) (a:Int) (ws:bb):aP:=⟨2,(m:Int),a,0,0,0,ws,1,1⟩
def wa (a old new:Int):aP:=⟨3,0,a,0,old,new,[],1,1⟩
def Ac (a:Int):aP:=⟨1,0,a,1,0,0,[],1,1⟩
theorem nJ {n L m:Nat} {a:Int} {ws:bb} (l:n<=5) (hm:m<n) (h:1<=L/\L<=256) (i:24<=a) (e:1<=ws.length) (f:ws.length<=1000) (g:a+ws.length<=L * 8):h9 n L (cw m a ws):=by
 refine ⟨λk j d=>?_,⟨by show (0:Int)<=m;omega,by show (m:Int)<n;omega⟩,rfl,rfl⟩;have b:(cw m a ws).v.count=ws.length:=rfl;have c:(cw m a ws).v.inside k L=true:=by unfold aG.inside aG.cU aG.dd;rw [b];apply decide_eq_true;show 1<=k/\k<=5/\1<=(L:Int)/\(L:Int)<=256/\0<=(m:Int)/\(m:Int)<k/\0<=a/\a<(L:Int) * 8/\(ws.length:Int)<=1024/\(a+ws.length - 1) / 8<(L:Int)/\(a+ws.length - 1) / 8 - a / 8<128;omega
 unfold aG.valid;rw [b,if_neg (by omega),c,if_neg (by simp),if_neg];unfold aG.cU aG.dd aG.last;rw [b];show ¬ (a / 8<=(if (2:Int)=1 then 3 else 2)/\(if (2:Int)=1 then 3 else 2)<(a+ws.length - 1) / 8);rw [if_neg (by omega)];omega
structure Env where
 n:Nat
 L:Nat
 base:Nat->Nat->Int
 fa:Nat->Int
 ids:cQ
 a1:Nat->cS
 Vp:Bool
def Env.on (E:Env) (i:Nat):Prop:=i ∈ E.ids
structure eu (E:Env) (i:Nat) (j:cS):Prop where
 dj:j.a3=(i:Int)
 i6:i<6
 valid:j.valid=0
 view:j.v=j2 E.n
 some_:j.writes≠[]
 eA:j.writes.length<=12
 xn:j.reads.length<=24
 line:∀ p ∈ j.writes,∃ l:Nat,p.bn=(l:Int)/\96<=l/\l<E.L
 Vn:∀ s ∈ j.reads,∃ l:Nat,s.bn=(l:Int)/\96<=l/\l<E.L
 uniq:∀ p ∈ j.writes,∀ q ∈ j.writes,p.bn=q.bn->p=q
 nodup:(j.writes.map (·.bn)).Nodup
 head:∀ p ∈ j.writes,p.Head=E.base p.bn.toNat 0
 Qu:∀ p ∈ j.writes,∀ k:Nat,k<6->eJ p.Head k≠p.Head/\(eJ p.Head k=eJ p.Head i->k=i)
 next:∀ p ∈ j.writes,lf p.Head≠p.Head
 Vm:∀ s ∈ j.reads,s.Head=E.base s.bn.toNat 0
 Vl:∀ s ∈ j.reads,∀ p ∈ j.writes,s.bn≠p.bn
structure p9 (E:Env):Prop where
 n:1<=E.n/\E.n<=5
 L:98<=E.L/\E.L<=256
 ids:E.ids.Nodup
 bN:∀ i,E.on i->eu E i (E.a1 i)
section
variable {E:Env} {i:Nat} {j:cS}
theorem eu.mem (h:eu E i j):j.v.mem=(List.range E.n).map bg:=by rw [h.view];rfl
theorem eu.num (h:eu E i j):j.v.number=0:=by rw [h.view];rfl
theorem eu.bO (h:eu E i j) (b:1<=E.n):r7 j=bg 0:=by unfold r7;rw [h.mem];obtain ⟨k,a⟩:∃ k,E.n=k+1:=⟨E.n - 1,by omega⟩;rw [a,sT];rfl
theorem eu.tail (h:eu E i j):j.v.mem.tail=(List.range (E.n - 1)).map λm=>bg (m+1):=by
 rw [h.mem];cases a:E.n with
 |zero=>rfl
 |succ k=>rw [sT];simp
theorem eu.log (h:eu E i j) (a:Int) (ws:bb):po j a ws=(List.range E.n).map λm=>cw m a ws:=by unfold po;rw [h.mem,h.num,rj];rfl
theorem eu.gh (h:eu E i j) (a:1<=E.n) (p:aJ):lD j p=wa (p.bn * 8) p.Head (eJ p.Head i):=by unfold lD;rw [h.num,h.bO a,h.dj];rfl
theorem eu.read (h:eu E i j) (a:1<=E.n) (s:eP):nW j s=Ac (s.bn * 8):=by unfold nW;rw [h.num,h.bO a];rfl
def fz (m:Nat) (p:aJ):aP:=cw m (p.bn * 8) (ir p)
def ob (i:Nat) (seq:Int) (m:Nat):aP:=cw m (32+(i:Int)) [seq]
theorem eu.d_ (h:eu E i j) (m:Nat) (p:aJ):js j (bg m) p=fz m p:=by unfold js;rw [h.num];rfl
theorem eu.clock (h:eu E i j) (m:Nat):qr j (bg m)=ob i j.seq m:=by unfold qr;rw [h.num,h.dj];rfl
theorem eu.Fw (h:eu E i j) (a:1<=E.n):dF j=(j.writes.map λp=>wa (p.bn * 8) p.Head (eJ p.Head i))++j.reads.map λs=>Ac (s.bn * 8):=by
 unfold dF;congr 1
 ·exact s4 λp _=>h.gh a p
 ·exact s4 λs _=>h.read a s
theorem eu.EM (h:eu E i j):p8 j=((List.range (E.n - 1)).map λm=>(j.writes.map (fz (m+1))++[ob i j.seq (m+1)])).flatten:=by
 unfold p8;rw [h.tail,rj];congr 1;refine s4 λm _=>?_
 show jV j (bg (m+1))=_;unfold jV;rw [if_neg h.some_,h.clock];congr 1;exact s4 λp _=>h.d_ (m+1) p
theorem eu.EY (h:eu E i j) (b:1<=E.n):hU j=ob i j.seq 0::j.writes.map (fz 0):=by have hm:=h.mem;unfold hU;obtain ⟨k,a⟩:∃ k,E.n=k+1:=⟨E.n - 1,by omega⟩;rw [a,sT] at hm;rw [hm];simp only [gA];rw [h.clock];congr 1;exact s4 λp _=>h.d_ 0 p
theorem eu.zw (h:eu E i j):nH j=(List.range E.n).map λm=>cw m (56+120 * (i:Int)) (fc j.seq j.writes):=by
 unfold nH;rw [h.log,h.dj];have e:e4 (i:Int)+8=56+120 * (i:Int):=by unfold e4;omega
 rw [e]
theorem eu.zW (h:eu E i j):nI j=(List.range E.n).map λm=>cw m (48+120 * (i:Int)) [fN j.seq]:=by unfold nI;rw [h.log,h.dj];rfl
end
end
section
open e1
structure vW (L:Nat) (dh:Bool) (n:a0):Prop where
 up:n.down=false
 len:n.words.length=L * 8
 key:n.get 0=1
 ee:n.get 1=1
 d0:n.get 24=if dh=true then 2 else 1
 dR:∀ c:Nat,1<=c->c<6->n.get (24+c)=1
theorem DS {N L:Nat} {dh:Bool} {n:a0} (a:vW L dh n) (l:N<=5) {x:aP} (d:h9 N L x) {p:c4} {c:Nat} (k:p.a3=c) (j:p.inc=1) (i:c<6):p.refusal x n=if x.v.cls=1/\x.v.Kind=1 then 0 else if dh=true/\c=0 then 5 else 0:=by
 unfold c4.refusal;rw [if_neg (by rw [a.up];simp),a.len,show L * 8 / 8=L by omega,if_neg (by rw [d.valid 5 (by omega) (by omega)];simp)];have e:(24+p.a3).toNat=24+c:=by rw [k];omega
 rw [e,a.key,a.ee,j];unfold aG.check;split
 ·rfl
 have h:¬ (x.v.ck<0\/x.v.ck≠1\/x.v.Key≠1):=by show ¬ (x.ee<0\/x.ee≠1\/x.key≠1);rw [d.key,d.ee];omega
 have g:∀ b:Int,(if (1:Int)<0\/(1:Int)<b then (5:Int) else if x.v.cls=1 then 0 else if x.v.ck<0\/x.v.ck≠1\/x.v.Key≠1 then 5 else 0)=if 1<b then 5 else 0:=λb=>by
  rw [if_neg h];by_cases ar:1<b
  ·rw [if_pos (.inr ar),if_pos ar]
  ·rw [if_neg (by omega),if_neg ar];split<;>rfl
 rw [g];by_cases f:c=0
 ·subst f;rw [lY,a.d0];cases dh<;>rfl
 ·rw [a.dR c (by omega) i,if_neg (by decide),if_neg (λe=>f e.2)]
theorem o5.aQ {a k L:Nat} {dh:Bool} {n n':a0} (h:o5 a k n n') (b:vW L dh n) (f:30<=a):vW L dh n':=
 ⟨h.down.trans b.up,h.len.trans b.len,(h.get 0 (by omega)).trans b.key,(h.get 1 (by omega)).trans b.ee,by rw [h.get 24 (by omega)];exact b.d0,λc d e=>by rw [h.get (24+c) (by omega)];exact b.dR c d e⟩
abbrev bJ (E:Env):List aJ:=(E.a1 0).writes
abbrev c7 (E:Env):Int:=(E.a1 0).seq
abbrev gP (E:Env):bb:=fc (c7 E) (bJ E)
abbrev h4 (E:Env):Int:=fN (c7 E)
abbrev bp (p:aJ):Nat:=p.bn.toNat
structure b5 (E:Env):Prop where
 e:p9 E
 one:E.ids=[0]
 rd:(E.a1 0).reads=[]
 Qt:∀ p ∈ bJ E,eJ p.Head 0≠lf p.Head
 c_:fr (c7 E) (bJ E) E.L=0
 lF:oX (E.a1 0)
 u64:∀ p ∈ bJ E,b8 p.Head
 fa:0<=E.fa 0/\E.fa 0<c7 E
 b7:∀ l,96<=l->l<E.L->E.base l 0 % 2=0
theorem b5.bN {E:Env} (h:b5 E):eu E 0 (E.a1 0):=h.e.bN 0 (by unfold Env.on;rw [h.one];simp)
theorem b5.seq {E:Env} (h:b5 E):1<=c7 E/\c7 E<1073741824:=by obtain ⟨_,a,_⟩:=ji h.c_;exact ⟨a.1,a.2.1⟩
theorem b5.pl {E:Env} (h:b5 E) {p:aJ} (c:p ∈ bJ E):96<=bp p/\bp p<E.L/\p.bn=(bp p:Int):=by
 obtain ⟨l,e,a,b⟩:=h.bN.line p c;have:bp p=l:=by show p.bn.toNat=l;rw [e];rfl
 rw [this];exact ⟨a,b,e⟩
theorem b5.inj {E:Env} (h:b5 E) {p q:aJ} (a:p ∈ bJ E) (b:q ∈ bJ E) (e:bp p=bp q):p=q:=
 h.bN.uniq p a q b (by rw [(h.pl a).2.2,(h.pl b).2.2,e])
theorem b5.lC {E:Env} (h:b5 E):(gP E).length=3+9 * (bJ E).length/\(bJ E).length<=12:=⟨ps _ _,h.bN.eA⟩
structure bA where
 bS:Nat->Nat->Nat
 cF:Nat->Bool
 dK:Nat->Bool
 ey:Nat->Bool
 dh:Nat->Bool
 dU:Int
def qj (E:Env) (p:aJ) (s:Nat) (x:a0):Prop:=match s with
 | 0=>∀ k,k<8->x.get (bp p * 8+k)=E.base (bp p) k
 | 1=>x.get (bp p * 8)=eJ p.Head 0/\∀ k,1<=k->k<8->x.get (bp p * 8+k)=E.base (bp p) k
 | _=>∀ k,k<8->x.get (bp p * 8+k)=(ir p).getD k 0
structure Mem (E:Env) (A:bA) (m:Nat) (x:a0):Prop where
 aQ:vW E.L (A.dh m) x
 bS:∀ p ∈ bJ E,qj E p (A.bS m (bp p)) x
 gw:∀ l:Nat,96<=l->l<E.L->(∀ p ∈ bJ E,bp p≠l)->∀ k,k<8->x.get (l * 8+k)=E.base l k
 cG:∀ c:Nat,1<=c->c<6->x.get (32+c)=E.fa c
 dK:x.get 32=if A.dK m=true then c7 E else E.fa 0
 cF:x.get 48=if A.cF m=true then h4 E else 0
 dU:m=0->x.get 49=A.dU
 ey:A.ey m=true->∀ k,k<(gP E).length->x.get (56+k)=(gP E).getD k 0
structure jv (E:Env) (A:bA) (bz:List a0):Prop where
 len:bz.length=E.n
 mem:∀ (m:Nat) (x:a0),bz[m]?=some x->Mem E A m x
structure e2 (E:Env) (A:bA):Prop where
 cU:∀ m,m<E.n->∀ p ∈ bJ E,A.bS m (bp p)<=2/\(1<=m->A.bS m (bp p)≠1)
 l2:∀ m,m<E.n->A.cF m=true->(∀ bY,bY<E.n->A.ey bY=true)/\∀ p ∈ bJ E,A.bS 0 (bp p)≠0
 ix:∀ m,m<E.n->∀ p ∈ bJ E,A.bS m (bp p)=2->∀ bY,bY<E.n->A.cF bY=true
 ni:∀ m,m<E.n->A.dK m=true->∀ bY,bY<E.n->A.cF bY=true
 lH:∀ p ∈ bJ E,A.bS 0 (bp p)=2->A.dK 0=true
 kV:A.dK 0=true->∀ m,1<=m->m<E.n->A.dK m=true
 kW:∀ m,1<=m->m<E.n->A.dK m=true->∀ p ∈ bJ E,A.bS m (bp p)=2
def im (E:Env) (A:bA):Prop:=∀ m,m<E.n->A.cF m=true
def fP (E:Env) (A:bA):Prop:=∀ m,m<E.n->A.cF m=false
def h7 (E:Env) (A:bA):Prop:=∀ m,m<E.n->A.ey m=true
def iZ (E:Env) (A:bA):Prop:=∀ m,m<E.n->A.dh m=true
def p6 (E:Env) (A:bA):Prop:=∀ m,1<=m->m<E.n->A.dK m=true
def l1 (E:Env) (A:bA):Prop:=im E A/\A.dK 0=true/\∀ p ∈ bJ E,A.bS 0 (bp p)=2
def o1 (E:Env) (A:bA):Prop:=iZ E A/\fP E A/\∀ p ∈ bJ E,A.bS 0 (bp p)=0
structure dm (E:Env) (A A':bA):Prop where
 cF:∀ m,A.cF m=true->A'.cF m=true
 dK:∀ m,A.dK m=true->A'.dK m=true
 ey:∀ m,A.ey m=true->A'.ey m=true
 dh:∀ m,A.dh m=true->A'.dh m=true
 bS:∀ m l,A.bS m l=2->A'.bS m l=2
theorem dm.refl (E:Env) (A:bA):dm E A A:=⟨λ_ h=>h,λ_ h=>h,λ_ h=>h,λ_ h=>h,λ_ _ h=>h⟩
theorem dm.am {E:Env} {A A':bA} (h:dm E A A') (g:im E A):im E A':=λm hm=>h.cF m (g m hm)
theorem dm.lb {E:Env} {A A':bA} (h:dm E A A') (g:h7 E A):h7 E A':=λm hm=>h.ey m (g m hm)
theorem dm.bs {E:Env} {A A':bA} (h:dm E A A') (g:iZ E A):iZ E A':=λm hm=>h.dh m (g m hm)
theorem dm.qv {E:Env} {A A':bA} (h:dm E A A') (g:p6 E A):p6 E A':=λm a hm=>h.dK m (g m a hm)
theorem dm.EX {E:Env} {A A':bA} (h:dm E A A') (g:l1 E A):l1 E A':=⟨h.am g.1,h.dK 0 g.2.1,λp a=>h.bS 0 _ (g.2.2 p a)⟩
def bA.gO (A:bA) (m l s:Nat):bA:={ A with bS:=λbY l'=>if bY=m/\l'=l then s else A.bS bY l' }
def bA.ju (A:bA) (m:Nat):bA:={ A with cF:=λbY=>if bY=m then true else A.cF bY }
def bA.k_ (A:bA) (m:Nat):bA:={ A with dK:=λbY=>if bY=m then true else A.dK bY }
def bA.pM (A:bA) (m:Nat):bA:={ A with ey:=λbY=>if bY=m then true else A.ey bY }
def bA.oD (A:bA) (m:Nat):bA:={ A with dh:=λbY=>if bY=m then true else A.dh bY }
def bA.qZ (A:bA) (t:Int):bA:={ A with dU:=t }
section
variable {E:Env} {A:bA} {bz:List a0} {m:Nat} {x gm:a0}
theorem jv.fh (h:jv E A bz) {A':bA} (d:bz[m]?=some x) (hm:Mem E A' m gm) (c:∀ bY,bY≠m->∀ y,Mem E A bY y->Mem E A' bY y):jv E A' (bz.set m gm):=by
 refine ⟨by simpa using h.len,λbY y a=>?_⟩;by_cases e:m=bY
 ·subst e;rw [jK (ch d)] at a;cases a;exact hm
 ·rw [h6 e] at a;exact c bY (λb=>e b.symm) y (h.mem bY y a)
theorem Mem.same (h:Mem E A m x) {A':bA} (b:∀ p ∈ bJ E,A'.bS m (bp p)=A.bS m (bp p)) (c:A'.cF m=A.cF m) (d:A'.dK m=A.dK m) (f:A'.ey m=A.ey m) (g:A'.dh m=A.dh m) (i:m=0->A'.dU=A.dU):Mem E A' m x:=
 ⟨by rw [g];exact h.aQ,λp a=>by rw [b p a];exact h.bS p a,h.gw,h.cG,by rw [d];exact h.dK,by rw [c];exact h.cF,λe=>by rw [i e];exact h.dU e,by rw [f];exact h.ey⟩
theorem qj.f9 {p:aJ} {s a k:Nat} (h:qj E p s x) (e:o5 a k x gm) (ar:a+k<=bp p * 8\/bp p * 8+8<=a):qj E p s gm:=by
 have g:∀ b,b<8->gm.get (bp p * 8+b)=x.get (bp p * 8+b):=λb c=>e.get _ (by omega)
 unfold qj at h ⊢;split at h
 ·exact λb c=>by rw [g b c];exact h b c
 ·exact ⟨by have:=g 0 (by omega);rw [lY] at this;rw [this];exact h.1,λb d c=>by rw [g b c];exact h.2 b d c⟩
 ·exact λb c=>by rw [g b c];exact h b c
theorem Mem.low (ay:b5 E) (h:Mem E A m x) {a k:Nat} (b:o5 a k x gm) (u:30<=a) (z:a+k<=768) {A':bA} (o:∀ p ∈ bJ E,A'.bS m (bp p)=A.bS m (bp p)) (g:A'.dh m=A.dh m)
  (r:38<=a\/a+k<=33) (f:gm.get 32=if A'.dK m=true then c7 E else E.fa 0) (j:gm.get 48=if A'.cF m=true then h4 E else 0) (q:m=0->gm.get 49=A'.dU) (e:A'.ey m=true->∀ k,k<(gP E).length->gm.get (56+k)=(gP E).getD k 0):Mem E A' m gm:=
 ⟨by rw [g];exact b.aQ h.aQ u,λp n=>by rw [o p n];exact (h.bS p n).f9 b (by have:=ay.pl n;omega),λl d s t y i=>by rw [b.get _ (by omega)];exact h.gw l d s t y i,λc d w=>by rw [b.get _ (by omega)];exact h.cG c d w,f,j,q,e⟩
theorem Mem.d_ (ay:b5 E) (h:Mem E A m x) {p:aJ} (f:p ∈ bJ E) (a:o5 (bp p * 8) 8 x gm) {s:Nat} (t:qj E p s gm):Mem E (A.gO m (bp p) s) m gm:=by
 have u:=ay.pl f;refine ⟨a.aQ h.aQ (by omega),λq j=>?_,λl b n i k d=>?_,λc b r=>by rw [a.get _ (by omega)];exact h.cG c b r,by rw [a.get _ (by omega)];exact h.dK,by rw [a.get _ (by omega)];exact h.cF,λe=>by rw [a.get _ (by omega)];exact h.dU e,λo k d=>?_⟩
 ·show qj E q (if m=m/\bp q=bp p then s else A.bS m (bp q)) gm;by_cases e:bp q=bp p
  ·rw [if_pos ⟨rfl,e⟩,ay.inj j f e];exact t
  ·rw [if_neg (λg=>e g.2)];exact (h.bS q j).f9 a (by omega)
 ·have:=i p f;rw [a.get _ (by omega)];exact h.gw l b n i k d
 ·have:=ay.lC;rw [a.get _ (by omega)];exact h.ey o k d
end
end
end Go.Proofs.YtmkljjbioomepaaGreat
