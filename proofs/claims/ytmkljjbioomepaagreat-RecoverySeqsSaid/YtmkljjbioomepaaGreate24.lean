import Derived.Test.YtmkljjbioomepaaGreate23
import Derived.Test.YtmkljjbioomepaaGreate22
set_option linter.all false
namespace Go.Proofs.YtmkljjbioomepaaGreat
open Go.Proofs.Tryz Go.bn
section
def mY (cq:Nat->Option aC) (q:Nat) (d:aC):Nat->Option aC:=λk=>if k=q then some d else cq k
theorem wK (cq:Nat->Option aC) (q:Nat) (d:aC):mY cq q d q=some d:=if_pos rfl
theorem rV {cq:Nat->Option aC} {q k:Nat} {d:aC} (h:k≠q):mY cq q d k=cq k:=if_neg h
structure x' (vs:List aG) (cq:Nat->Option aC) (j:Nat) (l:cH):Prop where
 len:l.bt.length=l.pair.a6.length
 yu:l.bt.Pairwise (·<·)
 at_:∀ (t q:Nat),l.bt[t]?=some q->∃ v,vs[q]?=some v/\l.pair.a6[t]?=some v/\v.node.toNat=j/\cq q=none
structure iE (C:bf) (vs:List aG) (cq:Nat->Option aC):Prop where
 live:C.alive=true
 ds:∃ ds,C.batch=some ds/\ds.length=vs.length/\∀ q d,cq q=some d->ds[q]?=some d
 lane:∀ (j:Nat) (l:cH),C.ay[j]?=some l->x' vs cq j l
 left:∀ q,q<vs.length->cq q=none->∃ (j:Nat) (l:cH),C.ay[j]?=some l/\q ∈ l.bt
theorem x'.head {vs:List aG} {cq:Nat->Option aC} {j:Nat} {l:cH} (h:x' vs cq j l) {x:aG} {xs:List aG} (aj:l.pair.a6=x::xs):∃ q cn,l.bt=q::cn/\vs[q]?=some x/\x.node.toNat=j/\cq q=none:=by
 have a:=h.len;rw [aj] at a;cases c:l.bt with
 |nil=>rw [c] at a;cases a
 |cons q cn=>obtain ⟨v,d,b,e,f⟩:=h.at_ 0 q (by rw [c];rfl);rw [aj] at b;cases b;exact ⟨q,cn,rfl,d,e,f⟩
theorem iE.more {C:bf} {vs:List aG} {cq:Nat->Option aC} (h:iE C vs cq) {j:Nat} {l:cH} (d:C.ay[j]?=some l) {p:cF} (f:p.a6=l.pair.a6):iE (C.comes j l p none) vs cq:=by
 have b:=cz d;refine ⟨h.live,h.ds,λi l' a=>?_,λq r aA=>?_⟩
 ·by_cases e:i=j
  ·subst e;simp [bf.comes,b] at a;subst a;have c:=h.lane _ l d;exact ⟨by show l.bt.length=p.a6.length;rw [f];exact c.len,c.yu,λt q s=>by obtain ⟨v,g,k,n,o⟩:=c.at_ t q s;exact ⟨v,g,by show p.a6[t]?=some v;rw [f];exact k,n,o⟩⟩
  ·rw [ld e] at a;exact h.lane i l' a
 ·obtain ⟨i,l',a,hm⟩:=h.left q r aA;by_cases e:i=j
  ·subst e;rw [d] at a;cases a;exact ⟨i,{ l with pair:=p },by simp [bf.comes,b],hm⟩
  ·exact ⟨i,l',by rw [ld e];exact a,hm⟩
theorem iE.done {C:bf} {vs:List aG} {cq:Nat->Option aC} (h:iE C vs cq) {j:Nat} {l:cH} (D:C.ay[j]?=some l) {x:aG} {xs:List aG} (aj:l.pair.a6=x::xs) {p:cF} (G:p.a6=xs) {q:Nat} {cn:d9} (c:l.bt=q::cn) (d:aC) :
  iE (C.comes j l p (some d)) vs (mY cq q d):=by
 have u:=cz D;have z:=h.lane j l D;obtain ⟨ds,I,hlen,B⟩:=h.ds;have F:vs[q]?=some x/\x.node.toNat=j:=by obtain ⟨q',K,e,n,r,_⟩:=z.head aj;rw [c] at e;cases e;exact ⟨n,r⟩
 have J:q<vs.length:=cz F.1;have b:=z.yu;rw [c,List.pairwise_cons] at b;refine ⟨h.live,⟨ds.set q d,?_,by rw [je];exact hlen,λk e s=>?_⟩,λi l' g=>?_,λk s aA=>?_⟩
 ·simp [bf.comes,I,c]
 ·by_cases f:k=q
  ·subst f;rw [wK] at s;cases s;rw [ei (by omega)]
  ·rw [rV f] at s;rw [gg (λH=>f H.symm)];exact B k e s
 ·by_cases e:i=j
  ·subst e;simp [bf.comes,u] at g;subst g;refine ⟨?_,?_,λt k E=>?_⟩
   ·show l.bt.tail.length=p.a6.length;have:=z.len;rw [c,aj] at this;rw [c,G];simpa using this
   ·show l.bt.tail.Pairwise (·<·);rw [c];exact b.2
   ·have w:cn[t]?=some k:=by have:l.bt.tail[t]?=some k:=E;rw [c] at this;exact this
    obtain ⟨v,n,r,y,A⟩:=z.at_ (t+1) k (by rw [c];simpa using w);have a:k≠q:=by have:=b.1 k (cj w);omega
    refine ⟨v,n,?_,y,by rw [rV a];exact A⟩;show p.a6[t]?=some v;rw [aj] at r;rw [G];simpa using r
  ·rw [ld e] at g;have o:=h.lane i l' g;refine ⟨o.len,o.yu,λt k E=>?_⟩;obtain ⟨v,n,r,y,A⟩:=o.at_ t k E;have a:k≠q:=λf=>by subst f;rw [F.1] at n;cases n;exact e (y.symm.trans F.2)
   exact ⟨v,n,r,y,by rw [rV a];exact A⟩
 ·have a:k≠q:=λe=>by rw [e,wK] at aA;cases aA
  rw [rV a] at aA;obtain ⟨i,l',g,hm⟩:=h.left k s aA;by_cases e:i=j
  ·subst e;rw [D] at g;cases g;rw [c] at hm;rcases dy.1 hm with f | f
   ·exact absurd f a
   ·exact ⟨i,⟨p,l.bt.tail⟩,by simp [bf.comes,u],by show k ∈ l.bt.tail;rw [c];exact f⟩
  ·exact ⟨i,l',by rw [ld e];exact g,hm⟩
theorem iE.all {C:bf} {vs:List aG} {cq:Nat->Option aC} (h:iE C vs cq) (he:∀ (j:Nat) (l:cH),C.ay[j]?=some l->l.pair.a6=[]):∃ ds,C.batch=some ds/\ds.length=vs.length/\(∀ q d,cq q=some d->ds[q]?=some d)/\∀ q,q<vs.length->∃ d,cq q=some d:=by
 obtain ⟨ds,b,c,e⟩:=h.ds;refine ⟨ds,b,c,e,λq f=>?_⟩;cases aA:cq q with
 |some d=>exact ⟨d,rfl⟩
 |none=>obtain ⟨j,l,a,hm⟩:=h.left q f aA;have:=(h.lane j l a).len;rw [he j l a] at this;rw [nY.1 this] at hm;cases hm
structure nr (vs:List aG) (k:Nat) (C:bf):Prop where
 lane:∀ (j:Nat) (l:cH),C.ay[j]?=some l->l.bt.length=l.pair.a6.length/\l.bt.Pairwise (·<·)/\∀ (t q:Nat),l.bt[t]?=some q->q<k/\∃ v,vs[q]?=some v/\l.pair.a6[t]?=some v/\v.node.toNat=j
 left:∀ q,q<k->∃ (j:Nat) (l:cH),C.ay[j]?=some l/\q ∈ l.bt
theorem nr.one {vs:List aG} {k:Nat} {C:bf} (h:nr vs k C) {v:aG} (aj:vs[k]?=some v) (E:v.node.toNat<C.ay.length):nr vs (k+1) (C.eK k v):=by
 refine ⟨λj l r=>?_,λq F=>?_⟩
 ·obtain ⟨c3,z,D⟩:=s3 r;obtain ⟨o,w,p⟩:=h.lane j c3 z;rcases D with ⟨g,n,_⟩ | ⟨g,n,y⟩
  ·rw [g,n];exact ⟨o,w,λt q c=>by obtain ⟨a,b⟩:=p t q c;exact ⟨by omega,b⟩⟩
  ·rw [g,n];refine ⟨by simp [o],?_,λt q c=>?_⟩
   ·rw [List.pairwise_append];refine ⟨w,List.pairwise_singleton _ _,λa A b B=>?_⟩;obtain ⟨t,c⟩:=gh.1 A;have:=(p t a c).1;simp at B <;> omega
   ·by_cases s:t<c3.bt.length
    ·rw [jd s] at c;obtain ⟨a,u,b1,az,x⟩:=p t q c;exact ⟨by omega,u,b1,by rw [jd (by omega)];exact az,x⟩
    ·rw [jv (by omega)] at c;have f:t - c3.bt.length=0:=by have:=cz c;simp at this <;> omega
     rw [f] at c;simp at c;subst c;exact ⟨by omega,v,aj,by rw [jv (by omega),<-o,f];rfl,y⟩
 ·have d:∀ i,(C.eK k v).ay[i]?=(C.ay[i]?).map λl=>if v.node.toNat=i then (⟨{ l.pair with a6:=l.pair.a6++[v] },l.bt++[k]⟩:cH) else l:=λi=>by
   unfold bf.eK;simp only [qf];cases C.ay[i]? with
   |none=>rfl
   |some l=>by_cases e:v.node.toNat=i<;>simp [e]
  by_cases e:q=k
  ·subst e;refine ⟨v.node.toNat,_,by rw [d,bM E];rfl,?_⟩;simp
  ·obtain ⟨j,l,r,hm⟩:=h.left q (by omega);refine ⟨j,_,by rw [d,r];rfl,?_⟩;split
   ·exact tU _ hm
   ·exact hm
theorem nr.from {vs:List aG}:∀ (us:List aG) {k:Nat} {C:bf},nr vs k C->(∀ i,us[i]?=vs[k+i]?)->(∀ v ∈ us,v.node.toNat<C.ay.length)->nr vs (k+us.length) (C.eS k us)
 | [],k,C,h,hu,a=>h
 |u::us,k,C,h,hu,a=>by
  have b:=h.one (v:=u) (by have:=hu 0;simpa using this.symm) (a u d_);have d:(C.eK k u).ay.length=C.ay.length:=by simp [bf.eK]
  have c:=nr.from us b (λi=>by have:=hu (i+1);rw [qc] at this;rw [this];congr 1;omega) (λv aj=>by rw [d];exact a v (e2 _ aj));rw [fU,show k+(us.length+1)=k+1+us.length by omega];exact c
theorem iE.post {C:bf} {vs:List aG} (u:C.alive=true) (he:∀ (j:Nat) (l:cH),C.ay[j]?=some l->l.pair.a6=[]/\l.bt=[]) (w:∀ v ∈ vs,v.node.toNat<C.ay.length):iE (C.jL vs) vs λ_=>none:=by
 have s:nr vs 0 C:=⟨λj l a=>by obtain ⟨g,n⟩:=he j l a;rw [g,n];exact ⟨rfl,List.Pairwise.nil,λt q b=>by simp at b⟩,λq c=>by omega⟩
 have h:=nr.from vs s (λi=>by rw [gG]) w;rw [gG] at h;refine ⟨?_,⟨List.replicate vs.length ⟨0,[]⟩,rfl,by simp,λq d e=>by cases e⟩,λj l a=>?_,λq c _=>h.left q c⟩
 ·have:∀ (us:List aG) (D:bf) (k:Nat),(D.eS k us).alive=D.alive:=λus=>by
   induction us with
   |nil=>intro D k;rfl
   |cons v vs x=>intro D k;exact (x (D.eK k v) (k+1)).trans rfl
  exact (this vs C 0).trans u
 ·obtain ⟨o,p,r⟩:=h.lane j l a;exact ⟨o,p,λt q b=>by obtain ⟨_,v,b1,az,f⟩:=r t q b;exact ⟨v,b1,az,f,rfl⟩⟩
end
section
theorem HA (C:bf) (j:Nat) (l:cH) (p:cF) (d:Option aC):(C.comes j l p d).alive=C.alive:=by cases d<;>rfl
theorem zP {n:aH} {a:Nat} {ws:a4} (h:a+ws.length<=n.words.length):(n.write a ws).words.length=n.words.length:=by unfold aH.write;simp;omega
theorem rf {n:aH} {a:Nat} {ws:a4} (h:a+ws.length<=n.words.length) (i:Nat):(n.write a ws).get i=if a<=i/\i<a+ws.length then ws.getD (i - a) 0 else n.get i:=by
 unfold aH.write aH.get;simp only [cK];by_cases b:i<a
 ·rw [if_neg (by omega),jW,jd (by simp;omega),z0 b]
 ·by_cases c:i<a+ws.length
  ·rw [if_pos ⟨by omega,c⟩,jW,jv (by simp;omega),jd (by simp;omega)];congr 2;simp;omega
  ·rw [if_neg (by omega),jv (by simp;omega),kW];congr 2;simp;omega
theorem LC {n:aH} {a:Nat} (h:a<n.words.length) (v:Int) (i:Nat):({ n with words:=n.words.set a v }:aH).get i=if i=a then v else n.get i:=by
 unfold aH.get;simp only [cK];by_cases e:i=a
 ·subst e;rw [if_pos rfl,ei h];rfl
 ·rw [if_neg e,gg (λb=>e b.symm)]
theorem zt {v:aF} (c:1<=v.count) (d:v.bQ % 8+v.count<=8) (b:0<=v.bQ):v.pieces=[(v.bQ,v.count)]:=by
 unfold aF.pieces;obtain ⟨f,a⟩:∃ f,v.count.toNat=f+1:=⟨v.count.toNat - 1,by omega⟩;rw [a,gI,if_neg (by omega)];have e:(if 8 - v.bQ % 8<v.count then 8 - v.bQ % 8 else v.count)=v.count:=by
  split
  ·omega
  ·rfl
 rw [e];cases f with
 |zero=>rfl
 |succ f=>rw [gI,if_pos (by omega)]
structure et (N L:Nat) (x:aG):Prop where
 valid:∀ m:Int,N<=m->m<=5->x.v.valid m L=0
 node:0<=x.node/\x.node<N
 key:x.key=1
 dQ:x.dQ=1
theorem Ck {p:cF} {n:aH} {x:aG} {xs:List aG} (aj:p.a6=x::xs) (a:p.refusal x n=0) :
  p.step n=if p.bO+1<x.v.pieces.length then ({ p with bO:=p.bO+1,words:=p.words++(exec x (x.v.pieces.getD p.bO (0,0)) n).2 },(exec x (x.v.pieces.getD p.bO (0,0)) n).1,none)
   else (p.done,(exec x (x.v.pieces.getD p.bO (0,0)) n).1,some ⟨0,p.words++(exec x (x.v.pieces.getD p.bO (0,0)) n).2⟩):=by
 unfold cF.step;rw [aj];simp only;rw [if_neg (by rw [a];simp)]
theorem Kc {p:cF} {n:aH} {x:aG} {xs:List aG} (c:gk p) (aj:p.a6=x::xs) (d:p.refusal x n=0) {pc:Int×Int} (b:x.v.pieces=[pc]):p.step n=(p.done,(exec x pc n).1,some ⟨0,(exec x pc n).2⟩):=by
 have a:=c.h' x xs aj;rw [b] at a;have he:p.bO=0:=by simp at a;exact a
 rw [Ck aj d,b,he];simp [c.zero he]
structure pk (a k:Nat) (n n':aH):Prop where
 len:n'.words.length=n.words.length
 down:n'.down=n.down
 get:∀ i,i<a\/a+k<=i->n'.get i=n.get i
theorem HW {x:aG} (g:x.kind=2) (h:0<=x.at_) {n:aH} (k:x.at_+x.words.length<=n.words.length) {pc:Int×Int} (f:pc ∈ x.v.pieces):pk x.at_.toNat x.words.length n (exec x pc n).1/\(exec x pc n).2=[]:=by
 have a:x.v.count=x.words.length:=by unfold aF.count;have:x.v.Kind=2:=g;simp [this];rfl
 have c:=vR _ _ _ (show 0<=x.v.bQ from h) pc f;rw [a] at c;have d:x.v.bQ=x.at_:=rfl;rw [d] at c;have e:exec x pc n=(n.write pc.1.toNat ((x.words.drop (pc.1 - x.at_).toNat).take pc.2.toNat),[]):=by unfold exec;rw [if_neg (by omega),if_pos g]
 rw [e];have b:((x.words.drop (pc.1 - x.at_).toNat).take pc.2.toNat).length=pc.2.toNat:=by simp;omega
 refine ⟨⟨zP (by rw [b];omega),rfl,λi j=>?_⟩,rfl⟩;rw [rf (by rw [b];omega),b,if_neg (by omega)]
theorem Kd {x:aG} (a:x.kind=3) {n:aH} (pc:Int×Int):exec x pc n=(n.eU x.at_ x.old x.new,[n.get x.at_.toNat]):=by unfold exec;rw [if_neg (by omega),if_neg (by omega),if_pos a]
end
section
def e_ (j:b_):List aG:=nH j (eQ j.aP+8) (eD j.seq j.writes)
def gM (j:b_):List aG:=nH j (eQ j.aP) [eg j.seq]
structure Fit (vs:List aG) (ds:List aC):Prop where
 len:ds.length=vs.length
 each:∀ (q:Nat) (v:aG) (d:aC),vs[q]?=some v->ds[q]?=some d->d.code=0/\(d.words.length:Int)=v.v.g7
theorem Gi:∀ {ds:List aC},(∀ d ∈ ds,d.code=0)->jm ds=0
 | [],_=>rfl
 |d::ds,h=>by unfold jm;rw [if_pos (h d d_)];exact Gi λx a=>h x (e2 _ a)
theorem Fit.Oo {vs:List aG} {ds:List aC} (h:Fit vs ds):jm ds=0:=Gi λd aA=>by
 obtain ⟨q,c⟩:=gh.1 aA;have b:=cz c;have a:q<vs.length:=by rw [<-h.len];exact b
 exact (h.each q vs[q] d (bM a) c).1
theorem Fit.k' {vs:List aG} {ds:List aC} (h:Fit vs ds):Go.Proofs.YtmkljjbioomepaaGreat.k' vs ds=true:=by unfold Go.Proofs.YtmkljjbioomepaaGreat.k';rw [eH,decide_eq_true_eq,gd];refine ⟨h.len.symm,λp e=>?_⟩;obtain ⟨q,f⟩:=gh.1 e;obtain ⟨c,d⟩:=List.getElem?_zip_eq_some.1 f;obtain ⟨a,b⟩:=h.each q p.1 p.2 c d;unfold sU;rw [if_pos a];exact decide_eq_true b
theorem mD {vs:List aG} (h:vs≠[]) (a:Int):cd [] vs a=⟨false,[],(0,0),[],some vs,false⟩:=by
 have c:vs.length≠0:=λe=>h (nY.1 e)
 have b:batch [] vs=⟨[],false,[],some vs,false⟩:=by unfold batch;rw [if_neg c]
 unfold cd;rw [b];rfl
theorem mF {vs:List aG} {d:List aC} (G:List (List aC)) (aj:vs≠[]) (h:Fit vs d) (a:Int):cd (d::G) vs a=⟨true,d,(0,0),G,none,false⟩:=by
 have c:vs.length≠0:=λe=>aj (nY.1 e)
 have b:batch (d::G) vs=⟨d,true,G,none,false⟩:=by unfold batch;rw [if_neg c];simp only [h.k',if_true]
 unfold cd;rw [b];simp only [h.Oo];rfl
theorem zQ (G:List (List aC)) (a:Int):cd G [] a=⟨true,[],(0,0),G,none,false⟩:=by have b:batch G []=⟨[],true,G,none,false⟩:=if_pos rfl;unfold cd;rw [b];rfl
set_option linter.unusedSectionVars false
section
variable {j:b_} (aj:j.valid=0) (cB:j.writes≠[])
include aj cB
theorem tJ (hm:j.v.mem≠[]):e_ j≠[]/\gM j≠[]:=by unfold e_ gM nH;simp [hm]
theorem zR (G:List (List aC)):qw j G=cd G (e_ j) 1:=by unfold qw mH e_;rw [if_neg cB]
theorem zS (G:List (List aC)):pd j G=cd G (gM j) 2:=by unfold pd mH gM;rw [if_neg cB]
theorem tp (G:List (List aC)):kC j G=cd G (fo j) 3:=by unfold kC;rw [if_neg cB]
theorem Cl:c2 j≠[]:=by
 unfold c2;cases h:j.writes with
 |nil=>exact absurd h cB
 |cons p l=>simp
theorem CT (hm:j.v.mem≠[]):cX j []=(e_ j,(0,0),false):=by
 have a:runM j []=⟨false,[],(0,0),[],some (e_ j),false⟩:=by unfold runM nU f9 hV;rw [zR aj cB,mD (tJ aj cB hm).1];rfl
 unfold cX;rw [if_neg (by rw [aj];simp),a]
theorem Dt (hm:j.v.mem≠[]) {d0:List aC} (a:Fit (e_ j) d0) (G:List (List aC)):runM j (d0::G)=f9 [jO j,pd j,i_ j,kC j] G:=by unfold runM nU;rw [f9];unfold hV;rw [zR aj cB,mF G (tJ aj cB hm).1 a];simp only [if_true]
theorem CU (hm:j.v.mem≠[]) {d0:List aC} (a:Fit (e_ j) d0):cX j [d0]=(c2 j,(0,0),false):=by
 have b:runM j [d0]=⟨false,[],(0,0),[],some (c2 j),false⟩:=by rw [Dt aj cB hm a,f9];unfold hV jO;rw [mD (Cl aj cB)];rfl
 unfold cX;rw [if_neg (by rw [aj];simp),b]
theorem Cm {D:List aC} (a:Fit (c2 j) D) (b:fr (fA j) D=false) (G:List (List aC)):jO j (D::G)=⟨true,[],(0,0),G,none,false⟩:=by unfold jO;rw [mF G (Cl aj cB) a];simp only [b,if_true];rfl
theorem Du (hm:j.v.mem≠[]) {d0 D:List aC} (a:Fit (e_ j) d0) (b:Fit (c2 j) D) (c:fr (fA j) D=false) (G:List (List aC)):runM j (d0::D::G)=f9 [pd j,i_ j,kC j] G:=by rw [Dt aj cB hm a,f9];unfold hV;rw [Cm aj cB b c];simp only [if_true]
theorem CV (hm:j.v.mem≠[]) {d0 D:List aC} (a:Fit (e_ j) d0) (b:Fit (c2 j) D) (c:fr (fA j) D=false):cX j [d0,D]=(gM j,(0,0),false):=by
 have d:runM j [d0,D]=⟨false,[],(0,0),[],some (gM j),false⟩:=by rw [Du aj cB hm a b c,f9];unfold hV;rw [zS aj cB,mD (tJ aj cB hm).2];rfl
 unfold cX;rw [if_neg (by rw [aj];simp),d]
theorem sr (hm:j.v.mem≠[]) {d0 D d2:List aC} (a:Fit (e_ j) d0) (c:Fit (c2 j) D) (d:fr (fA j) D=false) (b:Fit (gM j) d2) (G:List (List aC)):runM j (d0::D::d2::G)=f9 [i_ j,kC j] G:=by rw [Du aj cB hm a c d,f9];unfold hV;rw [zS aj cB,mF G (tJ aj cB hm).2 b];simp only [if_true]
theorem Ng (hm:j.v.mem≠[]) {d0 D d2:List aC} (a:Fit (e_ j) d0) (c:Fit (c2 j) D) (e:fr (fA j) D=false) (b:Fit (gM j) d2) (d:hW j≠[]):cX j [d0,D,d2]=(hW j,(0,0),false):=by
 have f:runM j [d0,D,d2]=⟨false,[],(0,0),[],some (hW j),false⟩:=by rw [sr aj cB hm a c e b,f9];unfold hV i_;rw [mD d];rfl
 unfold cX;rw [if_neg (by rw [aj];simp),f]
theorem rW (hm:j.v.mem≠[]):fo j≠[]:=by
 unfold fo;cases h:j.v.mem with
 |nil=>exact absurd h hm
 |cons m l=>simp
theorem Nh (hm:j.v.mem≠[]) {d0 D d2 d3:List aC} (a:Fit (e_ j) d0) (d:Fit (c2 j) D) (f:fr (fA j) D=false) (b:Fit (gM j) d2) (e:hW j≠[]) (c:Fit (hW j) d3):cX j [d0,D,d2,d3]=(fo j,(0,0),false):=by
 have g:runM j [d0,D,d2,d3]=⟨false,[],(0,0),[],some (fo j),false⟩:=by rw [sr aj cB hm a d f b,f9];unfold hV i_;rw [mF [] e c];simp only [if_true];rw [f9];unfold hV;rw [tp aj cB,mD (rW aj cB hm)];rfl
 unfold cX;rw [if_neg (by rw [aj];simp),g]
theorem LD (hm:j.v.mem≠[]) {d0 D d2:List aC} (a:Fit (e_ j) d0) (c:Fit (c2 j) D) (e:fr (fA j) D=false) (b:Fit (gM j) d2) (d:hW j=[]):cX j [d0,D,d2]=(fo j,(0,0),false):=by
 have f:runM j [d0,D,d2]=⟨false,[],(0,0),[],some (fo j),false⟩:=by rw [sr aj cB hm a c e b,f9];unfold hV i_;rw [d,zQ];simp only [if_true];rw [f9];unfold hV;rw [tp aj cB,mD (rW aj cB hm)];rfl
 unfold cX;rw [if_neg (by rw [aj];simp),f]
theorem Ni (hm:j.v.mem≠[]) {d0 D d2 d3 d4:List aC} (a:Fit (e_ j) d0) (e:Fit (c2 j) D) (g:fr (fA j) D=false) (b:Fit (gM j) d2) (f:hW j≠[]) (c:Fit (hW j) d3) (d:Fit (fo j) d4):cX j [d0,D,d2,d3,d4]=([],(0,3),true):=by
 have h:runM j [d0,D,d2,d3,d4]=n6 []:=by rw [sr aj cB hm a e g b,f9];unfold hV i_;rw [mF [d4] f c];simp only [if_true];rw [f9];unfold hV;rw [tp aj cB,mF [] (rW aj cB hm) d];rfl
 unfold cX;rw [if_neg (by rw [aj];simp),h];rfl
theorem LF (hm:j.v.mem≠[]) {d0 D d2 d4:List aC} (a:Fit (e_ j) d0) (d:Fit (c2 j) D) (f:fr (fA j) D=false) (b:Fit (gM j) d2) (e:hW j=[]) (c:Fit (fo j) d4):cX j [d0,D,d2,d4]=([],(0,3),true):=by
 have g:runM j [d0,D,d2,d4]=n6 []:=by rw [sr aj cB hm a d f b,f9];unfold hV i_;rw [e,zQ];simp only [if_true];rw [f9];unfold hV;rw [tp aj cB,mF [] (rW aj cB hm) c];rfl
 unfold cX;rw [if_neg (by rw [aj];simp),g];rfl
end
end
section
def h9 (n:Nat):iI:=⟨0,stM n⟩
theorem fe.hS {A:a2} {ar:Nat->Tag} {w0 w u:al} {aM:Nat} {L B:a2} {f:Nat->Tag} {X a:bl} (t:fe A ar w aM L u B f X) (c:bX A ar w aM a) (e:ai w0 w) (b:∀ k,A k->w0.heap.size<=k):ai w0 u:=
 e.trans t.next.ax λk g d=>by have:=b k (c.eO k d);omega
theorem LG {A:a2} {w u:al} {a:an} {xs:aw} (b:bg w a xs) (e:ai w u) (d:∀ k,A k->w.heap.size<=k):oa A u a xs:=by
 refine ⟨b.new e,?_⟩;by_cases c:xs=[]
 ·exact .inl c
 ·refine .inr ?_;cases a with
  |none=>trivial
  |some a=>intro h;have:=d _ h;have:=b.lt c;omega
namespace dq
def conv:Conv:=⟨b_,Int×Int,cX⟩
structure ph (A:a2) (w:al) (r:cU) (j:b_):Prop where
 at_:oW w r j
 view:fG A w r.View j.v
 Uf:(CN j.reads).flatten=[]\/fM A r.Reads
 Uh:(hz j.writes).flatten=[]\/fM A r.ef
 j6:n7 j
theorem fG.ax {A A':a2} {w w':al} {r:cO} {v:iI} (h:fG A w r v) (b:ao A w w') (a:∀ k,k<w.heap.size->A' k->A k):fG A' w' r v:=
 ⟨h.num,h.len,h.cap,h.rd.ax b h.off,fM.ax h.rd h.off a,h.small⟩
theorem ph.ax {A A':a2} {w w':al} {r:cU} {j:b_} (h:ph A w r j) (d:ao A w w') (c:∀ k,k<w.heap.size->A' k->A k):ph A' w' r j:=by obtain ⟨a,aj,e,hw,aA⟩:=h;have b:=fG.ax aj d c;exact ⟨⟨a.aP,a.seq,a.lines,⟨A',b⟩,a.rd.ax d e,a.len,a.dM,⟨a.fR.rd.ax d hw,a.fR.len,a.fR.dM,a.fR.u64⟩⟩,b,fM.ax a.rd e c,fM.ax a.fR.rd hw c,aA⟩
end dq
end
section
open dq
def bb (m:Nat):aO:=⟨(m:Int),1,true⟩
def b5 (m:Nat) (a:Int) (ws:a4):aG:=⟨2,(m:Int),a,0,0,0,ws,1,1⟩
def mz (a old new:Int):aG:=⟨3,0,a,0,old,new,[],1,1⟩
def E7 (a:Int):aG:=⟨1,0,a,1,0,0,[],1,1⟩
theorem ng {n L m:Nat} {a:Int} {ws:a4} (l:n<=5) (hm:m<n) (h:1<=L/\L<=256) (i:24<=a) (e:1<=ws.length) (f:ws.length<=1000) (g:a+ws.length<=L * 8):et n L (b5 m a ws):=by
 refine ⟨λk j d=>?_,⟨by show (0:Int)<=m;omega,by show (m:Int)<n;omega⟩,rfl,rfl⟩;have b:(b5 m a ws).v.count=ws.length:=rfl;have c:(b5 m a ws).v.inside k L=true:=by unfold aF.inside aF.c3 aF.b6;rw [b];apply decide_eq_true;show 1<=k/\k<=5/\1<=(L:Int)/\(L:Int)<=256/\0<=(m:Int)/\(m:Int)<k/\0<=a/\a<(L:Int) * 8/\(ws.length:Int)<=1024/\(a+ws.length - 1) / 8<(L:Int)/\(a+ws.length - 1) / 8 - a / 8<128;omega
 unfold aF.valid;rw [b,if_neg (by omega),c,if_neg (by simp),if_neg];unfold aF.c3 aF.b6 aF.last;rw [b];show ¬ (a / 8<=(if (2:Int)=1 then 3 else 2)/\(if (2:Int)=1 then 3 else 2)<(a+ws.length - 1) / 8);rw [if_neg (by omega)];omega
theorem Nl {n L:Nat} {a old new:Int} (i:1<=n/\n<=5) (f:1<=L/\L<=256) (g:32<=a) (e:a+1<=L * 8):et n L (mz a old new):=by
 refine ⟨λk h d=>?_,⟨by show (0:Int)<=0;omega,by show (0:Int)<n;omega⟩,rfl,rfl⟩;have b:(mz a old new).v.count=1:=rfl;have c:(mz a old new).v.inside k L=true:=by unfold aF.inside aF.c3 aF.b6;rw [b];apply decide_eq_true;show 1<=k/\k<=5/\1<=(L:Int)/\(L:Int)<=256/\0<=(0:Int)/\(0:Int)<k/\0<=a/\a<(L:Int) * 8/\(1:Int)<=1024/\(a+1 - 1) / 8<(L:Int)/\(a+1 - 1) / 8 - a / 8<128;omega
 unfold aF.valid;rw [b,if_neg (by omega),c,if_neg (by simp),if_neg];unfold aF.c3 aF.b6 aF.last;rw [b];show ¬ (a / 8<=(if (3:Int)=1 then 3 else 2)/\(if (3:Int)=1 then 3 else 2)<(a+1 - 1) / 8);rw [if_neg (by omega)];omega
structure Env where
 n:Nat
 L:Nat
 base:Nat->Nat->Int
 fH:Nat->Int
 ids:d9
 a8:Nat->b_
 Ug:Bool
def Env.on (E:Env) (i:Nat):Prop:=i ∈ E.ids
structure db (E:Env) (i:Nat) (j:b_):Prop where
 cC:j.aP=(i:Int)
 i6:i<6
 valid:j.valid=0
 view:j.v=h9 E.n
 some_:j.writes≠[]
 dM:j.writes.length<=12
 zg:j.reads.length<=24
 line:∀ p ∈ j.writes,∃ l:Nat,p.bm=(l:Int)/\96<=l/\l<E.L
 Ue:∀ s ∈ j.reads,∃ l:Nat,s.bm=(l:Int)/\96<=l/\l<E.L
 uniq:∀ p ∈ j.writes,∀ q ∈ j.writes,p.bm=q.bm->p=q
 nodup:(j.writes.map (·.bm)).Nodup
 head:∀ p ∈ j.writes,p.Head=E.base p.bm.toNat 0
 Ub:∀ p ∈ j.writes,∀ k:Nat,k<6->eP p.Head k≠p.Head/\(eP p.Head k=eP p.Head i->k=i)
 next:∀ p ∈ j.writes,m6 p.Head≠p.Head
 Ud:∀ s ∈ j.reads,s.Head=E.base s.bm.toNat 0
 Uc:∀ s ∈ j.reads,∀ p ∈ j.writes,s.bm≠p.bm
structure gN (E:Env):Prop where
 n:1<=E.n/\E.n<=5
 L:98<=E.L/\E.L<=256
 ids:E.ids.Nodup
 bs:∀ i,E.on i->db E i (E.a8 i)
section
variable {E:Env} {i:Nat} {j:b_}
theorem db.mem (h:db E i j):j.v.mem=(List.range E.n).map bb:=by rw [h.view];rfl
theorem db.num (h:db E i j):j.v.number=0:=by rw [h.view];rfl
theorem db.bJ (h:db E i j) (b:1<=E.n):q2 j=bb 0:=by unfold q2;rw [h.mem];obtain ⟨k,a⟩:∃ k,E.n=k+1:=⟨E.n - 1,by omega⟩;rw [a,r4];rfl
theorem db.tail (h:db E i j):j.v.mem.tail=(List.range (E.n - 1)).map λm=>bb (m+1):=by
 rw [h.mem];cases a:E.n with
 |zero=>rfl
 |succ k=>rw [r4];simp
theorem db.log (h:db E i j) (a:Int) (ws:a4):nH j a ws=(List.range E.n).map λm=>b5 m a ws:=by unfold nH;rw [h.mem,h.num,jZ];rfl
theorem db.eU (h:db E i j) (a:1<=E.n) (p:aR):k9 j p=mz (p.bm * 8) p.Head (eP p.Head i):=by unfold k9;rw [h.num,h.bJ a,h.cC];rfl
theorem db.read (h:db E i j) (a:1<=E.n) (s:en):nf j s=E7 (s.bm * 8):=by unfold nf;rw [h.num,h.bJ a];rfl
def ep (m:Nat) (p:aR):aG:=b5 m (p.bm * 8) (hc p)
def jC (i:Nat) (seq:Int) (m:Nat):aG:=b5 m (32+(i:Int)) [seq]
theorem db.eE (h:db E i j) (m:Nat) (p:aR):iZ j (bb m) p=ep m p:=by unfold iZ;rw [h.num];rfl
theorem db.clock (h:db E i j) (m:Nat):kN j (bb m)=jC i j.seq m:=by unfold kN;rw [h.num,h.cC];rfl
theorem db.sZ (h:db E i j) (a:1<=E.n):c2 j=(j.writes.map λp=>mz (p.bm * 8) p.Head (eP p.Head i))++j.reads.map λs=>E7 (s.bm * 8):=by
 unfold c2;congr 1
 ·exact ml λp _=>h.eU a p
 ·exact ml λs _=>h.read a s
theorem db.qG (h:db E i j):hW j=((List.range (E.n - 1)).map λm=>(j.writes.map (ep (m+1))++[jC i j.seq (m+1)])).flatten:=by
 unfold hW;rw [h.tail,jZ];congr 1;refine ml λm _=>?_
 show jH j (bb (m+1))=_;unfold jH;rw [if_neg h.some_,h.clock];congr 1;exact ml λp _=>h.eE (m+1) p
theorem db.ov (h:db E i j) (b:1<=E.n):fo j=jC i j.seq 0::j.writes.map (ep 0):=by have hm:=h.mem;unfold fo;obtain ⟨k,a⟩:∃ k,E.n=k+1:=⟨E.n - 1,by omega⟩;rw [a,r4] at hm;rw [hm];simp only [g'];rw [h.clock];congr 1;exact ml λp _=>h.eE 0 p
theorem db.On (h:db E i j):e_ j=(List.range E.n).map λm=>b5 m (56+120 * (i:Int)) (eD j.seq j.writes):=by
 unfold e_;rw [h.log,h.cC];have e:eQ (i:Int)+8=56+120 * (i:Int):=by unfold eQ;omega
 rw [e]
theorem db.P3 (h:db E i j):gM j=(List.range E.n).map λm=>b5 m (48+120 * (i:Int)) [eg j.seq]:=by unfold gM;rw [h.log,h.cC];rfl
end
end
section
open dq
structure cQ (L:Nat) (e4:Bool) (n:aH):Prop where
 up:n.down=false
 len:n.words.length=L * 8
 key:n.get 0=1
 dQ:n.get 1=1
 d0:n.get 24=if e4=true then 2 else 1
 dL:∀ c:Nat,1<=c->c<6->n.get (24+c)=1
theorem xZ {N L:Nat} {e4:Bool} {n:aH} (a:cQ L e4 n) (l:N<=5) {x:aG} (d:et N L x) {p:cF} {c:Nat} (k:p.aP=c) (j:p.inc=1) (i:c<6):p.refusal x n=if x.v.cls=1/\x.v.Kind=1 then 0 else if e4=true/\c=0 then 5 else 0:=by
 unfold cF.refusal;rw [if_neg (by rw [a.up];simp),a.len,show L * 8 / 8=L by omega,if_neg (by rw [d.valid 5 (by omega) (by omega)];simp)];have e:(24+p.aP).toNat=24+c:=by rw [k];omega
 rw [e,a.key,a.dQ,j];unfold aF.check;split
 ·rfl
 have h:¬ (x.v.ch<0\/x.v.ch≠1\/x.v.Key≠1):=by show ¬ (x.dQ<0\/x.dQ≠1\/x.key≠1);rw [d.key,d.dQ];omega
 have g:∀ b:Int,(if (1:Int)<0\/(1:Int)<b then (5:Int) else if x.v.cls=1 then 0 else if x.v.ch<0\/x.v.ch≠1\/x.v.Key≠1 then 5 else 0)=if 1<b then 5 else 0:=λb=>by
  rw [if_neg h];by_cases aA:1<b
  ·rw [if_pos (.inr aA),if_pos aA]
  ·rw [if_neg (by omega),if_neg aA];split<;>rfl
 rw [g];by_cases f:c=0
 ·subst f;rw [lz,a.d0];cases e4<;>rfl
 ·rw [a.dL c (by omega) i,if_neg (by decide),if_neg (λe=>f e.2)]
theorem pk.aZ {a k L:Nat} {e4:Bool} {n n':aH} (h:pk a k n n') (b:cQ L e4 n) (f:30<=a):cQ L e4 n':=
 ⟨h.down.trans b.up,h.len.trans b.len,(h.get 0 (by omega)).trans b.key,(h.get 1 (by omega)).trans b.dQ,by rw [h.get 24 (by omega)];exact b.d0,λc d e=>by rw [h.get (24+c) (by omega)];exact b.dL c d e⟩
abbrev gu (E:Env):List aR:=(E.a8 0).writes
abbrev gP (E:Env):Int:=(E.a8 0).seq
abbrev zj (E:Env):a4:=eD (gP E) (gu E)
abbrev zk (E:Env):Int:=eg (gP E)
abbrev gD (p:aR):Nat:=p.bm.toNat
structure dP (E:Env):Prop where
 e:gN E
 one:E.ids=[0]
 rd:(E.a8 0).reads=[]
 Ua:∀ p ∈ gu E,eP p.Head 0≠m6 p.Head
 dn:ff (gP E) (gu E) E.L=0
 j6:n7 (E.a8 0)
 u64:∀ p ∈ gu E,b3 p.Head
 fH:0<=E.fH 0/\E.fH 0<gP E
 bT:∀ l,96<=l->l<E.L->E.base l 0 % 2=0
theorem dP.bs {E:Env} (h:dP E):db E 0 (E.a8 0):=h.e.bs 0 (by unfold Env.on;rw [h.one];simp)
theorem dP.pl {E:Env} (h:dP E) {p:aR} (c:p ∈ gu E):96<=gD p/\gD p<E.L/\p.bm=(gD p:Int):=by
 obtain ⟨l,e,a,b⟩:=h.bs.line p c;have:gD p=l:=by show p.bm.toNat=l;rw [e];rfl
 rw [this];exact ⟨a,b,e⟩
theorem dP.inj {E:Env} (h:dP E) {p q:aR} (a:p ∈ gu E) (b:q ∈ gu E) (e:gD p=gD q):p=q:=
 h.bs.uniq p a q b (by rw [(h.pl a).2.2,(h.pl b).2.2,e])
theorem dP.yx {E:Env} (h:dP E):(zj E).length=3+9 * (gu E).length/\(gu E).length<=12:=⟨kE _ _,h.bs.dM⟩
section
variable {E:Env} {ns:List aH} {m:Nat} {x jc:aH}
end
end
section
open dq
section
variable {E:Env} {m:Nat} {p:aR}
end
section
variable {E:Env} {ns:List aH} {m:Nat} {x:aH}
theorem dP.q0 {E:Env} (h:dP E):784<=E.L * 8:=by have:=h.e.L;omega
end
end
section
open dq
def cS (m:Nat) (a o w:Int):aG:=⟨3,(m:Int),a,0,o,w,[],1,1⟩
def c_ (m:Nat) (a k:Int):aG:=⟨1,(m:Int),a,k,0,0,[],1,1⟩
theorem sg {n L m:Nat} {a o w:Int} (i:n<=5) (hm:m<n) (f:1<=L/\L<=256) (g:24<=a) (e:a+1<=L * 8):et n L (cS m a o w):=by
 refine ⟨λk h d=>?_,⟨by show (0:Int)<=m;omega,by show (m:Int)<n;omega⟩,rfl,rfl⟩;have b:(cS m a o w).v.count=1:=rfl;have c:(cS m a o w).v.inside k L=true:=by unfold aF.inside aF.c3 aF.b6;rw [b];apply decide_eq_true;show 1<=k/\k<=5/\1<=(L:Int)/\(L:Int)<=256/\0<=(m:Int)/\(m:Int)<k/\0<=a/\a<(L:Int) * 8/\(1:Int)<=1024/\(a+1 - 1) / 8<(L:Int)/\(a+1 - 1) / 8 - a / 8<128;omega
 unfold aF.valid;rw [b,if_neg (by omega),c,if_neg (by simp),if_neg];unfold aF.c3 aF.b6 aF.last;rw [b];show ¬ (a / 8<=(if (3:Int)=1 then 3 else 2)/\(if (3:Int)=1 then 3 else 2)<(a+1 - 1) / 8);rw [if_neg (by omega)];omega
theorem x0 {n L m:Nat} {a c:Int} (l:n<=5) (hm:m<n) (h:1<=L/\L<=256) (i:0<=a) (f:1<=c/\c<=1000) (g:a+c<=L * 8) (o:32<=a\/a+c<=32):et n L (c_ m a c):=by
 refine ⟨λk j e=>?_,⟨by show (0:Int)<=m;omega,by show (m:Int)<n;omega⟩,rfl,rfl⟩;have b:(c_ m a c).v.count=c:=rfl;have d:(c_ m a c).v.inside k L=true:=by unfold aF.inside aF.c3 aF.b6;rw [b];apply decide_eq_true;show 1<=k/\k<=5/\1<=(L:Int)/\(L:Int)<=256/\0<=(m:Int)/\(m:Int)<k/\0<=a/\a<(L:Int) * 8/\c<=1024/\(a+c - 1) / 8<(L:Int)/\(a+c - 1) / 8 - a / 8<128;omega
 unfold aF.valid;rw [b,if_neg (by omega),d,if_neg (by simp),if_neg];unfold aF.c3 aF.b6 aF.last;rw [b];show ¬ (a / 8<=(if (1:Int)=1 then 3 else 2)/\(if (1:Int)=1 then 3 else 2)<(a+c - 1) / 8);rw [if_pos rfl];omega
theorem ua:∀ (f:Nat) (a c:Int),a % 8=0->c<=f->∀ e:Nat,(gI f a c)[e]?=if 8 * (e:Int)<c then some (a+8 * e,if 8<c - 8 * e then 8 else c - 8 * e) else none
 | 0,a,c,g,i,e=>by rw [if_neg (by omega)];rfl
 |f+1,a,c,g,i,e=>by
  unfold gI;by_cases b:c<=0
  ·rw [if_pos b,if_neg (by omega)];rfl
  rw [if_neg b,g];by_cases d:8 - 0<c
  ·rw [if_pos d];cases e with
   |zero=>rw [if_pos (by omega)];simp only [qd];congr 1;rw [if_pos (by omega)];simp
   |succ e=>
    rw [qc,ua f _ _ (by omega) (by omega) e];by_cases h:8 * ((e+1:Nat):Int)<c
    ·rw [if_pos (by omega),if_pos h];congr 2
     ·omega
     ·congr 1
      ·simp;omega
      ·omega
    ·rw [if_neg (by omega),if_neg h]
  ·rw [if_neg d];cases e with
   |zero=>rw [if_pos (by omega)];simp only [qd];rw [if_neg (by omega)];simp
   |succ e=>
    rw [qc,if_neg (by omega)];cases f with
    |zero=>rfl
    |succ f=>unfold gI;rw [if_pos (by omega)];rfl
section
variable {p:cF} {x:aH} {hJ:List aG} {m:Nat}
theorem Dh {a:Nat} {ws:a4} (t:gk p) (j:p.a6=b5 m a ws::hJ) (u:p.refusal (b5 m a ws) x=0) (z:a % 8=0) (aA:p.words=[]) (C:a+ws.length<=x.words.length) :
  8 * p.bO<ws.length/\(p.step x).2.1=x.write (a+8 * p.bO) ((ws.drop (8 * p.bO)).take 8)/\pk a ws.length x (p.step x).2.1/\(∀ k,k<ws.length->8 * p.bO<=k/\k<8 * (p.bO+1)\/x.get (a+k)=ws.getD k 0->(p.step x).2.1.get (a+k)=ws.getD k 0)/\
   ((8 * (p.bO+1)<ws.length/\(p.step x).1={ p with bO:=p.bO+1 }/\(p.step x).2.2=none)\/(ws.length<=8 * (p.bO+1)/\(p.step x).1=p.done/\(p.step x).2.2=some ⟨0,[]⟩)):=by
 have r:=t.h' _ _ j;have c:(b5 m a ws).v.count=ws.length:=rfl;have s:∀ e:Nat,(b5 m a ws).v.pieces[e]?=if 8 * (e:Int)<ws.length then some ((a:Int)+8 * e,if 8<(ws.length:Int) - 8 * e then 8 else (ws.length:Int) - 8 * e) else none:=λe=>by unfold aF.pieces;rw [c];exact ua _ _ _ (by show (a:Int) % 8=0;omega) (by omega) e
 have hlen:∀ e:Nat,e<(b5 m a ws).v.pieces.length↔8 * e<ws.length:=λe=>by
  have:=s e;constructor
  ·intro h;rw [bM h] at this;by_cases o:8 * (e:Int)<ws.length
   ·omega
   ·rw [if_neg o] at this;cases this
  ·intro h;rw [if_pos (by omega)] at this;exact cz this
 have o:=(hlen _).1 r;have q:(b5 m a ws).v.pieces.getD p.bO (0,0)=((a:Int)+8 * p.bO,if 8<(ws.length:Int) - 8 * p.bO then 8 else (ws.length:Int) - 8 * p.bO):=by rw [cK,s,if_pos (by omega)];rfl
 have y:exec (b5 m a ws) ((b5 m a ws).v.pieces.getD p.bO (0,0)) x=(x.write (a+8 * p.bO) ((ws.drop (8 * p.bO)).take 8),[]):=by
  rw [q];unfold exec;rw [if_neg (show ¬ (b5 m a ws).kind=1 by show ¬ (2:Int)=1;omega),if_pos (show (b5 m a ws).kind=2 from rfl)];show (x.write ((a:Int)+8 * p.bO).toNat ((ws.drop ((a:Int)+8 * p.bO - (a:Int)).toNat).take (if 8<(ws.length:Int) - 8 * p.bO then (8:Int) else (ws.length:Int) - 8 * p.bO).toNat),([]:a4))=_;have e:(ws.drop (8 * p.bO)).take (if 8<(ws.length:Int) - 8 * p.bO then (8:Int) else (ws.length:Int) - 8 * p.bO).toNat=(ws.drop (8 * p.bO)).take 8:=by
   split
   ·rfl
   ·rw [gb (by rw [jY];omega),gb (by rw [jY];omega)]
  rw [show ((a:Int)+8 * p.bO - (a:Int)).toNat=8 * p.bO by omega,show ((a:Int)+8 * p.bO).toNat=a+8 * p.bO by omega,e]
 have b:=Ck j u;rw [y,aA] at b;have w:((ws.drop (8 * p.bO)).take 8).length<=8/\a+8 * p.bO+((ws.drop (8 * p.bO)).take 8).length<=a+ws.length:=by simp;omega
 have g:=rf (n:=x) (a:=a+8 * p.bO) (ws:=(ws.drop (8 * p.bO)).take 8) (by omega);have l:(p.step x).2.1=x.write (a+8 * p.bO) ((ws.drop (8 * p.bO)).take 8):=by rw [b];split<;>rfl
 refine ⟨o,l,?_,λk B d=>?_,?_⟩
 ·rw [l];exact ⟨zP (by omega),rfl,λi A=>by rw [g,if_neg (by omega)]⟩
 ·rw [l,g];by_cases f:a+8 * p.bO<=a+k/\a+k<a+8 * p.bO+((ws.drop (8 * p.bO)).take 8).length
  ·rw [if_pos f,show a+k - (a+8 * p.bO)=k - 8 * p.bO by omega];simp only [cK];rw [z0 (by omega),kW];congr 2;omega
  ·rw [if_neg f];rcases d with d | d
   ·exfalso;simp at f <;> omega
   ·exact d
 ·rw [b];by_cases h:p.bO+1<(b5 m a ws).v.pieces.length
  ·rw [if_pos h];exact .inl ⟨(hlen _).1 h,by simp [aA],rfl⟩
  ·rw [if_neg h];exact .inr ⟨by have:=(hlen (p.bO+1));omega,rfl,rfl⟩
theorem Nm {a:Nat} {o w:Int} (c:gk p) (b:p.a6=cS m a o w::hJ) (e:p.refusal (cS m a o w) x=0):p.step x=(p.done,x.eU a o w,some ⟨0,[x.get a]⟩):=by have d:(cS m a o w).v.pieces=[((a:Int),1)]:=zt (v:=(cS m a o w).v) (by show (1:Int)<=1;omega) (by show (a:Int) % 8+1<=8;omega) (by show (0:Int)<=a;omega);rw [Kc c b e d,Kd rfl];rfl
end
end
end Go.Proofs.YtmkljjbioomepaaGreat
