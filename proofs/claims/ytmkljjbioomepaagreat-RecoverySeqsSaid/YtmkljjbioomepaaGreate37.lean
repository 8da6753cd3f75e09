import Derived.Test.YtmkljjbioomepaaGreate36
import Derived.Test.YtmkljjbioomepaaGreate23
import Derived.Test.YtmkljjbioomepaaGreate24
set_option linter.all false
namespace Go.Proofs.YtmkljjbioomepaaGreat
open Go.Proofs.Tryz Go.bn
variable {L a c e i j k m n:Nat} {b o w:Int} {e4:Bool}
section
open dq
theorem Av {k:Nat}:∀ {gW:List (List aG)},(∀ b ∈ gW,cost b<=k)->cost gW.flatten<=gW.length * k
 | [],_=>by simp [cost]
 |b::gW,h=>by
  have d:=Av λc a=>h c (e2 _ a)
  have e:=h b d_;rw [hr,w8,fU,hK];omega
theorem Bg {vs:List aG} {K:Nat} (h:cost vs<=n * k) (b:n<=m) (a:m * k<=K):cost vs<=K:=kq h (kq (rZ _ b) a)
section
variable {E:Env} {c:Nat}
theorem NS (n:Nat):(gC n).length=n * 2+1:=by unfold gC;rw [c8,tk (k:=2) (λb a=>by obtain ⟨m,_,rfl⟩:=cD.1 a;rfl)];simp
theorem NT (E:Env) (l:List aR):(j3 E l).length=(E.n - 1) * (l.length+1):=by unfold j3;rw [tk (k:=l.length+1) (λb a=>by obtain ⟨m,_,rfl⟩:=cD.1 a;simp)];simp
theorem T_:cost (gX c)<=1/\(gX c).length<=1024:=by
 refine ⟨?_,by simp [gX]⟩;have h:cost (gX c)<=(gX c).length * 1:=tX λv aj=>by simp only [gX,w5] at aj;subst aj;exact dd _
 exact h
theorem Cy {v:aG} (h:v.v.count.toNat<=k):cost [v]<=k:=by
 have h:cost [v]<=([v]:List aG).length * k:=tX λu hu=>by simp only [w5] at hu;subst hu;exact h
 simpa using h
theorem Bh {l:List aR} (a:l.length<=12):cost (l.map (ep m))<=96:=by
 have h:cost (l.map (ep m))<=(l.map (ep m)).length * 8:=tX λv aj=>by obtain ⟨m,_,rfl⟩:=cD.1 aj;exact dd _
 exact Bg h (show _<=12 by simpa using a) (by omega)
theorem Mb {l:List aR} (a:l.length<=12):cost (lY E l)<=97/\(lY E l).length<=1024:=by refine ⟨?_,by unfold lY;simp;omega⟩;have h:lY E l=[b5 0 32 [gP E]]++l.map (ep 0):=rfl;rw [h,w8];have b:cost [b5 0 32 [gP E]]<=1:=Cy (dd _);have:=Bh (m:=0) a;omega
theorem Mc (e:E.n<=5) {l:List aR} (d:l.length<=12):cost (j3 E l)<=388/\(j3 E l).length<=1024:=by
 refine ⟨?_,by have:=NT E l;have f:(E.n - 1) * (l.length+1)<=4 * 13:=o1 (by omega) (by omega);omega⟩;unfold j3;have a:cost ((List.range (E.n - 1)).map λm=>l.map (ep (m+1))++[b5 (m+1) 32 [gP E]]).flatten<=((List.range (E.n - 1)).map λm=>l.map (ep (m+1))++[b5 (m+1) 32 [gP E]]).length * 97:=Av λb c=>by obtain ⟨m,_,rfl⟩:=cD.1 c;rw [w8];have a:cost [b5 (m+1) 32 [gP E]]<=1:=Cy (dd _);have:=Bh (m:=m+1) d;omega
 exact Bg a (show _<=4 by simp;omega) (dd (4 * 97))
end
def q6:Nat->Option aC:=λ_=>none
section
variable {E:Env} {rs:d9} {ns:List aH} {c:Nat} {G:List (List aC)} {D:List aC}
end
end
section
open dq
theorem Dx (hm:m<n):(gC n)[2 * m]?=some (c_ m 24 1)/\(gC n)[2 * m+1]?=some (c_ m 48 120):=by
 have c:∀ b ∈ (List.range n).map (λm=>[c_ m 24 1,c_ m 48 120]),b.length=2:=λb c=>by obtain ⟨m,_,rfl⟩:=cD.1 c;rfl
 have f:((List.range n).map (λm=>[c_ m 24 1,c_ m 48 120])).flatten.length=2 * n:=by rw [tk c];simp [tP]
 have a:((List.range n).map (λm=>[c_ m 24 1,c_ m 48 120]))[m]?=some [c_ m 24 1,c_ m 48 120]:=by rw [eL,lA hm];rfl
 have d:=uf (r:=0) c a rfl;have e:=uf (r:=1) c a rfl;unfold gC;rw [jd (by omega),jd (by omega),show 2 * m=m * 2+0 by omega,show m * 2+0+1=m * 2+1 by omega];exact ⟨d,e⟩
theorem NU (n:Nat):(gC n)[2 * n]?=some (c_ 0 32 1):=by
 have a:∀ b ∈ (List.range n).map (λm=>[c_ m 24 1,c_ m 48 120]),b.length=2:=λb a=>by obtain ⟨m,_,rfl⟩:=cD.1 a;rfl
 have c:((List.range n).map (λm=>[c_ m 24 1,c_ m 48 120])).flatten.length=2 * n:=by rw [tk a];simp [tP]
 unfold gC;rw [jv (by omega),c,m3];rfl
theorem zJ (l:a4) (a:Nat):((l.drop a).take 1).headD 0=l.getD a 0:=by rw [List.headD_eq_head?_getD,List.head?_take,if_neg (by omega),List.head?_drop,cK]
section
variable {E:Env} {rs:d9} {ns:List aH} {c:Nat} {G:List (List aC)} {D:List aC}
end
end
section
open dq
theorem Aw:∀ (vs:List aG) {C:bf} {k m:Nat} {l:cH},(C.eS k vs).ay[m]?=some l->∃ c3,C.ay[m]?=some c3/\l.pair.words=c3.pair.words/\l.pair.bO=c3.pair.bO
 | [],C,k,m,l,h=>⟨l,h,rfl,rfl⟩
 |v::vs,C,k,m,l,h=>by
  obtain ⟨b6,a,c,d⟩:=Aw vs (C:=C.eK k v) (k:=k+1) h;unfold bf.eK at a;simp only [qf] at a;cases b:C.ay[m]? with
  |none=>rw [b] at a;simp at a
  |some c3=>
   rw [b] at a;refine ⟨c3,rfl,c.trans ?_,d.trans ?_⟩;all_goals
    by_cases e:v.node.toNat=m
    ·simp [e] at a;subst a;rfl
    ·simp [e] at a;subst a;rfl
structure NV (n:Nat) (C':bf) (vs:List aG):Prop where
 base:ni n C'
 qH:iE C' vs q6
 zero:∀ (k:Nat) (l:cH),C'.ay[k]?=some l->l.pair.bO=0/\l.pair.words=[]
 lX:lX C'=cost vs
 busy:vs≠[]->¬ t7 C'
section
variable {F:aB} {i n:Nat} {C:bf}
theorem HJ (e:cb F) (d:F.aU[i]?=some C) (f:t7 C) (k:Nat) (l:cH) (b:C.ay[k]?=some l):l.pair.a6=[]/\l.bt=[]/\l.pair.bO=0/\l.pair.words=[]:=by have aj:=f k l b;have c:=((e.ca.ok.aP i C d).lane k l b).bt;rw [aj] at c;have a:=e.ca.cC C (cj d) l (cj b);exact ⟨aj,nY.1 c,a.idle aj,a.zero (a.idle aj)⟩
theorem z6 (c:cb F) (b:F.aU[i]?=some C) (e:t7 C):C.waiting=0:=by
 rw [(c.ca.ok.aP i C b).waiting];unfold f0;have:∀ ls:List cH,(∀ l ∈ ls,l.pair.a6=[])->(ls.map λl=>l.pair.a6.length).sum=0:=λls=>by
  induction ls with
  |nil=>intro _;rfl
  |cons l ls g=>intro a;rw [g',m2,g λx f=>a x (e2 _ f),a l d_];rfl
 exact this C.ay λl a=>by obtain ⟨k,d⟩:=gh.1 a;exact e k l d
theorem I5 (b:cb F) (a:F.aU[i]?=some C) (d:¬ t7 C):0<F.waiting (i:Int):=by
 unfold aB.waiting;rw [iw,a];show 0<C.waiting;rw [(b.ca.ok.aP i C a).waiting];rcases wP (f0 C.ay) with e | e
 ·exact absurd (λk l c=>ti e l (cj c)) d
 ·exact e
theorem JP (x:cb F) (w:F.aU[i]?=some C) (f:ni n C) (r:t7 C) {vs:List aG} (p:∀ v ∈ vs,v.node.toNat<n):NV n (({ C with batch:=none }:bf).jL vs) vs:=by
 have c:=HJ x w r;have b:∀ v ∈ vs,v.node.toNat<({ C with batch:=none }:bf).ay.length:=λv aj=>by show _<C.ay.length;rw [f.ay];exact p v aj
 have d:iE (({ C with batch:=none }:bf).jL vs) vs q6:=iE.post f.live (λk l a=>⟨(c k l a).1,(c k l a).2.1⟩) b;obtain ⟨h,g⟩:=z5 vs ({ C with batch:=none }:bf) 0;have au:∀ (k:Nat) (l:cH),(({ C with batch:=none }:bf).jL vs).ay[k]?=some l->l.pair.bO=0/\l.pair.words=[]:=λk l a=>by obtain ⟨c3,q,t,u⟩:=Aw vs (C:=({ C with batch:=none }:bf)) (k:=0) (l:=l) a;rw [t,u];exact ⟨(c k c3 q).2.2.1,(c k c3 q).2.2.2⟩
 refine ⟨⟨g.trans f.inc,d.live,h.trans f.ay,λk l a v hJ _ _=>(au k l a).2⟩,d,au,?_,λj o=>?_⟩
 ·have:=Bf vs (C:=({ C with batch:=none }:bf)) (k:=0) (λm l a=>(c m l a).2.2.1) b;have s:lX ({ C with batch:=none }:bf)=0:=I4 r;rw [s,gG] at this;exact this
 ·obtain ⟨v,hJ,e⟩:=zX j;obtain ⟨k,l,a,hm⟩:=d.left 0 (by rw [e];simp) rfl;have:=(d.lane k l a).len;rw [o k l a] at this;rw [nY.1 this] at hm;cases hm
end
theorem xg {F:aB} {C C':bf} (h:F.aU[i]?=some C):(mP F i C').aU[i]?=some C':=ei (cz h)
theorem Cz {F:aB} {C':bf} (h:k≠i):(mP F i C').aU[k]?=F.aU[k]?:=gg (λe=>h e.symm)
abbrev jf:=bL dr.conv
section
variable {E:Env} {rs:d9} {F:aB} {g:lC}
theorem Md (aJ:dP E) (p:Nat):(eG E p).length<=1024:=by
 have b:=aJ.e.n;have a:=aJ.yx;unfold eG;split
 ·simp;omega
 ·simp;omega
 ·simp;omega
 ·exact (Mc b.2 a.2).2
 ·exact (Mb (E:=E) a.2).2
end
end
section
section
variable {S a5:Type} {st:a5->S->Option S}
inductive Path (st:a5->S->Option S):Nat->S->S->Prop
 |nil {s:S}:Path st 0 s s
 |cons {k:Nat} {s s1 t:S} (i:a5):st i s=some s1->Path st k s1 t->Path st (k+1) s t
theorem Path.trans {s t:S} (h:Path st k s t):∀ {m:Nat} {u:S},Path st m t u->Path st (k+m) s u:=by
 induction h with
 |nil=>intro m u a;rw [gG];exact a
 |cons i b _ c=>intro m u a;rw [Nat.succ_add_eq_add_succ];exact .cons i b (c a)
theorem Path.norm {s t:S} (h:Path st k s t):∀ {m:Nat} {u:S},Norm st m t u->Norm st (k+m) s u:=by
 induction h with
 |nil=>intro m u a;rw [gG];exact a
 |cons i b _ c=>intro m u a;rw [Nat.succ_add_eq_add_succ];exact .cons i b (c a)
end
def eJ (v:aG) (x:aH):Nat->aH×a4
 | 0=>(x,[])
 |e+1=>((exec v (v.v.pieces.getD e (0,0)) (eJ v x e).1).1,(eJ v x e).2++(exec v (v.v.pieces.getD e (0,0)) (eJ v x e).1).2)
structure hY (c:Nat) (v:aG) (x:aH):Prop where
 pos:0<v.v.pieces.length
 ok:∀ (p:cF) (e:Nat),p.aP=c->p.inc=1->e<v.v.pieces.length->p.refusal v (eJ v x e).1=0
def df (v:aG) (x:aH):aH:=(eJ v x v.v.pieces.length).1
def dB (v:aG) (x:aH):aC:=⟨0,(eJ v x v.v.pieces.length).2⟩
theorem HK {v:aG} {x:aH} (h:hY c v x) {p:cF} (a:p.aP=c) (b:p.inc=1) {vs:List aG} (aj:p.a6=v::vs) (he:p.bO=e) (hw:p.words=(eJ v x e).2) (d:e+1<v.v.pieces.length) :
  p.step (eJ v x e).1=({ p with bO:=e+1,words:=(eJ v x (e+1)).2 },(eJ v x (e+1)).1,none):=by
 unfold cF.step;rw [aj];simp only;rw [h.ok p e a b (by omega),if_neg (by simp),he,if_pos d,hw];rfl
theorem JQ {v:aG} {x:aH} (h:hY c v x) {p:cF} (a:p.aP=c) (b:p.inc=1) {vs:List aG} (aj:p.a6=v::vs) (he:p.bO=e) (hw:p.words=(eJ v x e).2) (d:e+1=v.v.pieces.length) :
  p.step (eJ v x e).1=({ p with a6:=vs,bO:=0,words:=[] },df v x,some (dB v x)):=by
 unfold cF.step;rw [aj];simp only;rw [h.ok p e a b (by omega),if_neg (by simp),he,if_neg (by omega),hw];unfold df dB cF.done;rw [<-d,aj];rfl
def hA (c j:Nat) (R:List (Nat×aG)):cH:=⟨⟨c,1,j,(R.filter λr=>r.2.node.toNat == j).map Prod.snd,0,[]⟩,(R.filter λr=>r.2.node.toNat == j).map Prod.fst⟩
def gL (n c:Nat) (R:List (Nat×aG)):List cH:=(List.range n).map λj=>hA c j R
def g3 (n c:Nat) (a b:Int) (R:List (Nat×aG)) (ds:List aC):bf:=⟨true,1,gL n c R,some ds,R.length,a,b⟩
def ja:Nat->List aG->List (Nat×aG)
 | _,[]=>[]
 |q,v::vs=>(q,v)::ja (q+1) vs
theorem zK:∀ (vs:List aG) (q:Nat),(ja q vs).length=vs.length
 | [],q=>rfl
 |v::vs,q=>by rw [ja,fU,zK vs,fU]
theorem q3 {R:List (Nat×aG)} (a:j<n):(gL n c R)[j]?=some (hA c j R):=by unfold gL;rw [eL,lA a];rfl
theorem Hl {R:List (Nat×aG)} {r:Nat×aG}:hA c j (R++[r])=if r.2.node.toNat=j then ⟨{ (hA c j R).pair with a6:=(hA c j R).pair.a6++[r.2] },(hA c j R).bt++[r.1]⟩ else hA c j R:=by
 unfold hA;rw [zY];by_cases h:r.2.node.toNat=j
 ·rw [if_pos h];simp [h]
 ·rw [if_neg h];simp [h]
theorem z7 {n c:Nat}:∀ (vs:List aG) (C:bf) (k:Nat) (R:List (Nat×aG)),C.ay=gL n c R->(C.eS k vs).ay=gL n c (R++ja k vs)
 | [],C,k,R,h=>by rw [ja,g_];exact h
 |v::vs,C,k,R,h=>by
  have e:(C.eK k v).ay=gL n c (R++[(k,v)]):=by
   unfold bf.eK;simp only;rw [h];apply kr;intro i;rw [qf];by_cases a:i<n
   ·rw [q3 a,q3 a,Hl];by_cases aj:v.node.toNat=i
    ·simp [aj]
    ·simp [aj]
   ·rw [kX (by unfold gL;simp;omega),kX (by unfold gL;simp;omega)];rfl
  show ((C.eK k v).eS (k+1) vs).ay=_;rw [z7 vs _ (k+1) _ e,ja,jW];rfl
theorem Hm {v:aG} {R:List (Nat×aG)}:hA c v.node.toNat ((k,v)::R)=⟨{ (hA c v.node.toNat R).pair with a6:=v::(hA c v.node.toNat R).pair.a6 },k::(hA c v.node.toNat R).bt⟩:=by unfold hA;simp
theorem Hn {v:aG} {R:List (Nat×aG)} (h:v.node.toNat≠j):hA c j ((k,v)::R)=hA c j R:=by unfold hA;simp [h]
theorem HL {v:aG} {R:List (Nat×aG)}:(gL n c ((k,v)::R)).set v.node.toNat (hA c v.node.toNat R)=gL n c R:=by
 apply kr;intro i;by_cases a:i<n
 ·by_cases e:v.node.toNat=i
  ·subst e;rw [ei (by unfold gL;simpa using a),q3 a]
  ·rw [gg e,q3 a,q3 a,Hn e]
 ·rw [kX (by unfold gL;simp;omega),kX (by unfold gL;simp;omega)]
section
variable {cv:Conv}
def f7 (F:aB) (j:Nat) (x:aH) (c:Nat) (C:bf):aB:={ F with nodes:=F.nodes.set j x,aU:=F.aU.set c C }
def ly (c j k:Nat) (v:aG) (R:List (Nat×aG)) (x:aH) (e:Nat):cH:=⟨{ (hA c j R).pair with a6:=v::(hA c j R).pair.a6,bO:=e,words:=(eJ v x e).2 },k::(hA c j R).bt⟩
def mZ (n c:Nat) (a b:Int) (k:Nat) (v:aG) (R:List (Nat×aG)) (ds:List aC) (x:aH) (e:Nat):bf:={ g3 n c a b ((k,v)::R) ds with ay:=(gL n c ((k,v)::R)).set v.node.toNat (ly c v.node.toNat k v R x e) }
theorem Bi {F:aB} {x:aH} {C:bf} {t:bL cv} (a:c<F.aU.length) (b:t.aP=(c:Int)) (hw:0<C.waiting):b4 (f7 F j x c C) t=(f7 F j x c C,t):=by refine wc ?_;rw [b];unfold aB.waiting;rw [iw];unfold f7;rw [ei a];exact hw
theorem Ax {F:aB} {x y:aH} {C D:bf} {l:cH} {t:bL cv} (b:c<F.aU.length) (f:j<F.nodes.length) (g:C.ay[j]?=some l) (aj:l.pair.a6≠[]) {p:cF} {d:Option aC} (h:l.pair.step x=(p,y,d)) (a:C.comes j l p d=D):h8 c j (f7 F j x c C,t)=some (b4 (f7 F j y c D) t):=by
 have:ft c j (f7 F j x c C)=some (f7 F j y c D):=by
  refine jk.2 ⟨C,l,x,?_,g,?_,λe=>aj (nY.1 e),?_⟩
  ·unfold f7;rw [ei b]
  ·unfold f7;rw [ei f]
  ·rw [h];simp only;rw [a];unfold f7;simp only [mi]
 unfold h8;rw [this];rfl
theorem F7 {F:aB} {n c k:Nat} {a b:Int} {v:aG} {R:List (Nat×aG)} {ds:List aC} {x:aH} {t:bL cv} (d:c<F.aU.length) (o:F.nodes.length=n) (g:v.node.toNat<n) (i:t.aP=(c:Int)) (f:hY c v x) :
  ∀ e,e<v.v.pieces.length->Path (h8 (cv:=cv) c) e (f7 F v.node.toNat (eJ v x 0).1 c (mZ n c a b k v R ds x 0),t) (f7 F v.node.toNat (eJ v x e).1 c (mZ n c a b k v R ds x e),t)
 | 0,_=>.nil
 |e+1,he=>by
  have j:=F7 d o g i f (a:=a) (b:=b) (k:=k) (R:=R) (ds:=ds) e (by omega);have hlen:v.node.toNat<(gL n c ((k,v)::R)).length:=by unfold gL;simpa using g
  have h:h8 c v.node.toNat (f7 F v.node.toNat (eJ v x e).1 c (mZ n c a b k v R ds x e),t)=some (b4 (f7 F v.node.toNat (eJ v x (e+1)).1 c (mZ n c a b k v R ds x (e+1))) t):=by
   refine Ax d (by omega) (l:=ly c v.node.toNat k v R x e) ?_ (by simp [ly]) (HK f (p:=(ly c v.node.toNat k v R x e).pair) rfl rfl rfl rfl rfl he) ?_
   ·show ((gL n c ((k,v)::R)).set v.node.toNat (ly c v.node.toNat k v R x e))[v.node.toNat]?=_;rw [ei hlen]
   ·unfold bf.comes mZ;simp only [mi];rfl
  rw [Bi d i (by show 0<((k,v)::R).length;simp)] at h;exact j.trans (.cons _ h .nil)
theorem JR {F:aB} {x:aH} {C:bf} (b:F.nodes[j]?=some x) (a:F.aU[c]?=some C):f7 F j x c C=F:=by unfold f7;rw [iM b,iM a]
theorem HM {a:Int} {v:aG} {R:List (Nat×aG)} {ds:List aC} {x:aH} (d:v.node.toNat<n):mZ n c a b k v R ds x 0=g3 n c a b ((k,v)::R) ds:=by
 unfold mZ;have:(gL n c ((k,v)::R)).set v.node.toNat (ly c v.node.toNat k v R x 0)=gL n c ((k,v)::R):=by refine iM ?_;rw [q3 d,Hm];rfl
 rw [this];rfl
theorem JS {F:aB} {a:Int} {v:aG} {R:List (Nat×aG)} {ds:List aC} {x:aH} {t:bL cv} (h:F.aU[c]?=some (g3 n c a b ((k,v)::R) ds)) (j:F.nodes.length=n) (o:F.nodes[v.node.toNat]?=some x) (s:t.aP=(c:Int)) (d:hY c v x) :
  Path (h8 (cv:=cv) c) v.v.pieces.length (F,t) (b4 (f7 F v.node.toNat (df v x) c (g3 n c a b R (ds.set k (dB v x)))) t):=by
 have f:v.node.toNat<n:=by rw [<-j];exact cz o
 have i:=cz h;obtain ⟨e,he⟩:∃ e,v.v.pieces.length=e+1:=⟨v.v.pieces.length - 1,by have:=d.pos;omega⟩;have g:=F7 i j f s d (a:=a) (b:=b) (k:=k) (R:=R) (ds:=ds) e (by omega);have q:f7 F v.node.toNat (eJ v x 0).1 c (mZ n c a b k v R ds x 0)=F:=by rw [HM f];exact JR o h
 rw [q] at g;have hlen:v.node.toNat<(gL n c ((k,v)::R)).length:=by unfold gL;simpa using f
 have r:h8 c v.node.toNat (f7 F v.node.toNat (eJ v x e).1 c (mZ n c a b k v R ds x e),t)=some (b4 (f7 F v.node.toNat (df v x) c (g3 n c a b R (ds.set k (dB v x)))) t):=by
  refine Ax i (by omega) (l:=ly c v.node.toNat k v R x e) ?_ (by simp [ly]) (JQ d (p:=(ly c v.node.toNat k v R x e).pair) rfl rfl rfl rfl rfl he.symm) ?_
  ·show ((gL n c ((k,v)::R)).set v.node.toNat (ly c v.node.toNat k v R x e))[v.node.toNat]?=_;rw [ei hlen]
  ·unfold bf.comes mZ g3;simp only [mi];have:(gL n c ((k,v)::R)).set v.node.toNat ⟨{ (ly c v.node.toNat k v R x e).pair with a6:=(hA c v.node.toNat R).pair.a6,bO:=0,words:=[] },(ly c v.node.toNat k v R x e).bt.tail⟩=gL n c R:=HL;rw [this];rfl
 rw [he];exact g.trans (.cons _ r .nil)
end
def bp:aH:=⟨[],true⟩
def ct:List aH->List aG->List aH×List aC
 |ns,[]=>(ns,[])
 |ns,v::vs=>((ct (ns.set v.node.toNat (df v (ns.getD v.node.toNat bp))) vs).1,dB v (ns.getD v.node.toNat bp)::(ct (ns.set v.node.toNat (df v (ns.getD v.node.toNat bp))) vs).2)
def j0 (c:Nat):List aH->List aG->Prop
 | _,[]=>True
 |ns,v::vs=>v.node.toNat<ns.length/\hY c v (ns.getD v.node.toNat bp)/\j0 c (ns.set v.node.toNat (df v (ns.getD v.node.toNat bp))) vs
def h_ (vs:List aG):Nat:=(vs.map λv=>v.v.pieces.length).sum
theorem mK (ns:List aH) (v:aG) (vs:List aG):ct ns (v::vs)=((ct (ns.set v.node.toNat (df v (ns.getD v.node.toNat bp))) vs).1,dB v (ns.getD v.node.toNat bp)::(ct (ns.set v.node.toNat (df v (ns.getD v.node.toNat bp))) vs).2):=rfl
theorem hx:∀ (vs:List aG) (ns:List aH),(ct ns vs).1.length=ns.length/\(ct ns vs).2.length=vs.length
 | [],ns=>⟨rfl,rfl⟩
 |v::vs,ns=>by obtain ⟨a,b⟩:=hx vs (ns.set v.node.toNat (df v (ns.getD v.node.toNat bp)));unfold ct;exact ⟨by simp only;rw [a,je],by simp only [fU];rw [b]⟩
section
variable {cv:Conv}
def eo (F:aB) (ns:List aH) (c:Nat) (C:bf):aB:={ F with nodes:=ns,aU:=F.aU.set c C }
theorem z8 {n c:Nat} {a b:Int} {t:bL cv} (h:t.aP=(c:Int)):∀ (vs:List aG) {F:aB} (D:List aC),vs≠[]->F.aU[c]?=some (g3 n c a b (ja D.length vs) (D++List.replicate vs.length ⟨0,[]⟩))->F.nodes.length=n->j0 c F.nodes vs->
  Path (h8 (cv:=cv) c) (h_ vs) (F,t) (b4 (eo F (ct F.nodes vs).1 c (g3 n c a b [] (D++(ct F.nodes vs).2))) t)
 | [],F,D,g,_,_,_=>absurd rfl g
 |v::vs,F,D,_,i,k,s=>by
  obtain ⟨p,q,r⟩:=s;have u:F.nodes[v.node.toNat]?=some (F.nodes.getD v.node.toNat bp):=by rw [cK,bM p];rfl
  have e:=JS i k u h q;have f:(D++List.replicate (v::vs).length (⟨0,[]⟩:aC)).set D.length (dB v (F.nodes.getD v.node.toNat bp))=(D++[dB v (F.nodes.getD v.node.toNat bp)])++List.replicate vs.length ⟨0,[]⟩:=by rw [wO _ _ (dd _),m3,fU,o6,tM,jW];rfl
  rw [f] at e;have j:=cz i;have d:h_ (v::vs)=v.v.pieces.length+h_ vs:=by unfold h_;rw [g',m2]
  by_cases he:vs=[]
  ·subst he;have l:h_ [v]=v.v.pieces.length:=by rw [d];rfl
   rw [l];have:ct F.nodes [v]=(F.nodes.set v.node.toNat (df v (F.nodes.getD v.node.toNat bp)),[dB v (F.nodes.getD v.node.toNat bp)]):=rfl;rw [this];simpa [f7,eo,ja] using e
  ·have hw:b4 (f7 F v.node.toNat (df v (F.nodes.getD v.node.toNat bp)) c (g3 n c a b (ja (D.length+1) vs) (D++[dB v (F.nodes.getD v.node.toNat bp)]++List.replicate vs.length ⟨0,[]⟩))) t=_:=Bi j h (by show 0<(ja (D.length+1) vs).length;rw [zK];exact r0.2 he);rw [hw] at e;have w:=z8 h vs (F:=f7 F v.node.toNat (df v (F.nodes.getD v.node.toNat bp)) c (g3 n c a b (ja (D.length+1) vs) (D++[dB v (F.nodes.getD v.node.toNat bp)]++List.replicate vs.length ⟨0,[]⟩))) (D++[dB v (F.nodes.getD v.node.toNat bp)]) he (by unfold f7;simp only;rw [ei j,c8];rfl) (by unfold f7;simp [k]) r (a:=a) (b:=b) (n:=n)
   rw [d];refine e.trans ?_;have o:eo (f7 F v.node.toNat (df v (F.nodes.getD v.node.toNat bp)) c (g3 n c a b (ja (D.length+1) vs) (D++[dB v (F.nodes.getD v.node.toNat bp)]++List.replicate vs.length ⟨0,[]⟩))) (ct (F.nodes.set v.node.toNat (df v (F.nodes.getD v.node.toNat bp))) vs).1 c (g3 n c a b [] (D++[dB v (F.nodes.getD v.node.toNat bp)]++(ct (F.nodes.set v.node.toNat (df v (F.nodes.getD v.node.toNat bp))) vs).2))=eo F (ct F.nodes (v::vs)).1 c (g3 n c a b [] (D++(ct F.nodes (v::vs)).2)):=by rw [mK];unfold eo f7;simp only [mi,jW,List.cons_append,m4]
   rw [<-o];exact w
def e6 (n c:Nat) (a b:Int):bf:=⟨true,1,h1 n c 1,none,0,a,b⟩
theorem If {F:aB} {a:Int} (h:F.aU[c]?=some (e6 n c a b)) {vs:List aG} (f:vs≠[]) (o:vs.length<=1024) (g:gy F.nodes.length F.lines vs=0):F.post (c:Int) vs=(0,eo F F.nodes c (g3 n c (IntKind.i64.wrap (a+1)) (IntKind.i64.wrap (b+vs.length)) (ja 0 vs) (List.replicate vs.length ⟨0,[]⟩))):=by
 unfold aB.post;rw [iw,h];simp only;rw [if_neg (by simp [e6]),if_neg (by simp [e6]),if_neg (λe=>f (nY.1 e)),if_neg (by omega),if_neg (by rw [g];simp)];have d:=z7 (n:=n) (c:=c) vs (e6 n c a b) 0 [] rfl;rw [m4] at d;have:(e6 n c a b).jL vs=g3 n c (IntKind.i64.wrap (a+1)) (IntKind.i64.wrap (b+vs.length)) (ja 0 vs) (List.replicate vs.length ⟨0,[]⟩):=by
  unfold bf.jL g3;dsimp only;rw [d,zK];have q:∀ (us:List aG) (C:bf) (k:Nat),(C.eS k us).alive=C.alive/\(C.eS k us).inc=C.inc:=λus=>by
   induction us with
   |nil=>intro C k;exact ⟨rfl,rfl⟩
   |cons u us i=>intro C k;exact i (C.eK k u) (k+1)
  obtain ⟨j,l⟩:=q vs (e6 n c a b) 0;rw [j,l];rfl
 rw [this];rfl
theorem JT {F:aB} {a:Int} {ds:List aC} {t:bL cv} (e:t.aP=(c:Int)) (i:t.e0=false) (d:F.aU[c]?=some (g3 n c a b [] ds)):b4 F t=hE (eo F F.nodes c (e6 n c a b)) (t.qU (some ds)):=by
 unfold b4;have f:F.alive t.aP=true:=by unfold aB.alive;rw [e,iw,d];rfl
 have g:F.waiting t.aP=0:=by unfold aB.waiting;rw [e,iw,d];rfl
 have h:F.take t.aP=(some ds,eo F F.nodes c (e6 n c a b)):=by unfold aB.take;rw [e,iw,d];rfl
 rw [if_neg (by rw [i,f,g];simp),h]
end
section
variable {cv:Conv}
inductive Lone (cv:Conv) (c n L:Nat) (bs:cv.a8):Nat->List aH->List (List aC)->cv.O->List aH->List (List aC)->Prop
 |fin {ns:List aH} {G:List (List aC)}:G.length<=200->(cv.next bs G).2.2=true->Lone cv c n L bs 0 ns G (cv.next bs G).2.1 ns G
 |go {k:Nat} {ns ns':List aH} {G G':List (List aC)} {o:cv.O} {vs:List aG}:G.length<=200->(cv.next bs G).2.2=false->(cv.next bs G).1=vs->vs≠[]->vs.length<=1024->gy n L vs=0->j0 c ns vs->Lone cv c n L bs k (ct ns vs).1 (G++[(ct ns vs).2]) o ns' G'->Lone cv c n L bs (h_ vs+k) ns G o ns' G'
theorem Ay {bs:cv.a8} {ns ns':List aH} {G G':List (List aC)} {o:cv.O} (h:Lone cv c n L bs k ns G o ns' G'):∀ {F:aB} {t:bL cv} {a b:Int},F.aU[c]?=some (e6 n c a b)->F.nodes=ns->F.nodes.length=n->F.lines=L->t.aP=(c:Int)->t.bs=bs->t.a7=G->t.e0=false->
  ∃ u b',Path (h8 (cv:=cv) c) k (hE F t) (eo F ns' c (e6 n c u b'),⟨t.aP,t.bs,G',true,t.bad,o⟩):=by
 induction h with
 | @fin ns G Q f=>
  intro F t a b r j s w p l i R;refine ⟨a,b,?_⟩;have e:hE F t=(F,t.told):=by unfold hE;rw [if_neg (by rw [i];omega),if_pos (by rw [l,i];exact f)]
  have I:eo F ns c (e6 n c a b)=F:=by unfold eo;rw [<-j,iM r]
  have J:t.told=⟨t.aP,t.bs,G,true,t.bad,(cv.next bs G).2.1⟩:=by unfold bL.told;rw [l,i,f]
  rw [e,I,J];exact .nil
 | @go k ns ns' G G' o vs Q f B E N P z _ S=>
  intro F t a b r j s w p l i R;subst j;have A:=If r E N (by rw [s,w];exact P);generalize IntKind.i64.wrap (a+1)=d at A;generalize IntKind.i64.wrap (b+vs.length)=b1 at A;have e:hE F t=(eo F F.nodes c (g3 n c d b1 (ja 0 vs) (List.replicate vs.length ⟨0,[]⟩)),t.told):=by unfold hE;rw [if_neg (by rw [i];omega),l,i,if_neg (by rw [f];simp),B,p,A,if_neg (by simp)]
  have y:=cz r;have g:t.told.e0=false:=by unfold bL.told;rw [l,i];exact f
  have ww:∀ (X:List aH) (C D:bf),eo (eo F F.nodes c C) X c D=eo F X c D:=λX C D=>by unfold eo;simp only [mi]
  have x:Path (h8 (cv:=cv) c) (h_ vs) (eo F F.nodes c (g3 n c d b1 (ja 0 vs) (List.replicate vs.length ⟨0,[]⟩)),t.told) (b4 (eo F (ct F.nodes vs).1 c (g3 n c d b1 [] (ct F.nodes vs).2)) t.told):=by have:=z8 (cv:=cv) (n:=n) (a:=d) (b:=b1) (t:=t.told) p vs (F:=eo F F.nodes c (g3 n c d b1 (ja 0 vs) (List.replicate vs.length ⟨0,[]⟩))) [] E (by unfold eo;simp only;rw [ei y];rfl) s z;rw [ww] at this;exact this
  rw [JT (t:=t.told) (n:=n) (a:=d) (b:=b1) (ds:=(ct F.nodes vs).2) p g (by unfold eo;simp only;rw [ei y])] at x;have H:∀ (X Y:List aH) (C D:bf),eo (eo F X c C) Y c D=eo F Y c D:=λX Y C D=>by unfold eo;simp only [mi]
  have M:eo (eo F (ct F.nodes vs).1 c (g3 n c d b1 [] (ct F.nodes vs).2)) (eo F (ct F.nodes vs).1 c (g3 n c d b1 [] (ct F.nodes vs).2)).nodes c (e6 n c d b1)=eo F (ct F.nodes vs).1 c (e6 n c d b1):=H _ _ _ _;have K:t.told.qU (some (ct F.nodes vs).2)={ t.told with a7:=G++[(ct F.nodes vs).2] }:=by unfold bL.qU bL.told;simp only;rw [i]
  rw [M,K] at x;obtain ⟨u,b',q⟩:=S (F:=eo F (ct F.nodes vs).1 c (e6 n c d b1)) (t:={ t.told with a7:=G++[(ct F.nodes vs).2] }) (a:=d) (b:=b1) (by unfold eo;simp only;rw [ei y]) rfl (by show (ct F.nodes vs).1.length=n;rw [(hx vs F.nodes).1];exact s) w p l rfl g;refine ⟨u,b',?_⟩;rw [e];rw [H] at q;exact x.trans q
end
end
section
def hT (F:aB):aB:={ F with bP:=[] }
def gU (F:aB) (os:List cF):aB:={ F with bP:=os }
theorem Me (F:aB):gU (hT F) F.bP=F:=rfl
theorem cb.hT {F:aB} (h:cb F):cb (hT F):=by refine ⟨⟨⟨h.ca.ok.lines,h.ca.ok.nodes,h.ca.ok.words,h.ca.ok.aU,h.ca.ok.aP,λp a=>by cases a⟩,h.ca.cC,λp a=>by cases a⟩,?_⟩;have:=h.fC;unfold k3 at *;show 0+5 * F.cW<=1000;omega
section
variable {cv:Conv}
theorem JU (F:aB) (os:List cF) (c:Int):(gU F os).take c=((F.take c).1,gU (F.take c).2 os):=by
 have a:(gU F os).cC c=F.cC c:=rfl;unfold aB.take;rw [a];cases F.cC c with
 |none=>rfl
 |some C=>
  simp only;split
  ·rfl
  ·cases C.batch with
   |none=>rfl
   |some ds=>simp only;split<;>rfl
theorem JV (F:aB) (os:List cF) (c:Int) (vs:List aG):(gU F os).post c vs=((F.post c vs).1,gU (F.post c vs).2 os):=by
 have a:(gU F os).cC c=F.cC c:=rfl;have d:(gU F os).nodes=F.nodes:=rfl;have b:(gU F os).lines=F.lines:=rfl;unfold aB.post;rw [a,d,b];cases F.cC c with
 |none=>rfl
 |some C=>
  simp only;repeat' split
  all_goals rfl
theorem JW (F:aB) (os:List cF) (t:bL cv):b4 (gU F os) t=(gU (b4 F t).1 os,(b4 F t).2):=by
 have a:(gU F os).alive t.aP=F.alive t.aP:=rfl;have hw:(gU F os).waiting t.aP=F.waiting t.aP:=rfl;unfold b4;rw [a,hw,JU];split
 ·rfl
 ·unfold hE;simp only;rw [JV];repeat' split
  all_goals rfl
theorem z9 (cs:a4) {t:bL cv} (a:t.e0=true):∀ (f m:Nat) (F:aB),(gl cs [] [] f m F [t]).2=[t]
 | 0,_,_=>rfl
 |f+1,m,F=>by
  have b:turns (iP F cs m []) [t]=(F,[t]):=by
   show ((b4 F t).1,[(b4 F t).2])=_;have:b4 F t=(F,t):=by unfold b4;rw [if_pos (.inl a)]
   rw [this]
  unfold gl;rw [b];split
  ·exact z9 cs a f (m+1) _
  ·rfl
theorem FV {c:Nat} (cs:a4) (os:List cF):∀ (f m:Nat) {F:aB} {t:bL cv} {k:Nat} {e:aB×bL cv},ha c (F,t)->Norm (h8 c) k (b4 F t) e->e.2.e0=true->k<f->(gl cs [] [] f m (gU F os) [t]).2=[e.2]
 | 0,m,F,t,k,e,o,q,s,B=>by omega
 |f+1,m,F,t,k,e,o,q,s,B=>by
  have a:=o.b4;have E:turns (iP (gU F os) cs m []) [t]=(gU (b4 F t).1 os,[(b4 F t).2]):=by show ((b4 (gU F os) t).1,[(b4 (gU F os) t).2])=_;rw [JW]
  unfold gl;rw [E];cases d:(b4 F t).1.eV with
  |nil=>
   have g:∀ j,ft c j (b4 F t).1=none:=λj=>by
    cases b:ft c j (b4 F t).1 with
    |none=>rfl
    |some cw=>have:=F9 b;rw [d] at this;cases this
   cases q with
   |nil _=>
    split
    ·exact z9 cs s f (m+1) _
    ·rfl
   |cons i A _=>obtain ⟨cw,b,_⟩:=lQ.1 A;rw [g i] at b;cases b
  |cons x xs=>
   obtain ⟨j,cw,rfl,b⟩:=a.lp.choice (x:=x) (by rw [d];exact d_);have D:fL (gU (b4 F t).1 os) [] m=(true,gU cw os):=by
    unfold fL kn;rw [if_neg (by simp)];have p:(gU (b4 F t).1 os).eV=(⟨-1,c,j⟩::xs)++lO 0 os:=by have h:(b4 F t).1.eV=ji 0 (b4 F t).1.aU++lO 0 (b4 F t).1.bP:=rfl;rw [a.lp.hC,d] at h;simp only [lO,g_] at h;rw [h];rfl
    rw [p];have u:ft c j (gU (b4 F t).1 os)=some (gU cw os):=by obtain ⟨C,l,n,h,w,y,z,rfl⟩:=jk.1 b;exact jk.2 ⟨C,l,n,h,w,y,z,rfl⟩
    exact wn u
   rw [D,if_pos rfl];obtain ⟨G,rfl,r⟩:=q.after (AP c) a (lQ.2 ⟨cw,b,rfl⟩);exact FV cs os f (m+1) (ha.ft a b) r s (by omega)
theorem HN {bs:cv.a8} {ns':List aH} {G':List (List aC)} {o:cv.O} {F:aB} {t:bL cv} {a:Int} (N:cb F) (A:fN c (hT F)) (y:F.aU[c]?=some (e6 n c a b)) (R:F.nodes.length=n) (J:F.lines=L) (g:t=⟨(c:Int),bs,[],false,false,t.out⟩) (h:Lone cv c n L bs k F.nodes [] o ns' G') {most:Nat} (Q:k<most) :
  (eX F [t] [] [] most).2=[⟨(c:Int),bs,G',true,false,o⟩]:=by
 have d:t.aP=(c:Int):=by rw [g]
 have z:ha c (hT F,t):=⟨N.hT,A,d⟩;obtain ⟨u,b',S⟩:=Ay h (F:=hT F) (t:=t) y rfl R J d (by rw [g]) (by rw [g]) (by rw [g]);have B:b4 (hT F) t=hE (hT F) t:=by
  have D:(hT F).cC (c:Int)=some (e6 n c a b):=by rw [iw];exact y
  unfold b4;have j:(hT F).alive t.aP=true:=by unfold aB.alive;rw [d,D];rfl
  have f:(hT F).waiting t.aP=0:=by unfold aB.waiting;rw [d,D];rfl
  have I:(hT F).take t.aP=(none,hT F):=by unfold aB.take;rw [d,D];rfl
  have w:t.e0=false:=by rw [g]
  rw [if_neg (by rw [w,j,f];simp),I];rfl
 have p:∀ i,h8 (cv:=cv) c i (eo (hT F) ns' c (e6 n c u b'),⟨t.aP,t.bs,G',true,t.bad,o⟩)=none:=λi=>by
  cases T:h8 (cv:=cv) c i (eo (hT F) ns' c (e6 n c u b'),⟨t.aP,t.bs,G',true,t.bad,o⟩) with
  |none=>rfl
  |some s=>
   obtain ⟨cw,j,_⟩:=lQ.1 T;obtain ⟨C,l,x,j,f,_,w,_⟩:=jk.1 j;have M:=cz y;have:(eo (hT F) ns' c (e6 n c u b')).aU[c]?=some (e6 n c u b'):=by unfold eo hT;simp only;rw [ei M]
   rw [this] at j;cases j;have f:(h1 n c 1)[i]?=some l:=f;unfold h1 at f;rw [eL] at f;cases H:(List.range n)[i]? with
   |none=>rw [H] at f;cases f
   |some q=>rw [H] at f;cases f;exact absurd rfl w
 have e:=S.norm (.nil p);rw [<-B,lz] at e;have E:=FV ([t].map bL.aP) F.bP most 0 z e rfl Q;rw [Me] at E;have K:t.bad=false:=by rw [g]
 have P:t.bs=bs:=by rw [g]
 have r:∀ G:aB,(turns G [(⟨(c:Int),bs,G',true,false,o⟩:bL cv)]).2=[⟨(c:Int),bs,G',true,false,o⟩]:=λG=>by show [(b4 G _).2]=_;unfold b4;rw [if_pos (.inl rfl)]
 unfold eX;rw [E];simp only;rw [d,K,P];exact r _
end
end
section
open dr
def DL (vs:List aG):b2:=⟨false,[],(0,0),[],some vs,false⟩
def iT (ds:List aC) (G:List (List aC)):b2:=⟨true,ds,(0,0),G,none,false⟩
inductive k1 (c n L:Nat):(List (List aC)->b2)->Nat->List aH->List (List aC)->List aH->Prop
 |nil {X:List (List aC)->b2} {ns:List aH}:k1 c n L X 0 ns [] ns
 |cons {X:List (List aC)->b2} {k:Nat} {ns ns':List aH} {vs:List aG} {D:List (List aC)}:X []=DL vs->vs≠[]->vs.length<=1024->gy n L vs=0->j0 c ns vs->k1 c n L (λG=>X ((ct ns vs).2::G)) k (ct ns vs).1 D ns'->k1 c n L X (h_ vs+k) ns ((ct ns vs).2::D) ns'
theorem k1.bind {X:List (List aC)->b2} {ns ns1:List aH} {D:List (List aC)} (h:k1 c n L X k ns D ns1):∀ {Y Z:List (List aC)->b2} {cq:List aC} {m:Nat} {E:List (List aC)} {a:List aH},(∀ G,X (D++G)=iT cq G)->(∀ G,(X G).ok=false->Z G=X G)->(∀ G G',X G=iT cq G'->Z G=Y G')->k1 c n L Y m ns1 E a->k1 c n L Z (k+m) ns (D++E) a:=by
 induction h with
 |nil=>
  intro Y Z cq m E a b d e f;have:Z=Y:=funext λG=>e G G (b G)
  rw [this,gG];exact f
 | @cons X k ns ns' vs D g i o j l _ p=>
  intro Y Z cq m E a b d e f;have au:Z []=DL vs:=by rw [d [] (by rw [g];rfl)];exact g
  rw [p7];exact .cons au i o j l (p (λG=>b G) (λG=>d _) (λG=>e _) f)
theorem k1.one {ns:List aH} {vs:List aG} (a:vs≠[]) (e:vs.length<=1024) (b:gy n L vs=0) (d:j0 c ns vs):k1 c n L (λG=>bR G vs) (h_ vs+0) ns [(ct ns vs).2] (ct ns vs).1:=
 .cons (mD a 0) a e b d .nil
theorem Mf {ns:List aH} {vs:List aG} (a:vs≠[]) (b:Fit vs (ct ns vs).2) (G:List (List aC)):bR ([(ct ns vs).2]++G) vs=iT (ct ns vs).2 G:=mF G a b 0
theorem K0 (G:List (List aC)):bR G []=iT [] G:=rfl
end
section
open dq dr
section
variable {n L c m:Nat} {x:aH}
theorem Bj (b:a % 8=0) (e:Nat):(c_ m a k).v.pieces[e]?=if 8 * (e:Int)<k then some ((a:Int)+8 * e,if 8<(k:Int) - 8 * e then 8 else (k:Int) - 8 * e) else none:=by have h:(c_ m a k).v.pieces=gI (c_ m a k).v.count.toNat a k:=rfl;rw [h];exact ua _ (a:Int) (k:Int) (by omega) (by show (k:Int)<=((k:Int).toNat:Int);omega) e
theorem xp (c:a % 8=0) (e:Nat):e<(c_ m a k).v.pieces.length↔8 * e<k:=by
 have h:=Bj (m:=m) (k:=k) c e;by_cases b:8 * (e:Int)<k
 ·rw [if_pos b] at h;have:=cz h;omega
 ·rw [if_neg b] at h;have:=wX.1 h;omega
theorem xh {a k:Nat} (b:a % 8=0) (l:a+k<=x.words.length):∀ e,e<=(c_ m a k).v.pieces.length->eJ (c_ m a k) x e=(x,((x.words.drop a).take k).take (8 * e))
 | 0,_=>rfl
 |e+1,he=>by
  have o:=(xp (m:=m) (k:=k) b e).1 (by omega);have f:=Bj (m:=m) (k:=k) b e;rw [if_pos (by omega)] at f;unfold eJ;rw [xh b l e (by omega),cK,f];simp only [Option.getD_some];have n:∀ pc:Int×Int,exec (c_ m a k) pc x=(x,x.read pc.1 pc.2):=λpc=>by unfold exec;exact if_pos rfl
  rw [n];simp only;congr 1;unfold aH.read;apply kr;intro i;by_cases j:i<8 * e
  ·rw [jd (by simp;omega)];rw [jX,jX,if_pos j,if_pos (by omega),jX,if_pos (by omega),jX,if_pos (by omega)]
  ·rw [jv (by simp;omega)];simp only [gR,jY,jX,kW];have g:((a:Int)+8 * (e:Int)).toNat=a+8 * e:=by omega
   have h:min (8 * e) (min k (x.words.length - a))=8 * e:=by omega
   rw [g,h,show a+8 * e+(i - 8 * e)=a+i by omega];by_cases c:i<8 * (e+1)
   ·rw [if_pos c];by_cases d:i<k
    ·rw [if_pos d,if_pos (by split<;>omega)]
    ·rw [if_neg d,if_neg (by split<;>omega)]
   ·rw [if_neg c,if_neg (by split<;>omega)]
theorem Cq (b:a % 8=0) (d:a+k<=x.words.length):df (c_ m a k) x=x/\dB (c_ m a k) x=⟨0,(x.words.drop a).take k⟩:=by
 unfold df dB;rw [xh b d _ (dd _)];refine ⟨rfl,?_⟩;have h:=xp (m:=m) (k:=k) b (c_ m a k).v.pieces.length;have e:k<=8 * (c_ m a k).v.pieces.length:=by
  by_cases c:8 * (c_ m a k).v.pieces.length<k
  ·have:=h.2 c;omega
  ·omega
 simp only;rw [gb (by simp;omega)]
theorem tr:(c_ m a 1).v.pieces=[((a:Int),1)]:=zt (v:=(c_ m a 1).v) (by show (1:Int)<=1;omega) (by show (a:Int) % 8+1<=8;omega) (by show (0:Int)<=a;omega)
theorem tt:df (c_ m a 1) x=x/\dB (c_ m a 1) x=⟨0,(x.words.drop a).take 1⟩:=by unfold df dB;rw [tr];show (eJ (c_ m a 1) x 1).1=x/\(⟨0,(eJ (c_ m a 1) x 1).2⟩:aC)=_;unfold eJ;rw [tr];exact ⟨rfl,rfl⟩
theorem lg:(cS m a o w).v.pieces=[((a:Int),1)]:=zt (v:=(cS m a o w).v) (by show (1:Int)<=1;omega) (by show (a:Int) % 8+1<=8;omega) (by show (0:Int)<=a;omega)
theorem kR:df (cS m a o w) x=x.eU a o w/\dB (cS m a o w) x=⟨0,[x.get a]⟩:=by unfold df dB;rw [lg];show (eJ (cS m a o w) x 1).1=_/\(⟨0,(eJ (cS m a o w) x 1).2⟩:aC)=_;unfold eJ;rw [lg];exact ⟨rfl,rfl⟩
theorem ya (d:n<=5) (f:cQ L e4 x) {v:aG} (aj:et n L v) {p:cF} (e:p.aP=(c:Int)) (b:p.inc=1) (a:1<=c/\c<6):p.refusal v x=0:=by
 rw [xZ f d aj e b a.2];split
 ·rfl
 ·exact if_neg λh=>by omega
theorem JX (i:n<=5) (d:cQ L e4 x) (f:1<=c/\c<6) (aj:et n L (c_ m a k)) (b:a % 8=0) (l:1<=k) (h:a+k<=L * 8):hY c (c_ m a k) x:=by refine ⟨(xp b 0).2 (by omega),λp e j g he=>?_⟩;rw [xh b (by rw [d.len];exact h) e (by omega)];exact ya i d aj j g f
theorem tu {v:aG} {pc:Int×Int} (f:n<=5) (h:cQ L e4 x) (b:1<=c/\c<6) (aj:et n L v) (a:v.v.pieces=[pc]):hY c v x:=by refine ⟨by rw [a];simp,λp e g d he=>?_⟩;rw [a] at he;simp at he;subst he;exact ya f h aj g d b
end
end
end Go.Proofs.YtmkljjbioomepaaGreat
