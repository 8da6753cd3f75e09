import Derived.Test.YtmkljjbioomepaaGreatg06
set_option linter.all false
set_option maxHeartbeats 4000000
set_option maxRecDepth 100000
namespace Go.Proofs.YtmkljjbioomepaaGreat
open Go.Proofs.Tryz Go.bJ
variable {A A':a4}{P:df}{R:cM}{a ap la dk:ak}{dD b c cap aY aM g i j k lcap m n q gg:Nat}{e t ty:bY}{v:bf}{w w':an}{xs:ax}
section
theorem aX.row {w:an}{e sz n cap:Nat}{a:ak}{rows:List ax}(h:aX w e sz a n cap rows.flatten)(f:∀ r ∈ rows,r.length=sz)(aq:0<sz){i:Nat}{r:ax}(q:rows[i]?=some r) :
  ∃ g,a=some ⟨g,0,none⟩/\i<n/\(∃ cs,av w g cs e)/\cn w ⟨g,0+i*sz,none⟩ 0 r/\∀ k v,r[k]?=some v->w.cell? ⟨g,0+i*sz+k,none⟩=some v:=by
 obtain⟨b,o,c,l,p⟩:=h.rd.row f aq q;rcases h.2 with⟨s,_⟩ | ⟨j,cur,he,d,hle,t,u,x⟩
 ·grind
 ·rw[he]at c;simp only[hM,Addr.mk.injEq,and_true]at c;obtain⟨rfl,rfl⟩:=c;refine⟨j,he,?_,⟨cur,d⟩,l,p⟩;have hlen:=h.1;rw[nh f]at hlen
  grind[cS,Nat.lt_of_lt_of_eq,Nat.eq_of_mul_eq_mul_right]
def r7 (i j:Nat)(t:Tag):Prop:=t=.bG i j\/t=.az i
open Classical in
theorem cj.Jr {aw:bR}{X:bs}(h:cj A aw w aM X){c:b3}{l:c4}(d:X.aF[i]?=some c)(C:c.az[j]?=some l)
  (o:ao (λk=>r7 i j (aw k)) w w') {a:c6} (B:∀ k,aP ap k->aw k=.bG i j\/w.heap.size<=k) (f:aX w' m4 1 ap a.length dD (is (a.map Int.ofNat)))
  (p:aX w' lL 2 c.la c.az.length c.lc ((hy c.az).set j (c4.cells {l with bG:=a,kK:=ap,lj:=dD})).flatten) :
  ∃ A' χ',Next A A' aw χ' w w'/\cj A' χ' w' aM {X with aF:=X.aF.set i {c with az:=c.az.set j {l with bG:=a,kK:=ap,lj:=dD} } }:=by
 let χ':bR:=λk=>if aP ap k then .bG i j else aw k
 have y:∀ k,aP ap k->χ' k=.bG i j:=λk o=>by grind
 have z:∀ k,¬ aP ap k->χ' k=aw k:=λk o=>by grind
 have u:∀ k,k<w.heap.size->χ' k≠.cO->aw k≠.cO:=by
  grind
 have r:∀ k,k<w.heap.size->aw k≠.bG i j->χ' k=aw k:=by
  grind
 have b:=h.aL i c d;have q:=b.lane j l C;obtain⟨m,_⟩:=h.move (T:=r7 i j) (χ':=χ') o (by simp[r7]) u (λk g s _=>r k g λe=>s (.inl e));obtain⟨x,bW⟩:=dN.c5 m q.pair q.tag (by simp[r7]) (by simp);have E:ao (λk=>mF i (aw k)) w w':=o.mono λk _ d=>by
  rcases d with e | e
  ·exact .inr (by rw[e];rfl)
  ·exact .inr (by rw[e];rfl)
 have F:∀ k,χ' k≠.cO->k<w'.heap.size:=λk d=>by
  by_cases n:aP ap k
  ·exact f.lt n
  ·rw[z k n]at d;exact fE (h.kj d) o.size
 have G:av w' X.aY ((gE X.aF).set i (b3.cells {c with az:=c.az.set j {l with bG:=a,kK:=ap,lj:=dD} })).flatten im:=by have e:(gE X.aF).set i (b3.cells {c with az:=c.az.set j {l with bG:=a,kK:=ap,lj:=dD} })=gE X.aF:=jE (by rw[v8 d];simp[b3.cells]);rw[e];exact(av.c5 m h.cls h.fI (by simp[r7]) (by simp)).1
 have H:ln (gV A aw χ' w) χ' w' i {c with az:=c.az.set j {l with bG:=a,kK:=ap,lj:=dD} }:=by refine b.Jo m (λt _ D=>D.elim (λe=>.inr (.inr e)) .inl) p (λk n=>?_) ⟨x,bW,f,y⟩;rw[r k (b.own.lt n) (by rw[b.tag k n];simp)];exact b.tag k n
 obtain⟨aT,I⟩:=h.r0 d E u (λk g s _=>r k g λe=>s (.inr (by rw[e];rfl))) F G (by rw[r _ h.cls.lt (by rw[h.fI];simp)];exact h.fI) H
 grind
theorem Lh (C:a9)(k:Nat):C.fB k []=C:=rfl
theorem JY (C:a9)(k:Nat)(v:bc)(vs:a_):C.fB k (v::vs)=(C.fe k v).fB (k+1) vs:=rfl
structure xl (A:a4)(aw:bR)(w:an)(aM:Nat)(X:bs)(i:Nat)(x:b3)(vs:a_)(k:Nat)(u:an)(A':a4)(χ':bR)(ls:List c4):Prop where
 next:Next A A' aw χ' w u
 cw:cj A' χ' u aM {X with aF:=X.aF.set i {x with az:=ls} }
 pure:(b3.pure {x with az:=ls}).fB k (vs.drop k)=x.pure.fB 0 vs
 len:ls.length=X.nodes.length
 lane:∀ (j:Nat) (l:c4),ls[j]?=some l->l.p.node=j/\l.p.a1.length<=k/\l.bG.length<=k
theorem k4 {α:Type}(l:List α)(i:Nat)(a b:α):(l.set i a).set i b=l.set i b:=zA ..
open Classical in
theorem OB {aw:bR}{X:bs}{x:b3}{vs:a_}{u:an}{χ':bR}{ls:List c4}
  (a6:xl A aw w aM X i x vs k u A' χ' ls) (U:i<X.aF.length) (al:k<vs.length) (T:vs.length<=1024) {l:c4} (F:ls[j]?=some l) (N:vs[k].node=j) (S:0<X.nodes.length)
  {p':dC} {w1:an} {R:aG} (B:p'=l.p.post R vs[k] dk gg)
  (q:∀ M':a4,u9 A' M' u (aP dk)->(∀ k,p'.mut l.pb k->M' k)->dN M' w1 l.pb p') (c:ao (λk=>k=l.pb\/aP l.p.dk k) u w1) (C:dk=l.p.dk\/∀ k,aP dk k->u.heap.size<=k) (H:∀ k,aP dk k->k<w1.heap.size) :
  ∃ E d,Next A' E χ' d u w1/\cj E d w1 aM {X with aF:=X.aF.set i {x with az:=ls.set j {l with p:=p'} } }:=by
 have h:=a6.cw;have o:(X.aF.set i {x with az:=ls})[i]?=some {x with az:=ls}:=by grind
 have z:=h.aL i _ o;have f:=z.lane j l F;obtain⟨y,D⟩:∃ y,X.nodes[0]?=some y:=⟨X.nodes[0],by grind⟩;have r:=h.node 0 y D;let d:bR:=λk=>if aP dk k then .lane i j else χ' k
 have I:∀ k,aP dk k->d k=.lane i j:=λk a=>by grind
 have t:∀ k,¬ aP dk k->d k=χ' k:=λk a=>by grind
 have G:∀ k,aP dk k->χ' k=.lane i j\/u.heap.size<=k:=by
  intro k a;rcases C with e | e
  ·exact .inl (f.tag k (.inr (.inl (e▸a))))
  grind
 have K:∀ k,k<u.heap.size->d k≠.cO->χ' k≠.cO:=by
  grind
 have L:∀ k,k<u.heap.size->χ' k≠.lane i j->d k=χ' k:=by
  grind
 have M:∀ k,p'.mut l.pb k->d k=.lane i j:=by
  subst B;rintro k (a | a | a)
  ·by_cases g:aP dk k
   ·grind
   ·rw[t k g];exact f.tag k (.inl a)
  ·exact I k a
  ·by_cases g:aP dk k
   ·grind
   ·rw[t k g];exact f.tag k (.inr (.inr a))
 have s:ao (λk=>χ' k=.lane i j) u w1:=c.mono λk _ o=>f.tag k (o.elim .inl λe=>.inr (.inl e))
 have O:∀ k,d k≠.cO->k<w1.heap.size:=λk o=>by
  by_cases g:aP dk k
  ·grind
  ·rw[t k g]at o;exact fE (h.kj o) c.size
 have P:dX w1 y.b y.aK y.n:=r.node.aA s (by rw[r.tag];simp) (by rw[r.ks];simp);have Q:dN (gV A' χ' d u) w1 l.pb p':=by
  refine q _ (λk a=>?_) (λk a=>.inl (by grind));rcases a with a | a
  ·by_cases g:aP dk k
   ·grind
   ·rw[t k g]at a;exact .inl ⟨h.kj a,h.fs k a⟩
  grind
 obtain⟨aT,J⟩:=h.Jq (χ':=d) (n':=y.n) (p':=p') o F D (s.mono λk _ e=>.inl e) K L O P Q M;rw[jE D,k4]at J
 grind
theorem Li (a b:Int):hr a b []=0:=rfl
theorem JZ (a b:Int)(v:bc)(vs:a_):hr a b (v::vs)=if v.v.valid a b≠0 then v.v.valid a b else hr a b vs:=rfl
theorem J0 {a b:Int}:∀ {vs:a_},hr a b vs=0->∀ v ∈ vs,v.v.valid a b=0
 | [],_,v,al=>by cases al
 |x::xs,h,v,al=>by
  rw[JZ]at h;split at h
  ·grind
  ·rename_i c;rcases f0.1 al with e | e
   ·grind
   ·exact J0 h v e
theorem In {v:aG}{a b:Int}(h:v.valid a b=0):0<=v.Node/\v.Node<a/\v.valid 5 b=0:=by
 obtain⟨f,d⟩:=yX h;have c:=qg d;refine⟨c.2.2.2.2.1,c.2.2.2.2.2.1,?_⟩;have e:v.inside 5 b=true:=wq ⟨by omega,by omega,c.2.2.1,c.2.2.2.1,c.2.2.2.2.1,by omega,c.2.2.2.2.2.2⟩
 grind[aG.valid]
theorem Lc {ls:List c4}{x:b3}{l:c4}{v:bc}{a:aG}(b:ls[j]?=some l)(al:v.node=j) :
  b3.pure {x with az:=ls.set j ⟨l.pb,l.p.post a v dk gg,l.bG++[k],ap,dD⟩}=(b3.pure {x with az:=ls}).fe k v:=by
 simp only[b3.pure,a9.fe,a9.mk.injEq,true_and,and_true];rw[al,mM,hD];apply i_;intro q;rw[kW,Cr]
 grind[cS,c4.pure,dC.post,dC.pure]
theorem Rz (a:c6)(k:Nat):is ((a++[k]).map Int.ofNat)=is (a.map Int.ofNat)++[.int .i64 k]:=by simp[is]
theorem bl.next {aw χ':bR}(n:Next A A' aw χ' w w')(e:∀ k,aw k≠.cO->A k)(h:bl w a xs)(c:xs=[]\/gU A a):bl w' a xs/\(xs=[]\/gU A' a):=by
 refine⟨h.aA (n.aA.mono λk _ b=>e k b) c,?_⟩;by_cases f:xs=[]
 ·grind
 ·refine .inr ?_;rcases c with c | c
  ·grind
  ·cases a with
   |none=>trivial
   |some a=>
    intro b;have d:=h.lt f;rcases(n.iff _).1 b with b | b
    ·exact c (e _ (n.grow _ d b))
    ·exact c b.2.1
theorem cT.next {aw χ':bR}(n:Next A A' aw χ' w w')(c:∀ k,aw k≠.cO->A k){v:aG}{x:bc}(h:cT A w v x):cT A' w' v x:=
 h.aA (n.aA.mono λk _ a=>c k a) λk b a=>by
  rcases(n.iff _).1 a with a | a
  ·exact c _ (n.grow _ b a)
  grind
theorem y5 {α:Type}{l:List α}(h:k<l.length):l.drop k=l[k]::l.drop (k+1):=wv h
theorem MS {aw:bR}{X:bs}(h:cj A aw w aM X)(bT:nU X.pure){x:b3}(dv:X.aF[i]?=some x)(dA:x.alive=true)(dG:x.fS=none)
  {raw:List aG} {vs:a_} (ed:bl w la (dS raw).flatten) (bP:(dS raw).flatten=[]\/gU A la) (b2:et A w raw vs) (ea:vs.length<=1024) (ah:hr X.nodes.length X.lines vs=0)
  {j:ax} (ey:∀ u A' χ' ls,xl A aw w aM X i x vs vs.length u A' χ' ls->∀ aC,W prog (sub (bu f66) [1,1,1,1,1]) (BC la raw.length lcap (some ⟨X.aY,0+i*7,none⟩) aC) (dE prog f66 R) u) :
  cz prog (.loop (sub (bu f66) [1,1,1,1,0,1,0,0])) (vx ⟨aM,0,none⟩ la raw.length lcap (some ⟨X.aY,0+i*7,none⟩) la raw.length lcap raw.length 0 j)
   (aO 3 (aZ (λenv w=>W prog (sub (bu f66) [1,1,1,1,1]) env (dE prog f66 R) w) (dE prog f66 R))) w:=by
 have hlen:raw.length=vs.length:=b2.1;have dg:=cS dv;have O:=bT.aL i x.pure (by grind[bs.pure]);have cV:x.az.length=X.nodes.length:=by
  have:=O.az
  grind[b3.pure,bs.pure]
 have eb:=bT.nodes;have a8:gQ x.pure.az=0:=by
  have dt:=O.waiting;have eu:=O.batch.1
  grind[b3.pure]
 have Q:∀ (q:Nat) (l:c4),x.az[q]?=some l->l.p.node=q/\l.p.a1.length<=0/\l.bG.length<=0:=by
  intro q l d8;have c7:=O.lane q l.pure (by grind[b3.pure]);have aq:l.p.a1.length=0:=by
   have hm:l.pure.pair.a1.length ∈ x.pure.az.map λl=>l.pair.a1.length:=cW.2 ⟨l.pure,b9 (i:=q) (by grind[b3.pure]),rfl⟩
   have:=List.sum_eq_zero_iff_forall_eq_nat.1 a8 _ hm;exact this
  have c9:=c7.bG;refine⟨c7.node,by omega,?_⟩;have:l.pure.bG.length=l.pure.pair.a1.length:=c9;have e:l.pure.pair.a1.length=l.p.a1.length:=rfl;have er:l.pure.bG.length=l.bG.length:=rfl;omega
 refine cZ mix (λm env u=>∃ (k:Nat) (aC:ax) (A':a4) (χ':bR) (ls:List c4),k<=vs.length/\m=vs.length - k/\env=vx ⟨aM,0,none⟩ la raw.length lcap (some ⟨X.aY,0+i * 7,none⟩) la raw.length lcap raw.length k aC/\
   xl A aw w aM X i x vs k u A' χ' ls) vs.length ⟨0,_,A,aw,x.az,by omega,by omega,rfl,h.refl (ao.refl _ _),?_,rfl,cV,Q⟩ ?_
 ·have:({x with az:=x.az}:b3)=x:=rfl;rw[this,jE dv];exact h
 rintro m env u ⟨k,aC,A',χ',ls,F,rfl,rfl,a6⟩;rw[VL];refine bb (λcY=>?_) (λcY=>?_)
 ·have aQ:k<vs.length:=by omega
  have dY:k<raw.length:=by omega
  have al:raw[k]?=some raw[k]:=by grind
  have b5:cT A w raw[k] vs[k]:=b2.2 k _ _ al (by grind);have b7:cT A' u raw[k] vs[k]:=b5.next a6.next h.fs;obtain⟨db,ee⟩:=bl.next a6.next h.fs ed bP;obtain⟨eo,ez,rfl,dL,cG⟩:=db.row (v7 raw) (by omega) (zE al);have b0:=J0 ah vs[k] (sj aQ);obtain⟨c2,c3,bh⟩:=In b0;have a0:vs[k].v.Node=vs[k].node:=rfl;rw[a0]at c2 c3;have dd:raw[k].Node=vs[k].node:=by rw[b5.eq];rfl
  obtain⟨q,da⟩:∃ q:Nat,vs[k].node=q:=⟨vs[k].node.toNat,by omega⟩;have ec:q<ls.length:=by rw[a6.len];omega
  have bk:ls[q]?=some ls[q]:=by grind
  generalize d8:ls[q]=l at bk;obtain⟨d9,d_,d'⟩:=a6.lane q l bk;have ag:(X.aF.set i {x with az:=ls})[i]?=some {x with az:=ls}:=by grind
  refine dW (by omega) (by omega) ?_;refine jL (v:=raw[k]) (by simp_all) ?_;rintro b1 w1 cB b_;obtain⟨aq,ab⟩:=bo cB b_;refine⟨gq (vs:=aG.cells raw[k]) aq (by simp[aG.cells]) (aG.single raw[k]),?_⟩;rintro eg ca cr cb;obtain⟨bD,c5⟩:=nw (vs:=aG.cells raw[k]) aq (by simp[aG.cells]) ab (by omega) ca;have bO:Go.bJ.ai eg cr:=by rw[cb];exact cR _
  have G:=ai.aj bO bD;have ad:Go.bJ.ai u cr:=c5.new bO;have br:=a6.cw.new ad;clear b_ ca aq ab cb;refine⟨λz=>Go.bJ.ai cr z,ao.refl _ _,_,_,_,λz aq=>(br.new aq).iq (k:=2) ag rfl,_,λz aq=>(ai.aj aq G).cell (i:=1) rfl,?_⟩;obtain⟨g,cI,dT,⟨dz,dN⟩,dR,cQ⟩:=aX.row (br.aL i _ ag).own (nk ls) (by omega) (mr bk);show bx x.la ls.length raw[k].Node 2 _;have V:x.la=some ⟨g,0,none⟩:=cI;rw[V,dd,da];refine dW (by omega) (by omega) ?_;rw[hD];intro bm cd;have aV:Go.bJ.ai cr bm:=by rw[cd];exact cR _
  clear cd;have af:=ai.aj aV G;have K:Go.bJ.ai u bm:=ad.new aV;have ae:=a6.cw.new K;have bH:=ae.aL i _ ag;have f:=bH.lane q l bk;refine⟨λz=>Go.bJ.ai bm z,ao.refl _ _,some ⟨l.pb,0,none⟩,λz aq=>?_,?_⟩
  ·exact kh (aV.new aq) (cQ 0 _ rfl) id
  refine nG (v:=raw[k]) (λz aq=>hB (ai.aj aq af)) ?_;refine⟨_,λz aq=>(ae.new aq).cw.cell (i:=0) rfl,?_⟩;have b8:cT A' bm raw[k] vs[k]:=b7.aA (ao.cm K) λ_ _ h=>h
  refine aB (QF f.pair b8 bh (by grind) (by omega)) ?_;rintro r eh ⟨rfl,N,dk,gg,M,aH,de⟩;have ba:∀ k,aP dk k->k<eh.heap.size:=by
   intro b dB;have c9:=M (λk=>(k<bm.heap.size/\A' k)\/aP dk k) (λk F=>F) (λk F=>?_)
   ·exact c9.own.lt dB
   ·rcases F with F | F | F
    ·exact .inl ⟨F▸f.pair.aj.lt,f.pair.jg k (.inl F)⟩
    ·exact .inr F
    ·exact .inl ⟨f.pair.kr.lt F,f.pair.jg k (.inr (.inr F))⟩
  have dr:xl A aw w aM X i x vs k bm A' χ' ls:=⟨a6.next.new K,ae,a6.pure,a6.len,a6.lane⟩;obtain⟨ek,cy,dp,bz⟩:=OB dr dg aQ ea bk da (by grind) rfl M aH de ba;have H:(X.aF.set i {x with az:=ls.set q {l with p:=l.p.post N vs[k] dk gg} })[i]?=some {x with az:=ls.set q {l with p:=l.p.post N vs[k] dk gg} }:=by grind
  have I:(ls.set q {l with p:=l.p.post N vs[k] dk gg})[q]?=some {l with p:=l.p.post N vs[k] dk gg}:=by grind
  have d:=bz.aL i _ H;have du:=d.lane q _ I;obtain⟨S,B,_,⟨bq,Y⟩,_,Z⟩:=aX.row d.own (nk _) (by omega) (mr I);have cP:S=g:=by
   grind
  subst cP;refine⟨_,rfl,_,_,_,Z 1 _ rfl,?_⟩;rintro dy ct cF cn;obtain⟨dm,E⟩:=bo cF cn;have bA:=bz.new E;clear cn;have J:=(bA.aL i _ H).lane q _ I;obtain⟨ef,dX,dn,a',dK⟩:=fV (T:=3) (z:=.int .i64 0) (n:=1) (m:=8) (by kernel_rfl);have bV:aX ct 3 ef.size l.kK l.bG.length l.lj (is (l.bG.map Int.ofNat)):=by rw[a'];exact J.bG
  obtain⟨ap,dD,cp,bX,L,cU,cA⟩:=bV.append (P:=prog) (t:=22) (ty:=22) Tryz.underlying22 dX dn (by rw[a'];rfl) (by omega)
   (s:=some ⟨dy,0,none⟩) (m:=1) (c:=1) (news:=[.int .i64 k]) (by grind) (fj dm (by simp)) (by simp[single]) (by omega) (by grind)
  rw[a']at L;refine⟨ap,_,dD,cp,bX,?_⟩;have C:ao (λz=>cy z=.bG i q) ct cp:=cU.mono λz _ aq=>J.tw z aq
  have bK:av cp S bq lL:=C.aj (ai.aj E Y) (by rw[d.tag S ⟨0,B⟩];simp);have D:aX cp lL 2 x.la (ls.set q {l with p:=l.p.post N vs[k] dk gg}).length x.lc (hy (ls.set q {l with p:=l.p.post N vs[k] dk gg})).flatten:=(d.own.new E).aA C λz aq=>by rw[d.tag z aq];simp
  refine⟨⟨_,kh C (kh E (Z 1 _ rfl) id) (by rw[d.tag S ⟨0,B⟩];simp)⟩,bK.frozen,?_⟩;intro cu bj;have bN:ao (λz=>z=S) cp cu:=by rw[bj];exact e4 _ _ _ _
  have bM:ao (λz=>r7 i q (cy z)) ct cu:=(C.mono λz _ e=>.inl e).trans bN λz _ e=>.inr (by rw[e];exact d.tag S ⟨0,B⟩)
  have aR:aX cu lL 2 x.la (ls.set q {l with p:=l.p.post N vs[k] dk gg}).length x.lc ((hy (ls.set q {l with p:=l.p.post N vs[k] dk gg})).set q (c4.cells ⟨l.pb,l.p.post N vs[k] dk gg,l.bG++[k],ap,dD⟩)).flatten:=by rw[V]at D ⊢;rw[bj];have:=aX.setCell D (i:=q*2+1) (by grind) (.slice ap (l.bG.length+1) dD);rw[zU (nk _) _ (mr I) (by omega)]at this;simpa[c4.cells]using this
  have dU:cy S=.az i:=d.tag S ⟨0,B⟩;have U:∀ z,aP ap z->cy z=.bG i q\/ct.heap.size<=z:=by
   intro z aq;rcases cA with e | e
   ·exact .inl (J.tw z (e▸aq))
   ·obtain⟨o,c7⟩:=aq
    grind
  have a5:aX cu m4 1 ap (l.bG++[k]).length dD (is ((l.bG++[k]).map Int.ofNat)):=by
   rw[Rz];have:=L.aA bN (λz aq e=>?_)
   ·grind
   ·rcases U z aq with dt | dt
    ·grind
    ·have:=(ai.aj E Y).lt;omega
  clear bj;obtain⟨dx,ej,dq,bC⟩:=bA.Jr H I bM U a5 aR;rw[k4,k4]at bC;rw[show IntKind.i64.wrap ((k:Int)+1)=((k+1:Nat):Int) by rw[bI (by omega) (by omega)];rfl];refine⟨vs.length-(k+1),by omega,k+1,_,dx,ej,ls.set q ⟨l.pb,l.p.post N vs[k] dk gg,l.bG++[k],ap,dD⟩,by omega,rfl,rfl,?_⟩;refine⟨((dr.next.trans dp).new E).trans dq,bC,?_,by simp[a6.len],?_⟩
  ·rw[Lc bk da,<-a6.pure,y5 aQ,JY]
  ·intro z y di;rw[kW]at di;split at di
   ·grind[Option.some.injEq,dC.post]
   ·obtain⟨a,b,c⟩:=a6.lane z y di
    grind
 grind
theorem MG (n:Nat):ko n [.int .i64 0,.slice none 0 0]=(gv (List.replicate n ⟨0,none,0,0⟩)).flatten:=by
 induction n with
 |zero=>rfl
 |succ n a=>rw[ux,gv,iI,lD,<-gv,<-a];rfl
theorem QG (A:a4)(w:an)(n:Nat):gT A w (List.replicate n ⟨0,none,0,0⟩) (List.replicate n ⟨0,[]⟩):=by
 refine⟨by simp,λi v x al a=>?_⟩;rw[List.getElem?_replicate]at al a;split at al
 ·rw[bh ‹_›]at a;simp only[hM]at al a;subst al;subst a;exact⟨rfl,rfl,.inl rfl,λ_=>rfl,.inl rfl,by simp,db _⟩
 grind
theorem nl {cs:List b3}(h:av w aY (gE cs).flatten im){c c':b3}(a:cs[i]?=some c)(b:k<7)(e:c.cells.set k v=c'.cells) :
  av (w.setCell ⟨aY,0+i*7+k,none⟩ v) aY (gE (cs.set i c')).flatten im/\(cs.set i c')[i]?=some c':=by
 have:=GS h a b v
 grind[tD,cS]
theorem lW {cs:List b3}(h:av w aY (gE cs).flatten im){c:b3}(a:cs[i]?=some c)(al:c.cells[k]?=some v):w.cell? ⟨aY,0+i*7+k,none⟩=some v:=by rw[iZ];exact h.cell (zj (zF _) (v8 a) al)
open Classical in
theorem RA {aw:bR}{X:bs}(h:cj A aw w aM X)(bH:nU X.pure)(c:Int){raw:List aG}{vs:a_}
  (bX:bl w la (dS raw).flatten) (aR:(dS raw).flatten=[]\/gU A la) (S:et A w raw vs) :
  a5 66 [ptr aM,.int .i64 c,.slice la raw.length lcap] w λv w'=>v=.int .i64 (X.pure.post c vs).1/\d_ A aw w aM (X.pure.post c vs).2 w' λ_=>True:=by
 refine ba Tryz.func66 ?_;rw[ptr,X2];have hlen:raw.length=vs.length:=S.1;rcases X.s' c with⟨Y,a8⟩ | ⟨i,x,rfl,Y,a8⟩
 ·refine aB (vM h a8) ?_;rintro v w' ⟨rfl,rfl⟩;have F:X.pure.post c vs=(1,X.pure):=by grind[ay.post]
  refine⟨_,rfl,?_⟩;rw[F];exact⟨rfl,d_.same h (ao.refl _ _) trivial⟩
 refine aB (tr h Y) ?_;rintro v w' ⟨rfl,rfl⟩;refine⟨_,rfl,⟨_,h.iq (k:=0) Y rfl,eF (λbT=>?_) (λbT=>?_)⟩⟩
 ·have F:X.pure.post i vs=(1,X.pure):=by grind[ay.post,b3.pure]
  rw[F];exact⟨rfl,d_.same h (ao.refl _ _) trivial⟩
 have b5:=h.aL i x Y;refine⟨_,_,_,h.iq (k:=3) Y rfl,?_⟩;cases bk:x.fS with
 |some b=>
  have F:X.pure.post i vs=(3,X.pure):=by grind[ay.post,b3.pure]
  rw[F];exact⟨rfl,d_.same h (ao.refl _ _) trivial⟩
 |none=>
  refine dG rfl (eg (λbP=>?_) (λbP=>?_))
  ·have aq:vs=[]:=hN (by omega);have F:X.pure.post i vs=(1,X.pure):=by grind[ay.post,b3.pure]
   rw[F];exact⟨rfl,d_.same h (ao.refl _ _) trivial⟩
  have b_:¬ vs=[]:=λe=>bP (by grind)
  refine bb (λb7=>?_) (λb7=>?_)
  ·have F:X.pure.post i vs=(18,X.pure):=by
    grind[ay.post,b3.pure]
   rw[F];exact⟨rfl,d_.same h (ao.refl _ _) trivial⟩
  have hle:vs.length<=1024:=by omega
  have F:X.pure.post i vs=if hr X.nodes.length X.lines vs≠0 then(hr X.nodes.length X.lines vs,X.pure)else(0,X.pure.eo i (x.pure.j4 vs)):=by
   have b0:¬ vs.length>1024:=by omega
   have bO:X.pure.nodes.length=X.nodes.length:=by simp[bs.pure]
   have aZ:X.pure.lines=X.lines:=rfl;simp only[ay.post,a8,bO,aZ];rw[aQ (by grind[b3.pure]),aQ (by grind[b3.pure]),aQ (by grind),aQ b0]
  rw[F];refine cZ mix (λm env u=>∃ (k:Nat) (aC:ax),k<=vs.length/\m=vs.length-k/\env=yg ⟨aM,0,none⟩ la raw.length lcap (some ⟨X.aY,0+i*7,none⟩) la raw.length lcap raw.length k aC/\
   Go.bJ.ai w' u/\hr X.nodes.length X.lines vs=hr X.nodes.length X.lines (vs.drop k)) vs.length ⟨0,_,by omega,by omega,rfl,ao.refl _ _,rfl⟩ ?_
  rintro m env u ⟨k,aC,K,rfl,rfl,n,a⟩;rw[VK];refine bb (λbC=>?_) (λbC=>?_)
  ·have bA:k<vs.length:=by omega
   have b8:k<raw.length:=by omega
   have al:raw[k]?=some raw[k]:=by grind
   have bM:cT A w' raw[k] vs[k]:=S.2 k _ _ al (by grind);obtain⟨cn,cr,rfl,b2,bm⟩:=(bl.new n bX).row (v7 raw) (by omega) (zE al);refine dW (by omega) (by omega) ?_;refine jL (v:=raw[k]) (by grind) ?_;rintro b1 w1 O o;obtain⟨aq,M⟩:=bo O o;refine⟨gq (vs:=aG.cells raw[k]) aq (by simp[aG.cells]) (aG.single raw[k]),?_⟩;rintro a0 p Z q;obtain⟨af,bD⟩:=nw (vs:=aG.cells raw[k]) aq (by simp[aG.cells]) M (by omega) p;have aO:Go.bJ.ai a0 Z:=by rw[q];exact cR _
   have P:=ai.aj aO af;have E:Go.bJ.ai w' Z:=(n.new bD).new aO;have ab:=h.new E;clear o p aq M q;refine⟨λz=>Go.bJ.ai Z z,ao.refl _ _,nG (v:=raw[k]) (λz aq=>hB (ai.aj aq P)) ?_⟩;refine⟨_,_,_,λz aq=>(ab.new aq).cw.cell (i:=1) rfl,_,λz aq=>(ab.new aq).cw.cell (i:=0) rfl,?_⟩;refine aB (z_ _ raw[k] _ _) ?_;rintro r bN ⟨rfl,D⟩;refine⟨_,rfl,D,?_⟩;rw[bM.valid];rw[y5 bA,JZ]at a;refine d8 (λae=>?_) (λae=>?_)
   ·rw[bh ae]at a;rw[a,bh ae];exact⟨rfl,d_.same h (E.new D) trivial⟩
   ·rw[aQ (λG=>G ae)]at a;rw[show IntKind.i64.wrap ((k:Int)+1)=((k+1:Nat):Int) by rw[bI (by omega) (by omega)];rfl];exact⟨vs.length-(k+1),by omega,k+1,_,by omega,rfl,rfl,E.new D,a⟩
  ·have:k=vs.length:=by omega
   subst this;rw[J',Li]at a;rw[aQ (λG=>G a)];rw[Wv];have hu:=h.new n;have bK:bl u la (dS raw).flatten:=bl.new n bX;have aV:et A u raw vs:=S.aA (ao.cm n) λ_ _ h=>h
   refine MS hu bH Y bT bk bK aR aV hle a ?_;intro cl A' χ' ls a6 ca;rw[Ww];have H:=a6.cw;have I:(X.aF.set i {x with az:=ls})[i]?=some {x with az:=ls}:=by grind
   have C:=H.aL i _ I;refine⟨by omega,by omega,by omega,by omega,?_⟩;rintro b1 w1 O o;rw[MG]at o;obtain⟨ag,aH⟩:=bo O o;clear o;simp only at ag;have a':=H.new aH;have B:av w1 X.aY (gE (X.aF.set i {x with az:=ls})).flatten im:=a'.cls;refine⟨⟨_,lW (k:=3) B I rfl⟩,B.frozen,?_⟩;intro a0 p;obtain⟨g,J⟩:=nl (k:=3) (c':={x with az:=ls,fS:=some b1,raw:=List.replicate raw.length ⟨0,none,0,0⟩,batch:=List.replicate vs.length ⟨0,[]⟩}) B I (by omega) (v:=.slice (some ⟨b1,0,none⟩) (Int.toNat raw.length) (Int.toNat raw.length)) (by simp[b3.cells]);rw[<-p]at g;have bq:ao (λz=>z=X.aY) w1 a0:=by rw[p];exact e4 _ _ _ _
   clear p;refine⟨⟨_,lW (k:=4) g J rfl⟩,g.frozen,?_⟩;intro Z q;obtain⟨d,s⟩:=nl (k:=4) (c':={x with az:=ls,fS:=some b1,raw:=List.replicate raw.length ⟨0,none,0,0⟩,batch:=List.replicate vs.length ⟨0,[]⟩,waiting:=vs.length}) g J (by omega) (v:=.int .i64 raw.length) (by grind[b3.cells]);rw[<-q]at d;have br:ao (λz=>z=X.aY) a0 Z:=by rw[q];exact e4 _ _ _ _
   clear q;refine⟨_,lW (k:=5) d s rfl,⟨_,lW (k:=5) d s rfl⟩,d.frozen,?_⟩;intro bN U;obtain⟨f,y⟩:=nl (k:=5) (c':={x with az:=ls,fS:=some b1,raw:=List.replicate raw.length ⟨0,none,0,0⟩,batch:=List.replicate vs.length ⟨0,[]⟩,waiting:=vs.length,jo:=IntKind.i64.wrap (x.jo+1)}) d s (by omega) (v:=.int .i64 (IntKind.i64.wrap (x.jo+1))) (by simp[b3.cells]);rw[<-U]at f;have D:ao (λz=>z=X.aY) Z bN:=by rw[U];exact e4 _ _ _ _
   clear U;refine⟨_,lW (k:=6) f y rfl,⟨_,lW (k:=6) f y rfl⟩,f.frozen,?_⟩;intro W V;obtain⟨Q,bV⟩:=nl (k:=6) (c':={x with az:=ls,fS:=some b1,raw:=List.replicate raw.length ⟨0,none,0,0⟩,batch:=List.replicate vs.length ⟨0,[]⟩,waiting:=vs.length,jo:=IntKind.i64.wrap (x.jo+1),kL:=IntKind.i64.wrap (x.kL+vs.length)}) f y (by omega) (v:=.int .i64 (IntKind.i64.wrap (x.kL+raw.length))) (by grind[b3.cells]);rw[<-V]at Q;have bx:ao (λz=>z=X.aY) bN W:=by rw[V];exact e4 _ _ _ _
   clear V;have L:ao (λz=>z=X.aY) w1 W:=((bq.trans br λ_ _ h=>h).trans D λ_ _ h=>h).trans bx λ_ _ h=>h
   have bz:ao (λz=>χ' z=.aF) w1 W:=L.mono λz _ e=>by rw[e];exact H.fI
   have R:ao (λz=>χ' z=.aF) cl W:=(ao.cm aH).trans bz λ_ _ h=>h
   let N:bR:=λk=>if k=b1 then .batch i else χ' k
   have bO:N b1=.batch i:=bh rfl;have aZ:∀ k,k≠b1->N k=χ' k:=λk K=>by grind
   have hold:∀ k,k<cl.heap.size->N k=χ' k:=λk K=>aZ k (by omega)
   obtain⟨m,_⟩:=H.move (T:=λt=>t=.aF) (χ':=N) R (by simp) (λk K G=>by grind) (λk K _ _=>hold k K);have f1:=aX.c5 m C.own C.tag (by simp) (by simp);have bj:av W b1 (gv (List.replicate raw.length ⟨0,none,0,0⟩)).flatten jz:=by
    have aP:b1≠X.aY:=by have:=H.cls.lt;grind
    have:=L.aj ag aP
    grind
   have cb:ln (gV A' χ' N cl) N W i {x with az:=ls,fS:=some b1,raw:=List.replicate raw.length ⟨0,none,0,0⟩,batch:=List.replicate vs.length ⟨0,[]⟩,waiting:=vs.length,jo:=IntKind.i64.wrap (x.jo+1),kL:=IntKind.i64.wrap (x.kL+vs.length)}:=by
    refine⟨f1.1,f1.2,λj l b9=>(C.lane j l b9).c5 m (by simp) (by simp),(λG=>nomatch G),λb ae=>?_,?_⟩
    ·grind
    grind[QG,gV]
   have cd:∀ k,N k≠.cO->k<W.heap.size:=λk G=>by
    by_cases ah:k=b1
    ·rw[ah];exact bj.lt
    ·rw[aZ k ah]at G;exact fE (H.kj G) R.size
   obtain⟨aT,ad⟩:=H.r0 (χ':=N) I (R.mono λk _ e=>.inl e) (λk K G=>by grind) (λk K _ _=>hold k K) cd (by
    grind[tD,k4]) (by rw[hold _ H.cls.lt];exact H.fI) cb
   rw[k4]at ad;refine⟨rfl,_,_,_,((h.refl n).trans a6.next).trans aT,ad,?_,trivial⟩;refine(bs.yU X i _).trans ?_;congr 1;have cp:=a6.pure
   grind[List.drop_length,Lh,a9.j4,b3.pure]
end
section
theorem LD (f:xs.length=n)(r:bl w a xs)(h:∀ u ∈ xs,single u=true)(s:n<=1000000000)(p:a=none->n=0) :
  a5 71 [.slice a n c] w λv w'=>∃ b cap,v=.slice b n cap/\uG w w' 3 1 a b n cap xs:=by
 refine ba Tryz.func71 ?_;rw[WX];obtain⟨i,l,aq,d,j⟩:=fV (T:=3) (z:=.int .i64 0) (n:=1) (m:=8) (by kernel_rfl);cases a with
 |none=>
  refine hc rfl ⟨none,0,by grind,ao.refl _ _,?_,?_,by simp⟩
  ·rw[p rfl]at f ⊢;rw[hN f];exact aX.nil _ _ _
  ·rintro k ⟨o,q⟩;cases q
 |some a=>
  refine dG rfl ?_;rintro b1 w1 rfl rfl;obtain⟨b,e,w',g,x⟩:=yW (t:=22) (ty:=22) (z:=.int .i64 0) (n:=n) (c:=c) (w:=w) (a:=a) (xs:=xs) Tryz.underlying22 l aq (by rw[d];rfl) (by omega) (by grind) r h (by omega) (by grind)
  grind
theorem DQ {aw:bR}{gn ga:Nat}{p:dC}{n:aD}{r:bf}{t N:Tag}(B:dN A w b p)(g:∀ k,p.mut b k->aw k=t)(ad:t≠.cO)(z:∀ k,aw k≠.cO->k<w.heap.size)(R:∀ k,aw k≠.cO->A k)(Z:aw ga=N)
  (S:zk A b gn ga p n w r w') :
  ∃ (χ':bR) (d:bV) (p':dC),r=.tuple #[d.val,.bool (p.pure.step n).2.2.isSome]/\p'.pure=(p.pure.step n).1/\dX w' gn ga (p.pure.step n).2.1/\ao (λk=>aw k=t\/aw k=N) w w'/\
   (∀ k,k<w.heap.size->χ' k≠.cO->aw k≠.cO)/\(∀ k,k<w.heap.size->aw k≠t->χ' k=aw k)/\(∀ k,χ' k≠.cO->k<w'.heap.size)/\(∀ k,p'.mut b k->χ' k=t)/\dN (gV A aw χ' w) w' b p'/\
   ∀ x,(p.pure.step n).2.2=some x->lV (gV A aw χ' w) w' d x:=by
 classical
 obtain⟨d,p',rfl,s,l,j,F,f,c,J,K,E⟩:=S;have h:∀ k,p.mut b k->k<w.heap.size:=by
  grind
 have I:∀ k,p'.mut b k->p.mut b k\/w.heap.size<=k:=by
  rintro k (a | a | a)
  ·exact .inl (.inl a)
  ·rcases J with e | e
   ·exact .inl (.inr (.inl (e▸a)))
   grind
  ·rcases K with e | e
   ·exact .inl (.inr (.inr (e▸a)))
   grind
 have q:=f (λk=>(k<w.heap.size/\A k)\/aP p'.dk k\/aP p'.hl k) (λk a=>a) (λk a=>by
  rcases a with a | a | a
  ·exact .inl ⟨h k (.inl a),B.jg k (.inl a)⟩
  ·grind
  grind)
 have H:∀ k,p'.mut b k->k<w'.heap.size:=by
  rintro k (rfl | a | a)
  ·exact q.aj.lt
  ·exact q.own.lt a
  ·exact q.kr.lt a
 let χ':bR:=λk=>if p'.mut b k then t else if(p.pure.step n).2.2.isSome=true/\aP d.Words k then .cO else aw k
 have t1:∀ k,p'.mut b k->χ' k=t:=λk a=>bh a
 have t2:∀ k,¬ p'.mut b k->(p.pure.step n).2.2.isSome=true->aP d.Words k->χ' k=.cO:=λk u P Q=>by
  grind
 have t3:∀ k,¬ p'.mut b k->¬ ((p.pure.step n).2.2.isSome=true/\aP d.Words k)->χ' k=aw k:=λk u P=>by
  grind
 have U:∀ k,aP d.Words k->k<w.heap.size->aw k=t:=λk a X=>by
  rcases F k a with u | u
  ·exact g k (.inr (.inr u))
  ·omega
 have V:∀ k,k<w.heap.size->χ' k≠.cO->aw k≠.cO:=by
  grind
 have ab:∀ k,k<w.heap.size->aw k≠t->χ' k=aw k:=by
  grind
 have W:∀ k,χ' k≠.cO->k<w'.heap.size:=by
  intro k i;by_cases hm:p'.mut b k
  ·grind
  ·by_cases T:(p.pure.step n).2.2.isSome=true/\aP d.Words k
   ·grind
   ·rw[t3 k hm T]at i;exact fE (z k i) c.size
 have C:dN (gV A aw χ' w) w' b p':=by
  refine f _ (λk a=>?_) (λk a=>.inl (by grind));rcases a with a | a
  ·by_cases hm:p'.mut b k
   ·rcases hm with hm | hm | hm
    ·exact .inl ⟨h k (.inl hm),B.jg k (.inl hm)⟩
    ·grind
    grind
   grind
  grind
 refine⟨χ',d,p',rfl,s,l,c.mono λk _ a=>?_,V,ab,W,t1,C,λx ae=>?_⟩
 ·rcases a with a | a | a
  ·exact .inl (g k (.inl a))
  ·exact .inl (g k (.inr (.inr a)))
  grind
 ·obtain⟨d1,d2,d3,d4,d5,d6,d7⟩:=j x ae;refine⟨d1,d2,d3,d4,?_,d5,d6⟩;by_cases L:x.words=[]
  ·grind
  ·refine .inr ?_;rcases d3 with i | ⟨fS,af,y,_⟩
   ·exact cp (by simpa[us]using i) L
   ·rw [y];have G:aP d.Words fS:=⟨af,y⟩;obtain ⟨cs,D⟩:=E fS G;have Y:¬ p'.mut b fS:=by
     rintro(a | a | ⟨o,ag⟩)
     ·have:=av.kp D (a▸C.aj);grind
     ·obtain⟨O,M⟩:=gN C.own a
      grind[av.kp]
     grind
    intro i;rcases i with i | ⟨u,_,Q⟩
    ·grind
    grind
theorem cj.Xl {aw:bR}{X:bs}(h:cj A aw w aM X){f:Nat}{c:b3}{d:bV}{x:cN}(n:X.aF[i]?=some c)(r:c.fS=some f)(H:q<c.raw.length)(B:lV A w d x) :
  ∃ A',Next A A' aw aw w (cI w ⟨f,0+q*2,none⟩ 0 d.cells)/\cj A' aw (cI w ⟨f,0+q*2,none⟩ 0 d.cells) aM {X with aF:=X.aF.set i {c with raw:=c.raw.set q d,batch:=c.batch.set q x} }:=by
 have a:=h.aL i c n;obtain⟨u,I⟩:=a.batch f r;rw[iZ];have s:ao (λk=>aw k=.batch i) w (cI w ⟨f,q*2,none⟩ 0 d.cells):=(ir w f (q*2) 0 d.cells).mono λk _ e=>by grind
 have p:=u.cI (o:=q*2) (i:=0) (vs:=d.cells);rw[mJ,CE (y3 _) (by grind[gv]) rfl,M_]at p;obtain⟨m,aT⟩:=h.move (χ':=aw) (T:=λt=>t=.batch i) s (by simp) (λ_ _ h=>h) (λ_ _ _ _=>rfl);have f1:=aX.c5 m a.own a.tag (by simp) (by simp);have E:ln (gV A aw aw w) aw (cI w ⟨f,q*2,none⟩ 0 d.cells) i {c with raw:=c.raw.set q d,batch:=c.batch.set q x}:=by
  refine⟨f1.1,f1.2,λj l C=>(a.lane j l C).c5 m (by simp) (by simp),λG=>?_,λb z=>?_,?_,λk v y al g=>?_⟩
  ·grind
  ·grind
  ·simp[a.ds.1]
  ·rw[kW]at al g;by_cases he:q=k
   ·subst he;rw[bh rfl,bh (by omega)]at al;rw[bh rfl,bh (by grind)]at g;simp only[hM]at al g;subst al;subst g;exact B.aA m.tn m.old
   ·rw[aQ he]at al g;exact(a.ds.2 k v y al g).aA m.tn m.old
 obtain⟨D,F⟩:=h.r0 (χ':=aw) n (s.mono λk _ e=>.inr (by rw[e];rfl)) (λ_ _ h=>h) (λ_ _ _ _=>rfl) (λk n=>fE (h.kj n) s.size) (by have e:(gE X.aF).set i (b3.cells {c with raw:=c.raw.set q d,batch:=c.batch.set q x})=gE X.aF:=jE (by rw[v8 n];simp[b3.cells]);rw[e];exact(av.c5 m h.cls h.fI (by simp) (by simp)).1) h.fI E
 grind
theorem cj.Xo {aw:bR}{X:bs}(h:cj A aw w aM X){c:b3}(b:X.aF[i]?=some c)(n:Nat) :
  ∃ A',Next A A' aw aw w (w.setCell ⟨X.aY,0+i*7+4,none⟩ (.int .i64 n))/\cj A' aw (w.setCell ⟨X.aY,0+i*7+4,none⟩ (.int .i64 n)) aM {X with aF:=X.aF.set i {c with waiting:=n} }:=by
 have d:ao (λk=>aw k=.aF) w (w.setCell ⟨X.aY,0+i*7+4,none⟩ (.int .i64 n)):=(e4 w X.aY _ _).mono λk _ e=>by rw[e];exact h.fI
 obtain⟨m,aT⟩:=h.move (χ':=aw) (T:=λt=>t=.aF) d (by simp) (λ_ _ h=>h) (λ_ _ _ _=>rfl);have a:=(h.aL i c b).c5 m (λt f e=>by rw[e]at f;exact f);obtain⟨l,_⟩:=nl (k:=4) (c':={c with waiting:=n}) h.cls b (by omega) (v:=.int .i64 n) (by simp[b3.cells]);obtain⟨g,j⟩:=h.r0 (χ':=aw) (c':={c with waiting:=n}) b (d.mono λk _ e=>.inl e) (λ_ _ h=>h) (λ_ _ _ _=>rfl) (λk b=>fE (h.kj b) d.size) (by grind[tD]) h.fI
  ⟨a.own,a.tag,a.lane,a.none,a.batch,a.ds⟩
 grind
def a9.vv (C:a9)(q:Nat)(p:cH)(cx:c6):Option cN->a9
 |none=>C
 |some x=>{C with az:=C.az.set q ⟨p,cx.tail⟩,batch:=C.batch.map λds=>ds.set (cx.headD 0) x,waiting:=C.waiting-1}
theorem DR {b2:a4}{bb:bR}{D:an}{M:bs}{cB:Nat}{b:b3}{A:c4}{d:bV}(h:cj b2 bb D aM M)(b8:M.aF[i]?=some b)(a0:b.az[q]?=some A)(c5:b.la=some ⟨g,0,none⟩)
  (bq:av D cB d.cells jz) (b0:Option cN) (c3:∀ x,b0=some x->lV b2 D d x) (cd:b0.isSome=true->∃ bk J cx,A.bG=J::cx/\J<b.raw.length/\b.fS=some bk/\0<b.waiting) (hlen:A.bG.length<=1024) (dn:b.waiting<=1024)
  (cS:∀ w' A' χ' cA,Next b2 A' bb χ' D w'->cj A' χ' w' aM cA->cA.pure=M.pure.eo i (b.pure.vv q A.p.pure A.bG b0)->R (.bool true) w') :
  (bif b0.isSome then(∀ E,E=D.drew->∃ N:aJ,N E/\fO (some ⟨M.aY,0+i*7,none⟩) λt=>∃ (batch:ak) (rQ:Nat) (H:Nat),(∀ u,N u->u.cell? ⟨t.block,t.off+3,none⟩=some (.slice batch rQ H))/\∃ (bG:ak) (n:Nat) (C:Nat),(∀ u,N u->u.cell? ⟨g,(0+q*2)+1,none⟩=some (.slice bG n C))/\bx bG n 0 1 λbh=>∃ (cY:Int),(∀ u,N u->u.cell? bh=some (.int .i64 cY))/\∃ (Code:Int) (Words:ak) (l:Nat) (j:Nat),(∀ u,N u->cn u ⟨cB,0,none⟩ 0 [(.int .i64 Code),(.slice Words l j)])/\bx batch rQ cY 2 λbj=>ej E bj 0 [(.int .i64 Code),(.slice Words l j)]/\∀ F,F=cI E bj 0 [(.int .i64 Code),(.slice Words l j)]->∃ (B:ak) (f:Nat) (c:Nat),F.cell? ⟨g,(0+q*2)+1,none⟩=some (.slice B f c)/\ij B f c 1 (f:Nat) (c:Nat) 1 λcz dq dp=>Calls prog 71 #[(.slice cz dq dp)] F λe G=>∃ (L:ak) (s:Nat) (o:Nat),e=.returned (.slice L s o)/\(∃ u,G.cell? ⟨g,(0+q*2)+1,none⟩=some u)/\G.frozen? ⟨g,(0+q*2)+1,none⟩=false/\∀ y,y=G.setCell ⟨g,(0+q*2)+1,none⟩ (.slice L s o)->fO (some ⟨M.aY,0+i*7,none⟩) λw=>∃ (waiting:Int),y.cell? ⟨w.block,w.off+4,none⟩=some (.int .i64 waiting)/\fO (some ⟨M.aY,0+i*7,none⟩) λa=>(∃ u,y.cell? ⟨a.block,a.off+4,none⟩=some u)/\y.frozen? ⟨a.block,a.off+4,none⟩=false/\∀ ah,ah=y.setCell ⟨a.block,a.off+4,none⟩ (.int .i64 (IntKind.i64.wrap (waiting-1)))->R (.bool true) ah)else(R (.bool true) D)):=by
 cases bH:b0 with
 |none=>
  refine cS D b2 bb M (h.refl (ao.refl _ _)) h ?_;rw[bH];show M.pure=M.pure.eo i b.pure
  grind[jE,bs.pure,ay.eo,Int.toNat_natCast]
 |some x=>
  obtain⟨bk,J,cx,cp,cb,bo,dm⟩:=cd (by grind);have b9:=c3 x bH;intro E aO;have K:Go.bJ.ai D E:=by rw[aO];exact cR _
  clear aO;have aR:=h.new K;have ab:=ai.aj K bq;have aZ:=aR.aL i b b8;have ca:=aZ.lane q A a0;obtain⟨cF,c7,da,⟨cZ,c9⟩,_,b_⟩:=aX.row aZ.own (nk b.az) (by omega) (mr a0);have U:cF=g:=by grind
  subst U;have a8:(is (A.bG.map Int.ofNat))[0]?=some (.int .i64 J):=by rw[cp];rfl
  refine⟨λz=>Go.bJ.ai E z,ao.refl _ _,some ⟨bk,0,none⟩,b.raw.length,b.raw.length,λz aq=>(aR.new aq).iq (k:=3) b8 (by grind[b3.cells]),A.kK,A.bG.length,A.lj,λz aq=>kh aq (b_ 1 _ rfl) id,?_⟩;refine ue (i:=0) ca.bG a8 rfl λbh aV c2=>⟨J,λz aq=>kh aq aV id,d.Code,d.Words,d.dh,d.c8,λz aq=>tT (ai.aj aq ab),dW (by omega) (by omega) ?_⟩
  rw[hD];obtain⟨dr,bX,Z⟩:=aR.Xl (q:=J) b8 bo cb (b9.aA (ao.cm K) λ_ _ h=>h);refine⟨gq (vs:=d.cells) (aZ.batch bk bo).1 ?_ (bV.single d),?_⟩
  ·rw[nh (y3 _)]
   grind[gv,bV.cells]
  intro F aQ;have X:F=cI E ⟨bk,0+J*2,none⟩ 0 d.cells:=aQ;rw[<-X]at bX Z;clear X;clear aQ;have P:(M.aF.set i {b with raw:=b.raw.set J d,batch:=b.batch.set J x})[i]?=some {b with raw:=b.raw.set J d,batch:=b.batch.set J x}:=by grind
  have S:=Z.aL i _ P;have a5:=S.lane q A a0;obtain⟨cG,cT,_,⟨cP,bz⟩,_,bC⟩:=aX.row S.own (nk b.az) (by omega) (mr a0);have U:cG=cF:=by grind
  subst U;refine⟨A.kK,A.bG.length,A.lj,bC 1 _ rfl,?_⟩;have W:=a5.bG;rcases W.2 with⟨_,dv,_⟩ | ⟨dz,cW,bM,dd,bN,dg,de,di⟩
  ·grind
  rw[bM];have cU:0<A.bG.length:=by grind
  refine ll (by omega) (by omega) (by omega) (by omega) bN ?_;intro cz ct;have cr:bl F cz (is (cx.map Int.ofNat)):=by
   by_cases bO:cx=[]
   ·rw[bO];exact .inl rfl
   ·rcases ct with e | ⟨e,_⟩
    ·rw[e];have:=W.rd;rw[bM]at this;have:=this.drop 1
     grind[is]
    grind
  have bP:(Int.toNat (A.bG.length:Int))-Int.toNat 1=cx.length:=by grind
  rw[bP];refine aB (LD (by simp[is]) cr (MY _) (by grind) (λe=>by grind)) ?_;rintro r G ⟨ba,rc,rfl,aH,af,T,_⟩;have b7:=Z.new aH;have I:=b7.aL i _ P;obtain⟨b5,br,_,⟨cQ,bA⟩,_,bD⟩:=aX.row I.own (nk b.az) (by omega) (mr a0);have U:b5=cG:=by grind
  subst U;refine⟨_,_,_,rfl,⟨_,bD 1 _ rfl⟩,bA.frozen,?_⟩;intro y Y;have db:bb b5=.az i:=I.tag b5 ⟨0,br⟩;have aG:ao (λz=>z=b5) G y:=by rw[Y];exact e4 _ _ _ _
  have cV:∀ z,aP ba z->bb z=.bG i q\/G.heap.size<=z\/(F.heap.size<=z/\z<G.heap.size):=λz aq=>.inr (by grind)
  have ae:aX y lL 2 b.la b.az.length b.lc ((hy b.az).set q (c4.cells {A with bG:=cx,kK:=ba,lj:=rc})).flatten:=by
   have bK:=I.own;have V:aX G lL 2 b.la b.az.length b.lc (hy b.az).flatten:=bK;rw[c5]at V ⊢;rw[Y];have:=aX.setCell V (i:=q*2+1) (by grind) (.slice ba cx.length rc);rw[zU (nk _) _ (mr a0) (by omega)]at this
   grind[c4.cells]
  have ag:aX y m4 1 ba cx.length rc (is (cx.map Int.ofNat)):=af.aA aG λz aq e=>by have dx:=T z aq;have dy:=bz.lt;omega
  clear Y;have ad:ao (λz=>r7 i q (bb z)) F y:=(ao.cm aH).trans aG λz _ e=>.inr (by grind)
  obtain⟨dt,dA,cu,O⟩:=Z.Jr P a0 ad (λz aq=>.inr (T z aq)) ag ae;rw[k4]at O;have Q:(M.aF.set i {b with raw:=b.raw.set J d,batch:=b.batch.set J x,az:=b.az.set q {A with bG:=cx,kK:=ba,lj:=rc} })[i]?=some {b with raw:=b.raw.set J d,batch:=b.batch.set J x,az:=b.az.set q {A with bG:=cx,kK:=ba,lj:=rc} }:=by grind
  refine⟨b.waiting,O.iq (k:=4) Q rfl,⟨_,O.iq (k:=4) Q rfl⟩,O.cls.frozen,?_⟩;rw[show IntKind.i64.wrap ((b.waiting:Int)-1)=((b.waiting-1:Nat):Int) by rw[bI (by omega) (by omega)];omega];obtain⟨du,cy,bm⟩:=O.Xo Q (b.waiting-1);intro ah bT;rw[k4]at bm;have a':ah=y.setCell ⟨M.aY,0+i*7+4,none⟩ (.int .i64 (b.waiting-1:Nat)):=bT;rw[a'];refine cS _ _ _ _ ((((h.refl K).trans bX).trans cu).trans cy) bm ?_
  grind[bs.yU,b3.pure,a9.vv,List.map_set,c4.pure]
end
section
theorem aX.Tx {i:TypeInfo}(z:P.underlying t=some (.slice e))(y:P.info? e=some i)(I:0<i.size)
  (q:aX w e i.size (some ⟨g,0,none⟩) n cap xs) {s:aU} {news:ax} (p:news.length=m*i.size) (H:bl w (some s) news) (B:∀ u ∈ news,single u=true) (a:n+m<=cap) :
  ∃ w',(Builtin.append_ #[t,t] ty #[.slice (some ⟨g,0,none⟩) n cap,.slice (some s) m c]).run P w=.ok (.slice (some ⟨g,0,none⟩) (n+m) cap) w'/\aX w' e i.size (some ⟨g,0,none⟩) (n+m) cap (xs++news)/\ao (λk=>k=g) w w':=by
 have hlen:(xs++news).length=(n+m)*i.size:=by rw[fF,q.1,p,uh]
 by_cases hm:m=0
 ·subst hm;have D:news=[]:=hN (by grind);subst D;refine⟨w,?_,by grind,ao.refl _ _⟩;have hle:=q.le;simp[Builtin.append_,run_underlying z,sizeOf,typeInfo,y,Builtin.lenOf,hle,Builtin.firstCells,loadCells,loadCellsFrom,storeCells]
 ·have F:news≠[]:=by
   grind[Nat.mul_eq_zero]
  rcases H with K | ⟨sb,so,he,h⟩
  ·grind
  simp at he;subst he;have b:∀ j u,news[j]?=some u->w.cell? ((⟨sb,so,none⟩:aU).add j)=some u:=λj u hu=>by rw[kJ];grind
  have f:∀ u ∈ news,u.oneCell'=true:=λu hu=>JV (B u hu)
  rcases q.2 with⟨A,_⟩ | ⟨J,cur,he,x,E,l,o,r⟩
  ·cases A
  simp at he;subst he;have d:n*i.size+news.length<=cur.toArray.size:=by rw[p,List.size_toArray,o,<-uh];exact ui _ a
  have G:=run_append_room (P:=P) w t ty e i z y g n cap cur.toArray x ⟨sb,so,none⟩ m c news p b f a d;refine⟨_,G,⟨hlen,.inr ⟨g,_,rfl,setRow_heap w g cur.toArray _ e _ x,a,l,?_,?_⟩⟩,⟨rfl,rfl,rfl,by simp,λk _ C=>setRow_other w g k _ (λe=>C e)⟩⟩
  ·grind
  grind
theorem MH {i:TypeInfo}{z:bf}(h:P.underlying t=some (.slice e))(g:P.info? e=some i)(aq:i.zero=some z)(d:z.cells=#[z]){o:Nat}(hw:ej w ⟨b,o,none⟩ 0 [z]) :
  (Builtin.clear_ #[t] ty #[.slice (some ⟨b,o,none⟩) 1 c]).run P w=.ok (.tuple #[]) (cI w ⟨b,o,none⟩ 0 [z]):=by
 have a:=tI (P:=P) hw;have f:(Builtin.zeroCells z.cells 1).toList=[z]:=by rw[d];simp[Builtin.zeroCells]
 simp[Builtin.clear_,run_underlying h,zeroValue,typeInfo,g,aq,f,a]
theorem aX.XI {e:Nat}(h:aX w e 1 a n cap xs)(k:a≠none)(hm:m<=n):aX w e 1 a m cap (xs.take m):=by
 rcases h.2 with⟨j,_⟩ | ⟨g,cur,he,f,i,b,c,d⟩
 ·grind
 ·refine⟨by grind,.inr ⟨g,cur,he,f,by omega,b,c,?_⟩⟩
  grind
theorem OC (h:aX w o3 1 a n cap xs)(aH:i<n)(Z:∀ u ∈ xs,single u=true) :
  a5 89 [.slice a n cap,.int .i64 i,.int .i64 (i+1:Nat)] w λv w'=>v=.slice a (n-1) cap/\aX w' o3 1 a (n-1) cap (xs.eraseIdx i)/\ao (aP a) w w':=by
 refine ba Tryz.func89 ?_;rw[TL];have ah:=h.1;rcases h.2 with⟨_,R,_⟩ | ⟨g,cur,rfl,aG,l,E,ae,K⟩
 ·omega
 have S:cap<=9223372036854775807:=E;refine ll (by omega) (by omega) (by omega) (by omega) l ?_;intro aO _;refine eg (λhe=>by omega) (λ_=>?_)
 intro w1 B;have j:ai w w1:=by rw[B];exact cR _
 clear B;refine ll (by omega) (by omega) (by omega) (by omega) l ?_;intro M V;refine ll (by omega) (by omega) (by omega) (by omega) l ?_;intro N C;have X:M=some ⟨g,0,none⟩:=by grind
 subst X;simp only[hD,Int.toNat_zero,Nat.sub_zero];obtain⟨s2,rfl⟩:∃ s,N=some s:=by grind
 obtain⟨av,A,aq,y,ad⟩:=fV (T:=103) (z:=.pointer none) (n:=1) (m:=8) (by kernel_rfl);have I:aX w1 o3 av.size (some ⟨g,0,none⟩) i cap (xs.take i):=by rw[y];exact aX.XI (h.new j) (by simp) (by omega)
 have J:bl w1 (some s2) (xs.drop (i+1)):=by
  by_cases af:xs.drop (i+1)=[]
  ·rw[af];exact .inl rfl
  ·rcases C with e | ⟨e,_⟩
   ·rw[e];have:=(h.new j).rd.drop (i+1)
    grind
   grind[List.drop_eq_nil_of_le]
 obtain⟨W,f,b,G⟩:=aX.Tx (P:=prog) (t:=106) (ty:=106) Tryz.underlying106 A (by omega) I (s:=s2) (m:=n-(i+1)) (c:=cap-(i+1)) (news:=xs.drop (i+1)) (by grind) J
  (λu hu=>Z u (qM hu)) (by omega)
 rw[y]at b;have F:i+(n-(i+1))=n-1:=by omega
 rw[F]at f b;refine⟨_,_,_,W,f,?_⟩;refine ll (by omega) (by omega) (by omega) (by omega) (by omega) ?_;intro O D;have Y:O=some ⟨g,0+(n-1)*1,none⟩:=by
  rcases D with e | ⟨e,_⟩
  ·simp_all
  ·omega
 subst Y;have H:(Int.toNat (n:Int))-Int.toNat ((n-1:Nat):Int)=1:=by omega
 rw[H];rcases b.2 with⟨R,_⟩ | ⟨aB,Q,q,r,x,p,U,d⟩
 ·cases R
 simp at q;subst q;have L:ej W ⟨g,0+(n-1)*1,none⟩ 0 [.pointer none]:=gq r (by grind) (by simp[single]);refine⟨_,_,MH (P:=prog) Tryz.underlying106 A aq rfl L,rfl,?_,?_⟩
 ·have ab:=r.cI (o:=0+(n-1)*1) (i:=0) (vs:=[.pointer none]);have ag:xs.take i++xs.drop (i+1)=xs.eraseIdx i:=(List.eraseIdx_eq_take_drop_succ ..).symm;rw[ag]at b d;refine⟨b.1,.inr ⟨g,_,rfl,ab,x,p,by rw[J3];grind,?_⟩⟩;rw[ql (by grind)]
  grind
 ·exact((ao.cm j).trans G λk _ e=>⟨0,by rw[e]⟩).trans (ir _ _ _ _ _) λk _ e=>⟨0,by rw[e]⟩
def mH (b n:Nat)(t:Tag):Prop:=t=.fY b\/t=.word n
theorem MT {α:Type}{l:List α}(h:l.Nodup){x:α}(a:l[i]?=some x)(b:l[j]?=some x):i=j:=by
 grind[List.getElem?_eq_some_iff,List.pairwise_iff_getElem,Nat.lt_trichotomy]
theorem y6 {α β:Type}(f:α->β):∀ (l:List α) (i:Nat),(l.map f).eraseIdx i=(l.eraseIdx i).map f
 | [],_=>rfl
 | _::_,0=>rfl
 |x::l,i+1=>by simp[y6 f l i]
theorem cj.Xm {aw χ':bR}{X:bs}(h:cj A aw w aM X){p:dC}{y:g4}(E:X.bZ[i]?=some (b,p))(D:X.nodes[n]?=some y)
  (c:ao (λk=>mH b n (aw k)) w w') (B:∀ k,k<w.heap.size->χ' k≠.cO->aw k≠.cO) (l:∀ k,k<w.heap.size->aw k≠.fY b->χ' k=aw k) (r:∀ k,χ' k≠.cO->k<w'.heap.size)
  {n':aD} (j:dX w' y.b y.aK n') {p':dC} (F:dN (gV A aw χ' w) w' b p') (G:∀ k,p'.mut b k->χ' k=.fY b) :
  Next A (gV A aw χ' w) aw χ' w w'/\cj (gV A aw χ' w) χ' w' aM {X with nodes:=X.nodes.set n {y with n:=n'},bZ:=X.bZ.set i (b,p')}:=by
 obtain⟨m,aT⟩:=h.move (T:=mH b n) c (by simp[mH]) B (λk g j _=>l k g λe=>j (.inl e));have f1:=av.c5 m h.cw h.ha (by simp[mH]) (by simp);have f2:=aX.c5 m h.nodes h.kl (by simp[mH]) (by simp);have f3:=aX.c5 m h.gH h.kI (by simp[mH]) (by simp);have f4:=av.c5 m h.cls h.fI (by simp[mH]) (by simp);have a:=h.node n y D;have s:(X.bZ.set i (b,p')).map Prod.fst=X.bZ.map Prod.fst:=by grind[List.map_set,jE]
 refine⟨aT,m.m7,λk f=>?_,?_,f1.2,?_,f2.2,?_,f4.1,f4.2,λq z aq=>(h.aL q z aq).c5 m (λt o u=>?_),?_,f3.2,λx C=>?_,?_⟩
 ·rcases f with f | f
  ·grind
  ·exact fE f.1 c.size
 ·grind[bs.cells]
 ·grind[ptr,List.map_set,jE]
 ·intro q z aq;simp only[kW]at aq;split at aq
  ·rename_i he;subst he;split at aq
   ·simp only[hM]at aq;subst aq;exact⟨j,by rw[l _ a.node.node.lt (by rw[a.tag];simp)];exact a.tag,by rw[l _ a.node.words.lt (by rw[a.ks];simp)];exact a.ks⟩
   grind
  ·rename_i he;exact(h.node q z aq).c5 m (by simp[mH]) (by grind[mH])
 ·rcases u with e | e<;>(rw[e]at o;cases o)
 ·grind[ptr,List.map_set,jE]
 ·obtain⟨k,c⟩:=ez.1 C;simp only[kW]at c;split at c
  ·grind
  ·rename_i he;have d:=h.ew x (b9 c);refine dN.c5 m d.1 d.2 ?_ (by simp);rintro(e | e)
   ·simp at e;exact he (MT (x:=b) h.nodup (by grind) (by grind))
   grind
 ·show((X.bZ.set i (b,p')).map Prod.fst).Nodup;rw[s];exact h.nodup
theorem cj.TF {aw:bR}{X:bs}(h:cj A aw w aM X)(g:i<X.bZ.length)(c:ao (λk=>aw k=.gH\/aw k=.cw) w w')
  (o:aX w' o3 1 X.gy (X.bZ.length-1) X.j1 ((X.bZ.map λp=>ptr p.1).eraseIdx i)) (l:av w' aM (X.cells.set 3 (.slice X.gy (X.bZ.length-1) X.j1)) lK) :
  ∃ A',Next A A' aw aw w w'/\cj A' aw w' aM {X with bZ:=X.bZ.eraseIdx i}:=by
 obtain⟨m,aT⟩:=h.move (T:=λt=>t=.gH\/t=.cw) (χ':=aw) c (by simp) (λ_ _ h=>h) (λ_ _ _ _=>rfl);have n:(X.bZ.eraseIdx i).length=X.bZ.length-1:=List.length_eraseIdx_of_lt g;refine⟨_,aT,m.m7,λk a=>?_,?_,h.ha,(aX.c5 m h.nodes h.kl (by simp) (by simp)).1,h.kl,λq z aq=>(h.node q z aq).c5 m (by simp) (by simp),(av.c5 m h.cls h.fI (by simp) (by simp)).1,h.fI,λq z aq=>(h.aL q z aq).c5 m (λt d f=>?_),?_,h.kI,λx j=>?_,?_⟩
 ·rcases a with a | a
  ·exact fE (h.kj a) c.size
  ·exact fE a.1 c.size
 ·grind[bs.cells]
 ·rcases f with e | e<;>(rw[e]at d;cases d)
 ·show aX w' o3 1 X.gy (X.bZ.eraseIdx i).length X.j1 ((X.bZ.eraseIdx i).map λp=>ptr p.1)
  grind[y6]
 ·have b:=h.ew x (zy j);exact dN.c5 m b.1 b.2 (by simp) (by simp)
 ·show((X.bZ.eraseIdx i).map Prod.fst).Nodup;rw[<-y6];exact(List.eraseIdx_sublist ..).nodup h.nodup
theorem MI (l:List (Nat×dC)):∀ u ∈ l.map (λp=>ptr p.1),single u=true:=by intro u hu;simp only[cW]at hu;obtain⟨p,_,rfl⟩:=hu;rfl
theorem RB {aw:bR}{X:bs}(h:cj A aw w aM X)(c:Int)(u:c<9223372036854775807):a5 62 [ptr aM,.int .i64 c] w λv w'=>
  v=.bool (X.pure.drop c).1/\d_ A aw w aM (X.pure.drop c).2 w' λ_=>True:=by
 refine ba Tryz.func62 ?_;rw[ptr,VR];have t:X.pure.bZ.length=X.bZ.length:=by simp[bs.pure]
 refine bb (λq=>?_) (λq=>⟨_,_,_,h.cw.cell rfl,bb (λr=>?_) (λr=>?_)⟩)
 ·have f:X.pure.drop c=(false,X.pure):=by unfold ay.drop;grind
  rw[f];exact⟨rfl,d_.same h (ao.refl _ _) trivial⟩
 ·have f:X.pure.drop c=(false,X.pure):=by unfold ay.drop;grind
  rw[f];exact⟨rfl,d_.same h (ao.refl _ _) trivial⟩
 ·have f:X.pure.drop c=(true,{X.pure with bZ:=X.pure.bZ.eraseIdx c.toNat}):=by unfold ay.drop;grind
  rw[f];obtain⟨i,rfl⟩:∃ i:Nat,c=i:=⟨c.toNat,by omega⟩;refine⟨_,_,_,h.cw.cell rfl,?_⟩;rw[show IntKind.i64.wrap ((i:Int)+1)=((i+1:Nat):Int) by rw[bI (by omega) (by omega)];rfl];refine aB (OC h.gH (by omega) (MI _)) ?_;rintro v w1 ⟨rfl,o,n⟩;have a:ao (λk=>aw k=.gH) w w1:=n.mono λk _ j=>h.kI k j
  have b:=a.aj h.cw (by rw[h.ha];simp);refine⟨_,_,_,rfl,⟨_,b.cell (i:=3) rfl⟩,b.frozen,?_⟩;intro p d;have g:ao (λk=>k=aM) w1 p:=by rw[d];exact e4 _ _ _ _
  have l:av p aM (X.cells.set 3 (.slice X.gy (X.bZ.length-1) X.j1)) lK:=by rw[d];exact b.setCell _
  clear d;obtain⟨A',aT,s⟩:=h.TF (i:=i) (by omega) ((a.mono λk _ e=>.inl e).trans g λk _ e=>.inr (by rw[e];exact h.ha)) (o.aA g λk j e=>by have:=h.kI k j;rw[e,h.ha]at this;grind) l;refine⟨rfl,_,_,_,aT,s,?_,trivial⟩;simp[bs.pure,y6]
theorem d_.trans {A a:a4}{aw c:bR}{w w1 b:an}{aM:Nat}{F:ay}{K:(a4)->Prop}(n:Next A a aw c w w1)(h:d_ a c w1 aM F b K):d_ A aw w aM F b K:=by obtain⟨d,j,e,fm,f,i,g⟩:=h;exact⟨d,j,e,n.trans fm,f,i,g⟩
theorem QH {e sz:Nat}(h:aX w e sz a n cap xs):n<=9223372036854775807:=by
 rcases h.2 with⟨_,c,_⟩ | ⟨g,cur,_,_,d,b,_⟩
 ·omega
 ·have:cap<=9223372036854775807:=b;omega
theorem Lj {α:Type}{l:List α}{x y:α}(h:l[i]?=some x):(l.set i y)[i]?=some y:=by grind
theorem MU {α:Type}:∀ (l:List α) (i:Nat) (x:α),(l.set i x).eraseIdx i=l.eraseIdx i
 | [],_,_=>rfl
 | _::_,0,_=>rfl
 |y::l,i+1,x=>by grind
theorem Lk {aw:bR}{X:bs}(h:cj A aw w aM X)(K:nU X.pure)(i:Nat):a5 69 [ptr aM,.int .i64 i] w λv w'=>
  v=.bool (X.pure.iY i).1/\d_ A aw w aM (X.pure.iY i).2 w' λ_=>True:=by
 refine ba Tryz.func69 ?_;rw[ptr,VS];have ag:X.pure.bZ.length=X.bZ.length:=by simp[bs.pure]
 refine⟨_,_,_,h.cw.cell rfl,bb (λR=>?_) (λR=>?_)⟩
 ·have V:X.pure.iY i=(false,X.pure):=by
   grind[ay.iY,List.getElem?_eq_none]
  rw[V];exact⟨rfl,d_.same h (ao.refl _ _) trivial⟩
 have Z:i<X.bZ.length:=by omega
 obtain⟨b,p,D⟩:∃ b p,X.bZ[i]?=some (b,p):=⟨X.bZ[i].1,X.bZ[i].2,by grind⟩;have ah:=h.ew _ (b9 D);obtain⟨ad,ae,z⟩:=K.ew p.pure (b9 (i:=i) (by grind[bs.pure]));obtain⟨n,ab⟩:∃ n:Nat,p.node=n:=⟨p.node.toNat,by have:p.pure.node=p.node:=rfl;omega⟩;have af:n<X.nodes.length:=by
  have e:p.pure.node=p.node:=rfl
  grind[bs.pure]
 obtain⟨y,P⟩:∃ y,X.nodes[n]?=some y:=⟨X.nodes[n],by grind⟩;have av:=h.node n y P;refine⟨_,_,_,h.cw.cell rfl,?_⟩;refine ue (v:=ptr b) (i:=i) h.gH (by grind) rfl λbF s _=>⟨some ⟨b,0,none⟩,s,?_⟩
 intro w1 B;have j:ai w w1:=by rw[B];exact cR _
 clear B;have a:=h.new j;have c:=a.ew _ (b9 D);have f:=a.node n y P;refine⟨λu=>ao (λk=>mH b n (aw k)) w1 u,ao.refl _ _,_,_,_,λu hu=>(hu.aj a.cw (by rw[a.ha];simp[mH])).cell (i:=1) rfl,?_⟩;refine aB (Fh c.1) ?_;rintro r aO ⟨rfl,rfl⟩;refine⟨_,rfl,ao.refl _ _,?_⟩;refine ue (v:=ptr y.b) (i:=n) a.nodes (by grind) ab λQ l x=>⟨some ⟨y.b,0,none⟩,λu hu=>kh hu l ?_,?_⟩
 ·obtain⟨g,Y,rfl⟩:=x;rw[show aw _=_ from a.kl g ⟨0,Y⟩];simp[mH]
 refine aB (Fi c.1 f.node (a.fs _ (by rw[f.ks];simp)) (a.fs _ (by rw[f.tag];simp)) (λT=>by have:=c.2 _ (.inr (.inr T));rw[f.ks]at this;grind) z) ?_;intro r aP S;obtain⟨χ',d,p',rfl,L,o,H,G,M,I,O,F,W⟩:=DQ c.1 c.2 (by simp) (λk U=>a.kj U) a.fs f.ks S;obtain⟨aT,q⟩:=a.Xm D P H G M I o F O;refine⟨_,_,_,_,_,rfl,?_⟩;have J:(X.bZ.set i (b,p'))[i]?=some (b,p'):=Lj D;refine aB (y4 (q.ew _ (b9 J)).1) ?_;rintro r aR ⟨rfl,rfl⟩;have N:X.pure.iY i=(true,{X.pure with nodes:=X.pure.nodes.set n (p.pure.step y.n).2.1,bZ:=if(p.pure.step y.n).1.a1.length=0 then X.pure.bZ.eraseIdx i else X.pure.bZ.set i (p.pure.step y.n).1}):=by
  unfold ay.iY;have aG:X.pure.bZ[i]?=some p.pure:=by grind[bs.pure]
  have aH:p.pure.node.toNat=n:=by show p.node.toNat=n;omega
  grind[bs.pure]
 rw[N];have al:p'.a1=(p.pure.step y.n).1.a1:=by rw[<-L];rfl
 refine⟨_,rfl,eg (λaq=>?_) (λaq=>?_)⟩
 ·have C:(p.pure.step y.n).1.a1.length=0:=by grind
  refine aB (RB q i (by have:=QH h.gH;omega)) ?_;rintro v aV ⟨rfl,t⟩;refine⟨_,rfl,rfl,?_⟩;have E:=d_.trans ((h.refl j).trans aT) t;have e:(bs.pure {X with nodes:=X.nodes.set n {y with n:=(p.pure.step y.n).2.1},bZ:=X.bZ.set i (b,p')}).drop i=(true,{X.pure with nodes:=X.pure.nodes.set n (p.pure.step y.n).2.1,bZ:=X.pure.bZ.eraseIdx i}):=by unfold ay.drop;rw[aQ (by grind[bs.pure])];simp[bs.pure,mM,MU]
  grind
 ·have C:¬ (p.pure.step y.n).1.a1.length=0:=by grind
  rw[aQ C];refine⟨rfl,_,_,_,(h.refl j).trans aT,q,?_,trivial⟩
  grind[bs.pure,List.map_set]
theorem bs.Xn {X:bs}{y:g4}{c:b3}{l:c4}{n':aD}{p':dC} :
  (bs.pure {X with nodes:=X.nodes.set n {y with n:=n'},aF:=X.aF.set i {c with az:=c.az.set j {l with p:=p'} } }) =
   {X.pure with nodes:=X.pure.nodes.set n n',aF:=X.pure.aF.set i {c.pure with az:=c.pure.az.set j ⟨p'.pure,l.bG⟩} }:=by
 simp[bs.pure,mM,b3.pure,c4.pure]
end
end Go.Proofs.YtmkljjbioomepaaGreat
