import Derived.Test.YtmkljjbioomepaaGreate29
import Derived.Test.YtmkljjbioomepaaGreate19
set_option linter.all false
set_option maxHeartbeats 4000000
set_option maxRecDepth 100000
namespace Go.Proofs.YtmkljjbioomepaaGreat
open Go.Proofs.Tryz Go.bn
variable {A:a2} {B dc i lc aI tb:Nat} {hZ:Exit->aw->aE} {R:cp} {dk fs:an} {flag:Bool} {u bH bY w0 z:al}
section
theorem ec.tg {bo:al} {r:cN} {m:aO} {j:bz} {V i:ej} {R a:b2} (n:ec A w0 u aI tb B r m j V R bH) (c:R.ask=none) (h:R.di=false) (l:ao (λk=>k=aI) bH bo) (d:c6 w0 bo aI tb r m j i a.out) (p:a.a7=R.a7) (q:a.ask=none) (s:a.di=false):ec A w0 u aI tb B r m j i a bo:=by
 obtain ⟨o,f,g,b⟩:=n.hp;rw [c] at b;refine ⟨n.ax.trans l λk _ e=>.inr e,d,o,?_,by rw [g,h,s],?_⟩
 ·rw [p];exact f.ax l λe=>d.ne e.symm
 ·rw [q];exact b
theorem ec.seq {c:Nat} {r:cN} {m:aO} {j:bz} {V:ej} {R:b2} (o:ao (λk=>k=tb\/k=aI) u bH) (p:ai bH z) (b:ec A w0 z aI tb c r m j V R bY) (s:B<=c):ec A w0 u aI tb B r m j V R bY:=by
 refine ⟨(o.new p).trans b.ax λ_ _ e=>e,b.eb,?_⟩;obtain ⟨f,l,n,a⟩:=b.hp;refine ⟨f,l,n,?_⟩;cases d:R.ask with
 |none=>rw [d] at a;exact a
 |some vs=>rw [d] at a;obtain ⟨g,w1,h,q,i⟩:=a;exact ⟨g,w1,h,by omega,i⟩
def Ez:aG:=⟨0,0,0,0,0,0,[],0,0⟩
def lJ (p:aG×c4) (a:Int):Bool:=decide (a≠p.1.old) && (decide (a≠p.2.least) && (p.2.exact || decide (a<p.2.least)))
def my (L:List (aG×c4)) (ds:List aC) (i:Nat):Bool:=lJ (L.getD i (Ez,oD)) (dv ds i)
theorem Hf {r:cN} {m:aO} {j:bz} {V:ej} {L:List (aG×c4)} {ds:List aC} {raw:List bF} (UQ:L.length=ds.length) (UI:ds.length<=100)
  (Z:c6 w0 z aI tb r m j V (0,0)) (UA:bg w0 dk (fq raw).flatten) (T:gi A w0 raw ds) (UR:i<=ds.length) {aX:an} {n pc:Nat} {pb:an} {fZ:Nat} (UN:n=L.length) (UD:bD u z aX n pc (L.map Prod.fst)) (Uu:bg z pb (t5 (L.map Prod.snd)).flatten) (K:aw)
  (Uo:∀ env w,hZ .ret env w=dh prog gz R .ret env w)
  (S:i<ds.length->my L ds i=true->∀ Um M,ai z Um->ao (λk=>k=aI) Um M->c6 w0 M aI tb r m j V (11,0)->R (.bool false) M)
  (P:i<ds.length->my L ds i=false->∀ M K,ai z M->hZ .normal (qI ⟨aI,0,none⟩ aX n pc pb n fZ dk ds.length dc ds.length (i+1:Nat) K) M)
  (U:i=ds.length->∀ K,hZ (.exit 7) (yG K) z) :
  Go.bn.W prog (sub (bh gz) [1,1,1,1,1,1,1,1,1,1,1,0,1,0,0]) (qI ⟨aI,0,none⟩ aX n pc pb n fZ dk ds.length dc ds.length i K) hZ z:=by
 have UB:raw.length=ds.length:=T.1;refine gK (fn:=gz) (R:=R) Uo ?_;rw [Pd];have I:=Z.new;refine a9 (λX=>?_) (λUM=>U (by omega) _);have D:i<ds.length:=by omega
 obtain ⟨d,aA⟩:∃ d,raw[i]?=some d:=⟨_,bM (by omega)⟩;obtain ⟨x,UK⟩:∃ x,ds[i]?=some x:=⟨_,bM D⟩;obtain ⟨p,Uy⟩:∃ p,L[i]?=some p:=⟨_,bM (by omega)⟩;have Uz:L.getD i (Ez,oD)=p:=by rw [cK,Uy];rfl
 have Us:=T.2 i d x aA UK;have Ut:dv ds i=e5 x:=by unfold dv;rw [cK,UK];rfl
 obtain ⟨t,J,Uk⟩:=UD.ex;have UJ:t.length=L.length:=by rw [Uk.1,fc]
 obtain ⟨v,aj⟩:∃ v,t[i]?=some v:=⟨_,bM (by omega)⟩;have UC:=Uk.2 i v p.1 aj (by rw [eL,Uy];rfl);have Uj:v.Old=p.1.old:=by rw [UC.eq];rfl
 refine ew (cells:=bF.cells) bF.len (by omega) (UA.new I) aA rfl UB.symm λb o Ur _=>bF.aS d ⟨Ur,?_⟩
 refine dU (vs:=d.cells) rfl (bF.single _) λb1 Um UL UE Ux=>?_
 rintro Q Ul;have Y:ai Um Q:=by rw [Ul];exact cL _
 clear Ul;have a:=Ux.new Y;have UF:=ai.ak Y UE;refine ⟨λy=>ai Q y,ao.refl _ _,bF.aS d ⟨λy c=>bI (ai.ak c UF) rfl,?_⟩⟩;have Uv:(L.map Prod.snd)[i]?=some p.2:=by rw [eL,Uy];rfl
 refine j8 (cells:=c4.cells) c4.len (by omega) (Uu.new a) Uv rfl (by rw [fc];exact UN) λaz US Uq=>c4.aS p.2 ⟨λy c=>kD (i:=0) λq v aj=>by simpa using Uq y c q v aj,?_⟩
 have F:∀ {y:al},ai Q y->ba 196 [d.val] y λv w'=>v=.int .u64 (dv ds i)/\ai y w':=by intro y c;rw [Ut];exact ul (Us.ax (ao.bZ (I.new (a.new c))) λ_ _ e=>e)
 have one:∀ {y:al},ai Q y->∀ (flag:Bool),flag=my L ds i->∀ (K:aw),Go.bn.W prog (sub (bh gz) [1,1,1,1,1,1,1,1,1,1,1,0,1,0,0,1,1,0,0,1,1,1]) (mx ⟨aI,0,none⟩ aX n pc pb n fZ dk ds.length dc ds.length i flag K) (aW 8 (a1 (λenv w=>Go.bn.W prog (sub (bh gz) [1,1,1,1,1,1,1,1,1,1,1,0,1,0,0,1,1,1]) env (bC prog gz R hZ) w) (bC prog gz R hZ))) y:=by
  intro y c flag C K;refine gK (fn:=gz) (R:=R) (λ_ _=>rfl) ?_;rw [Pt];cases flag with
  |true=>refine fK rfl ?_;refine aD (wL (Z.bw (a.new c)) 11) ?_;rintro v M ⟨rfl,Uw,Ui⟩;exact ⟨_,rfl,S D C.symm y M (a.new c) Uw Ui⟩
  |false=>refine dw rfl (oF (ev ?_));rw [Pv,bA (x:=(i:Int)+1) (by omega) (by omega)];exact P D C.symm y _ (a.new c)
 have H:my L ds i=lJ p (dv ds i):=by unfold my;rw [Uz]
 refine ⟨?_,?_⟩
 ·refine aD (F (ao.refl _ _)) ?_;rintro v UP ⟨rfl,f⟩;refine ⟨_,rfl,f,?_⟩;rintro Un UG N E;obtain ⟨h,g⟩:=bk N E;have h:av UG Un oD.cells iG:=h;clear E;have UO:=f.size;refine ⟨f.new g,dC (vs:=p.2.cells) h rfl (c4.single _) λUH s O=>?_⟩;have c:ai Q UH:=(f.new g).trans O λk X e=>by omega
  refine ew (cells:=aF.cells) aF.len (by omega) (l:=t) (aY.new (a.new c) J).rd aj rfl (by omega) λb o _ Up=>⟨_,Up 4 _ rfl,?_⟩
  rw [Uj];refine dt (λB=>⟨_,s.cell (i:=1) rfl,dt (λG=>⟨_,s.cell (i:=2) rfl,fy (λhe=>one c _ ?_ _) (λhe=>⟨_,s.cell (i:=1) rfl,one c _ ?_ _⟩)⟩) (λG=>one c _ ?_ _)⟩) (λB=>one c _ ?_ _)
  ·rw [H];unfold lJ;rw [decide_eq_true B,decide_eq_true G,he];rfl
  ·rw [H];unfold lJ;rw [decide_eq_true B,decide_eq_true G,he];rfl
  ·rw [H];unfold lJ;rw [decide_eq_true B,decide_eq_false (λe=>e G)];rfl
  ·rw [H];unfold lJ;rw [decide_eq_false (λe=>e B)];rfl
 ·rintro Un UG N E;obtain ⟨h,g⟩:=bk N E;have h:av UG Un oD.cells iG:=h;clear E;refine ⟨g,?_⟩;refine aD (F g) ?_;rintro v UP ⟨rfl,f⟩;refine ⟨_,rfl,g.new f,dC (vs:=p.2.cells) (ai.ak f h) rfl (c4.single _) λUH s O=>?_⟩;have c:ai Q UH:=(g.new f).trans O λk X e=>by omega
  refine ew (cells:=aF.cells) aF.len (by omega) (l:=t) (aY.new (a.new c) J).rd aj rfl (by omega) λb o _ Up=>⟨_,Up 4 _ rfl,?_⟩
  rw [Uj];refine dt (λB=>⟨_,s.cell (i:=1) rfl,dt (λG=>⟨_,s.cell (i:=2) rfl,fy (λhe=>one c _ ?_ _) (λhe=>⟨_,s.cell (i:=1) rfl,one c _ ?_ _⟩)⟩) (λG=>one c _ ?_ _)⟩) (λB=>one c _ ?_ _)
  ·rw [H];unfold lJ;rw [decide_eq_true B,decide_eq_true G,he];rfl
  ·rw [H];unfold lJ;rw [decide_eq_true B,decide_eq_true G,he];rfl
  ·rw [H];unfold lJ;rw [decide_eq_true B,decide_eq_false (λe=>e G)];rfl
  ·rw [H];unfold lJ;rw [decide_eq_false (λe=>e B)];rfl
end
section
def oX (L:List (aG×c4)) (a:b2):b2:=
 if a.ok=false then a else if (List.range a.done.length).any (my L a.done)=true then ⟨false,[],(11,0),a.a7,none,false⟩ else ⟨true,[],(0,0),a.a7,none,false⟩
def si (j:bz) (a:b2):b2:=
 if a.ok=false then a else if (List.range a.done.length).any (i' j a.done)=true then ⟨false,[],(11,0),a.a7,none,false⟩
 else oX (hy j a.done a.done.length) (bR a.a7 ((hy j a.done a.done.length).map Prod.fst))
def g2 (j:bz) (G:List (List aC)):b2:=si j (bR G (g1 j))
theorem Gl (j:bz):(g1 j).length=j.v.mem.length * (cJ j).length:=by
 unfold g1;induction j.v.mem with
 |nil=>simp
 |cons a l b=>simp [b,p8,Nat.add_comm]
theorem sj {r:cN} {m:aO} {j:bz} {V:ej} {T:ee} {G:List (List aC)} (Ut:c6 w0 u aI tb r m j V (0,0)) (UQ:ek A w0 u tb T G) (UA:fz T) :
  ba 179 [ptr aI] u (kQ A w0 u aI tb r m j V (g2 j G)):=by
 refine bc Tryz.func179 ?_;rw [ptr,Qd];have UW:=Ut.ak.lt;have UY:=UQ.ak.lt;have UE:=Ut.ca.mem;obtain ⟨U1,UB⟩:=wt j;have US:j.v.mem.length * (cJ j).length<=10:=by have:j.v.mem.length * (cJ j).length<=5 * 2:=o1 UE.2 UB;omega
 refine aD (Kn Ut) ?_;rintro v bH ⟨iL,kB,rfl,Q,UR,UD⟩;have D:=Ut.bw Q;have UN:=Q.size;refine ⟨_,_,_,rfl,_,_,_,D.ak.cell (i:=4) rfl,?_⟩;refine Jc D UR _ λbY aX n pc Uu S UO=>?_
 refine gK (fn:=gz) (R:=kQ A w0 u aI tb r m j V (g2 j G)) (λ_ _=>rfl) ?_;rw [Po];have J:=Q.new S;refine aD (mJ (D.bw S) (UQ.new J) UA D.new (by omega) (by omega) UO (by rw [Gl];omega)) ?_;rintro v br ⟨dk,dc,raw,rfl,b,UM,p,E⟩;have Ul:=b.ax;have b:ec A w0 u aI tb u.heap.size r m j V (bR G (g1 j)) br:=ec.of b J UN;have p:gi A w0 raw (bR G (g1 j)).done:=p;have E:(bR G (g1 j)).ok=true->raw.length=(g1 j).length:=E;refine ⟨_,_,_,_,rfl,dZ (λd=>?_) (λt=>?_)⟩
 ·have d:(bR G (g1 j)).ok=false:=d;have s:g2 j G=bR G (g1 j):=if_pos d;rw [s];exact ⟨by rw [d],b⟩
 have t:(bR G (g1 j)).ok=true:=t;obtain ⟨UU,H,U⟩:=nG t;have l:=b.eb;rw [UU] at l;have s:g2 j G=if (List.range (bR G (g1 j)).done.length).any (i' j (bR G (g1 j)).done)=true then ⟨false,[],(11,0),(bR G (g1 j)).a7,none,false⟩
   else oX (hy j (bR G (g1 j)).done (bR G (g1 j)).done.length) (bR (bR G (g1 j)).a7 ((hy j (bR G (g1 j)).done (bR G (g1 j)).done.length).map Prod.fst)):=by
  unfold g2 si;rw [if_neg (by rw [t];simp)]
 have Z:(bR G (g1 j)).done.length=j.v.mem.length * (cJ j).length:=by rw [<-p.1,E t,Gl]
 have F:=UR.new S;have UC:bg br iL (t5 (cJ j)).flatten:=F.ax Ul (g0 F λk P e=>by have:=UD k P;rcases e with e | e<;>omega);rw [p.1];generalize bR G (g1 j)=w at b p Z s H U l;clear E t UU;refine He l Z UC UM p _ (R:=kQ A w0 u aI tb r m j V (g2 j G)) (QX:=bC prog gz (kQ A w0 u aI tb r m j V (g2 j G)) (dh prog gz (kQ A w0 u aI tb r m j V (g2 j G)))) (λ_ _=>rfl) (λN z U0 f UI Uo=>?_) (λN z pb Uv Us UZ UP U3 a UT=>?_)
 ·rw [s,if_pos N];exact ⟨rfl,b.tg H U ((ao.bZ f).trans UI λ_ _ e=>e) Uo rfl rfl rfl⟩
 rw [if_neg (by rw [N];simp)] at s;generalize hy j w.done w.done.length=L at a s;rw [Pr];obtain ⟨U4,X,Uq,Y⟩:=b.hp;rw [H] at Y;rw [U] at Uq;have UV:=l.ak.lt;have UX:=X.ak.lt;have Uz:Uv=L.length:=by have:=a.jT.len;rwa [fc] at this
 refine aD (mJ a.eb (X.new a.new) ⟨Y,Uq⟩ l.new (by omega) (by omega) a.jT (by rw [fc];omega)) ?_;rintro v Uw ⟨Ux,Uy,M,rfl,g,Um,c,y⟩;have K:=g.ax;have g:ec A w0 u aI tb u.heap.size r m j V (bR w.a7 (L.map Prod.fst)) Uw:=ec.seq b.ax a.new g (by have:=b.ax.size;omega);have c:gi A w0 M (bR w.a7 (L.map Prod.fst)).done:=c;have y:(bR w.a7 (L.map Prod.fst)).ok=true->M.length=(L.map Prod.fst).length:=y;refine ⟨_,_,_,_,rfl,dZ (λd=>?_) (λt=>?_)⟩
 ·have d:(bR w.a7 (L.map Prod.fst)).ok=false:=d;rw [s,show oX L (bR w.a7 (L.map Prod.fst))=bR w.a7 (L.map Prod.fst) from if_pos d];exact ⟨by rw [d],g⟩
 have t:(bR w.a7 (L.map Prod.fst)).ok=true:=t;obtain ⟨UL,O,B⟩:=nG t;have o:=g.eb;rw [UL] at o;have W:L.length=(bR w.a7 (L.map Prod.fst)).done.length:=by rw [<-c.1,y t,fc]
 unfold oX at s;rw [if_neg (by rw [t];simp)] at s;rw [c.1];generalize bR w.a7 (L.map Prod.fst)=C at g c s O B o W;have Up:bD br Uw pb Uv Us (L.map Prod.fst):=a.jT.ax K λk e=>by rcases e with e | e<;>omega
 have Ui:bg Uw UZ (t5 (L.map Prod.snd)).flatten:=a.qV.rd.ax K (g0 a.qV.rd λk P e=>by have:=a.fO k P;rcases e with e | e<;>omega);refine c1 mix (λq env z=>∃ (i:Nat) (Uu:aw),q=C.done.length - i/\i<=C.done.length/\env=qI ⟨aI,0,none⟩ pb Uv Us UZ Uv UP Ux C.done.length Uy C.done.length i Uu/\ai Uw z/\∀ k,k<i->my L C.done k=false) C.done.length
  ⟨0,_,by omega,by omega,rfl,ao.refl _ _,λk H=>by omega⟩ ?_
 rintro q env z ⟨i,Uu,rfl,U2,rfl,f,x⟩;refine Hf W (by omega) (o.bw f) Um c U2 Uz (Up.new f) (Ui.new f) Uu (R:=kQ A w0 u aI tb r m j V (g2 j G)) (λ_ _=>rfl) (λUj N U5 U0 Uk UG Un=>?_) (λUj N U0 Ur UJ=>?_) (λUF Ur=>?_)
 ·rw [s,if_pos (o2.2 ⟨i,dS.2 Uj,N⟩)];exact ⟨rfl,g.tg O B ((ao.bZ (f.new Uk)).trans UG λ_ _ e=>e) Un rfl rfl rfl⟩
 ·exact ev ⟨C.done.length - (i+1),by omega,i+1,Ur,rfl,by omega,rfl,f.new UJ,λk H=>by
   rcases o0.1 H with H | rfl
   ·exact x k H
   ·exact N⟩
 ·subst UF;refine oU (oG (ev ?_));rw [Pu];have UK:¬ (List.range C.done.length).any (my L C.done)=true:=by intro h;obtain ⟨k,UH,I⟩:=o2.1 h;rw [x k (dS.1 UH)] at I;cases I
  rw [s,if_neg UK];exact ⟨rfl,g.tg O B (ao.bZ f) (o.bw f) rfl rfl rfl⟩
end
section
theorem bD.two {br:al} {v1 v2:aF} {j p:aG} {b:Nat} (g:ai u bH) (h:cA (λk=>k<u.heap.size) bH v1 j) (c:ai bH bY) (i:cA (λk=>k<bH.heap.size) bY v2 p) (s:b=bY.heap.size) (au:av br b (v1.cells++v2.cells) cr) (l:ai bY br):bD u br (some ⟨b,0,none⟩) 2 2 [j,p]:=by
 have q:=g.size;have r:=c.size;have a:∀ k,aL (some ⟨b,0,none⟩) k->k=b:=λk d=>by obtain ⟨o,n⟩:=d;simp at n;exact n.1.symm
 refine ⟨⟨[v1,v2],⟨by simp [dz];rfl,.inr ⟨b,v1.cells++v2.cells,rfl,au,dd 2,by decide,by rw [c8,aF.len,aF.len],by simp [dz];exact gb (by rw [c8,aF.len,aF.len];decide)⟩⟩,dX.app (r1:=[v1]) (v1:=[j]) (dX.one ?_) (dX.one ?_)⟩,rfl,λk d=>by rw [a k d];omega⟩
 ·exact h.ax (ao.bZ (c.new l)) λk f e=>by
   rcases e with e | e
   ·exact e
   ·have:=a k e;omega
 ·exact i.ax (ao.bZ l) λk f e=>by
   rcases e with e | e
   ·omega
   ·have:=a k e;omega
noncomputable abbrev im:Func:=f181
def lx (j:bz) (bb:aO):List aG:=[l7 j bb (24+j.dead) 1,l7 j bb (eQ j.dead) 120]
def fh (j:bz) (m:aO):List aG:=(j.v.mem.map (lx j)).flatten++[l7 j m (32+j.dead) 1]
section
variable {A:a2} {w0 u:al} {aI tb:Nat} {r:cN} {m:aO} {j:bz} {V:ej}
theorem Ko {o:Int×Int} (B:c6 w0 u aI tb r m j V o) (L:aw)
  (Um:∀ bo aX n pc L,ai u bo->n=2 * j.v.mem.length->bD u bo aX n pc ((j.v.mem.map (lx j)).flatten)->Go.bn.W prog (sub (bh im) [1,1,1]) (yI ⟨aI,0,none⟩ aX n pc L) (dh prog im R) bo) :
  cx prog (.loop (sub (bh im) [1,1,0,1,0,0])) (sI ⟨aI,0,none⟩ none 0 0 r.View.e8 r.View.eM r.View.fv r.View.eM 0 L)
   (aW 0 (a1 (λenv w=>Go.bn.W prog (sub (bh im) [1,1,1]) env (dh prog im R) w) (dh prog im R))) u:=by
 obtain ⟨UQ,f⟩:=B.bs.view;have hlen:=f.len;have UJ:=B.ca.mem;have Q:=B.ca.dead;have aA:=B.bs.dead;have Uv:=B.ak.lt;refine c1 mix (λq env z=>∃ (i:Nat) (aX:an) (pc:Nat) (L:aw),q=j.v.mem.length - i/\i<=j.v.mem.length/\env=sI ⟨aI,0,none⟩ aX (2 * i) pc r.View.e8 r.View.eM r.View.fv r.View.eM i L/\ai u z/\
   bD u z aX (2 * i) pc ((j.v.mem.take i).map (lx j)).flatten) j.v.mem.length
  ⟨0,none,0,_,by omega,by omega,rfl,ao.refl _ _,bD.nil _ _⟩ ?_
 rintro q env z ⟨i,aX,pc,L,rfl,UR,rfl,c,t⟩;refine gK (fn:=im) (R:=R) (λ_ _=>rfl) ?_;rw [O1,hlen];have U:=B.new.new c;refine a9 (λUK=>?_) (λUI=>?_)
 ·obtain ⟨bb,hm⟩:∃ bb,j.v.mem[i]?=some bb:=⟨_,bM (by omega)⟩;have UL:=B.ca.dQ bb (cj hm);refine ew (cells:=aO.cells) aO.len (by omega) (f.rd.new U) hm rfl rfl λb Uw Uj _=>aO.aS bb ⟨Uj,?_⟩
  refine dU (vs:=bb.cells) rfl (aO.single _) λUB UO UH Ut Uo=>?_
  rintro Uy Z;have X:ai UO Uy:=by rw [Z];exact cL _
  clear Z;have C:=Uo.new X;have I:=ai.ak X Ut;have O:=B.bw (c.new C);refine ⟨λy=>av y UB bb.cells ed/\ih r tb m j aI y,⟨I,_,_,O.ak⟩,aO.aS bb ⟨λy g=>bI g.1 rfl,r.ez,λy g=>by obtain ⟨_,UA,Uw,g⟩:=g;exact g.cell (i:=5) rfl,aO.aS bb ⟨λy g=>bI g.1 rfl,r.ez,λy g=>by obtain ⟨_,UA,Uw,g⟩:=g;exact g.cell (i:=5) rfl,?_⟩⟩⟩;rw [aA];refine aD (xm Uy Q) ?_;rintro v UT ⟨rfl,l⟩;have F:=O.bw l;refine ⟨_,rfl,⟨ai.ak l I,_,_,F.ak⟩,?_⟩;refine aD (tq F (m:=bb) (by unfold dO;omega) (24+j.dead) 1) ?_;rintro v UP ⟨v1,rfl,Uq,p⟩;have h:=F.bw p;have J:=ai.ak (l.new p) I;refine aF.aS v1 ⟨rfl,⟨J,_,_,h.ak⟩,?_⟩;refine aD (xC UP Q) ?_;rintro v UU ⟨rfl,rfl⟩;refine ⟨_,rfl,⟨J,_,_,h.ak⟩,?_⟩;refine aD (tq h (m:=bb) (by unfold dO;omega) (eQ j.dead) 120) ?_;rintro v UV ⟨v2,rfl,Ur,s⟩;have P:=h.bw s;have A:=ai.ak s J;refine aF.aS v2 ⟨rfl,⟨A,_,_,P.ak⟩,?_⟩;rintro UC Uz N Ui;obtain ⟨K,a⟩:=bk N Ui;have K:av Uz UC (v1.cells++v2.cells) cr:=K;clear Ui;have Us:=bD.two p Uq s Ur N K a;have D:=(p.new s).new a;have d:=C.new l;have G:=P.bw a;have E:=t.new (d.new D);obtain ⟨Ux,Y,_⟩:=E.ex;have UM:=d.size;have UN:=c.size;refine ⟨⟨ai.ak a A,_,_,G.ak⟩,bD.sD E (c.new (d.new D)) Us (λk Un=>by obtain ⟨Uu,H,_⟩:=t.ex;have:=H.lt Un;omega) (by omega) (by omega) λap M US UE S Up=>?_⟩;have off:∀ {b:Nat} {cs:aw} {T:TypeId},T≠cr->av Uz b cs T->¬ aL aX b:=λUF UG Um=>by obtain ⟨UD,Uk⟩:=fm Y Um;exact Uk.ne UG (λe=>UF e.symm) rfl
  refine ⟨⟨S.ak (ai.ak a A) (off (by decide) (ai.ak a A)),_,_,S.ak G.ak (off (by decide) G.ak)⟩,ev ?_⟩;rw [bA (x:=(i:Int)+1) (by omega) (by omega)];refine ⟨j.v.mem.length - (i+1),by omega,i+1,ap,M,_,rfl,by omega,by rw [<-hlen,show 2 * (i+1)=2 * i+2 by omega];rfl,Up,?_⟩;have e:((j.v.mem.take i).map (lx j)).flatten++lx j bb=((j.v.mem.take (i+1)).map (lx j)).flatten:=by rw [eT,hm];simp
  rw [<-e,show 2 * (i+1)=2 * i+2 by omega];exact UE
 ·have Ul:i=j.v.mem.length:=by omega
  subst Ul;refine oU (oG (ev ?_));rw [hq] at t;exact Um z aX _ pc _ c rfl t
end
end
section
structure mr where
 a:an
 n:Nat
 c:Nat
def lU (s:mr):aw:=[.slice s.a s.n s.c]
def rB (d:bF):mr:=⟨d.Words,d.cG,d.cy⟩
abbrev uY:TypeId:=94
structure nm (w0 u z:al) (aI tb:Nat) (r:cN) (m:aO) (j:bz) (fs:an) (lc:Nat) (oR:List mr):Prop where
 eb:c6 w0 z aI tb r m j ⟨fs,oR.length,lc,0⟩ (0,0)
 ax:ao (λk=>k=aI) u z
 own:aY z uY 1 fs oR.length lc (oR.map lU).flatten
 fO:∀ k,aL fs k->u.heap.size<=k
 le:w0.heap.size<=u.heap.size
theorem nm.jo {c:al} {r:cN} {m:aO} {j:bz} {a:List mr} (h:nm w0 u z aI tb r m j fs lc a) (b:ai z c):nm w0 u c aI tb r m j fs lc a:=
 ⟨h.eb.bw b,h.ax.new b,aY.new b h.own,h.fO,h.le⟩
theorem Kq {r:cN} {m:aO} {j:bz} {c:List mr} (h:nm w0 u z aI tb r m j fs lc c) (Uk:aI<u.heap.size) (Uj:c.length<=100) {raw:List bF} {cq:Nat} (P:bg w0 dk (fq raw).flatten) (K:cq=raw.length) {d:bF} (aA:raw[2 * c.length+1]?=some d)
  {A:Int} {V:aw} {Q:Exit->aw->aE} (dp:∀ env w,Q .ret env w=dh prog im R .ret env w)
  (Ut:∀ Ul Y X V,nm w0 u Ul aI tb r m j Y X (c++[rB d])->Q .normal (yK ⟨aI,0,none⟩ dk cq dc flag A c.length V) Ul) :
  Go.bn.W prog (sub (bh im) [1,1,1,1,1,1,1,0,1,0,0,1,1,0,0,1,1]) (sJ ⟨aI,0,none⟩ dk cq dc flag c.length A c.length V) Q z:=by
 refine gK (fn:=im) (R:=R) dp ?_;rw [P7];rintro Uv D;have N:ai z Uv:=by rw [D];exact cL _
 clear D;have Ui:=h.jo N;refine ⟨λy=>c6 w0 y aI tb r m j ⟨fs,c.length,lc,0⟩ (0,0),Ui.eb,fs,c.length,lc,λy S=>S.ak.cell (i:=13) rfl,?_⟩;refine j8 (cells:=bF.cells) (sz:=2) bF.len (by omega) P aA (by rw [bA (x:=2 * (c.length:Int)) (by omega) (by omega),bA (by omega) (by omega)];omega) K λb o Us=>⟨d.Words,d.cG,d.cy,λy S=>Us y S.new 1 _ rfl,?_⟩
 rintro az Um G E;obtain ⟨t,O⟩:=bk G E;have t:av Um az (lU (rB d)) uY:=t;clear E;have p:=Ui.jo O;obtain ⟨inf,L,U,C,I⟩:=fp (T:=uY) (z:=.slice none 0 0) (n:=1) (m:=24) (by kernel_rfl);refine ⟨p.eb,p4 (cells:=lU) (sz:=1) (λ_=>rfl) (λx v aj=>by simp [lU] at aj;subst aj;rfl) Tryz.underlying218 L U (by rw [C];rfl) C (by decide) (by rw [I];decide) p.own (l2:=[rB d]) (m:=1) (e9 t rfl) rfl (by omega) λap g Uw Uo Z Up=>?_⟩;have off:∀ {b:Nat} {cs:aw} {T:TypeId},T≠uY->av Um b cs T->¬ aL fs b:=λUq Ur f=>by obtain ⟨Un,J⟩:=fm p.own f;exact J.ne Ur (λe=>Uq e.symm) rfl
 have hle:=h.le;have a:=p.eb.ax Z λk f=>⟨by have:=h.fO k f;omega,λe=>off (by decide) p.eb.ak (e▸f)⟩
 refine ⟨a,⟨_,a.ak.cell (i:=13) rfl⟩,a.ak.frozen,?_⟩;rintro F s;have q:ao (λk=>k=aI) Uw F:=by rw [s];exact eA _ _ _ _
 have H:av F aI (oL r tb m (f_ j.inc j.aP) ⟨ap,c.length+1,g,0⟩ (0,0)) nv:=by rw [s];exact a.ak.setCell (i:=13) _
 clear s;have Uu:=p.ax.size;have l:∀ k,aL ap k->u.heap.size<=k:=λk f=>by
  rcases Up k f with e | e
  ·exact h.fO k e
  ·omega
 have B:ao (λk=>k=aI) u F:=(p.ax.trans Z λk M e=>by have:=h.fO k e;omega).trans q λ_ _ e=>e
 refine Ut F ap g _ ⟨⟨by rw [c8];exact H,a.bs,a.ca,a.mem,a.new.trans q λk M e=>by have:=a.oK;omega,a.oK,a.ki,a.ne⟩,B,?_,l,hle⟩;rw [c8];exact Uo.ax q λk f e=>by have:=l k f;omega
end
section
def lV (j:bz) (ds:List aC) (n:Nat):Bool:=(List.range n).all λi=>dv ds (2 * i) == j.dL
theorem FU (j:bz) (ds:List aC) (n:Nat):lV j ds (n+1)=(lV j ds n && (dv ds (2 * n) == j.dL)):=by unfold lV;rw [k0,List.all_append];simp
theorem Jf {r:cN} {m:aO} {j:bz} {a:List mr} (h:nm w0 u z aI tb r m j fs lc a) (E:aI<u.heap.size) {c:Nat} (T:c<=100) (Um:a.length<=c) {ds:List aC} {raw:List bF} (F:bg w0 dk (fq raw).flatten) (t:gi A w0 raw ds) (Y:ds.length=2 * c+1)
  (f:flag=lV j ds a.length) (g:aw) (L:∀ env w,hZ .ret env w=dh prog im R .ret env w)
  (k:a.length<c->∀ d,raw[2 * a.length+1]?=some d->∀ J n l g,nm w0 u J aI tb r m j n l (a++[rB d])->hZ .normal (qK ⟨aI,0,none⟩ dk ds.length dc (lV j ds (a.length+1)) c (a.length+1:Nat) g) J)
  (B:a.length=c->∀ g,hZ (.exit 2) (yJ ⟨aI,0,none⟩ dk ds.length dc flag g) z) :
  Go.bn.W prog (sub (bh im) [1,1,1,1,1,1,1,0,1,0,0]) (qK ⟨aI,0,none⟩ dk ds.length dc flag c a.length g) hZ z:=by
 have G:raw.length=ds.length:=t.1;refine gK (fn:=im) (R:=R) L ?_;rw [O2];refine a9 (λUj=>?_) (λUi=>B (by omega) _);have C:a.length<c:=by omega
 obtain ⟨d,aA⟩:∃ d,raw[2 * a.length]?=some d:=⟨_,bM (by omega)⟩;obtain ⟨x,U⟩:∃ x,ds[2 * a.length]?=some x:=⟨_,bM (by omega)⟩;obtain ⟨d1,s⟩:∃ d1,raw[2 * a.length+1]?=some d1:=⟨_,bM (by omega)⟩;have M:=t.2 _ d x aA U;have O:dv ds (2 * a.length)=e5 x:=by unfold dv;rw [cK,U];rfl
 rintro Ul H;have S:ai z Ul:=by rw [H];exact cL _
 clear H;have p:=h.jo S;have one:∀ {y:al},nm w0 u y aI tb r m j fs lc a->∀ (K:Bool),K=lV j ds (a.length+1)->∀ (g:aw),Go.bn.W prog (sub (bh im) [1,1,1,1,1,1,1,0,1,0,0,1,1,0,0,1,1]) (sJ ⟨aI,0,none⟩ dk ds.length dc K a.length c a.length g) (aW 3 (a1 (λenv w=>Go.bn.W prog (sub (bh im) [1,1,1,1,1,1,1,0,1,0,0,1,1,1]) env (bC prog im R hZ) w) (bC prog im R hZ))) y:=by intro y I K Q g;refine Kq I E (by omega) F G.symm s (R:=R) (λ_ _=>rfl) (λJ n l Uk V=>?_);refine oF (ev ?_);rw [P9,bA (x:=(a.length:Int)+1) (by omega) (by omega),Q];exact k C d1 s J n l _ V
 have N:=h.eb.bs.dL;have Z:=h.eb.ca.dL;refine ⟨λy=>c6 w0 y aI tb r m j ⟨fs,a.length,lc,0⟩ (0,0),p.eb,fy (λP=>?_) (λP=>one p false (by rw [FU,<-f,P];rfl) _)⟩;refine j8 (cells:=bF.cells) (sz:=2) bF.len (by omega) F aA (by rw [bA (x:=2 * (a.length:Int)) (by omega) (by omega)];omega) G.symm λb o X=>bF.aS d ⟨λy I=>kD (i:=0) λq v aj=>by simpa using X y I.new q v aj,r.fu,λy I=>I.ak.cell (i:=6) rfl,?_⟩
 refine aD (ul (M.ax (ao.bZ p.eb.new) λ_ _ e=>e)) ?_;rintro v Un ⟨rfl,D⟩;refine ⟨_,rfl,(p.jo D).eb,one (p.jo D) _ ?_ _⟩;rw [FU,<-f,P,O,N,jV (x:=j.dL) (by omega) (by omega),Bool.true_and]
end
section
theorem Hg:∀ {l:List aC},jm l=0->∀ d ∈ l,d.code=0:=λ{l}=>by
 induction l with
 |nil=>intro _ d aA;cases aA
 |cons x l a=>
  intro h d aA;unfold jm at h;split at h
  ·rename_i e;rcases dy.1 aA with rfl | aA
   ·exact e
   ·exact a h d aA
  ·rename_i e;exact absurd h e
theorem MP {vs:List aG} {ds:List aC} (h:k' vs ds=true) (a:jm ds=0) {v:aG} {d:aC} (aj:vs[i]?=some v) (aA:ds[i]?=some d):(d.words.length:Int)=v.v.g7:=by have b:=Hg a d (cj aA);unfold k' at h;rw [eH,gd] at h;have hm:(v,d) ∈ vs.zip ds:=cj (i:=i) (List.getElem?_zip_eq_some.2 ⟨aj,aA⟩);have:=h.2 _ hm;unfold sU at this;simp only at this;rw [if_pos b] at this;exact of_decide_eq_true this
theorem C1 {G:List (List aC)} {vs:List aG} (h:(bR G vs).ok=true) {v:aG} {d:aC} (aj:vs[i]?=some v) (aA:(bR G vs).done[i]?=some d):(d.words.length:Int)=v.v.g7:=by
 have f:vs.length≠0:=by have:=cz aj;omega
 unfold bR cd at h aA;split at h
 ·cases h
 rename_i b;split at h
 ·cases h
 rename_i a;rw [if_neg b,if_neg a] at aA;have a:jm (batch G vs).done=0:=by simpa using a
 unfold batch at b a aA;rw [if_neg f] at b a aA;cases G with
 |nil=>simp at b
 |cons e G'=>
  simp only at b a aA;split at b
  ·rename_i c;rw [if_pos c] at a aA;exact MP c a aj aA
  ·simp at b
def qj (j:bz) (ds:List aC):List a4:=(List.range j.v.mem.length).map λi=>(ds.getD (2 * i+1) ⟨0,[]⟩).words
def rN (j:bz) (ds:List aC):Int:=dv ds (2 * j.v.mem.length)
def qt (j:bz) (m:aO) (R:b2):b2:=
 if R.ok=false then R else if lV j R.done j.v.mem.length=true then ⟨true,[],(0,0),R.a7,none,false⟩
 else if (hd j m R.a7).ok=false then hd j m R.a7 else ⟨false,[],(11,0),(hd j m R.a7).a7,none,false⟩
def fi (j:bz) (m:aO) (G:List (List aC)):b2:=qt j m (bR G (fh j m))
structure kx (w0 w:al) (aI tb:Nat) (V:ej) (Ls:List a4):Prop where
 ex:∃ oR:List mr,bg w V.fs (oR.map lU).flatten/\V.jG=oR.length/\oR.length=Ls.length/\∀ (i:Nat) (s:mr) (L:a4),oR[i]?=some s->Ls[i]?=some L->qq w0 s.a s.n s.c L
 off:∀ k,aL V.fs k->k≠tb/\k≠aI
theorem kx.new {w0 w w':al} {aI tb:Nat} {V:ej} {Ls:List a4} (h:kx w0 w aI tb V Ls) (g:ai w w'):kx w0 w' aI tb V Ls:=by obtain ⟨⟨a,b,c,d,e⟩,f⟩:=h;exact ⟨⟨a,b.new g,c,d,e⟩,f⟩
theorem kx.ax {w0 w w':al} {aI tb:Nat} {V:ej} {Ls:List a4} (h:kx w0 w aI tb V Ls) {M:a2} (l:ao M w w') (j:∀ k,M k->k=tb\/k=aI):kx w0 w' aI tb V Ls:=by
 obtain ⟨⟨b,c,f,g,i⟩,d⟩:=h;refine ⟨⟨b,c.ax l (g0 c λk a e=>?_),f,g,i⟩,d⟩;have:=d k a;rcases j k e with e | e
 ·exact this.1 e
 ·exact this.2 e
theorem z3 (j:bz) (m:aO):(fh j m).length=2 * j.v.mem.length+1:=by
 unfold fh;rw [c8];have:((j.v.mem.map (lx j)).flatten).length=2 * j.v.mem.length:=by
  induction j.v.mem with
  |nil=>rfl
  |cons a l b=>rw [g',hr,c8,b];simp [lx];omega
 rw [this];rfl
theorem z4 {j:bz} {m:aO} (c:i<j.v.mem.length):∃ bb,(fh j m)[2 * i+1]?=some (l7 j bb (eQ j.dead) 120):=by
 have key:∀ (l:List aO) (i:Nat),i<l.length->∃ bb,((l.map (lx j)).flatten)[2 * i+1]?=some (l7 j bb (eQ j.dead) 120):=by
  intro l;induction l with
  |nil=>intro i h;cases h
  |cons a l d=>
   intro i h;rw [g',hr];cases i with
   |zero=>exact ⟨a,rfl⟩
   |succ i=>obtain ⟨bb,b⟩:=d i (by simpa using h);refine ⟨bb,?_⟩;rw [jv (by simp [lx];omega)];simp only [lx,fU,nZ];rw [show 2 * (i+1)+1 - (0+1+1)=2 * i+1 by omega];exact b
 obtain ⟨bb,h⟩:=key j.v.mem i c;exact ⟨bb,by unfold fh;rw [jd (cz h)];exact h⟩
end
section
abbrev xU (A:a2) (w0 u:al) (aI tb:Nat) (r:cN) (m:aO) (j:bz) (G:List (List aC)) (v:a0) (bo:al):Prop:=
 v=.bool (fi j m G).ok/\∃ a,ec A w0 u aI tb u.heap.size r m j a (fi j m G) bo/\((fi j m G).ok=true->kx w0 bo aI tb a (qj j (bR G (fh j m)).done)/\a.clock=rN j (bR G (fh j m)).done)
theorem MQ {r:cN} {m:aO} {j:bz} {T:ee} {G:List (List aC)} (C:c6 w0 u aI tb r m j ⟨none,0,0,0⟩ (0,0)) (Vi:ek A w0 u tb T G) (UY:fz T) :
  ba 181 [ptr aI] u (xU A w0 u aI tb r m j G):=by
 refine bc Tryz.func181 ?_;rw [ptr,QE];have Vk:=C.ak.lt;have Vn:=Vi.ak.lt;have Vr:=C.ca.mem;have U4:=C.ca.dead;have aA:=C.bs.dead;refine ⟨_,_,_,C.ak.cell (i:=4) rfl,?_⟩;refine Ko C _ λbY aX n pc UO Uz Vt Uk=>?_
 refine gK (fn:=im) (R:=xU A w0 u aI tb r m j G) (λ_ _=>rfl) ?_;rw [P6];rintro w1 UG;have w:ai bY w1:=by rw [UG];exact cL _
 clear UG;have Uy:=Uz.new w;have Ut:=C.bw Uy;refine ⟨ih r tb m j aI,⟨_,_,Ut.ak⟩,aO.aS m ⟨λy Uo=>by obtain ⟨Vq,Vw,Uo⟩:=Uo;exact bI Uo rfl,r.ez,λy Uo=>by obtain ⟨Vq,Vw,Uo⟩:=Uo;exact Uo.cell (i:=5) rfl,?_⟩⟩;rw [aA];refine aD (t' w1 U4) ?_;rintro v VE ⟨rfl,UA⟩;have J:=Ut.bw UA;refine ⟨_,rfl,⟨_,_,J.ak⟩,?_⟩;refine aD (tq J C.dQ (32+j.dead) 1) ?_;rintro v Vy ⟨Vx,rfl,Vd,K⟩;refine aF.aS Vx ⟨rfl,⟨_,_,(J.bw K).ak⟩,?_⟩;rintro b1 Vz UU UH;have Vb:ai Vy Vz:=by rw [UH];exact gY _ _
 have UW:=J.bw K;have F:=w.new UA;refine ⟨⟨_,_,(UW.bw Vb).ak⟩,bD.lk (Uk.new F) (Uz.new F) K Vd (by omega) UU UH λap Ur Vp UP Vs H=>?_⟩;obtain ⟨Vo,Vj,_⟩:=(Uk.new (F.new K)).ex;have U3:=Uk.fO;have off:¬ aL aX aI:=λW=>by have:=U3 aI W;omega
 have Uu:c6 w0 Vp aI tb r m j ⟨none,0,0,0⟩ (0,0):=C.bw H;have Vv:(j.v.mem.map (lx j)).flatten++[l7 j m (32+j.dead) 1]=fh j m:=rfl;have UP:bD u Vp ap (n+1) Ur (fh j m):=UP;refine ⟨⟨_,_,Uu.ak⟩,?_⟩;refine aD (mJ Uu (Vi.new H) UY C.new (by omega) (by omega) UP (by rw [z3];omega)) ?_;rintro v Vg ⟨dk,dc,raw,rfl,M,UC,g,Ui⟩;have M:ec A w0 u aI tb u.heap.size r m j ⟨none,0,0,0⟩ (bR G (fh j m)) Vg:=M.of H (dd _);have g:gi A w0 raw (bR G (fh j m)).done:=g;have Ui:(bR G (fh j m)).ok=true->raw.length=(fh j m).length:=Ui;refine ⟨_,_,_,_,rfl,dZ (λD=>?_) (λUj=>?_)⟩
 ·have D:(bR G (fh j m)).ok=false:=D;have p:fi j m G=bR G (fh j m):=if_pos D;refine ⟨by rw [p,D],_,by rw [p];exact M,λh=>?_⟩
  rw [p,D] at h;cases h
 have Uj:(bR G (fh j m)).ok=true:=Uj;obtain ⟨Vu,W,Um⟩:=nG Uj;have f:=M.eb;rw [Vu] at f;have hlen:raw.length=2 * j.v.mem.length+1:=by rw [Ui Uj,z3]
 have N:∀ i,i<j.v.mem.length->∀ x,(bR G (fh j m)).done[2 * i+1]?=some x->x.words.length=120:=by intro i U5 x UN;obtain ⟨bb,Va⟩:=z4 (m:=m) U5;have:=C1 Uj Va UN;have e:(l7 j bb (eQ j.dead) 120).v.g7=120:=rfl;omega
 have p:fi j m G=if lV j (bR G (fh j m)).done j.v.mem.length=true then ⟨true,[],(0,0),(bR G (fh j m)).a7,none,false⟩
   else if (hd j m (bR G (fh j m)).a7).ok=false then hd j m (bR G (fh j m)).a7 else ⟨false,[],(11,0),(hd j m (bR G (fh j m)).a7).a7,none,false⟩:=by
  unfold fi qt;rw [if_neg (by rw [Uj];simp)]
 obtain ⟨VC,Ul⟩:=C.bs.view;have U':=Ul.len;refine ⟨_,_,_,f.ak.cell (i:=4) rfl,?_⟩;have V:(bR G (fh j m)).done.length=2 * j.v.mem.length+1:=by rw [<-g.1,hlen]
 rw [g.1,U'];show cx prog _ _ _ _;generalize UR:bR G (fh j m)=U at M g p N V W Um f Uj;have UB:=f.ak.lt;have Vm:=M.ax.size;refine c1 mix (λq env z=>∃ (c:List mr) (fs:an) (lc:Nat) (UO:aw),q=j.v.mem.length - c.length/\c.length<=j.v.mem.length/\env=qK ⟨aI,0,none⟩ dk U.done.length dc (lV j U.done c.length) j.v.mem.length c.length UO/\nm w0 Vg z aI tb r m j fs lc c/\∀ (k:Nat) (s:mr),c[k]?=some s->∃ d,raw[2 * k+1]?=some d/\s=rB d) j.v.mem.length
  ⟨[],none,0,_,by simp,by simp,rfl,⟨f,ao.refl _ _,aY.nil _ _ _,λk W=>absurd W mM,f.new.size⟩,λk s h=>by simp at h⟩ ?_
 rintro q env z ⟨c,fs,lc,UO,rfl,U5,rfl,l,UE⟩;refine Jf l UB (by omega) U5 UC g V rfl UO (R:=xU A w0 u aI tb r m j G) (λ_ _=>rfl) (λU_ d aA VF Vf Ve UJ Ux=>?_) (λUv UJ=>?_)
 ·refine ev ⟨j.v.mem.length - (c.length+1),by omega,c++[rB d],Vf,Ve,UJ,by simp,by simp;omega,by rw [c8];rfl,Ux,λk s t=>?_⟩;rcases nV k c.length with Z | Z
  ·rw [jd Z] at t;exact UE k s t
  ·rw [jv Z] at t;have:k - c.length=0:=by have:=cz t;simp at this <;> omega
   rw [this] at t;simp at t;have U6:k=c.length:=by omega
   subst U6;exact ⟨d,aA,t.symm⟩
 ·obtain ⟨d,aA⟩:∃ d,raw[2 * j.v.mem.length]?=some d:=⟨_,bM (by omega)⟩;obtain ⟨x,UN⟩:∃ x,U.done[2 * j.v.mem.length]?=some x:=⟨_,bM (by omega)⟩;have U0:=g.2 _ d x aA UN;have U1:rN j U.done=e5 x:=by unfold rN dv;rw [cK,UN];rfl
  refine oU (oG (ev ?_));rw [P8,Uv];refine ew (cells:=bF.cells) bF.len (by omega) (UC.new l.eb.new) aA (by rw [V,bA (by omega) (by omega)];omega) g.1.symm λb o UX _=>bF.aS d ⟨UX,?_⟩
  refine aD (ul (U0.ax (ao.bZ l.eb.new) λ_ _ e=>e)) ?_;rintro v VA ⟨rfl,w⟩;have a:=l.eb.bw w;refine ⟨_,rfl,⟨_,a.ak.cell (i:=14) rfl⟩,a.ak.frozen,?_⟩;rintro UL Up;have X:ao (λk=>k=aI) VA UL:=by rw [Up];exact eA _ _ _ _
  have UV:av UL aI (oL r tb m (f_ j.inc j.aP) ⟨fs,c.length,lc,e5 x⟩ (0,0)) nv:=by rw [Up];exact a.ak.setCell (i:=14) _
  clear Up;have P:c6 w0 UL aI tb r m j ⟨fs,c.length,lc,e5 x⟩ (0,0):=⟨UV,a.bs,a.ca,a.mem,a.new.trans X λk U_ e=>by have:=a.oK;omega,a.oK,a.ki,a.ne⟩;have E:ao (λk=>k=aI) Vg UL:=(l.ax.new w).trans X λ_ _ e=>e
  obtain ⟨VD,UT,S,Us⟩:=M.hp;rw [W] at Us;rw [Um] at S;have US:=UT.ax E λe=>C.ne e.symm
  have Uw:ao (λk=>k=tb\/k=aI) u UL:=M.ax.trans E λk _ e=>.inr e
  have UF:=Uw.size;refine dZ (λU2=>?_) (λU2=>?_)
  ·rw [if_neg (by rw [U2];simp)] at p;refine aD (AT P US ⟨Us,S⟩) ?_;rintro v VB ⟨rfl,I⟩;have I:ec A w0 u aI tb u.heap.size r m j ⟨fs,c.length,lc,e5 x⟩ (hd j m U.a7) VB:=ec.seq Uw (ao.refl _ _) I UF;refine ⟨_,rfl,fy (λUq=>?_) (λUq=>?_)⟩
   ·obtain ⟨Vc,U7,UI⟩:=nG Uq;have Q:=I.eb;rw [show (hd j m U.a7).out=(0,0) from Vc] at Q;rw [if_neg (by rw [Uq];simp)] at p;refine aD (wL Q 11) ?_;rintro v VG ⟨rfl,U8,UD⟩;refine ⟨_,rfl,by rw [p],_,by rw [p];exact I.tg U7 UI U8 UD rfl rfl rfl,λh=>?_⟩
    rw [p] at h;cases h
   ·rw [if_pos Uq] at p;refine ⟨by rw [p,Uq],_,by rw [p];exact I,λh=>?_⟩
    rw [p,Uq] at h;cases h
  ·rw [if_pos U2] at p;refine ⟨by rw [p],_,by rw [p];exact M.tg W Um E P rfl rfl rfl,λ_=>?_⟩
   rw [UR];refine ⟨⟨⟨c,?_,rfl,?_,?_⟩,?_⟩,U1.symm⟩
   ·exact (aY.new w l.own).rd.ax X (g0 (aY.new w l.own).rd λk Y e=>by have:=l.fO k Y;omega)
   ·rw [qj,fc,mj];exact Uv
   ·intro i s L Vl UM;obtain ⟨d1,UZ,rfl⟩:=UE i s Vl;have O:i<j.v.mem.length:=by have:=cz Vl;omega
    obtain ⟨UK,Un⟩:∃ UK,U.done[2 * i+1]?=some UK:=⟨_,bM (by omega)⟩;have B:=g.2 _ d1 UK UZ Un;have UQ:L=UK.words:=by unfold qj at UM;rw [eL,lA O] at UM;simp only [nX,e7] at UM;rw [<-UM,cK,Un];rfl
    rw [UQ];have Vh:=N i O UK Un;have U9:=B.len;exact ⟨B.rd,U9,B.cap,B.wf,by show d1.cG<=1000;omega⟩
   ·intro k Y;have:=l.fO k Y;constructor<;>omega
end
end Go.Proofs.YtmkljjbioomepaaGreat
