import Derived.Test.YtmkljjbioomepaaGreata28
import Derived.Test.YtmkljjbioomepaaGreata19
set_option linter.all false
set_option maxHeartbeats 4000000
set_option maxRecDepth 100000
namespace Go.Proofs.YtmkljjbioomepaaGreat
open Go.Proofs.Tryz Go.b8
variable {A:bB} {G:List (List a_)} {R:dW} {d:a_} {f8 jw:ax} {dc i lc a2 tb:Nat} {ds:List a_} {flag:Bool} {j:c8} {m:bp} {r:fT} {raw:List cL} {u w0 z:av} {v:bn} {vs:List bn}
section
theorem cy.two {ct cS b2:av} {v1 v2:a0} {ee e_:bn} {b:Nat} (gx:ai u ct) (oj:ei (λk=>k<u.heap.size) ct v1 ee) (ki:ai ct cS) (oP:ei (λk=>k<ct.heap.size) cS v2 e_) (ak:b=cS.heap.size) (aE:aF b2 b (v1.cells++v2.cells) d8) (aj:ai cS b2):cy u b2 (some ⟨b,0,none⟩) 2 2 [ee,e_]:=by
 have fI:=gx.size;have jc:=ki.size;have vS:∀ k,a7 (some ⟨b,0,none⟩) k->k=b:=λk J=>by obtain ⟨o,aq⟩:=J;simp at aq;exact aq.1.symm
 refine ⟨⟨[v1,v2],⟨by simp [gG];rfl,.inr ⟨b,v1.cells++v2.cells,rfl,aE,eJ 2,by decide,by rw [gp,a0.len,a0.len],by simp [gG];exact ny (by rw [gp,a0.len,a0.len];decide)⟩⟩,hp.app (r1:=[v1]) (v1:=[ee]) (hp.one ?_) (hp.one ?_)⟩,rfl,λk J=>by rw [vS k J];omega⟩
 ·exact oj.aO (ay.db (ki.new aj)) λk aK e=>by
   rcases e with e | e
   ·exact e
   ·have:=vS k e;omega
 ·exact oP.aO (ay.db aj) λk aK e=>by
   rcases e with e | e
   ·omega
   ·have:=vS k e;omega
noncomputable abbrev o_:Func:=f181
def vn (j:c8) (bV:bp):List bn:=[wW j bV (24+j.dead) 1,wW j bV (iR j.dead) 120]
def jE (j:c8) (m:bp):List bn:=(j.v.mem.map (vn j)).flatten++[wW j m (32+j.dead) 1]
section
variable {A:bB} {w0 u:av} {a2 tb:Nat} {r:fT} {m:bp} {j:c8} {V:kv}
theorem akm {o:Int×Int} (ab:fy w0 u a2 tb r m j V o) (aT:aH)
  (J:∀ b_ pa n pc aT,ai u b_->n=2 * j.v.mem.length->cy u b_ pa n pc ((j.v.mem.map (vn j)).flatten)->Go.b8.W prog (sub (b6 o_) [1,1,1]) (SQ ⟨a2,0,none⟩ pa n pc aT) (ga prog o_ R) b_) :
  dT prog (.loop (sub (b6 o_) [1,1,0,1,0,0])) (Jf ⟨a2,0,none⟩ none 0 0 r.View.h1 r.View.h6 r.View.iJ r.View.h6 0 aT)
   (a8 0 (bk (λenv w=>Go.b8.W prog (sub (b6 o_) [1,1,1]) env (ga prog o_ R) w) (ga prog o_ R))) u:=by
 obtain ⟨zw,kX⟩:=ab.cH.view;have hlen:=kX.len;have sh:=ab.du.mem;have hz:=ab.du.dead;have aC:=ab.cH.dead;have tv:=ab.an.lt;refine e2 mix (λq env z=>∃ (i:Nat) (pa:ax) (pc:Nat) (aT:aH),q=j.v.mem.length - i/\i<=j.v.mem.length/\env=Jf ⟨a2,0,none⟩ pa (2 * i) pc r.View.h1 r.View.h6 r.View.iJ r.View.h6 i aT/\ai u z/\
   cy u z pa (2 * i) pc ((j.v.mem.take i).map (vn j)).flatten) j.v.mem.length
  ⟨0,none,0,_,by omega,by omega,rfl,ay.refl _ _,cy.nil _ _⟩ ?_
 rintro q env z ⟨i,pa,pc,aT,rfl,aD,rfl,da,d'⟩;refine mb (fn:=o_) (R:=R) (λ_ _=>rfl) ?_;rw [auE,hlen];have og:=ab.new.new da;refine bL (λaK=>?_) (λhQ=>?_)
 ·obtain ⟨bV,hm⟩:∃ bV,j.v.mem[i]?=some bV:=⟨_,cp (by omega)⟩;have tp:=ab.du.hd bV (dn hm);refine hq (cells:=bp.cells) bp.len (by omega) (kX.rd.new og) hm rfl rfl λb gk gD _=>bp.bd bV ⟨gD,?_⟩
  refine g0 (vs:=bV.cells) rfl (bp.single _) λbT e' ej cx bf=>?_
  rintro dq cG;have a5:ai e' dq:=by rw [cG];exact eh _
  clear cG;have gI:=bf.new a5;have bP:=ai.an a5 cx;have gC:=ab.ck (da.new gI);refine ⟨λy=>aF y bT bV.cells hN/\o7 r tb m j a2 y,⟨bP,_,_,gC.an⟩,bp.bd bV ⟨λy az=>cD az.1 rfl,r.iq,λy az=>by obtain ⟨_,iK,gk,az⟩:=az;exact az.cell (i:=5) rfl,bp.bd bV ⟨λy az=>cD az.1 rfl,r.iq,λy az=>by obtain ⟨_,iK,gk,az⟩:=az;exact az.cell (i:=5) rfl,?_⟩⟩⟩;rw [aC];refine aR (Rp dq hz) ?_;rintro v hh ⟨rfl,bz⟩;have m4:=gC.ck bz;refine ⟨_,rfl,⟨ai.an bz bP,_,_,m4.an⟩,?_⟩;refine aR (LF m4 (m:=bV) (by unfold gF;omega) (24+j.dead) 1) ?_;rintro v gK ⟨v1,rfl,oj,bH⟩;have mH:=m4.ck bH;have dL:=ai.an (bz.new bH) bP;refine a0.bd v1 ⟨rfl,⟨dL,_,_,mH.an⟩,?_⟩;refine aR (Ry gK hz) ?_;rintro v jq ⟨rfl,rfl⟩;refine ⟨_,rfl,⟨dL,_,_,mH.an⟩,?_⟩;refine aR (LF mH (m:=bV) (by unfold gF;omega) (iR j.dead) 120) ?_;rintro v nw ⟨v2,rfl,oP,dg⟩;have uH:=mH.ck dg;have fQ:=ai.an dg dL;refine a0.bd v2 ⟨rfl,⟨fQ,_,_,uH.an⟩,?_⟩;rintro x5 o0 mf jn;obtain ⟨gN,eT⟩:=b4 mf jn;have gN:aF o0 x5 (v1.cells++v2.cells) d8:=gN;clear jn;have U2:=cy.two bH oj dg oP mf gN eT;have Ku:=(bH.new dg).new eT;have Ut:=gI.new bz;have Tp:=uH.ck eT;have adC:=d'.new (Ut.new Ku);obtain ⟨dD,cV,_⟩:=adC.ex;have pq:=Ut.size;have cr:=da.size;refine ⟨⟨ai.an eT fQ,_,_,Tp.an⟩,cy.I7 adC (da.new (Ut.new Ku)) U2 (λk fo=>by obtain ⟨aEX,asv,_⟩:=d'.ex;have:=asv.lt fo;omega) (by omega) (by omega) λap bU aY h4 fK gJ=>?_⟩;have off:∀ {b:Nat} {cs:aH} {T:TypeId},T≠d8->aF o0 b cs T->¬ a7 pa b:=λbq ak J=>by obtain ⟨mY,dG⟩:=jX cV J;exact dG.ne ak (λe=>bq e.symm) rfl
  refine ⟨⟨fK.an (ai.an eT fQ) (off (by decide) (ai.an eT fQ)),_,_,fK.an Tp.an (off (by decide) Tp.an)⟩,ia ?_⟩;rw [cn (x:=(i:Int)+1) (by omega) (by omega)];refine ⟨j.v.mem.length - (i+1),by omega,i+1,ap,bU,_,rfl,by omega,by rw [<-hlen,show 2 * (i+1)=2 * i+2 by omega];rfl,gJ,?_⟩;have e:((j.v.mem.take i).map (vn j)).flatten++vn j bV=((j.v.mem.take (i+1)).map (vn j)).flatten:=by rw [iW,hm];simp
  rw [<-e,show 2 * (i+1)=2 * i+2 by omega];exact h4
 ·have g2:i=j.v.mem.length:=by omega
  subst g2;refine CP (Cq (ia ?_));rw [nx] at d';exact J z pa _ pc _ da rfl d'
end
end
section
structure x0 where
 a:ax
 n:Nat
 c:Nat
def wG (s:x0):aH:=[.slice s.a s.n s.c]
def HM (d:cL):x0:=⟨d.Words,d.ey,d.eg⟩
abbrev Nq:TypeId:=94
structure zt (w0 u z:av) (a2 tb:Nat) (r:fT) (m:bp) (j:c8) (jw:ax) (lc:Nat) (ep:List x0):Prop where
 hK:fy w0 z a2 tb r m j ⟨jw,ep.length,lc,0⟩ (0,0)
 aO:ay (λk=>k=a2) u z
 own:bu z Nq 1 jw ep.length lc (ep.map wG).flatten
 kD:∀ k,a7 jw k->u.heap.size<=k
 le:w0.heap.size<=u.heap.size
theorem zt.oU {cZ:av} {ep:List x0} (h:zt w0 u z a2 tb r m j jw lc ep) (aj:ai z cZ):zt w0 u cZ a2 tb r m j jw lc ep:=
 ⟨h.hK.ck aj,h.aO.new aj,bu.new aj h.own,h.kD,h.le⟩
theorem akn {ep:List x0} (h:zt w0 u z a2 tb r m j jw lc ep) (ada:a2<u.heap.size) (m6:ep.length<=100) {cf:Nat} (dw:bW w0 f8 (j6 raw).flatten) (GI:cf=raw.length) {d:cL} (aC:raw[2 * ep.length+1]?=some d)
  {uz:Int} {aT:aH} {Q:Exit->aH->aV} (gi:∀ env w,Q .ret env w=ga prog o_ R .ret env w)
  (J:∀ cZ EF EE aT,zt w0 u cZ a2 tb r m j EF EE (ep++[HM d])->Q .normal (SS ⟨a2,0,none⟩ f8 cf dc flag uz ep.length aT) cZ) :
  Go.b8.W prog (sub (b6 o_) [1,1,1,1,1,1,1,0,1,0,0,1,1,0,0,1,1]) (Jg ⟨a2,0,none⟩ f8 cf dc flag ep.length uz ep.length aT) Q z:=by
 refine mb (fn:=o_) (R:=R) gi ?_;rw [avJ];rintro e' br;have a1:ai z e':=by rw [br];exact eh _
 clear br;have af:=h.oU a1;refine ⟨λy=>fy w0 y a2 tb r m j ⟨jw,ep.length,lc,0⟩ (0,0),af.hK,jw,ep.length,lc,λy az=>az.an.cell (i:=13) rfl,?_⟩;refine pw (cells:=cL.cells) (sz:=2) cL.len (by omega) dw aC (by rw [cn (x:=2 * (ep.length:Int)) (by omega) (by omega),cn (by omega) (by omega)];omega) GI λb o ab=>⟨d.Words,d.ey,d.eg,λy az=>ab y az.new 1 _ rfl,?_⟩
 rintro aP dq cv cG;obtain ⟨bP,a5⟩:=b4 cv cG;have bP:aF dq aP (wG (HM d)) Nq:=bP;clear cG;have al:=af.oU a5;obtain ⟨inf,pR,ml,j3,gm⟩:=j5 (T:=Nq) (z:=.slice none 0 0) (n:=1) (m:=24) (by kernel_rfl);refine ⟨al.hK,Fp (cells:=wG) (sz:=1) (λ_=>rfl) (λx v aw=>by simp [wG] at aw;subst aw;rfl) Tryz.underlying218 pR ml (by rw [j3];rfl) j3 (by decide) (by rw [gm];decide) al.own (l2:=[HM d]) (m:=1) (jk bP rfl) rfl (by omega) λap bU h5 bs bI dd=>?_⟩;have off:∀ {b:Nat} {cs:aH} {T:TypeId},T≠Nq->aF dq b cs T->¬ a7 jw b:=λbq ak fo=>by obtain ⟨mY,dG⟩:=jX al.own fo;exact dG.ne ak (λe=>bq e.symm) rfl
 have hle:=h.le;have mj:=al.hK.aO bI λk fo=>⟨by have:=h.kD k fo;omega,λe=>off (by decide) al.hK.an (e▸fo)⟩
 refine ⟨mj,⟨_,mj.an.cell (i:=13) rfl⟩,mj.an.frozen,?_⟩;rintro hh eE;have dv:ay (λk=>k=a2) h5 hh:=by rw [eE];exact iu _ _ _ _
 have iO:aF hh a2 (Cy r tb m (k4 j.inc j.bw) ⟨ap,ep.length+1,bU,0⟩ (0,0)) zD:=by rw [eE];exact mj.an.setCell (i:=13) _
 clear eE;have cr:=al.aO.size;have abM:∀ k,a7 ap k->u.heap.size<=k:=λk fo=>by
  rcases dd k fo with e | e
  ·exact h.kD k e
  ·omega
 have OJ:ay (λk=>k=a2) u hh:=(al.aO.trans bI λk aK e=>by have:=h.kD k e;omega).trans dv λ_ _ e=>e
 refine J hh ap bU _ ⟨⟨by rw [gp];exact iO,mj.cH,mj.du,mj.mem,mj.new.trans dv λk aK e=>by have:=mj.Cx;omega,mj.Cx,mj.sM,mj.ne⟩,OJ,?_,abM,hle⟩;rw [gp];exact bs.aO dv λk fo e=>by have:=abM k fo;omega
end
section
def wH (j:c8) (ds:List a_) (n:Nat):Bool:=(List.range n).all λi=>fY ds (2 * i) == j.gP
theorem agt (j:c8) (ds:List a_) (n:Nat):wH j ds (n+1)=(wH j ds n && (fY ds (2 * n) == j.gP)):=by unfold wH;rw [rK,List.all_append];simp
theorem ajI {ep:List x0} (h:zt w0 u z a2 tb r m j jw lc ep) (ada:a2<u.heap.size) {uz:Nat} (m6:uz<=100) (aD:ep.length<=uz) (dw:bW w0 f8 (j6 raw).flatten) (dX:lN A w0 raw ds) (j0:ds.length=2 * uz+1)
  (vX:flag=wH j ds ep.length) (aT:aH) {oB:Exit->aH->aV} (JC:∀ env w,oB .ret env w=ga prog o_ R .ret env w)
  (Kx:ep.length<uz->∀ d,raw[2 * ep.length+1]?=some d->∀ cZ EF EE aT,zt w0 u cZ a2 tb r m j EF EE (ep++[HM d])->oB .normal (Gk ⟨a2,0,none⟩ f8 ds.length dc (wH j ds (ep.length+1)) uz (ep.length+1:Nat) aT) cZ)
  (sf:ep.length=uz->∀ aT,oB (.exit 2) (SR ⟨a2,0,none⟩ f8 ds.length dc flag aT) z) :
  Go.b8.W prog (sub (b6 o_) [1,1,1,1,1,1,1,0,1,0,0]) (Gk ⟨a2,0,none⟩ f8 ds.length dc flag uz ep.length aT) oB z:=by
 have ik:raw.length=ds.length:=dX.1;refine mb (fn:=o_) (R:=R) JC ?_;rw [auF];refine bL (λaK=>?_) (λhQ=>sf (by omega) _);have hR:ep.length<uz:=by omega
 obtain ⟨d,aC⟩:∃ d,raw[2 * ep.length]?=some d:=⟨_,cp (by omega)⟩;obtain ⟨x,ao⟩:∃ x,ds[2 * ep.length]?=some x:=⟨_,cp (by omega)⟩;obtain ⟨d1,yo⟩:∃ d1,raw[2 * ep.length+1]?=some d1:=⟨_,cp (by omega)⟩;have pP:=dX.2 _ d x aC ao;have ti:fY ds (2 * ep.length)=gZ x:=by unfold fY;rw [gd,ao];rfl
 rintro e' br;have a1:ai z e':=by rw [br];exact eh _
 clear br;have af:=h.oU a1;have one:∀ {y:av},zt w0 u y a2 tb r m j jw lc ep->∀ (SU:Bool),SU=wH j ds (ep.length+1)->∀ (aT:aH),Go.b8.W prog (sub (b6 o_) [1,1,1,1,1,1,1,0,1,0,0,1,1,0,0,1,1]) (Jg ⟨a2,0,none⟩ f8 ds.length dc SU ep.length uz ep.length aT) (a8 3 (bk (λenv w=>Go.b8.W prog (sub (b6 o_) [1,1,1,1,1,1,1,0,1,0,0,1,1,1]) env (cw prog o_ R oB) w) (cw prog o_ R oB))) y:=by intro y az SU JZ aT;refine akn az ada (by omega) dw ik.symm yo (R:=R) (λ_ _=>rfl) (λcZ EF EE nU gH=>?_);refine Cp (ia ?_);rw [avL,cn (x:=(ep.length:Int)+1) (by omega) (by omega),JZ];exact Kx hR d1 yo cZ EF EE _ gH
 have JX:=h.hK.cH.gP;have hz:=h.hK.du.gP;refine ⟨λy=>fy w0 y a2 tb r m j ⟨jw,ep.length,lc,0⟩ (0,0),af.hK,kk (λaJ=>?_) (λaJ=>one af false (by rw [agt,<-vX,aJ];rfl) _)⟩;refine pw (cells:=cL.cells) (sz:=2) cL.len (by omega) dw aC (by rw [cn (x:=2 * (ep.length:Int)) (by omega) (by omega)];omega) ik.symm λb o ab=>cL.bd d ⟨λy az=>td (i:=0) λq v aw=>by simpa using ab y az.new q v aw,r.j',λy az=>az.an.cell (i:=6) rfl,?_⟩
 refine aR (E6 (pP.aO (ay.db af.hK.new) λ_ _ e=>e)) ?_;rintro v dq ⟨rfl,a5⟩;refine ⟨_,rfl,(af.oU a5).hK,one (af.oU a5) _ ?_ _⟩;rw [agt,<-vX,aJ,ti,JX,rJ (x:=j.gP) (by omega) (by omega),Mn]
end
section
theorem ahN:∀ {l:List a_},mL l=0->∀ d ∈ l,d.code=0:=λ{l}=>by
 induction l with
 |nil=>intro _ d aC;cases aC
 |cons x l c5=>
  intro h d aC;unfold mL at h;split at h
  ·rename_i e;rcases iF.1 aC with rfl | aC
   ·exact e
   ·exact c5 h d aC
  ·rename_i e;exact absurd h e
theorem anO (h:r3 vs ds=true) (aN:mL ds=0) (aw:vs[i]?=some v) (aC:ds[i]?=some d):(d.words.length:Int)=v.v.ow:=by have ab:=ahN aN d (dn aC);unfold r3 at h;rw [iz,lM] at h;have hm:(v,d) ∈ vs.zip ds:=dn (i:=i) (WW.2 ⟨aw,aC⟩);have:=h.2 _ hm;unfold Gx at this;simp only at this;rw [if_pos ab] at this;exact of_decide_eq_true this
theorem ZG (h:(cE G vs).ok=true) (aw:vs[i]?=some v) (aC:(cE G vs).done[i]?=some d):(d.words.length:Int)=v.v.ow:=by
 have aN:vs.length≠0:=by have:=dy aw;omega
 unfold cE dz at h aC;split at h
 ·cases h
 rename_i af;split at h
 ·cases h
 rename_i al;rw [if_neg af,if_neg al] at aC;have al:mL (batch G vs).done=0:=by simpa using al
 unfold batch at af al aC;rw [if_neg aN] at af al aC;cases G with
 |nil=>simp at af
 |cons e gg=>
  simp only at af al aC;split at af
  ·rename_i aJ;rw [if_pos aJ] at al aC;exact anO aJ al aw aC
  ·simp at af
def FI (j:c8) (ds:List a_):List bR:=(List.range j.v.mem.length).map λi=>(ds.getD (2 * i+1) ⟨0,[]⟩).words
def H8 (j:c8) (ds:List a_):Int:=fY ds (2 * j.v.mem.length)
def F9 (j:c8) (m:bp) (R:dM):dM:=
 if R.ok=false then R else if wH j R.done j.v.mem.length=true then ⟨true,[],(0,0),R.bD,none,false⟩
 else if (m2 j m R.bD).ok=false then m2 j m R.bD else ⟨false,[],(11,0),(m2 j m R.bD).bD,none,false⟩
def jJ (j:c8) (m:bp) (G:List (List a_)):dM:=F9 j m (cE G (jE j m))
structure s4 (w0 w:av) (a2 tb:Nat) (V:kv) (bj:List bR):Prop where
 ex:∃ ep:List x0,bW w V.jw (ep.map wG).flatten/\V.rn=ep.length/\ep.length=bj.length/\∀ (i:Nat) (s:x0) (L:bR),ep[i]?=some s->bj[i]?=some L->F7 w0 s.a s.n s.c L
 off:∀ k,a7 V.jw k->k≠tb/\k≠a2
theorem s4.new {w0 w w':av} {a2 tb:Nat} {V:kv} {bj:List bR} (h:s4 w0 w a2 tb V bj) (aj:ai w w'):s4 w0 w' a2 tb V bj:=by obtain ⟨⟨ep,af,al,aL,ca⟩,c9⟩:=h;exact ⟨⟨ep,af.new aj,al,aL,ca⟩,c9⟩
theorem s4.aO {w0 w w':av} {a2 tb:Nat} {V:kv} {bj:List bR} (h:s4 w0 w a2 tb V bj) {M:bB} (J:ay M w w') (c1:∀ k,M k->k=tb\/k=a2):s4 w0 w' a2 tb V bj:=by
 obtain ⟨⟨ep,af,al,aL,ca⟩,c9⟩:=h;refine ⟨⟨ep,af.aO J (mK af λk fo e=>?_),al,aL,ca⟩,c9⟩;have:=c9 k fo;rcases c1 k e with e | e
 ·exact this.1 e
 ·exact this.2 e
theorem W2 (j:c8) (m:bp):(jE j m).length=2 * j.v.mem.length+1:=by
 unfold jE;rw [gp];have:((j.v.mem.map (vn j)).flatten).length=2 * j.v.mem.length:=by
  induction j.v.mem with
  |nil=>rfl
  |cons a l c5=>rw [kQ,l7,gp,c5];simp [vn];omega
 rw [this];rfl
theorem W3 (aD:i<j.v.mem.length):∃ bV,(jE j m)[2 * i+1]?=some (wW j bV (iR j.dead) 120):=by
 have key:∀ (l:List bp) (i:Nat),i<l.length->∃ bV,((l.map (vn j)).flatten)[2 * i+1]?=some (wW j bV (iR j.dead) 120):=by
  intro l;induction l with
  |nil=>intro i h;cases h
  |cons a l c5=>
   intro i h;rw [kQ,l7];cases i with
   |zero=>exact ⟨a,rfl⟩
   |succ i=>obtain ⟨bV,al⟩:=c5 i (by simpa using h);refine ⟨bV,?_⟩;rw [nB (by simp [vn];omega)];simp only [vn,l8,CZ];rw [show 2 * (i+1)+1 - (0+1+1)=2 * i+1 by omega];exact al
 obtain ⟨bV,h⟩:=key j.v.mem i aD;exact ⟨bV,by unfold jE;rw [nA (dy h)];exact h⟩
end
section
abbrev If (A:bB) (w0 u:av) (a2 tb:Nat) (r:fT) (m:bp) (j:c8) (G:List (List a_)) (v:bx) (b_:av):Prop:=
 v=.bool (jJ j m G).ok/\∃ iK,hM A w0 u a2 tb u.heap.size r m j iK (jJ j m G) b_/\((jJ j m G).ok=true->s4 w0 b_ a2 tb iK (FI j (cE G (jE j m)).done)/\iK.clock=H8 j (cE G (jE j m)).done)
theorem anP {T:kb} (ab:fy w0 u a2 tb r m j ⟨none,0,0,0⟩ (0,0)) (bq:h2 A w0 u tb T G) (c7:kl T) :
  bK 181 [ptr a2] u (If A w0 u a2 tb r m j G):=by
 refine bO Tryz.func181 ?_;rw [ptr,awq];have tv:=ab.an.lt;have yD:=bq.an.lt;have sh:=ab.du.mem;have hz:=ab.du.dead;have aC:=ab.cH.dead;refine ⟨_,_,_,ab.an.cell (i:=4) rfl,?_⟩;refine akm ab _ λcS pa n pc aT a5 rb d'=>?_
 refine mb (fn:=o_) (R:=If A w0 u a2 tb r m j G) (λ_ _=>rfl) ?_;rw [avI];rintro w1 br;have a1:ai cS w1:=by rw [br];exact eh _
 clear br;have ja:=a5.new a1;have eC:=ab.ck ja;refine ⟨o7 r tb m j a2,⟨_,_,eC.an⟩,bp.bd m ⟨λy az=>by obtain ⟨iK,gk,az⟩:=az;exact cD az rfl,r.iq,λy az=>by obtain ⟨iK,gk,az⟩:=az;exact az.cell (i:=5) rfl,?_⟩⟩;rw [aC];refine aR (MH w1 hz) ?_;rintro v aS ⟨rfl,bf⟩;have gC:=eC.ck bf;refine ⟨_,rfl,⟨_,_,gC.an⟩,?_⟩;refine aR (LF gC ab.hd (32+j.dead) 1) ?_;rintro v aY ⟨bX,rfl,d_,bz⟩;refine a0.bd bX ⟨rfl,⟨_,_,(gC.ck bz).an⟩,?_⟩;rintro b1 bZ bA eE;have bH:ai aY bZ:=by rw [eE];exact mE _ _
 have q7:=gC.ck bz;have gI:=a1.new bf;refine ⟨⟨_,_,(q7.ck bH).an⟩,cy.u9 (d'.new gI) (a5.new gI) bz d_ (by omega) bA eE λap bU cK c9 g_ q'=>?_⟩;obtain ⟨dD,cV,_⟩:=(d'.new (gI.new bz)).ex;have fH:=d'.kD;have off:¬ a7 pa a2:=λJ=>by have:=fH a2 J;omega
 have mH:fy w0 cK a2 tb r m j ⟨none,0,0,0⟩ (0,0):=ab.ck q';have eb:(j.v.mem.map (vn j)).flatten++[wW j m (32+j.dead) 1]=jE j m:=rfl;have c9:cy u cK ap (n+1) bU (jE j m):=c9;refine ⟨⟨_,_,mH.an⟩,?_⟩;refine aR (yN mH (bq.new q') c7 ab.new (by omega) (by omega) c9 (by rw [W2];omega)) ?_;rintro v dh ⟨f8,dc,raw,rfl,ar,dw,dX,ik⟩;have ar:hM A w0 u a2 tb u.heap.size r m j ⟨none,0,0,0⟩ (cE G (jE j m)) dh:=ar.of q' (eJ _);have dX:lN A w0 raw (cE G (jE j m)).done:=dX;have ik:(cE G (jE j m)).ok=true->raw.length=(jE j m).length:=ik;refine ⟨_,_,_,_,rfl,ht (λq9=>?_) (λaZ=>?_)⟩
 ·have q9:(cE G (jE j m)).ok=false:=q9;have c1:jJ j m G=cE G (jE j m):=if_pos q9;refine ⟨by rw [c1,q9],_,by rw [c1];exact ar,λh=>?_⟩
  rw [c1,q9] at h;cases h
 have aZ:(cE G (jE j m)).ok=true:=aZ;obtain ⟨aq,J,kZ⟩:=Ap aZ;have wb:=ar.hK;rw [aq] at wb;have hlen:raw.length=2 * j.v.mem.length+1:=by rw [ik aZ,W2]
 have gv:∀ i,i<j.v.mem.length->∀ x,(cE G (jE j m)).done[2 * i+1]?=some x->x.words.length=120:=by intro i aD x ao;obtain ⟨bV,pT⟩:=W3 (m:=m) aD;have:=ZG aZ pT ao;have e:(wW j bV (iR j.dead) 120).v.ow=120:=rfl;omega
 have c1:jJ j m G=if wH j (cE G (jE j m)).done j.v.mem.length=true then ⟨true,[],(0,0),(cE G (jE j m)).bD,none,false⟩
   else if (m2 j m (cE G (jE j m)).bD).ok=false then m2 j m (cE G (jE j m)).bD else ⟨false,[],(11,0),(m2 j m (cE G (jE j m)).bD).bD,none,false⟩:=by
  unfold jJ F9;rw [if_neg (by rw [aZ];simp)]
 obtain ⟨zw,kX⟩:=ab.cH.view;have tq:=kX.len;refine ⟨_,_,_,wb.an.cell (i:=4) rfl,?_⟩;have j0:(cE G (jE j m)).done.length=2 * j.v.mem.length+1:=by rw [<-dX.1,hlen]
 rw [dX.1,tq];show dT prog _ _ _ _;generalize ap':cE G (jE j m)=ka at ar dX c1 gv j0 J kZ wb aZ;have as4:=wb.an.lt;have aEt:=ar.aO.size;refine e2 mix (λq env z=>∃ (ep:List x0) (jw:ax) (lc:Nat) (aT:aH),q=j.v.mem.length - ep.length/\ep.length<=j.v.mem.length/\env=Gk ⟨a2,0,none⟩ f8 ka.done.length dc (wH j ka.done ep.length) j.v.mem.length ep.length aT/\zt w0 dh z a2 tb r m j jw lc ep/\∀ (k:Nat) (s:x0),ep[k]?=some s->∃ d,raw[2 * k+1]?=some d/\s=HM d) j.v.mem.length
  ⟨[],none,0,_,by simp,by simp,rfl,⟨wb,ay.refl _ _,bu.nil _ _ _,λk J=>absurd J yP,wb.new.size⟩,λk s h=>by simp at h⟩ ?_
 rintro q env z ⟨ep,jw,lc,aT,rfl,aD,rfl,kg,pV⟩;refine ajI kg as4 (by omega) aD dw dX j0 rfl aT (R:=If A w0 u a2 tb r m j G) (λ_ _=>rfl) (λaK d aC cZ EF EE nU ar3=>?_) (λg2 nU=>?_)
 ·refine ia ⟨j.v.mem.length - (ep.length+1),by omega,ep++[HM d],EF,EE,nU,by simp,by simp;omega,by rw [gp];rfl,ar3,λk s BU=>?_⟩;rcases A1 k ep.length with nL | nL
  ·rw [nA nL] at BU;exact pV k s BU
  ·rw [nB nL] at BU;have:k - ep.length=0:=by have:=dy BU;simp at this <;> omega
   rw [this] at BU;simp at BU;have dQ:k=ep.length:=by omega
   subst dQ;exact ⟨d,aC,BU.symm⟩
 ·obtain ⟨d,aC⟩:∃ d,raw[2 * j.v.mem.length]?=some d:=⟨_,cp (by omega)⟩;obtain ⟨x,ao⟩:∃ x,ka.done[2 * j.v.mem.length]?=some x:=⟨_,cp (by omega)⟩;have pP:=dX.2 _ d x aC ao;have ti:H8 j ka.done=gZ x:=by unfold H8 fY;rw [gd,ao];rfl
  refine CP (Cq (ia ?_));rw [avK,g2];refine hq (cells:=cL.cells) cL.len (by omega) (dw.new kg.hK.new) aC (by rw [j0,cn (by omega) (by omega)];omega) dX.1.symm λb o gD _=>cL.bd d ⟨gD,?_⟩
  refine aR (E6 (pP.aO (ay.db kg.hK.new) λ_ _ e=>e)) ?_;rintro v e' ⟨rfl,a1⟩;have tw:=kg.hK.ck a1;refine ⟨_,rfl,⟨_,tw.an.cell (i:=14) rfl⟩,tw.an.frozen,?_⟩;rintro dq bP;have eN:ay (λk=>k=a2) e' dq:=by rw [bP];exact iu _ _ _ _
  have cv:aF dq a2 (Cy r tb m (k4 j.inc j.bw) ⟨jw,ep.length,lc,gZ x⟩ (0,0)) zD:=by rw [bP];exact tw.an.setCell (i:=14) _
  clear bP;have adg:fy w0 dq a2 tb r m j ⟨jw,ep.length,lc,gZ x⟩ (0,0):=⟨cv,tw.cH,tw.du,tw.mem,tw.new.trans eN λk aK e=>by have:=tw.Cx;omega,tw.Cx,tw.sM,tw.ne⟩;have T2:ay (λk=>k=a2) dh dq:=(kg.aO.new a1).trans eN λ_ _ e=>e
  obtain ⟨aC2,aqd,adH,abJ⟩:=ar.j9;rw [J] at abJ;rw [kZ] at adH;have r8:=aqd.aO T2 λe=>ab.ne e.symm
  have m7:ay (λk=>k=tb\/k=a2) u dq:=ar.aO.trans T2 λk _ e=>.inr e
  have adq:=m7.size;refine ht (λaJ=>?_) (λaJ=>?_)
  ·rw [if_neg (by rw [aJ];simp)] at c1;refine aR (XC adg r8 ⟨abJ,adH⟩) ?_;rintro v h5 ⟨rfl,g'⟩;have g':hM A w0 u a2 tb u.heap.size r m j ⟨jw,ep.length,lc,gZ x⟩ (m2 j m ka.bD) h5:=hM.seq m7 (ay.refl _ _) g' adq;refine ⟨_,rfl,kk (λaA=>?_) (λaA=>?_)⟩
   ·obtain ⟨yy,ek,Pn⟩:=Ap aA;have mj:=g'.hK;rw [show (m2 j m ka.bD).out=(0,0) from yy] at mj;rw [if_neg (by rw [aA];simp)] at c1;refine aR (nv mj 11) ?_;rintro v hh ⟨rfl,dv,as9⟩;refine ⟨_,rfl,by rw [c1],_,by rw [c1];exact g'.Lv ek Pn dv as9 rfl rfl rfl,λh=>?_⟩
    rw [c1] at h;cases h
   ·rw [if_pos aA] at c1;refine ⟨by rw [c1,aA],_,by rw [c1];exact g',λh=>?_⟩
    rw [c1,aA] at h;cases h
  ·rw [if_pos aJ] at c1;refine ⟨by rw [c1],_,by rw [c1];exact ar.Lv J kZ T2 adg rfl rfl rfl,λ_=>?_⟩
   rw [ap'];refine ⟨⟨⟨ep,?_,rfl,?_,?_⟩,?_⟩,ti.symm⟩
   ·exact (bu.new a1 kg.own).rd.aO eN (mK (bu.new a1 kg.own).rd λk fo e=>by have:=kg.kD k fo;omega)
   ·rw [FI,jS,ui];exact g2
   ·intro i s L aX bE;obtain ⟨d1,yo,rfl⟩:=pV i s aX;have TW:i<j.v.mem.length:=by have:=dy aX;omega
    obtain ⟨ee,su⟩:∃ ee,ka.done[2 * i+1]?=some ee:=⟨_,cp (by omega)⟩;have OE:=dX.2 _ d1 ee yo su;have ap7:L=ee.words:=by unfold FI at bE;rw [gV,rM TW] at bE;simp only [xM,iX] at bE;rw [<-bE,gd,su];rfl
    rw [ap7];have Od:=gv i TW ee su;have g3:=OE.len;exact ⟨OE.rd,g3,OE.cap,OE.wf,by show d1.ey<=1000;omega⟩
   ·intro k fo;have:=kg.kD k fo;constructor<;>omega
end
end Go.Proofs.YtmkljjbioomepaaGreat
