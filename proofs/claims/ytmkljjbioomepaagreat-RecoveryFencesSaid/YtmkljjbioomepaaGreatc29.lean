import Derived.Test.YtmkljjbioomepaaGreatc28
import Derived.Test.YtmkljjbioomepaaGreatc20
set_option linter.all false
set_option maxHeartbeats 4000000
set_option maxRecDepth 100000
namespace Go.Proofs.YtmkljjbioomepaaGreat
open Go.Proofs.Tryz Go.br
variable {A:a5} {B dc kS i n pc gM aH tb:Nat} {L:List (aP×da)} {iq:Exit->ax->aE} {R:cA} {V:fZ} {dA jj pa pb:al} {ds:List aL} {j:b2} {m:aZ} {o:Int×Int} {r:dr} {raw:List bR} {u bE w0 z:ak}
section
abbrev jb:TypeId:=309
def nD (l:List da):List ax:=l.map da.cells
def cJ (j:b2):List da:=
 ⟨j.dead,j.dR,true⟩::(if mC j.prev=true/\kx j.prev≠j.dead then [⟨kx j.prev,kv j.prev+1,false⟩] else [])
theorem Bx (h:y7 j):∀ f ∈ cJ j,0<=f.a3/\f.a3<6/\0<=f.least/\f.least<=60:=by
 intro f a;have c:=h.dead;have d:=h.dR;unfold cJ at a;rcases e9.1 a with rfl | a
 ·exact ⟨c.1,c.2,by show 0<=j.dR;omega,d.2⟩
 split at a
 ·rename_i b;have b:=of_decide_eq_true (show mC j.prev=true from b.1);obtain ⟨i,k⟩:=uC b;obtain ⟨e,g,_⟩:=AF b;simp at a;subst a;refine ⟨?_,?_,?_,?_⟩
  ·show 0<=kx j.prev;omega
  ·show kx j.prev<6;omega
  ·show 0<=kv j.prev+1;omega
  ·show kv j.prev+1<=60;omega
 ·cases a
section
variable {A:a5} {w0 u:ak} {aH tb:Nat} {r:dr} {m:aZ} {j:b2} {V:fZ} {T:gg} {G:List (List aL)}
theorem KN (q:df w0 u aH tb r m j V o):a_ 219 [ptr aH] u λv bq=>∃ a cap,v=.slice a (cJ j).length cap/\ai u bq/\bh bq a (nD (cJ j)).flatten/\∀ k,aK a k->u.heap.size<=k:=by
 refine bc Tryz.func219 ?_;rw [ptr,Q8];rintro w1 B;have b:ai u w1:=by rw [B];exact cD _
 clear B;have f:=q.bx b;have ar:=q.bN.dead;have M:=q.bN.dR;have N:=q.bN.prev;have W:=q.cj.dR;refine ⟨λy=>ai w1 y,ao.refl _ _,r.ew,λy O=>(ai.aj O f.aj).cell (i:=5) rfl,r.fi,λy O=>(ai.aj O f.aj).cell (i:=6) rfl,?_⟩;dsimp only;rw [ar,M,j8 (x:=j.dR) (by omega) (by omega)];rintro b1 P J C;obtain ⟨d,c⟩:=bl J C;have d:av P b1 (da.cells ⟨j.dead,j.dR,true⟩) jb:=d;clear C;have w:=f.bx c;refine ⟨c,r.gD,w.aj.cell (i:=7) rfl,?_⟩;rw [N];refine aC (G3 P q.cj.prev) ?_;rintro v Q ⟨rfl,rfl⟩;have aN:∀ k,aK (some ⟨b1,0,none⟩) k->u.heap.size<=k:=λk G=>by obtain ⟨Z,l⟩:=G;simp at l;have:=b.size;omega
 have one:∀ F,cJ j=F->F=[⟨j.dead,j.dR,true⟩]->∃ a cap,Value.slice (some ⟨b1,0,none⟩) 1 1=.slice a (cJ j).length cap/\ai u Q/\bh Q a (nD (cJ j)).flatten/\∀ k,aK a k->u.heap.size<=k:=by intro F H I;rw [H,I];exact ⟨_,_,rfl,b.new c,fk d rfl,aN⟩
 refine ⟨_,_,_,rfl,fS (λE=>⟨r.ew,w.aj.cell (i:=5) rfl,dw (λh=>?_) (λhe=>?_)⟩) (λE=>?_)⟩
 ·have h:kx j.prev≠j.dead:=by rw [<-ar];exact h
  have U:cJ j=[⟨j.dead,j.dR,true⟩]++[⟨kx j.prev,kv j.prev+1,false⟩]:=by unfold cJ;rw [if_pos ⟨E,h⟩];rfl
  have t:=of_decide_eq_true (show mC j.prev=true from E);obtain ⟨Vt,Vu⟩:=uC t;obtain ⟨Vr,Vs,_⟩:=AF t;rw [bC (x:=kv j.prev+1) (by omega) (by omega),j8 (x:=kv j.prev+1) (by omega) (by omega)];rintro aA R K D;obtain ⟨p,g⟩:=bl K D;have p:av R aA (da.cells ⟨kx j.prev,kv j.prev+1,false⟩) jb:=p;clear D;obtain ⟨inf,X,au,A,L⟩:=fL (T:=jb) (z:=da.val ⟨0,0,false⟩) (n:=3) (m:=24) (by kernel_rfl);have Y:a2 R jb 3 (some ⟨b1,0,none⟩) 1 1 ([(⟨j.dead,j.dR,true⟩:da)].map da.cells).flatten:=⟨rfl,.inr ⟨b1,_,rfl,ai.aj g d,cO 1,by decide,rfl,rfl⟩⟩;refine q5 (cells:=da.cells) (sz:=3) da.len da.single Tryz.underlying306 X au (by rw [A];rfl) A (by decide) (by rw [L];decide) Y (l2:=[⟨kx j.prev,kv j.prev+1,false⟩]) (m:=1) (fk p rfl) rfl (by decide) λap s Vv H I S=>?_
  rw [U];refine ⟨ap,s,rfl,?_,H.rd,λk G=>by
   rcases S k G with e | e
   ·exact aN k e
   ·have:=((b.new c).new g).size;omega⟩
  refine ((b.new c).new g).trans I λk G e=>?_
  obtain ⟨Z,l⟩:=e;simp at l;have:=b.size;omega
 ·exact one _ rfl (by unfold cJ;rw [if_neg (λe=>e.2 (by rw [<-ar];exact he))])
 ·exact one _ rfl (by unfold cJ;rw [if_neg (λe=>by rw [E] at e;simp at e)])
def lV (j:b2) (bg:aZ) (f:da):aP:=mD j bg (24+f.a3) 1
def hp (j:b2):List aP:=(j.v.mem.map λbg=>(cJ j).map (lV j bg)).flatten
theorem JM (E:df w0 u aH tb r m j V o) (VQ:bh u jj (nD (cJ j)).flatten) (B:ax)
  (Vx:∀ bq pa n pc B,ai u bq->bH u bq pa n pc (hp j)->Go.br.W prog (sub (bo f179) [1,1,1,1]) (zE ⟨aH,0,none⟩ jj (cJ j).length kS pa n pc B) (dB prog f179 R) bq) :
  cu prog (.loop (sub (bo f179) [1,1,1,0,1,0,0])) (tO ⟨aH,0,none⟩ jj (cJ j).length kS none 0 0 r.View.dL r.View.dN r.View.dW r.View.dN 0 B)
   (aO 0 (aV (λenv w=>Go.br.W prog (sub (bo f179) [1,1,1,1]) env (dB prog f179 R) w) (dB prog f179 R))) u:=by
 obtain ⟨V1,t⟩:=E.bN.view;have hlen:=t.len;have VT:=E.cj.mem;have VR:(cJ j).length<=2:=by unfold cJ;split<;>simp
 have Vv:=Bx E.cj;have VG:=E.aj.lt;refine c2 mix (λq env z=>∃ (i:Nat) (pa:al) (n pc:Nat) (B:ax),q=j.v.mem.length - i/\i<=j.v.mem.length/\env=tO ⟨aH,0,none⟩ jj (cJ j).length kS pa n pc r.View.dL r.View.dN r.View.dW r.View.dN i B/\ai u z/\n<=2 * i/\
   bH u z pa n pc ((j.v.mem.take i).map λbg=>(cJ j).map (lV j bg)).flatten) j.v.mem.length
  ⟨0,none,0,0,_,by omega,by omega,rfl,ao.refl _ _,by omega,bH.nil _ _⟩ ?_
 rintro q env z ⟨i,pa,n,pc,B,rfl,V3,rfl,G,VX,H⟩;refine g7 (fn:=f179) (R:=R) (λ_ _=>rfl) ?_;rw [P6,hlen];have L:=E.new.new G;refine a' (λVV=>?_) (λVS=>?_)
 ·obtain ⟨bg,hm⟩:∃ bg,j.v.mem[i]?=some bg:=⟨_,bF (by omega)⟩;have VW:=E.cj.ee bg (cg hm);refine eo (cells:=aZ.cells) aZ.len (by omega) (t.rd.new L) hm rfl rfl λb V4 Vt _=>aZ.aS bg ⟨Vt,?_⟩
  refine ea (vs:=bg.cells) rfl (aZ.single _) λVr V8 VO VC M=>?_
  refine c2 mix (λq env y=>∃ (k:Nat) (pa:al) (n pc:Nat) (B:ax),q=(cJ j).length - k/\k<=(cJ j).length/\env=wi ⟨aH,0,none⟩ jj (cJ j).length kS pa n pc ⟨Vr,0,none⟩ r.View.dL j.v.mem.length r.View.dW j.v.mem.length i jj (cJ j).length kS (cJ j).length k B/\ai u y/\av y Vr bg.cells eH/\n<=2 * i+k/\
    bH u y pa n pc (((j.v.mem.take i).map λbg=>(cJ j).map (lV j bg)).flatten++((cJ j).take k).map (lV j bg))) (cJ j).length
   ⟨0,pa,n,pc,_,by omega,by omega,rfl,G.new M,VC,by omega,by simpa using H.new M⟩ ?_
  rintro q env y ⟨k,pa,n,pc,B,rfl,VU,rfl,h,Y,VY,A⟩;refine g7 (fn:=f179) (R:=R) (λ_ _=>rfl) ?_;rw [P7];refine a' (λVF=>?_) (λVE=>?_)
  ·obtain ⟨f,l⟩:∃ f,(cJ j)[k]?=some f:=⟨_,bF (by omega)⟩;have C:=Vv f (cg l);refine eo (cells:=da.cells) da.len (by omega) (VQ.new h) l rfl rfl λV2 V5 J _=>da.aS f ⟨J,?_⟩
   refine ea (vs:=f.cells) rfl (da.single _) λVJ VZ VP VD Vz=>?_
   rintro VH X;have N:ai VZ VH:=by rw [X];exact cD _
   clear X;have g:=Vz.new N;have c:=ai.aj g Y;have d:=ai.aj N VD;refine ⟨λx=>av x Vr bg.cells eH/\av x VJ f.cells jb,⟨c,d⟩,aZ.aS bg ⟨λx VB=>bK VB.1 rfl,f.a3,λx VB=>VB.2.cell (i:=0) rfl,?_⟩⟩;refine aC (yE VH ⟨C.1,C.2.1⟩) ?_;rintro v V6 ⟨rfl,s⟩;refine ⟨_,rfl,⟨ai.aj s c,ai.aj s d⟩,?_⟩;refine aC (uH (E.bx ((h.new g).new s)) (m:=bg) (by unfold ec;omega) (24+f.a3) 1) ?_;rintro v VI ⟨bj,rfl,VA,F⟩;have a:=s.new F;refine aG.aS bj ⟨rfl,⟨ai.aj a c,ai.aj a d⟩,?_⟩;rintro dn V0 Vs U;have P:ai VI V0:=by rw [U];exact hk _ _
   have p:=(g.new s);refine ⟨⟨ai.aj (a.new P) c,ai.aj (a.new P) d⟩,bH.lN (A.new p) (h.new p) F VA (by omega) Vs U λap I V7 VL K O=>?_⟩;obtain ⟨cf,S,_⟩:=A.ex;have off:∀ {b:Nat} {cs:ax} {T:TypeId},T≠cy->av VI b cs T->¬ aK pa b:=λVM VN Vx=>by obtain ⟨VK,Vu⟩:=fI (a2.new ((p.new F)) S) Vx;exact Vu.ne VN (λe=>VM e.symm) rfl
   have D:=K.aj (ai.aj a c) (off (by decide) (ai.aj a c));have Z:=K.aj (ai.aj a d) (off (by decide) (ai.aj a d));refine ⟨⟨D,Z⟩,eS ?_⟩;rw [bC (x:=(k:Int)+1) (by omega) (by omega)];refine ⟨(cJ j).length - (k+1),by omega,k+1,ap,n+1,I,_,rfl,by omega,rfl,O,D,by omega,?_⟩;have e:((j.v.mem.take i).map λbg=>(cJ j).map (lV j bg)).flatten++((cJ j).take k).map (lV j bg)++[lV j bg f]=((j.v.mem.take i).map λbg=>(cJ j).map (lV j bg)).flatten++((cJ j).take (k+1)).map (lV j bg):=by rw [e7,l];simp
   rw [<-e];exact VL
  ·have Vy:k=(cJ j).length:=by omega
   subst Vy;refine pU (pz (py (eS ?_)));rw [Qh,bC (x:=(i:Int)+1) (by omega) (by omega)];refine eS (Q:=aO 0 (aV (λenv w=>Go.br.W prog (sub (bo f179) [1,1,1,1]) env (dB prog f179 R) w) (dB prog f179 R))) ⟨j.v.mem.length - (i+1),by omega,i+1,pa,n,pc,_,rfl,by omega,by rw [<-hlen];rfl,h,by omega,?_⟩;rw [hv] at A;have e:((j.v.mem.take i).map λbg=>(cJ j).map (lV j bg)).flatten++(cJ j).map (lV j bg)=((j.v.mem.take (i+1)).map λbg=>(cJ j).map (lV j bg)).flatten:=by rw [e7,hm];simp
   rw [<-e];exact A
 ·have Vw:i=j.v.mem.length:=by omega
  subst Vw;refine pU (pz (eS ?_));rw [hv] at H;exact Vx z pa n pc _ G H
end
end
section
def pw:da:=⟨0,0,false⟩
def dx (ds:List aL) (i:Nat):Int:=dZ (ds.getD i ⟨0,[]⟩)
def f8 (j:b2) (i:Nat):da:=(cJ j).getD (i % (cJ j).length) pw
def nk (j:b2) (i:Nat):aZ:=j.v.mem.getD (i / (cJ j).length) jC
def jt (j:b2) (ds:List aL) (i:Nat):Bool:=(f8 j i).exact && decide (dx ds i>(f8 j i).least)
def th (j:b2) (ds:List aL) (i:Nat):aP:=rG j (nk j i) (24+(f8 j i).a3) (dx ds i) (f8 j i).least
def sJ (j:b2) (ds:List aL) (i:Nat):List (aP×da):=if dx ds i<(f8 j i).least then [(th j ds i,f8 j i)] else []
def hX (j:b2) (ds:List aL) (n:Nat):List (aP×da):=((List.range n).map (sJ j ds)).flatten
theorem Ak (j:b2) (ds:List aL) (n:Nat):hX j ds (n+1)=hX j ds n++sJ j ds n:=by unfold hX;rw [j9];simp
theorem Ap (j:b2):0<(cJ j).length/\(cJ j).length<=2:=by unfold cJ;split<;>simp
noncomputable abbrev gX:Func:=f179
structure nZ (w0 u z:ak) (aH tb:Nat) (r:dr) (m:aZ) (j:b2) (V:fZ) (pa:al) (n pc:Nat) (pb:al) (gM:Nat) (L:List (aP×da)):Prop where
 eE:df w0 z aH tb r m j V (0,0)
 new:ai u z
 j6:bH u z pa n pc (L.map Prod.fst)
 r3:a2 z jb 3 pb n gM (nD (L.map Prod.snd)).flatten
 f9:∀ k,aK pb k->u.heap.size<=k
 le:w0.heap.size<=u.heap.size
theorem nZ.lM {b:ak} (h:nZ w0 u z aH tb r m j V pa n pc pb gM L) (a:ai z b):nZ w0 u b aH tb r m j V pa n pc pb gM L:=
 ⟨h.eE.bx a,h.new.new a,h.j6.new a,a2.new a h.r3,h.f9,h.le⟩
theorem JN:∀ x ∈ (hX j ds n).map Prod.fst,x.words=[]:=by
 intro x c;obtain ⟨p,a,rfl⟩:=cW.1 c;unfold hX at a;obtain ⟨l,b,a⟩:=oO.1 a;obtain ⟨i,_,rfl⟩:=cW.1 b;unfold sJ at a;split at a
 ·simp at a;rw [a];rfl
 ·cases a
theorem JO (h:nZ w0 u z aH tb r m j V pa n pc pb gM (hX j ds i)) (Wv:i<j.v.mem.length * (cJ j).length) (WE:n<=i)
  {aA:Nat} (Vx:av z aA (f8 j i).cells jb) (Wh:u.heap.size<=aA/\¬ aK pb aA) (V5:b8 (dx ds i)) {flag:Bool} (f:flag=jt j ds i) {dl:Nat} {We:ax} {Q:Exit->ax->aE} (dG:∀ env w,Q .ret env w=dB prog gX R .ret env w)
  (Vy:jt j ds i=true->∀ Vt,ao (λk=>k=aH) z Vt->df w0 Vt aH tb r m j V (11,0)->R (.bool false) Vt)
  (VV:jt j ds i=false->∀ Vt VR n' VT VS O We,nZ w0 u Vt aH tb r m j V VR n' VT VS O (hX j ds (i+1))->n'<=i+1->Q .normal (wk ⟨aH,0,none⟩ jj (cJ j).length kS VR n' VT VS n' O dA dl dc dl i We) Vt) :
  Go.br.W prog (sub (bo gX) [1,1,1,1,1,1,1,1,0,1,0,0,1,1,0,0,1,1,0,1]) (qu ⟨aH,0,none⟩ jj (cJ j).length kS pa n pc pb n gM i ⟨aA,0,none⟩ (dx ds i) dA dl dc dl i flag We) Q z:=by
 refine g7 (fn:=gX) (R:=R) dG ?_;rw [Qi];have p:=h.eE;obtain ⟨Vz,V6⟩:=Ap j;have V8:=p.cj.mem;have VA:(f8 j i) ∈ cJ j:=by unfold f8;have B:i % (cJ j).length<(cJ j).length:=Nat.mod_lt _ Vz;rw [dD,bF B];exact kb B
 have A:=Bx p.cj _ VA;cases flag with
 |true=>refine eB rfl ?_;refine aC (xX p 11) ?_;rintro v WA ⟨rfl,V_,VK⟩;exact ⟨_,rfl,Vy f.symm WA V_ VK⟩
 |false=>
  refine cR rfl ⟨_,Vx.cell (i:=1) rfl,a' (λB=>?_) (λV7=>?_)⟩
  ·rintro Wk VQ;have VC:ai z Wk:=by rw [VQ];exact cD _
   clear VQ;have VU:=h.lM VC;obtain ⟨WD,D⟩:=p.bN.view;have hlen:=D.len;have VB:i / (cJ j).length<j.v.mem.length:=(Nat.div_lt_iff_lt_mul Vz).2 Wv;have hm:j.v.mem[i / (cJ j).length]?=some (nk j i):=by unfold nk;rw [dD,bF VB];rfl
   have Ww:=p.cj.ee _ (cg hm);have hdiv:Int.tdiv (i:Int) ((cJ j).length:Int)=((i / (cJ j).length:Nat):Int):=rfl;generalize i / (cJ j).length=q at VB hm hdiv;have Wi:i<=10:=by have:j.v.mem.length * (cJ j).length<=5 * 2:=p1 V8.2 V6;omega
   refine ⟨λy=>∃ V o,df w0 y aH tb r m j V o,⟨_,_,VU.eE⟩,r.View.dL,r.View.dN,r.View.dW,λy X=>by obtain ⟨Wp,Wz,X⟩:=X;exact X.aj.cell (i:=4) rfl,rfl,by omega,?_⟩;rw [hdiv];refine iR (cells:=aZ.cells) aZ.len (by omega) D.rd hm (bC (by omega) (by omega)) hlen λb o Wu=>aZ.aS (nk j i) ⟨λy X=>by obtain ⟨Wp,Wz,X⟩:=X;exact kR (i:=0) λq v an=>by simpa using Wu y X.new q v an,?_⟩
   rintro b1 WB V1 VN;obtain ⟨Y,VE⟩:=bl V1 VN;have Y:av WB b1 (aZ.cells ⟨0,0,false⟩) eH:=Y;clear VN;refine ⟨⟨_,_,(VU.lM VE).eE⟩,dO (vs:=(nk j i).cells) Y rfl (aZ.single _) λWl Wc V'=>?_⟩;have VD:ai Wk Wl:=VE.trans V' λk B e=>by omega
   rintro Wm VO;have VF:ai Wl Wm:=by rw [VO];exact cD _
   clear VO;have L:=VD.new VF;have H:=ai.aj VF Wc;have g:=ai.aj (VC.new L) Vx;refine ⟨λx=>av x b1 (nk j i).cells eH/\av x aA (f8 j i).cells jb,⟨H,g⟩,aZ.aS (nk j i) ⟨λx s=>bK s.1 rfl,(f8 j i).a3,λx s=>s.2.cell (i:=0) rfl,(f8 j i).least,λx s=>s.2.cell (i:=1) rfl,?_⟩⟩;refine aC (yE Wm ⟨A.1,A.2.1⟩) ?_;rintro v WF ⟨rfl,G⟩;refine ⟨_,rfl,⟨ai.aj G H,ai.aj G g⟩,?_⟩;have M:=L.new G;refine aC (vi (VU.lM M).eE (m:=nk j i) (by unfold ec;omega) (24+(f8 j i).a3) V5 ⟨A.2.2.1,by omega⟩) ?_;rintro v Wn ⟨bj,rfl,Wa,P⟩;have l:=G.new P;refine aG.aS bj ⟨rfl,⟨ai.aj l H,ai.aj l g⟩,?_⟩;rintro dn WC V2 VP;have VG:ai Wn WC:=by rw [VP];exact hk _ _
   have VY:=VU.lM M;have Vs:=VY.lM P;have Z:=ai.aj l H;have t:=ai.aj l g;refine ⟨⟨ai.aj VG Z,ai.aj VG t⟩,bH.lN VY.j6 VY.new P Wa (by omega) V2 VP λap I Wo Wt F S=>?_⟩;obtain ⟨cf,VH,_⟩:=Vs.j6.ex;have off:∀ {b:Nat} {cs:ax} {T:TypeId},T≠cy->av Wn b cs T->¬ aK pa b:=λVZ V0 VV=>by obtain ⟨Vv,d⟩:=fI VH VV;exact d.ne V0 (λe=>VZ e.symm) rfl
   have Wd:=F.aj Z (off (by decide) Z);have J:=F.aj t (off (by decide) t);have VL:df w0 Wo aH tb r m j V (0,0):=Vs.eE.az F λk a=>by have:=Vs.j6.f9 k a;have:=p.new.size;have hu:=h.new.size;have:=h.le;exact ⟨by omega,λe=>off (by decide) Vs.eE.aj (e▸a)⟩
   have K:a2 Wo jb 3 pb n gM (nD ((hX j ds i).map Prod.snd)).flatten:=Vs.r3.az F λk a e=>by obtain ⟨cs,d⟩:=fI Vs.r3 a;exact off (by decide) d e
   refine ⟨⟨Wd,J⟩,da.aS (f8 j i) ⟨bK J rfl,?_⟩⟩;rintro Wq Vr V3 N;obtain ⟨E,c⟩:=bl V3 N;have E:av Vr Wq (f8 j i).cells jb:=E;clear N;obtain ⟨inf,V9,Wb,VM,V4⟩:=fL (T:=jb) (z:=da.val ⟨0,0,false⟩) (n:=3) (m:=24) (by kernel_rfl);refine q5 (cells:=da.cells) (sz:=3) da.len da.single Tryz.underlying306 V9 Wb (by rw [VM];rfl) VM (by decide) (by rw [V4];decide) (a2.new c K) (l2:=[f8 j i]) (m:=1) (fk E rfl) rfl (by omega) λVW Vu Wg Wr VX Ws=>?_
   have VJ:hX j ds (i+1)=hX j ds i++[(th j ds i,f8 j i)]:=by rw [Ak,show sJ j ds i=[(th j ds i,f8 j i)] from if_pos B]
   have VI:∀ {b:Nat} {cs:ax} {T:TypeId},T≠jb->av Vr b cs T->¬ aK pb b:=λVZ V0 a=>by obtain ⟨Vv,d⟩:=fI (a2.new c K) a;exact d.ne V0 (λe=>VZ e.symm) rfl
   have C:=VL.bx c;have hle:=h.le;have Wx:=h.new.size;have Wy:=S.size;refine VV f.symm Wg ap (n+1) I VW Vu _ ⟨C.az VX λk a=>⟨by have:=h.f9 k a;omega,λe=>VI (by decide) C.aj (e▸a)⟩,(S.new c).trans VX λk Wj e=>by have:=h.f9 k e;omega,?_,?_,λk a=>?_,hle⟩ (by omega)
   ·rw [VJ,iX];have Vw:bH u Vr ap (n+1) I ((hX j ds i).map Prod.fst++[th j ds i]):=Wt.new c;obtain ⟨Wf,U,_⟩:=Vw.ex;refine Vw.zS (λx s=>?_) VX λk a e=>?_
    ·rcases jL.1 s with s | s
     ·exact JN x s
     ·simp at s;rw [s];rfl
    ·obtain ⟨Vv,d⟩:=fI U a;exact VI (by decide) d e
   ·rw [VJ,iX];exact Wr
   ·rcases Ws k a with e | e
    ·exact h.f9 k e
    ·have:=S.size;have:=c.size;omega
  ·refine VV f.symm z pa n pc pb gM _ ?_ (by omega);rw [Ak,show sJ j ds i=[] from if_neg V7,iW];exact h
end
section
theorem II (V1:ds.length=j.v.mem.length * (cJ j).length)
  (V2:bh u jj (nD (cJ j)).flatten) (VL:bh w0 dA (fM raw).flatten) (S:gS A w0 raw ds) (V9:i<=ds.length) (B:nZ w0 u z aH tb r m j V pa n pc pb gM (hX j ds i)) (VK:n<=i) (I:ax)
  (Vx:∀ env w,iq .ret env w=dB prog gX R .ret env w)
  (O:i<ds.length->jt j ds i=true->∀ Vv F,ai z Vv->ao (λk=>k=aH) Vv F->df w0 F aH tb r m j V (11,0)->R (.bool false) F)
  (M:i<ds.length->jt j ds i=false->∀ F pa n pc pb gM I,nZ w0 u F aH tb r m j V pa n pc pb gM (hX j ds (i+1))->n<=i+1->iq .normal (qt ⟨aH,0,none⟩ jj (cJ j).length kS pa n pc pb n gM dA ds.length dc ds.length (i+1:Nat) I) F)
  (U:i=ds.length->∀ I,iq (.exit 4) (wj ⟨aH,0,none⟩ pa n pc pb n gM I) z) :
  Go.br.W prog (sub (bo gX) [1,1,1,1,1,1,1,1,0,1,0,0]) (qt ⟨aH,0,none⟩ jj (cJ j).length kS pa n pc pb n gM dA ds.length dc ds.length i I) iq z:=by
 have VM:=B.eE;obtain ⟨VC,VD⟩:=Ap j;have VF:=VM.cj.mem;have VN:raw.length=ds.length:=S.1;have VY:ds.length<=10:=by have:j.v.mem.length * (cJ j).length<=5 * 2:=p1 VF.2 VD;omega
 refine g7 (fn:=gX) (R:=R) Vx ?_;rw [P8];have G:=B.eE.new;refine a' (λX=>?_) (λV3=>U (by omega) _);have C:i<ds.length:=by omega
 obtain ⟨d,ar⟩:∃ d,raw[i]?=some d:=⟨_,bF (by omega)⟩;obtain ⟨x,VZ⟩:∃ x,ds[i]?=some x:=⟨_,bF C⟩;have P:=S.2 i d x ar VZ;have T:dx ds i=dZ x:=by unfold dx;rw [dD,VZ];rfl
 refine eo (cells:=bR.cells) bR.len (by omega) (VL.new G) ar rfl VN.symm λb o VB _=>bR.aS d ⟨VB,?_⟩
 refine ea (vs:=d.cells) rfl (bR.single _) λb1 Vv V0 VP VJ=>?_
 rintro N Vs;have Z:ai Vv N:=by rw [Vs];exact cD _
 clear Vs;have f:=VJ.new Z;have Y:i % (cJ j).length<(cJ j).length:=Nat.mod_lt _ VC;have VE:(cJ j)[i % (cJ j).length]?=some (f8 j i):=by unfold f8;rw [dD,bF Y];rfl
 have VO:Int.tmod (i:Int) ((cJ j).length:Int)=((i % (cJ j).length:Nat):Int):=rfl;have VQ:=ai.aj Z VP;refine ⟨λy=>ai N y,ao.refl _ _,rfl,by omega,?_⟩;rw [VO];refine iR (cells:=da.cells) da.len (by omega) (V2.new (B.new.new f)) VE rfl rfl λaA V' VA=>da.aS (f8 j i) ⟨λy H=>kR (i:=0) λq v an=>by simpa using VA y H q v an,bR.aS d ⟨λy H=>bK (ai.aj H VQ) rfl,?_⟩⟩
 have E:∀ {y:ak},ai N y->a_ 196 [d.val] y λv w'=>v=.int .u64 (dx ds i)/\ai y w':=by intro y H;rw [T];exact q1 (P.az (ao.b3 (G.new (f.new H))) λ_ _ e=>e)
 have hu:b8 (dx ds i):=by
  rw [T];unfold dZ;cases hw:x.words with
  |nil=>exact hd
  |cons a l=>exact P.wf a (by rw [hw];simp)
 have one:∀ {y:ak} {Vu:Nat},ai N y->av y Vu (f8 j i).cells jb->N.heap.size<=Vu->∀ (flag:Bool),flag=jt j ds i->∀ (I:ax),Go.br.W prog (sub (bo gX) [1,1,1,1,1,1,1,1,0,1,0,0,1,1,0,0,1,1,0,1]) (qu ⟨aH,0,none⟩ jj (cJ j).length kS pa n pc pb n gM i ⟨Vu,0,none⟩ (dx ds i) dA ds.length dc ds.length i flag I) (aO 6 (aO 5 (aV (λenv w=>Go.br.W prog (sub (bo gX) [1,1,1,1,1,1,1,1,0,1,0,0,1,1,1]) env (bG prog gX R iq) w) (bG prog gX R iq)))) y:=by
  intro y Vu H Vz VX flag K I;have V_:=f.size;have V5:=B.new.size;refine JO (B.lM (f.new H)) (by omega) VK Vz ⟨by omega,λVH=>?_⟩ hu K (λ_ _=>rfl) (λVy F VG Vr=>O C Vy y F (f.new H) VG Vr) (λVy F VR n' VT VS Vt V7 Q VI=>?_)
  ·have:=B.r3.lt VH;omega
  ·refine py (py (eS ?_));rw [Qk,bC (x:=(i:Int)+1) (by omega) (by omega)];exact M C Vy F VR n' VT VS Vt _ Q VI
 have mb:∀ {t:Bool},(f8 j i).exact=true->t=decide (dx ds i>(f8 j i).least)->t=jt j ds i:=λhe V6=>by unfold jt;rw [he,V6];rfl
 have VW:(f8 j i).exact=false->false=jt j ds i:=λhe=>by unfold jt;rw [he];rfl
 refine ⟨?_,?_⟩
 ·refine aC (E (ao.refl _ _)) ?_;rintro v V8 ⟨rfl,g⟩;refine ⟨_,rfl,g,?_⟩;rintro Vw VU J D;obtain ⟨s,h⟩:=bl J D;have s:av VU Vw pw.cells jb:=s;clear D;have V4:=g.size;refine ⟨g.new h,dO (vs:=(f8 j i).cells) s rfl (da.single _) λVV c L=>?_⟩;have p:ai N VV:=(g.new h).trans L λk X e=>by omega
  exact ⟨p,_,c.cell (i:=2) rfl,fS (λhe=>⟨_,c.cell (i:=1) rfl,one p c (by omega) _ (mb he rfl) _⟩) (λhe=>one p c (by omega) _ (VW he) _)⟩
 ·rintro Vw VU J D;obtain ⟨s,h⟩:=bl J D;have s:av VU Vw pw.cells jb:=s;clear D;refine ⟨h,?_⟩;refine aC (E h) ?_;rintro v V8 ⟨rfl,g⟩;refine ⟨_,rfl,h.new g,dO (vs:=(f8 j i).cells) (ai.aj g s) rfl (da.single _) λVV c L=>?_⟩;have p:ai N VV:=(h.new g).trans L λk X e=>by omega
  exact ⟨p,_,c.cell (i:=2) rfl,fS (λhe=>⟨_,c.cell (i:=1) rfl,one p c (by omega) _ (mb he rfl) _⟩) (λhe=>one p c (by omega) _ (VW he) _)⟩
theorem H7 (o:df w0 u aH tb r m j V (0,0)) (B:ds.length=j.v.mem.length * (cJ j).length)
  (M:bh u jj (nD (cJ j)).flatten) (I:bh w0 dA (fM raw).flatten) (C:gS A w0 raw ds) (e:ax) {QX:Exit->ax->aE} (x:∀ env w,QX .ret env w=dB prog gX R .ret env w)
  (f:(List.range ds.length).any (jt j ds)=true->∀ z b,ai u z->ao (λk=>k=aH) z b->df w0 b aH tb r m j V (11,0)->R (.bool false) b)
  (c:(List.range ds.length).any (jt j ds)=false->∀ b pa n pc pb gM e,nZ w0 u b aH tb r m j V pa n pc pb gM (hX j ds ds.length)->n<=ds.length->
   Go.br.W prog (sub (bo gX) [1,1,1,1,1,1,1,1,1]) (wj ⟨aH,0,none⟩ pa n pc pb n gM e) QX b) :
  cu prog (.loop (sub (bo gX) [1,1,1,1,1,1,1,1,0,1,0,0])) (qt ⟨aH,0,none⟩ jj (cJ j).length kS none 0 0 none 0 0 dA ds.length dc ds.length 0 e)
   (aO 4 (aV (λenv w=>Go.br.W prog (sub (bo gX) [1,1,1,1,1,1,1,1,1]) env QX w) QX)) u:=by
 refine c2 mix (λq env z=>∃ (i:Nat) (pa:al) (n pc:Nat) (pb:al) (gM:Nat) (e:ax),q=ds.length - i/\i<=ds.length/\env=qt ⟨aH,0,none⟩ jj (cJ j).length kS pa n pc pb n gM dA ds.length dc ds.length i e/\nZ w0 u z aH tb r m j V pa n pc pb gM (hX j ds i)/\n<=i/\∀ k,k<i->jt j ds k=false) ds.length
  ⟨0,none,0,0,none,0,_,by omega,by omega,rfl,⟨o,ao.refl _ _,bH.nil _ _,a2.nil _ _ _,λk c=>absurd c nr,o.new.size⟩,by omega,λk c=>by omega⟩ ?_
 rintro q env z ⟨i,pa,n,pc,pb,gM,e,rfl,N,rfl,d,l,a⟩;refine II B M I C N d l e (R:=R) x (λh y O b H E p=>f ?_ O b (d.new.new H) E p) (λh y b J n' L K t s g G=>?_) (λD s=>?_)
 ·exact p2.2 ⟨i,fE.2 h,y⟩
 ·exact eS ⟨ds.length - (i+1),by omega,i+1,J,n',L,K,t,s,rfl,by omega,rfl,g,G,λk c=>by
   rcases p0.1 c with c | rfl
   ·exact a k c
   ·exact y⟩
 ·subst D;refine pU (pz (eS ?_));refine c ?_ z pa n pc pb gM _ d l;rw [x9];intro k F;rw [a k (fE.1 F)];simp
end
section
theorem eG.uy {bq:ak} {h:fZ} {R hi:cn} (l:eG A w0 u aH tb B r m j V R bE) (b:R.ask=none) (g:R.dC=false) (i:ao (λk=>k=aH) bE bq) (c:df w0 bq aH tb r m j h hi.out) (o:hi.a7=R.a7) (p:hi.ask=none) (q:hi.dC=false):eG A w0 u aH tb B r m j h hi bq:=by
 obtain ⟨n,d,f,a⟩:=l.fO;rw [b] at a;refine ⟨l.az.trans i λk _ e=>.inr e,c,n,?_,by rw [f,g,q],?_⟩
 ·rw [o];exact d.az i λe=>c.ne e.symm
 ·rw [p];exact a
theorem eG.seq {f:ak} {c:Nat} {R:cn} (p:ao (λk=>k=tb\/k=aH) u bE) (q:ai bE z) (b:eG A w0 z aH tb c r m j V R f) (t:B<=c):eG A w0 u aH tb B r m j V R f:=by
 refine ⟨(p.new q).trans b.az λ_ _ e=>e,b.eE,?_⟩;obtain ⟨g,n,o,a⟩:=b.fO;refine ⟨g,n,o,?_⟩;cases d:R.ask with
 |none=>rw [d] at a;exact a
 |some vs=>rw [d] at a;obtain ⟨h,w1,i,s,l⟩:=a;exact ⟨h,w1,i,by omega,l⟩
def FE:aP:=⟨0,0,0,0,0,0,[],0,0⟩
def l_ (p:aP×da) (pS:Int):Bool:=decide (pS≠p.1.old) && (decide (pS≠p.2.least) && (p.2.exact || decide (pS<p.2.least)))
def m6 (L:List (aP×da)) (ds:List aL) (i:Nat):Bool:=l_ (L.getD i (FE,pw)) (dx ds i)
theorem H8 (VY:L.length=ds.length) (VQ:ds.length<=100)
  (Y:df w0 z aH tb r m j V (0,0)) (VI:bh w0 dA (fM raw).flatten) (S:gS A w0 raw ds) (VZ:i<=ds.length) (VV:n=L.length) (VL:bH u z pa n pc (L.map Prod.fst)) (VC:bh z pb (nD (L.map Prod.snd)).flatten) (J:ax)
  (Vw:∀ env w,iq .ret env w=dB prog gX R .ret env w)
  (Q:i<ds.length->m6 L ds i=true->∀ Vu K,ai z Vu->ao (λk=>k=aH) Vu K->df w0 K aH tb r m j V (11,0)->R (.bool false) K)
  (O:i<ds.length->m6 L ds i=false->∀ K J,ai z K->iq .normal (rP ⟨aH,0,none⟩ pa n pc pb n gM dA ds.length dc ds.length (i+1:Nat) J) K)
  (T:i=ds.length->∀ J,iq (.exit 7) (zB J) z) :
  Go.br.W prog (sub (bo gX) [1,1,1,1,1,1,1,1,1,1,1,0,1,0,0]) (rP ⟨aH,0,none⟩ pa n pc pb n gM dA ds.length dc ds.length i J) iq z:=by
 have VJ:raw.length=ds.length:=S.1;refine g7 (fn:=gX) (R:=R) Vw ?_;rw [P9];have H:=Y.new;refine a' (λU=>?_) (λVU=>T (by omega) _);have C:i<ds.length:=by omega
 obtain ⟨d,ar⟩:∃ d,raw[i]?=some d:=⟨_,bF (by omega)⟩;obtain ⟨x,VS⟩:∃ x,ds[i]?=some x:=⟨_,bF C⟩;obtain ⟨p,VG⟩:∃ p,L[i]?=some p:=⟨_,bF (by omega)⟩;have VH:L.getD i (FE,pw)=p:=by rw [dD,VG];rfl
 have VA:=S.2 i d x ar VS;have VB:dx ds i=dZ x:=by unfold dx;rw [dD,VS];rfl
 obtain ⟨cf,I,Vs⟩:=VL.ex;have VR:cf.length=L.length:=by rw [Vs.1,fC]
 obtain ⟨v,an⟩:∃ v,cf[i]?=some v:=⟨_,bF (by omega)⟩;have VK:=Vs.2 i v p.1 an (by rw [d',VG];rfl);have Vr:v.Old=p.1.old:=by rw [VK.eq];rfl
 refine eo (cells:=bR.cells) bR.len (by omega) (VI.new H) ar rfl VJ.symm λb o Vz _=>bR.aS d ⟨Vz,?_⟩
 refine ea (vs:=d.cells) rfl (bR.single _) λb1 Vu VT VM VF=>?_
 rintro P Vt;have X:ai Vu P:=by rw [Vt];exact cD _
 clear Vt;have a:=VF.new X;have VN:=ai.aj X VM;refine ⟨λy=>ai P y,ao.refl _ _,bR.aS d ⟨λy c=>bK (ai.aj c VN) rfl,?_⟩⟩;have VD:(L.map Prod.snd)[i]?=some p.2:=by rw [d',VG];rfl
 refine iR (cells:=da.cells) da.len (by omega) (VC.new a) VD rfl (by rw [fC];exact VV) λaA V0 Vy=>da.aS p.2 ⟨λy c=>kR (i:=0) λq v an=>by simpa using Vy y c q v an,?_⟩
 have E:∀ {y:ak},ai P y->a_ 196 [d.val] y λv w'=>v=.int .u64 (dx ds i)/\ai y w':=by intro y c;rw [VB];exact q1 (VA.az (ao.b3 (H.new (a.new c))) λ_ _ e=>e)
 have one:∀ {y:ak},ai P y->∀ (flag:Bool),flag=m6 L ds i->∀ (J:ax),Go.br.W prog (sub (bo gX) [1,1,1,1,1,1,1,1,1,1,1,0,1,0,0,1,1,0,0,1,1,1]) (m5 ⟨aH,0,none⟩ pa n pc pb n gM dA ds.length dc ds.length i flag J) (aO 8 (aV (λenv w=>Go.br.W prog (sub (bo gX) [1,1,1,1,1,1,1,1,1,1,1,0,1,0,0,1,1,1]) env (bG prog gX R iq) w) (bG prog gX R iq))) y:=by
  intro y c flag B J;refine g7 (fn:=gX) (R:=R) (λ_ _=>rfl) ?_;rw [Ql];cases flag with
  |true=>refine eB rfl ?_;refine aC (xX (Y.bx (a.new c)) 11) ?_;rintro v K ⟨rfl,VE,Z⟩;exact ⟨_,rfl,Q C B.symm y K (a.new c) VE Z⟩
  |false=>refine cR rfl (py (eS ?_));rw [Qn,bC (x:=(i:Int)+1) (by omega) (by omega)];exact O C B.symm y _ (a.new c)
 have G:m6 L ds i=l_ p (dx ds i):=by unfold m6;rw [VH]
 refine ⟨?_,?_⟩
 ·refine aC (E (ao.refl _ _)) ?_;rintro v VX ⟨rfl,f⟩;refine ⟨_,rfl,f,?_⟩;rintro Vv VO M D;obtain ⟨h,g⟩:=bl M D;have h:av VO Vv pw.cells jb:=h;clear D;have VW:=f.size;refine ⟨f.new g,dO (vs:=p.2.cells) h rfl (da.single _) λVP s N=>?_⟩;have c:ai P VP:=(f.new g).trans N λk U e=>by omega
  refine eo (cells:=aG.cells) aG.len (by omega) (l:=cf) (a2.new (a.new c) I).rd an rfl (by omega) λb o _ Vx=>⟨_,Vx 4 _ rfl,?_⟩
  rw [Vr];refine dw (λt=>⟨_,s.cell (i:=1) rfl,dw (λF=>⟨_,s.cell (i:=2) rfl,fS (λhe=>one c _ ?_ _) (λhe=>⟨_,s.cell (i:=1) rfl,one c _ ?_ _⟩)⟩) (λF=>one c _ ?_ _)⟩) (λt=>one c _ ?_ _)
  ·rw [G];unfold l_;rw [decide_eq_true t,decide_eq_true F,he];rfl
  ·rw [G];unfold l_;rw [decide_eq_true t,decide_eq_true F,he];rfl
  ·rw [G];unfold l_;rw [decide_eq_true t,decide_eq_false (λe=>e F)];rfl
  ·rw [G];unfold l_;rw [decide_eq_false (λe=>e t)];rfl
 ·rintro Vv VO M D;obtain ⟨h,g⟩:=bl M D;have h:av VO Vv pw.cells jb:=h;clear D;refine ⟨g,?_⟩;refine aC (E g) ?_;rintro v VX ⟨rfl,f⟩;refine ⟨_,rfl,g.new f,dO (vs:=p.2.cells) (ai.aj f h) rfl (da.single _) λVP s N=>?_⟩;have c:ai P VP:=(g.new f).trans N λk U e=>by omega
  refine eo (cells:=aG.cells) aG.len (by omega) (l:=cf) (a2.new (a.new c) I).rd an rfl (by omega) λb o _ Vx=>⟨_,Vx 4 _ rfl,?_⟩
  rw [Vr];refine dw (λt=>⟨_,s.cell (i:=1) rfl,dw (λF=>⟨_,s.cell (i:=2) rfl,fS (λhe=>one c _ ?_ _) (λhe=>⟨_,s.cell (i:=1) rfl,one c _ ?_ _⟩)⟩) (λF=>one c _ ?_ _)⟩) (λt=>one c _ ?_ _)
  ·rw [G];unfold l_;rw [decide_eq_true t,decide_eq_true F,he];rfl
  ·rw [G];unfold l_;rw [decide_eq_true t,decide_eq_true F,he];rfl
  ·rw [G];unfold l_;rw [decide_eq_true t,decide_eq_false (λe=>e F)];rfl
  ·rw [G];unfold l_;rw [decide_eq_false (λe=>e t)];rfl
end
section
def oH (L:List (aP×da)) (a:cn):cn:=
 if a.ok=false then a else if (List.range a.done.length).any (m6 L a.done)=true then ⟨false,[],(11,0),a.a7,none,false⟩ else ⟨true,[],(0,0),a.a7,none,false⟩
def ti (j:b2) (a:cn):cn:=
 if a.ok=false then a else if (List.range a.done.length).any (jt j a.done)=true then ⟨false,[],(11,0),a.a7,none,false⟩
 else oH (hX j a.done a.done.length) (bL a.a7 ((hX j a.done a.done.length).map Prod.fst))
def hq (j:b2) (G:List (List aL)):cn:=ti j (bL G (hp j))
theorem Bb (j:b2):(hp j).length=j.v.mem.length * (cJ j).length:=by
 unfold hp;induction j.v.mem with
 |nil=>simp
 |cons a l b=>simp [b,ra,Nat.add_comm]
theorem nY {T:gg} {G:List (List aL)} (VC:df w0 u aH tb r m j V (0,0)) (VZ:eO A w0 u tb T G) (VJ:fT T) :
  a_ 179 [ptr aH] u (k5 A w0 u aH tb r m j V (hq j G)):=by
 refine bc Tryz.func179 ?_;rw [ptr,Q5];have V5:=VC.aj.lt;have V7:=VZ.aj.lt;have VN:=VC.cj.mem;obtain ⟨V_,VK⟩:=Ap j;have V1:j.v.mem.length * (cJ j).length<=10:=by have:j.v.mem.length * (cJ j).length<=5 * 2:=p1 VN.2 VK;omega
 refine aC (KN VC) ?_;rintro v bE ⟨jj,kS,rfl,Q,V0,VM⟩;have D:=VC.bx Q;have VW:=Q.size;refine ⟨_,_,_,rfl,_,_,_,D.aj.cell (i:=4) rfl,?_⟩;refine JM D V0 _ λWc pa n pc VD S VX=>?_
 refine g7 (fn:=gX) (R:=k5 A w0 u aH tb r m j V (hq j G)) (λ_ _=>rfl) ?_;rw [Qg];have J:=Q.new S;refine aC (np (D.bx S) (VZ.new J) VJ D.new (by omega) (by omega) VX (by rw [Bb];omega)) ?_;rintro v bu ⟨dA,dc,raw,rfl,b,VV,p,E⟩;have Vu:=b.az;have b:eG A w0 u aH tb u.heap.size r m j V (bL G (hp j)) bu:=eG.of b J VW;have p:gS A w0 raw (bL G (hp j)).done:=p;have E:(bL G (hp j)).ok=true->raw.length=(hp j).length:=E;refine ⟨_,_,_,_,rfl,er (λd=>?_) (λt=>?_)⟩
 ·have d:(bL G (hp j)).ok=false:=d;have s:hq j G=bL G (hp j):=if_pos d;rw [s];exact ⟨by rw [d],b⟩
 have t:(bL G (hp j)).ok=true:=t;obtain ⟨V3,H,U⟩:=oj t;have l:=b.eE;rw [V3] at l;have s:hq j G=if (List.range (bL G (hp j)).done.length).any (jt j (bL G (hp j)).done)=true then ⟨false,[],(11,0),(bL G (hp j)).a7,none,false⟩
   else oH (hX j (bL G (hp j)).done (bL G (hp j)).done.length) (bL (bL G (hp j)).a7 ((hX j (bL G (hp j)).done (bL G (hp j)).done.length).map Prod.fst)):=by
  unfold hq ti;rw [if_neg (by rw [t];simp)]
 have Z:(bL G (hp j)).done.length=j.v.mem.length * (cJ j).length:=by rw [<-p.1,E t,Bb]
 have F:=V0.new S;have VL:bh bu jj (nD (cJ j)).flatten:=F.az Vu (g9 F λk P e=>by have:=VM k P;rcases e with e | e<;>omega);rw [p.1];generalize bL G (hp j)=w at b p Z s H U l;clear E t V3;refine H7 l Z VL VV p _ (R:=k5 A w0 u aH tb r m j V (hq j G)) (QX:=bG prog gX (k5 A w0 u aH tb r m j V (hq j G)) (dB prog gX (k5 A w0 u aH tb r m j V (hq j G)))) (λ_ _=>rfl) (λN z V9 f VR Vx=>?_) (λN z pb VE VB V8 VY Wa a V2=>?_)
 ·rw [s,if_pos N];exact ⟨rfl,b.uy H U ((ao.b3 f).trans VR λ_ _ e=>e) Vx rfl rfl rfl⟩
 rw [if_neg (by rw [N];simp)] at s;generalize hX j w.done w.done.length=L at a s;rw [Qj];obtain ⟨Wb,X,Vz,Y⟩:=b.fO;rw [H] at Y;rw [U] at Vz;have V4:=l.aj.lt;have V6:=X.aj.lt;have VI:VE=L.length:=by have:=a.j6.len;rwa [fC] at this
 refine aC (np a.eE (X.new a.new) ⟨Y,Vz⟩ l.new (by omega) (by omega) a.j6 (by rw [fC];omega)) ?_;rintro v VF ⟨VG,VH,M,rfl,g,Vv,c,y⟩;have K:=g.az;have g:eG A w0 u aH tb u.heap.size r m j V (bL w.a7 (L.map Prod.fst)) VF:=eG.seq b.az a.new g (by have:=b.az.size;omega);have c:gS A w0 M (bL w.a7 (L.map Prod.fst)).done:=c;have y:(bL w.a7 (L.map Prod.fst)).ok=true->M.length=(L.map Prod.fst).length:=y;refine ⟨_,_,_,_,rfl,er (λd=>?_) (λt=>?_)⟩
 ·have d:(bL w.a7 (L.map Prod.fst)).ok=false:=d;rw [s,show oH L (bL w.a7 (L.map Prod.fst))=bL w.a7 (L.map Prod.fst) from if_pos d];exact ⟨by rw [d],g⟩
 have t:(bL w.a7 (L.map Prod.fst)).ok=true:=t;obtain ⟨VU,O,B⟩:=oj t;have o:=g.eE;rw [VU] at o;have W:L.length=(bL w.a7 (L.map Prod.fst)).done.length:=by rw [<-c.1,y t,fC]
 unfold oH at s;rw [if_neg (by rw [t];simp)] at s;rw [c.1];generalize bL w.a7 (L.map Prod.fst)=C at g c s O B o W;have Vy:bH bu VF pb VE VB (L.map Prod.fst):=a.j6.az K λk e=>by rcases e with e | e<;>omega
 have Vr:bh VF V8 (nD (L.map Prod.snd)).flatten:=a.r3.rd.az K (g9 a.r3.rd λk P e=>by have:=a.f9 k P;rcases e with e | e<;>omega);refine c2 mix (λq env z=>∃ (i:Nat) (VD:ax),q=C.done.length - i/\i<=C.done.length/\env=rP ⟨aH,0,none⟩ pb VE VB V8 VE VY VG C.done.length VH C.done.length i VD/\ai VF z/\∀ k,k<i->m6 L C.done k=false) C.done.length
  ⟨0,_,by omega,by omega,rfl,ao.refl _ _,λk H=>by omega⟩ ?_
 rintro q env z ⟨i,VD,rfl,V',rfl,f,x⟩;refine H8 W (by omega) (o.bx f) Vv c V' VI (Vy.new f) (Vr.new f) VD (R:=k5 A w0 u aH tb r m j V (hq j G)) (λ_ _=>rfl) (λVs N Wd V9 Vt VP Vw=>?_) (λVs N V9 VA VS=>?_) (λVO VA=>?_)
 ·rw [s,if_pos (p2.2 ⟨i,fE.2 Vs,N⟩)];exact ⟨rfl,g.uy O B ((ao.b3 (f.new Vt)).trans VP λ_ _ e=>e) Vw rfl rfl rfl⟩
 ·exact eS ⟨C.done.length - (i+1),by omega,i+1,VA,rfl,by omega,rfl,f.new VS,λk H=>by
   rcases p0.1 H with H | rfl
   ·exact x k H
   ·exact N⟩
 ·subst VO;refine pU (pz (eS ?_));rw [Qm];have VT:¬ (List.range C.done.length).any (m6 L C.done)=true:=by intro h;obtain ⟨k,VQ,I⟩:=p2.1 h;rw [x k (fE.1 VQ)] at I;cases I
  rw [s,if_neg VT];exact ⟨rfl,g.uy O B (ao.b3 f) (o.bx f) rfl rfl rfl⟩
end
end Go.Proofs.YtmkljjbioomepaaGreat
