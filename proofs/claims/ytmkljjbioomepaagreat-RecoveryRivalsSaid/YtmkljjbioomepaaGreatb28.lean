import Derived.Test.YtmkljjbioomepaaGreatb27
import Derived.Test.YtmkljjbioomepaaGreatb20
set_option linter.all false
set_option maxHeartbeats 4000000
set_option maxRecDepth 100000
namespace Go.Proofs.YtmkljjbioomepaaGreat
open Go.Proofs.Tryz Go.bu
variable {A:a3} {B dc kY i n pc gN aH tb:Nat} {L:List (aW×da)} {iw:Exit->ax->aE} {R:cB} {V:ga} {dB jk pa pb:an} {ds:List aO} {j:b3} {m:aY} {o:Int×Int} {r:dt} {raw:List bO} {u bE w0 z:ak}
section
abbrev je:TypeId:=309
def nK (l:List da):List ax:=l.map da.cells
def cL (j:b3):List da:=
 ⟨j.dead,j.dS,true⟩::(if mK j.prev=true/\pu j.prev≠j.dead then [⟨pu j.prev,kE j.prev+1,false⟩] else [])
theorem B2 (h:zE j):∀ f ∈ cL j,0<=f.a1/\f.a1<6/\0<=f.least/\f.least<=60:=by
 intro f a;have c:=h.dead;have d:=h.dS;unfold cL at a;rcases e6.1 a with rfl | a
 ·exact ⟨c.1,c.2,by show 0<=j.dS;omega,d.2⟩
 split at a
 ·rename_i b;have b:=of_decide_eq_true (show mK j.prev=true from b.1);obtain ⟨i,k⟩:=uY b;obtain ⟨e,g,_⟩:=A8 b;simp at a;subst a;refine ⟨?_,?_,?_,?_⟩
  ·show 0<=pu j.prev;omega
  ·show pu j.prev<6;omega
  ·show 0<=kE j.prev+1;omega
  ·show kE j.prev+1<=60;omega
 ·cases a
section
variable {A:a3} {w0 u:ak} {aH tb:Nat} {r:dt} {m:aY} {j:b3} {V:ga} {T:fV} {G:List (List aO)}
theorem Lf (q:dh w0 u aH tb r m j V o):a9 219 [ptr aH] u λv bs=>∃ a cap,v=.slice a (cL j).length cap/\ai u bs/\bh bs a (nK (cL j)).flatten/\∀ k,aL a k->u.heap.size<=k:=by
 refine bc Tryz.func219 ?_;rw [ptr,Rv];rintro w1 B;have b:ai u w1:=by rw [B];exact cE _
 clear B;have f:=q.bz b;have ar:=q.bM.dead;have M:=q.bM.dS;have N:=q.bM.prev;have W:=q.cf.dS;refine ⟨λy=>ai w1 y,ao.refl _ _,r.eO,λy O=>(ai.aj O f.aj).cell (i:=5) rfl,r.fv,λy O=>(ai.aj O f.aj).cell (i:=6) rfl,?_⟩;dsimp only;rw [ar,M,kh (x:=j.dS) (by omega) (by omega)];rintro b1 P J C;obtain ⟨d,c⟩:=bl J C;have d:av P b1 (da.cells ⟨j.dead,j.dS,true⟩) je:=d;clear C;have w:=f.bz c;refine ⟨c,r.g8,w.aj.cell (i:=7) rfl,?_⟩;rw [N];refine aC (Hw P q.cf.prev) ?_;rintro v Q ⟨rfl,rfl⟩;have aI:∀ k,aL (some ⟨b1,0,none⟩) k->u.heap.size<=k:=λk G=>by obtain ⟨Z,l⟩:=G;simp at l;have:=b.size;omega
 have one:∀ F,cL j=F->F=[⟨j.dead,j.dS,true⟩]->∃ a cap,Value.slice (some ⟨b1,0,none⟩) 1 1=.slice a (cL j).length cap/\ai u Q/\bh Q a (nK (cL j)).flatten/\∀ k,aL a k->u.heap.size<=k:=by intro F H I;rw [H,I];exact ⟨_,_,rfl,b.new c,fm d rfl,aI⟩
 refine ⟨_,_,_,rfl,fX (λE=>⟨r.eO,w.aj.cell (i:=5) rfl,dw (λh=>?_) (λhe=>?_)⟩) (λE=>?_)⟩
 ·have h:pu j.prev≠j.dead:=by rw [<-ar];exact h
  have U:cL j=[⟨j.dead,j.dS,true⟩]++[⟨pu j.prev,kE j.prev+1,false⟩]:=by unfold cL;rw [if_pos ⟨E,h⟩];rfl
  have t:=of_decide_eq_true (show mK j.prev=true from E);obtain ⟨V4,V5⟩:=uY t;obtain ⟨V2,V3,_⟩:=A8 t;rw [bC (x:=kE j.prev+1) (by omega) (by omega),kh (x:=kE j.prev+1) (by omega) (by omega)];rintro aA R K D;obtain ⟨p,g⟩:=bl K D;have p:av R aA (da.cells ⟨pu j.prev,kE j.prev+1,false⟩) je:=p;clear D;obtain ⟨inf,X,au,A,L⟩:=fO (T:=je) (z:=da.val ⟨0,0,false⟩) (n:=3) (m:=24) (by kernel_rfl);have Y:a0 R je 3 (some ⟨b1,0,none⟩) 1 1 ([(⟨j.dead,j.dS,true⟩:da)].map da.cells).flatten:=⟨rfl,.inr ⟨b1,_,rfl,ai.aj g d,cQ 1,by decide,rfl,rfl⟩⟩;refine rb (cells:=da.cells) (sz:=3) da.len da.single Tryz.underlying306 X au (by rw [A];rfl) A (by decide) (by rw [L];decide) Y (l2:=[⟨pu j.prev,kE j.prev+1,false⟩]) (m:=1) (fm p rfl) rfl (by decide) λap s V6 H I S=>?_
  rw [U];refine ⟨ap,s,rfl,?_,H.rd,λk G=>by
   rcases S k G with e | e
   ·exact aI k e
   ·have:=((b.new c).new g).size;omega⟩
  refine ((b.new c).new g).trans I λk G e=>?_
  obtain ⟨Z,l⟩:=e;simp at l;have:=b.size;omega
 ·exact one _ rfl (by unfold cL;rw [if_neg (λe=>e.2 (by rw [<-ar];exact he))])
 ·exact one _ rfl (by unfold cL;rw [if_neg (λe=>by rw [E] at e;simp at e)])
def lX (j:b3) (bg:aY) (f:da):aW:=mL j bg (24+f.a1) 1
def hp (j:b3):List aW:=(j.v.mem.map λbg=>(cL j).map (lX j bg)).flatten
theorem KC (E:dh w0 u aH tb r m j V o) (Wp:bh u jk (nK (cL j)).flatten) (B:ax)
  (V8:∀ bs pa n pc B,ai u bs->bH u bs pa n pc (hp j)->Go.bu.W prog (sub (bp f179) [1,1,1,1]) (z1 ⟨aH,0,none⟩ jk (cL j).length kY pa n pc B) (dD prog f179 R) bs) :
  cv prog (.loop (sub (bp f179) [1,1,1,0,1,0,0])) (ue ⟨aH,0,none⟩ jk (cL j).length kY none 0 0 r.View.ed r.View.ei r.View.eA r.View.ei 0 B)
   (aM 0 (aU (λenv w=>Go.bu.W prog (sub (bp f179) [1,1,1,1]) env (dD prog f179 R) w) (dD prog f179 R))) u:=by
 obtain ⟨WA,t⟩:=E.bM.view;have hlen:=t.len;have Ws:=E.cf.mem;have Wq:(cL j).length<=2:=by unfold cL;split<;>simp
 have V6:=B2 E.cf;have Wf:=E.aj.lt;refine c2 mix (λq env z=>∃ (i:Nat) (pa:an) (n pc:Nat) (B:ax),q=j.v.mem.length - i/\i<=j.v.mem.length/\env=ue ⟨aH,0,none⟩ jk (cL j).length kY pa n pc r.View.ed r.View.ei r.View.eA r.View.ei i B/\ai u z/\n<=2 * i/\
   bH u z pa n pc ((j.v.mem.take i).map λbg=>(cL j).map (lX j bg)).flatten) j.v.mem.length
  ⟨0,none,0,0,_,by omega,by omega,rfl,ao.refl _ _,by omega,bH.nil _ _⟩ ?_
 rintro q env z ⟨i,pa,n,pc,B,rfl,WC,rfl,G,Ww,H⟩;refine g_ (fn:=f179) (R:=R) (λ_ _=>rfl) ?_;rw [Qy,hlen];have L:=E.new.new G;refine a8 (λWu=>?_) (λWr=>?_)
 ·obtain ⟨bg,hm⟩:∃ bg,j.v.mem[i]?=some bg:=⟨_,bD (by omega)⟩;have Wv:=E.cf.ef bg (b7 hm);refine er (cells:=aY.cells) aY.len (by omega) (t.rd.new L) hm rfl rfl λb WD V4 _=>aY.aR bg ⟨V4,?_⟩
  refine ea (vs:=bg.cells) rfl (aY.single _) λV2 WH Wn Wb M=>?_
  refine c2 mix (λq env y=>∃ (k:Nat) (pa:an) (n pc:Nat) (B:ax),q=(cL j).length - k/\k<=(cL j).length/\env=wJ ⟨aH,0,none⟩ jk (cL j).length kY pa n pc ⟨V2,0,none⟩ r.View.ed j.v.mem.length r.View.eA j.v.mem.length i jk (cL j).length kY (cL j).length k B/\ai u y/\av y V2 bg.cells eI/\n<=2 * i+k/\
    bH u y pa n pc (((j.v.mem.take i).map λbg=>(cL j).map (lX j bg)).flatten++((cL j).take k).map (lX j bg))) (cL j).length
   ⟨0,pa,n,pc,_,by omega,by omega,rfl,G.new M,Wb,by omega,by simpa using H.new M⟩ ?_
  rintro q env y ⟨k,pa,n,pc,B,rfl,Wt,rfl,h,Y,Wx,A⟩;refine g_ (fn:=f179) (R:=R) (λ_ _=>rfl) ?_;rw [Qz];refine a8 (λWe=>?_) (λWd=>?_)
  ·obtain ⟨f,l⟩:∃ f,(cL j)[k]?=some f:=⟨_,bD (by omega)⟩;have C:=V6 f (b7 l);refine er (cells:=da.cells) da.len (by omega) (Wp.new h) l rfl rfl λWB WE J _=>da.aR f ⟨J,?_⟩
   refine ea (vs:=f.cells) rfl (da.single _) λWi Wy Wo Wc V_=>?_
   rintro Wg X;have N:ai Wy Wg:=by rw [X];exact cE _
   clear X;have g:=V_.new N;have c:=ai.aj g Y;have d:=ai.aj N Wc;refine ⟨λx=>av x V2 bg.cells eI/\av x Wi f.cells je,⟨c,d⟩,aY.aR bg ⟨λx Wa=>bJ Wa.1 rfl,f.a1,λx Wa=>Wa.2.cell (i:=0) rfl,?_⟩⟩;refine aC (y3 Wg ⟨C.1,C.2.1⟩) ?_;rintro v WF ⟨rfl,s⟩;refine ⟨_,rfl,⟨ai.aj s c,ai.aj s d⟩,?_⟩;refine aC (u1 (E.bz ((h.new g).new s)) (m:=bg) (by unfold dN;omega) (24+f.a1) 1) ?_;rintro v Wh ⟨bj,rfl,V',F⟩;have a:=s.new F;refine aG.aR bj ⟨rfl,⟨ai.aj a c,ai.aj a d⟩,?_⟩;rintro dq Wz V3 U;have P:ai Wh Wz:=by rw [U];exact hk _ _
   have p:=(g.new s);refine ⟨⟨ai.aj (a.new P) c,ai.aj (a.new P) d⟩,bH.lQ (A.new p) (h.new p) F V' (by omega) V3 U λap I WG Wk K O=>?_⟩;obtain ⟨cl,S,_⟩:=A.ex;have off:∀ {b:Nat} {cs:ax} {T:TypeId},T≠cz->av Wh b cs T->¬ aL pa b:=λWl Wm V8=>by obtain ⟨Wj,V5⟩:=fM (a0.new ((p.new F)) S) V8;exact V5.ne Wm (λe=>Wl e.symm) rfl
   have D:=K.aj (ai.aj a c) (off (by decide) (ai.aj a c));have Z:=K.aj (ai.aj a d) (off (by decide) (ai.aj a d));refine ⟨⟨D,Z⟩,eU ?_⟩;rw [bC (x:=(k:Int)+1) (by omega) (by omega)];refine ⟨(cL j).length - (k+1),by omega,k+1,ap,n+1,I,_,rfl,by omega,rfl,O,D,by omega,?_⟩;have e:((j.v.mem.take i).map λbg=>(cL j).map (lX j bg)).flatten++((cL j).take k).map (lX j bg)++[lX j bg f]=((j.v.mem.take i).map λbg=>(cL j).map (lX j bg)).flatten++((cL j).take (k+1)).map (lX j bg):=by rw [fc,l];simp
   rw [<-e];exact Wk
  ·have V9:k=(cL j).length:=by omega
   subst V9;refine p1 (pE (pD (eU ?_)));rw [QO,bC (x:=(i:Int)+1) (by omega) (by omega)];refine eU (Q:=aM 0 (aU (λenv w=>Go.bu.W prog (sub (bp f179) [1,1,1,1]) env (dD prog f179 R) w) (dD prog f179 R))) ⟨j.v.mem.length - (i+1),by omega,i+1,pa,n,pc,_,rfl,by omega,by rw [<-hlen];rfl,h,by omega,?_⟩;rw [hx] at A;have e:((j.v.mem.take i).map λbg=>(cL j).map (lX j bg)).flatten++(cL j).map (lX j bg)=((j.v.mem.take (i+1)).map λbg=>(cL j).map (lX j bg)).flatten:=by rw [fc,hm];simp
   rw [<-e];exact A
 ·have V7:i=j.v.mem.length:=by omega
  subst V7;refine p1 (pE (eU ?_));rw [hx] at H;exact V8 z pa n pc _ G H
end
end
section
def pB:da:=⟨0,0,false⟩
def dx (ds:List aO) (i:Nat):Int:=d8 (ds.getD i ⟨0,[]⟩)
def gh (j:b3) (i:Nat):da:=(cL j).getD (i % (cL j).length) pB
def nw (j:b3) (i:Nat):aY:=j.v.mem.getD (i / (cL j).length) jI
def jx (j:b3) (ds:List aO) (i:Nat):Bool:=(gh j i).exact && decide (dx ds i>(gh j i).least)
def tz (j:b3) (ds:List aO) (i:Nat):aW:=rY j (nw j i) (24+(gh j i).a1) (dx ds i) (gh j i).least
def s6 (j:b3) (ds:List aO) (i:Nat):List (aW×da):=if dx ds i<(gh j i).least then [(tz j ds i,gh j i)] else []
def h3 (j:b3) (ds:List aO) (n:Nat):List (aW×da):=((List.range n).map (s6 j ds)).flatten
theorem AI (j:b3) (ds:List aO) (n:Nat):h3 j ds (n+1)=h3 j ds n++s6 j ds n:=by unfold h3;rw [ki];simp
theorem AQ (j:b3):0<(cL j).length/\(cL j).length<=2:=by unfold cL;split<;>simp
noncomputable abbrev g0:Func:=f179
structure n5 (w0 u z:ak) (aH tb:Nat) (r:dt) (m:aY) (j:b3) (V:ga) (pa:an) (n pc:Nat) (pb:an) (gN:Nat) (L:List (aW×da)):Prop where
 eF:dh w0 z aH tb r m j V (0,0)
 new:ai u z
 kd:bH u z pa n pc (L.map Prod.fst)
 sk:a0 z je 3 pb n gN (nK (L.map Prod.snd)).flatten
 gi:∀ k,aL pb k->u.heap.size<=k
 le:w0.heap.size<=u.heap.size
theorem n5.iE {b:ak} (h:n5 w0 u z aH tb r m j V pa n pc pb gN L) (a:ai z b):n5 w0 u b aH tb r m j V pa n pc pb gN L:=
 ⟨h.eF.bz a,h.new.new a,h.kd.new a,a0.new a h.sk,h.gi,h.le⟩
theorem KD:∀ x ∈ (h3 j ds n).map Prod.fst,x.words=[]:=by
 intro x c;obtain ⟨p,a,rfl⟩:=cT.1 c;unfold h3 at a;obtain ⟨l,b,a⟩:=oW.1 a;obtain ⟨i,_,rfl⟩:=cT.1 b;unfold s6 at a;split at a
 ·simp at a;rw [a];rfl
 ·cases a
theorem If (h:n5 w0 u z aH tb r m j V pa n pc pb gN (h3 j ds i)) (W6:i<j.v.mem.length * (cL j).length) (Xe:n<=i)
  {aA:Nat} (V8:av z aA (gh j i).cells je) (WS:u.heap.size<=aA/\¬ aL pb aA) (WE:ca (dx ds i)) {flag:Bool} (f:flag=jx j ds i) {dl:Nat} {WP:ax} {Q:Exit->ax->aE} (dH:∀ env w,Q .ret env w=dD prog g0 R .ret env w)
  (V9:jx j ds i=true->∀ V4,ao (λk=>k=aH) z V4->dh w0 V4 aH tb r m j V (11,0)->R (.bool false) V4)
  (Wu:jx j ds i=false->∀ V4 Wq n' Ws Wr O WP,n5 w0 u V4 aH tb r m j V Wq n' Ws Wr O (h3 j ds (i+1))->n'<=i+1->Q .normal (wL ⟨aH,0,none⟩ jk (cL j).length kY Wq n' Ws Wr n' O dB dl dc dl i WP) V4) :
  Go.bu.W prog (sub (bp g0) [1,1,1,1,1,1,1,1,0,1,0,0,1,1,0,0,1,1,0,1]) (qB ⟨aH,0,none⟩ jk (cL j).length kY pa n pc pb n gN i ⟨aA,0,none⟩ (dx ds i) dB dl dc dl i flag WP) Q z:=by
 refine g_ (fn:=g0) (R:=R) dH ?_;rw [QP];have p:=h.eF;obtain ⟨V_,WF⟩:=AQ j;have WH:=p.cf.mem;have V':(gh j i) ∈ cL j:=by unfold gh;have B:i % (cL j).length<(cL j).length:=Nat.mod_lt _ V_;rw [dF,bD B];exact jS B
 have A:=B2 p.cf _ V';cases flag with
 |true=>refine ek rfl ?_;refine aC (yh p 11) ?_;rintro v Xa ⟨rfl,WJ,Wj⟩;exact ⟨_,rfl,V9 f.symm Xa WJ Wj⟩
 |false=>
  refine cV rfl ⟨_,V8.cell (i:=1) rfl,a8 (λB=>?_) (λWG=>?_)⟩
  ·rintro WV Wp;have Wb:ai z WV:=by rw [Wp];exact cE _
   clear Wp;have Wt:=h.iE Wb;obtain ⟨Xd,D⟩:=p.bM.view;have hlen:=D.len;have Wa:i / (cL j).length<j.v.mem.length:=(Nat.div_lt_iff_lt_mul V_).2 W6;have hm:j.v.mem[i / (cL j).length]?=some (nw j i):=by unfold nw;rw [dF,bD Wa];rfl
   have W7:=p.cf.ef _ (b7 hm);have hdiv:Int.tdiv (i:Int) ((cL j).length:Int)=((i / (cL j).length:Nat):Int):=rfl;generalize i / (cL j).length=q at Wa hm hdiv;have WT:i<=10:=by have:j.v.mem.length * (cL j).length<=5 * 2:=p5 WH.2 WF;omega
   refine ⟨λy=>∃ V o,dh w0 y aH tb r m j V o,⟨_,_,Wt.eF⟩,r.View.ed,r.View.ei,r.View.eA,λy X=>by obtain ⟨W0,W_,X⟩:=X;exact X.aj.cell (i:=4) rfl,rfl,by omega,?_⟩;rw [hdiv];refine iW (cells:=aY.cells) aY.len (by omega) D.rd hm (bC (by omega) (by omega)) hlen λb o W5=>aY.aR (nw j i) ⟨λy X=>by obtain ⟨W0,W_,X⟩:=X;exact kX (i:=0) λq v al=>by simpa using W5 y X.new q v al,?_⟩
   rintro b1 Xb WA Wm;obtain ⟨Y,Wd⟩:=bl WA Wm;have Y:av Xb b1 (aY.cells ⟨0,0,false⟩) eI:=Y;clear Wm;refine ⟨⟨_,_,(Wt.iE Wd).eF⟩,dQ (vs:=(nw j i).cells) Y rfl (aY.single _) λWW WN WK=>?_⟩;have Wc:ai WV WW:=Wd.trans WK λk B e=>by omega
   rintro WX Wn;have We:ai WW WX:=by rw [Wn];exact cE _
   clear Wn;have L:=Wc.new We;have H:=ai.aj We WN;have g:=ai.aj (Wb.new L) V8;refine ⟨λx=>av x b1 (nw j i).cells eI/\av x aA (gh j i).cells je,⟨H,g⟩,aY.aR (nw j i) ⟨λx s=>bJ s.1 rfl,(gh j i).a1,λx s=>s.2.cell (i:=0) rfl,(gh j i).least,λx s=>s.2.cell (i:=1) rfl,?_⟩⟩;refine aC (y3 WX ⟨A.1,A.2.1⟩) ?_;rintro v Xf ⟨rfl,G⟩;refine ⟨_,rfl,⟨ai.aj G H,ai.aj G g⟩,?_⟩;have M:=L.new G;refine aC (vw (Wt.iE M).eF (m:=nw j i) (by unfold dN;omega) (24+(gh j i).a1) WE ⟨A.2.2.1,by omega⟩) ?_;rintro v WY ⟨bj,rfl,WL,P⟩;have l:=G.new P;refine aG.aR bj ⟨rfl,⟨ai.aj l H,ai.aj l g⟩,?_⟩;rintro dq Xc WB Wo;have Wf:ai WY Xc:=by rw [Wo];exact hk _ _
   have Wx:=Wt.iE M;have V3:=Wx.iE P;have Z:=ai.aj l H;have t:=ai.aj l g;refine ⟨⟨ai.aj Wf Z,ai.aj Wf t⟩,bH.lQ Wx.kd Wx.new P WL (by omega) WB Wo λap I WZ W4 F S=>?_⟩;obtain ⟨cl,Wg,_⟩:=V3.kd.ex;have off:∀ {b:Nat} {cs:ax} {T:TypeId},T≠cz->av WY b cs T->¬ aL pa b:=λWy Wz Wu=>by obtain ⟨V6,d⟩:=fM Wg Wu;exact d.ne Wz (λe=>Wy e.symm) rfl
   have WO:=F.aj Z (off (by decide) Z);have J:=F.aj t (off (by decide) t);have Wk:dh w0 WZ aH tb r m j V (0,0):=V3.eF.az F λk a=>by have:=V3.kd.gi k a;have:=p.new.size;have hu:=h.new.size;have:=h.le;exact ⟨by omega,λe=>off (by decide) V3.eF.aj (e▸a)⟩
   have K:a0 WZ je 3 pb n gN (nK ((h3 j ds i).map Prod.snd)).flatten:=V3.sk.az F λk a e=>by obtain ⟨cs,d⟩:=fM V3.sk a;exact off (by decide) d e
   refine ⟨⟨WO,J⟩,da.aR (gh j i) ⟨bJ J rfl,?_⟩⟩;rintro W1 V2 WC N;obtain ⟨E,c⟩:=bl WC N;have E:av V2 W1 (gh j i).cells je:=E;clear N;obtain ⟨inf,WI,WM,Wl,WD⟩:=fO (T:=je) (z:=da.val ⟨0,0,false⟩) (n:=3) (m:=24) (by kernel_rfl);refine rb (cells:=da.cells) (sz:=3) da.len da.single Tryz.underlying306 WI WM (by rw [Wl];rfl) Wl (by decide) (by rw [WD];decide) (a0.new c K) (l2:=[gh j i]) (m:=1) (fm E rfl) rfl (by omega) λWv V5 WR W2 Ww W3=>?_
   have Wi:h3 j ds (i+1)=h3 j ds i++[(tz j ds i,gh j i)]:=by rw [AI,show s6 j ds i=[(tz j ds i,gh j i)] from if_pos B]
   have Wh:∀ {b:Nat} {cs:ax} {T:TypeId},T≠je->av V2 b cs T->¬ aL pb b:=λWy Wz a=>by obtain ⟨V6,d⟩:=fM (a0.new c K) a;exact d.ne Wz (λe=>Wy e.symm) rfl
   have C:=Wk.bz c;have hle:=h.le;have W8:=h.new.size;have W9:=S.size;refine Wu f.symm WR ap (n+1) I Wv V5 _ ⟨C.az Ww λk a=>⟨by have:=h.gi k a;omega,λe=>Wh (by decide) C.aj (e▸a)⟩,(S.new c).trans Ww λk WU e=>by have:=h.gi k e;omega,?_,?_,λk a=>?_,hle⟩ (by omega)
   ·rw [Wi,ja];have V7:bH u V2 ap (n+1) I ((h3 j ds i).map Prod.fst++[tz j ds i]):=W4.new c;obtain ⟨WQ,U,_⟩:=V7.ex;refine V7.Ad (λx s=>?_) Ww λk a e=>?_
    ·rcases jT.1 s with s | s
     ·exact KD x s
     ·simp at s;rw [s];rfl
    ·obtain ⟨V6,d⟩:=fM U a;exact Wh (by decide) d e
   ·rw [Wi,ja];exact W2
   ·rcases W3 k a with e | e
    ·exact h.gi k e
    ·have:=S.size;have:=c.size;omega
  ·refine Wu f.symm z pa n pc pb gN _ ?_ (by omega);rw [AI,show s6 j ds i=[] from if_neg WG,i'];exact h
end
section
theorem JH (WA:ds.length=j.v.mem.length * (cL j).length)
  (WB:bh u jk (nK (cL j)).flatten) (Wk:bh w0 dB (fP raw).flatten) (S:gW A w0 raw ds) (WI:i<=ds.length) (B:n5 w0 u z aH tb r m j V pa n pc pb gN (h3 j ds i)) (Wj:n<=i) (I:ax)
  (V8:∀ env w,iw .ret env w=dD prog g0 R .ret env w)
  (O:i<ds.length->jx j ds i=true->∀ V6 F,ai z V6->ao (λk=>k=aH) V6 F->dh w0 F aH tb r m j V (11,0)->R (.bool false) F)
  (M:i<ds.length->jx j ds i=false->∀ F pa n pc pb gN I,n5 w0 u F aH tb r m j V pa n pc pb gN (h3 j ds (i+1))->n<=i+1->iw .normal (qA ⟨aH,0,none⟩ jk (cL j).length kY pa n pc pb n gN dB ds.length dc ds.length (i+1:Nat) I) F)
  (U:i=ds.length->∀ I,iw (.exit 4) (wK ⟨aH,0,none⟩ pa n pc pb n gN I) z) :
  Go.bu.W prog (sub (bp g0) [1,1,1,1,1,1,1,1,0,1,0,0]) (qA ⟨aH,0,none⟩ jk (cL j).length kY pa n pc pb n gN dB ds.length dc ds.length i I) iw z:=by
 have Wl:=B.eF;obtain ⟨Wb,Wc⟩:=AQ j;have We:=Wl.cf.mem;have Wm:raw.length=ds.length:=S.1;have Wx:ds.length<=10:=by have:j.v.mem.length * (cL j).length<=5 * 2:=p5 We.2 Wc;omega
 refine g_ (fn:=g0) (R:=R) V8 ?_;rw [QB];have G:=B.eF.new;refine a8 (λX=>?_) (λWC=>U (by omega) _);have C:i<ds.length:=by omega
 obtain ⟨d,ar⟩:∃ d,raw[i]?=some d:=⟨_,bD (by omega)⟩;obtain ⟨x,Wy⟩:∃ x,ds[i]?=some x:=⟨_,bD C⟩;have P:=S.2 i d x ar Wy;have T:dx ds i=d8 x:=by unfold dx;rw [dF,Wy];rfl
 refine er (cells:=bO.cells) bO.len (by omega) (Wk.new G) ar rfl Wm.symm λb o Wa _=>bO.aR d ⟨Wa,?_⟩
 refine ea (vs:=d.cells) rfl (bO.single _) λb1 V6 Wz Wo Wi=>?_
 rintro N V3;have Z:ai V6 N:=by rw [V3];exact cE _
 clear V3;have f:=Wi.new Z;have Y:i % (cL j).length<(cL j).length:=Nat.mod_lt _ Wb;have Wd:(cL j)[i % (cL j).length]?=some (gh j i):=by unfold gh;rw [dF,bD Y];rfl
 have Wn:Int.tmod (i:Int) ((cL j).length:Int)=((i % (cL j).length:Nat):Int):=rfl;have Wp:=ai.aj Z Wo;refine ⟨λy=>ai N y,ao.refl _ _,rfl,by omega,?_⟩;rw [Wn];refine iW (cells:=da.cells) da.len (by omega) (WB.new (B.new.new f)) Wd rfl rfl λaA WK V'=>da.aR (gh j i) ⟨λy H=>kX (i:=0) λq v al=>by simpa using V' y H q v al,bO.aR d ⟨λy H=>bJ (ai.aj H Wp) rfl,?_⟩⟩
 have E:∀ {y:ak},ai N y->a9 196 [d.val] y λv w'=>v=.int .u64 (dx ds i)/\ai y w':=by intro y H;rw [T];exact q9 (P.az (ao.b4 (G.new (f.new H))) λ_ _ e=>e)
 have hu:ca (dx ds i):=by
  rw [T];unfold d8;cases hw:x.words with
  |nil=>exact hf
  |cons a l=>exact P.wf a (by rw [hw];simp)
 have one:∀ {y:ak} {V5:Nat},ai N y->av y V5 (gh j i).cells je->N.heap.size<=V5->∀ (flag:Bool),flag=jx j ds i->∀ (I:ax),Go.bu.W prog (sub (bp g0) [1,1,1,1,1,1,1,1,0,1,0,0,1,1,0,0,1,1,0,1]) (qB ⟨aH,0,none⟩ jk (cL j).length kY pa n pc pb n gN i ⟨V5,0,none⟩ (dx ds i) dB ds.length dc ds.length i flag I) (aM 6 (aM 5 (aU (λenv w=>Go.bu.W prog (sub (bp g0) [1,1,1,1,1,1,1,1,0,1,0,0,1,1,1]) env (bG prog g0 R iw) w) (bG prog g0 R iw)))) y:=by
  intro y V5 H V_ Ww flag K I;have WJ:=f.size;have WE:=B.new.size;refine If (B.iE (f.new H)) (by omega) Wj V_ ⟨by omega,λWg=>?_⟩ hu K (λ_ _=>rfl) (λV9 F Wf V2=>O C V9 y F (f.new H) Wf V2) (λV9 F Wq n' Ws Wr V4 WG Q Wh=>?_)
  ·have:=B.sk.lt Wg;omega
  ·refine pD (pD (eU ?_));rw [QR,bC (x:=(i:Int)+1) (by omega) (by omega)];exact M C V9 F Wq n' Ws Wr V4 _ Q Wh
 have me:∀ {t:Bool},(gh j i).exact=true->t=decide (dx ds i>(gh j i).least)->t=jx j ds i:=λhe WF=>by unfold jx;rw [he,WF];rfl
 have Wv:(gh j i).exact=false->false=jx j ds i:=λhe=>by unfold jx;rw [he];rfl
 refine ⟨?_,?_⟩
 ·refine aC (E (ao.refl _ _)) ?_;rintro v WH ⟨rfl,g⟩;refine ⟨_,rfl,g,?_⟩;rintro V7 Wt J D;obtain ⟨s,h⟩:=bl J D;have s:av Wt V7 pB.cells je:=s;clear D;have WD:=g.size;refine ⟨g.new h,dQ (vs:=(gh j i).cells) s rfl (da.single _) λWu c L=>?_⟩;have p:ai N Wu:=(g.new h).trans L λk X e=>by omega
  exact ⟨p,_,c.cell (i:=2) rfl,fX (λhe=>⟨_,c.cell (i:=1) rfl,one p c (by omega) _ (me he rfl) _⟩) (λhe=>one p c (by omega) _ (Wv he) _)⟩
 ·rintro V7 Wt J D;obtain ⟨s,h⟩:=bl J D;have s:av Wt V7 pB.cells je:=s;clear D;refine ⟨h,?_⟩;refine aC (E h) ?_;rintro v WH ⟨rfl,g⟩;refine ⟨_,rfl,h.new g,dQ (vs:=(gh j i).cells) (ai.aj g s) rfl (da.single _) λWu c L=>?_⟩;have p:ai N Wu:=(h.new g).trans L λk X e=>by omega
  exact ⟨p,_,c.cell (i:=2) rfl,fX (λhe=>⟨_,c.cell (i:=1) rfl,one p c (by omega) _ (me he rfl) _⟩) (λhe=>one p c (by omega) _ (Wv he) _)⟩
theorem IF (o:dh w0 u aH tb r m j V (0,0)) (B:ds.length=j.v.mem.length * (cL j).length)
  (M:bh u jk (nK (cL j)).flatten) (I:bh w0 dB (fP raw).flatten) (C:gW A w0 raw ds) (e:ax) {QX:Exit->ax->aE} (x:∀ env w,QX .ret env w=dD prog g0 R .ret env w)
  (f:(List.range ds.length).any (jx j ds)=true->∀ z b,ai u z->ao (λk=>k=aH) z b->dh w0 b aH tb r m j V (11,0)->R (.bool false) b)
  (c:(List.range ds.length).any (jx j ds)=false->∀ b pa n pc pb gN e,n5 w0 u b aH tb r m j V pa n pc pb gN (h3 j ds ds.length)->n<=ds.length->
   Go.bu.W prog (sub (bp g0) [1,1,1,1,1,1,1,1,1]) (wK ⟨aH,0,none⟩ pa n pc pb n gN e) QX b) :
  cv prog (.loop (sub (bp g0) [1,1,1,1,1,1,1,1,0,1,0,0])) (qA ⟨aH,0,none⟩ jk (cL j).length kY none 0 0 none 0 0 dB ds.length dc ds.length 0 e)
   (aM 4 (aU (λenv w=>Go.bu.W prog (sub (bp g0) [1,1,1,1,1,1,1,1,1]) env QX w) QX)) u:=by
 refine c2 mix (λq env z=>∃ (i:Nat) (pa:an) (n pc:Nat) (pb:an) (gN:Nat) (e:ax),q=ds.length - i/\i<=ds.length/\env=qA ⟨aH,0,none⟩ jk (cL j).length kY pa n pc pb n gN dB ds.length dc ds.length i e/\n5 w0 u z aH tb r m j V pa n pc pb gN (h3 j ds i)/\n<=i/\∀ k,k<i->jx j ds k=false) ds.length
  ⟨0,none,0,0,none,0,_,by omega,by omega,rfl,⟨o,ao.refl _ _,bH.nil _ _,a0.nil _ _ _,λk c=>absurd c nA,o.new.size⟩,by omega,λk c=>by omega⟩ ?_
 rintro q env z ⟨i,pa,n,pc,pb,gN,e,rfl,N,rfl,d,l,a⟩;refine JH B M I C N d l e (R:=R) x (λh y O b H E p=>f ?_ O b (d.new.new H) E p) (λh y b J n' L K t s g G=>?_) (λD s=>?_)
 ·exact p6.2 ⟨i,fJ.2 h,y⟩
 ·exact eU ⟨ds.length - (i+1),by omega,i+1,J,n',L,K,t,s,rfl,by omega,rfl,g,G,λk c=>by
   rcases p4.1 c with c | rfl
   ·exact a k c
   ·exact y⟩
 ·subst D;refine p1 (pE (eU ?_));refine c ?_ z pa n pc pb gN _ d l;rw [yt];intro k F;rw [a k (fJ.1 F)];simp
end
section
theorem eH.uR {bs:ak} {h:ga} {R hi:cq} (l:eH A w0 u aH tb B r m j V R bE) (b:R.ask=none) (g:R.dE=false) (i:ao (λk=>k=aH) bE bs) (c:dh w0 bs aH tb r m j h hi.out) (o:hi.a4=R.a4) (p:hi.ask=none) (q:hi.dE=false):eH A w0 u aH tb B r m j h hi bs:=by
 obtain ⟨n,d,f,a⟩:=l.fS;rw [b] at a;refine ⟨l.az.trans i λk _ e=>.inr e,c,n,?_,by rw [f,g,q],?_⟩
 ·rw [o];exact d.az i λe=>c.ne e.symm
 ·rw [p];exact a
theorem eH.seq {f:ak} {c:Nat} {R:cq} (p:ao (λk=>k=tb\/k=aH) u bE) (q:ai bE z) (b:eH A w0 z aH tb c r m j V R f) (t:B<=c):eH A w0 u aH tb B r m j V R f:=by
 refine ⟨(p.new q).trans b.az λ_ _ e=>e,b.eF,?_⟩;obtain ⟨g,n,o,a⟩:=b.fS;refine ⟨g,n,o,?_⟩;cases d:R.ask with
 |none=>rw [d] at a;exact a
 |some vs=>rw [d] at a;obtain ⟨h,w1,i,s,l⟩:=a;exact ⟨h,w1,i,by omega,l⟩
def F7:aW:=⟨0,0,0,0,0,0,[],0,0⟩
def mb (p:aW×da) (pW:Int):Bool:=decide (pW≠p.1.old) && (decide (pW≠p.2.least) && (p.2.exact || decide (pW<p.2.least)))
def ni (L:List (aW×da)) (ds:List aO) (i:Nat):Bool:=mb (L.getD i (F7,pB)) (dx ds i)
theorem IG (Wx:L.length=ds.length) (Wp:ds.length<=100)
  (Y:dh w0 z aH tb r m j V (0,0)) (Wh:bh w0 dB (fP raw).flatten) (S:gW A w0 raw ds) (Wy:i<=ds.length) (Wu:n=L.length) (Wk:bH u z pa n pc (L.map Prod.fst)) (Wb:bh z pb (nK (L.map Prod.snd)).flatten) (J:ax)
  (V7:∀ env w,iw .ret env w=dD prog g0 R .ret env w)
  (Q:i<ds.length->ni L ds i=true->∀ V5 K,ai z V5->ao (λk=>k=aH) V5 K->dh w0 K aH tb r m j V (11,0)->R (.bool false) K)
  (O:i<ds.length->ni L ds i=false->∀ K J,ai z K->iw .normal (r6 ⟨aH,0,none⟩ pa n pc pb n gN dB ds.length dc ds.length (i+1:Nat) J) K)
  (T:i=ds.length->∀ J,iw (.exit 7) (z2 J) z) :
  Go.bu.W prog (sub (bp g0) [1,1,1,1,1,1,1,1,1,1,1,0,1,0,0]) (r6 ⟨aH,0,none⟩ pa n pc pb n gN dB ds.length dc ds.length i J) iw z:=by
 have Wi:raw.length=ds.length:=S.1;refine g_ (fn:=g0) (R:=R) V7 ?_;rw [QC];have H:=Y.new;refine a8 (λU=>?_) (λWt=>T (by omega) _);have C:i<ds.length:=by omega
 obtain ⟨d,ar⟩:∃ d,raw[i]?=some d:=⟨_,bD (by omega)⟩;obtain ⟨x,Wr⟩:∃ x,ds[i]?=some x:=⟨_,bD C⟩;obtain ⟨p,Wf⟩:∃ p,L[i]?=some p:=⟨_,bD (by omega)⟩;have Wg:L.getD i (F7,pB)=p:=by rw [dF,Wf];rfl
 have V':=S.2 i d x ar Wr;have Wa:dx ds i=d8 x:=by unfold dx;rw [dF,Wr];rfl
 obtain ⟨cl,I,V3⟩:=Wk.ex;have Wq:cl.length=L.length:=by rw [V3.1,ft]
 obtain ⟨v,al⟩:∃ v,cl[i]?=some v:=⟨_,bD (by omega)⟩;have Wj:=V3.2 i v p.1 al (by rw [dR,Wf];rfl);have V2:v.Old=p.1.old:=by rw [Wj.eq];rfl
 refine er (cells:=bO.cells) bO.len (by omega) (Wh.new H) ar rfl Wi.symm λb o V_ _=>bO.aR d ⟨V_,?_⟩
 refine ea (vs:=d.cells) rfl (bO.single _) λb1 V5 Ws Wl We=>?_
 rintro P V4;have X:ai V5 P:=by rw [V4];exact cE _
 clear V4;have a:=We.new X;have Wm:=ai.aj X Wl;refine ⟨λy=>ai P y,ao.refl _ _,bO.aR d ⟨λy c=>bJ (ai.aj c Wm) rfl,?_⟩⟩;have Wc:(L.map Prod.snd)[i]?=some p.2:=by rw [dR,Wf];rfl
 refine iW (cells:=da.cells) da.len (by omega) (Wb.new a) Wc rfl (by rw [ft];exact Wu) λaA Wz V9=>da.aR p.2 ⟨λy c=>kX (i:=0) λq v al=>by simpa using V9 y c q v al,?_⟩
 have E:∀ {y:ak},ai P y->a9 196 [d.val] y λv w'=>v=.int .u64 (dx ds i)/\ai y w':=by intro y c;rw [Wa];exact q9 (V'.az (ao.b4 (H.new (a.new c))) λ_ _ e=>e)
 have one:∀ {y:ak},ai P y->∀ (flag:Bool),flag=ni L ds i->∀ (J:ax),Go.bu.W prog (sub (bp g0) [1,1,1,1,1,1,1,1,1,1,1,0,1,0,0,1,1,0,0,1,1,1]) (nh ⟨aH,0,none⟩ pa n pc pb n gN dB ds.length dc ds.length i flag J) (aM 8 (aU (λenv w=>Go.bu.W prog (sub (bp g0) [1,1,1,1,1,1,1,1,1,1,1,0,1,0,0,1,1,1]) env (bG prog g0 R iw) w) (bG prog g0 R iw))) y:=by
  intro y c flag B J;refine g_ (fn:=g0) (R:=R) (λ_ _=>rfl) ?_;rw [QS];cases flag with
  |true=>refine ek rfl ?_;refine aC (yh (Y.bz (a.new c)) 11) ?_;rintro v K ⟨rfl,Wd,Z⟩;exact ⟨_,rfl,Q C B.symm y K (a.new c) Wd Z⟩
  |false=>refine cV rfl (pD (eU ?_));rw [QU,bC (x:=(i:Int)+1) (by omega) (by omega)];exact O C B.symm y _ (a.new c)
 have G:ni L ds i=mb p (dx ds i):=by unfold ni;rw [Wg]
 refine ⟨?_,?_⟩
 ·refine aC (E (ao.refl _ _)) ?_;rintro v Ww ⟨rfl,f⟩;refine ⟨_,rfl,f,?_⟩;rintro V6 Wn M D;obtain ⟨h,g⟩:=bl M D;have h:av Wn V6 pB.cells je:=h;clear D;have Wv:=f.size;refine ⟨f.new g,dQ (vs:=p.2.cells) h rfl (da.single _) λWo s N=>?_⟩;have c:ai P Wo:=(f.new g).trans N λk U e=>by omega
  refine er (cells:=aG.cells) aG.len (by omega) (l:=cl) (a0.new (a.new c) I).rd al rfl (by omega) λb o _ V8=>⟨_,V8 4 _ rfl,?_⟩
  rw [V2];refine dw (λt=>⟨_,s.cell (i:=1) rfl,dw (λF=>⟨_,s.cell (i:=2) rfl,fX (λhe=>one c _ ?_ _) (λhe=>⟨_,s.cell (i:=1) rfl,one c _ ?_ _⟩)⟩) (λF=>one c _ ?_ _)⟩) (λt=>one c _ ?_ _)
  ·rw [G];unfold mb;rw [decide_eq_true t,decide_eq_true F,he];rfl
  ·rw [G];unfold mb;rw [decide_eq_true t,decide_eq_true F,he];rfl
  ·rw [G];unfold mb;rw [decide_eq_true t,decide_eq_false (λe=>e F)];rfl
  ·rw [G];unfold mb;rw [decide_eq_false (λe=>e t)];rfl
 ·rintro V6 Wn M D;obtain ⟨h,g⟩:=bl M D;have h:av Wn V6 pB.cells je:=h;clear D;refine ⟨g,?_⟩;refine aC (E g) ?_;rintro v Ww ⟨rfl,f⟩;refine ⟨_,rfl,g.new f,dQ (vs:=p.2.cells) (ai.aj f h) rfl (da.single _) λWo s N=>?_⟩;have c:ai P Wo:=(g.new f).trans N λk U e=>by omega
  refine er (cells:=aG.cells) aG.len (by omega) (l:=cl) (a0.new (a.new c) I).rd al rfl (by omega) λb o _ V8=>⟨_,V8 4 _ rfl,?_⟩
  rw [V2];refine dw (λt=>⟨_,s.cell (i:=1) rfl,dw (λF=>⟨_,s.cell (i:=2) rfl,fX (λhe=>one c _ ?_ _) (λhe=>⟨_,s.cell (i:=1) rfl,one c _ ?_ _⟩)⟩) (λF=>one c _ ?_ _)⟩) (λt=>one c _ ?_ _)
  ·rw [G];unfold mb;rw [decide_eq_true t,decide_eq_true F,he];rfl
  ·rw [G];unfold mb;rw [decide_eq_true t,decide_eq_true F,he];rfl
  ·rw [G];unfold mb;rw [decide_eq_true t,decide_eq_false (λe=>e F)];rfl
  ·rw [G];unfold mb;rw [decide_eq_false (λe=>e t)];rfl
end
section
def oR (L:List (aW×da)) (a:cq):cq:=
 if a.ok=false then a else if (List.range a.done.length).any (ni L a.done)=true then ⟨false,[],(11,0),a.a4,none,false⟩ else ⟨true,[],(0,0),a.a4,none,false⟩
def tA (j:b3) (a:cq):cq:=
 if a.ok=false then a else if (List.range a.done.length).any (jx j a.done)=true then ⟨false,[],(11,0),a.a4,none,false⟩
 else oR (h3 j a.done a.done.length) (bK a.a4 ((h3 j a.done a.done.length).map Prod.fst))
def hq (j:b3) (G:List (List aO)):cq:=tA j (bK G (hp j))
theorem Bq (j:b3):(hp j).length=j.v.mem.length * (cL j).length:=by
 unfold hp;induction j.v.mem with
 |nil=>simp
 |cons a l b=>simp [b,rk,Nat.add_comm]
theorem qg {T:fV} {G:List (List aO)} (Wb:dh w0 u aH tb r m j V (0,0)) (Wx:eP A w0 u tb T G) (Wh:fY T) :
  a9 179 [ptr aH] u (k' A w0 u aH tb r m j V (hq j G)):=by
 refine bc Tryz.func179 ?_;rw [ptr,Sh];have WD:=Wb.aj.lt;have WF:=Wx.aj.lt;have Wl:=Wb.cf.mem;obtain ⟨WI,Wi⟩:=AQ j;have Wz:j.v.mem.length * (cL j).length<=10:=by have:j.v.mem.length * (cL j).length<=5 * 2:=p5 Wl.2 Wi;omega
 refine aC (Lf Wb) ?_;rintro v bE ⟨jk,kY,rfl,Q,Wy,Wk⟩;have D:=Wb.bz Q;have Wu:=Q.size;refine ⟨_,_,_,rfl,_,_,_,D.aj.cell (i:=4) rfl,?_⟩;refine KC D Wy _ λWM pa n pc Wc S Wv=>?_
 refine g_ (fn:=g0) (R:=k' A w0 u aH tb r m j V (hq j G)) (λ_ _=>rfl) ?_;rw [QN];have J:=Q.new S;refine aC (nx (D.bz S) (Wx.new J) Wh D.new (by omega) (by omega) Wv (by rw [Bq];omega)) ?_;rintro v bk ⟨dB,dc,raw,rfl,b,Wt,p,E⟩;have V5:=b.az;have b:eH A w0 u aH tb u.heap.size r m j V (bK G (hp j)) bk:=eH.of b J Wu;have p:gW A w0 raw (bK G (hp j)).done:=p;have E:(bK G (hp j)).ok=true->raw.length=(hp j).length:=E;refine ⟨_,_,_,_,rfl,ev (λd=>?_) (λt=>?_)⟩
 ·have d:(bK G (hp j)).ok=false:=d;have s:hq j G=bK G (hp j):=if_pos d;rw [s];exact ⟨by rw [d],b⟩
 have t:(bK G (hp j)).ok=true:=t;obtain ⟨WB,H,U⟩:=oA t;have l:=b.eF;rw [WB] at l;have s:hq j G=if (List.range (bK G (hp j)).done.length).any (jx j (bK G (hp j)).done)=true then ⟨false,[],(11,0),(bK G (hp j)).a4,none,false⟩
   else oR (h3 j (bK G (hp j)).done (bK G (hp j)).done.length) (bK (bK G (hp j)).a4 ((h3 j (bK G (hp j)).done (bK G (hp j)).done.length).map Prod.fst)):=by
  unfold hq tA;rw [if_neg (by rw [t];simp)]
 have Z:(bK G (hp j)).done.length=j.v.mem.length * (cL j).length:=by rw [<-p.1,E t,Bq]
 have F:=Wy.new S;have Wj:bh bk jk (nK (cL j)).flatten:=F.az V5 (hn F λk P e=>by have:=Wk k P;rcases e with e | e<;>omega);rw [p.1];generalize bK G (hp j)=w at b p Z s H U l;clear E t WB;refine IF l Z Wj Wt p _ (R:=k' A w0 u aH tb r m j V (hq j G)) (QX:=bG prog g0 (k' A w0 u aH tb r m j V (hq j G)) (dD prog g0 (k' A w0 u aH tb r m j V (hq j G)))) (λ_ _=>rfl) (λN z WH f Wp V8=>?_) (λN z pb fR Wa WG Ww WK a WA=>?_)
 ·rw [s,if_pos N];exact ⟨rfl,b.uR H U ((ao.b4 f).trans Wp λ_ _ e=>e) V8 rfl rfl rfl⟩
 rw [if_neg (by rw [N];simp)] at s;generalize h3 j w.done w.done.length=L at a s;rw [QQ];obtain ⟨WL,X,V_,Y⟩:=b.fS;rw [H] at Y;rw [U] at V_;have WC:=l.aj.lt;have WE:=X.aj.lt;have Wg:fR=L.length:=by have:=a.kd.len;rwa [ft] at this
 refine aC (nx a.eF (X.new a.new) ⟨Y,V_⟩ l.new (by omega) (by omega) a.kd (by rw [ft];omega)) ?_;rintro v Wd ⟨We,Wf,M,rfl,g,V6,c,y⟩;have K:=g.az;have g:eH A w0 u aH tb u.heap.size r m j V (bK w.a4 (L.map Prod.fst)) Wd:=eH.seq b.az a.new g (by have:=b.az.size;omega);have c:gW A w0 M (bK w.a4 (L.map Prod.fst)).done:=c;have y:(bK w.a4 (L.map Prod.fst)).ok=true->M.length=(L.map Prod.fst).length:=y;refine ⟨_,_,_,_,rfl,ev (λd=>?_) (λt=>?_)⟩
 ·have d:(bK w.a4 (L.map Prod.fst)).ok=false:=d;rw [s,show oR L (bK w.a4 (L.map Prod.fst))=bK w.a4 (L.map Prod.fst) from if_pos d];exact ⟨by rw [d],g⟩
 have t:(bK w.a4 (L.map Prod.fst)).ok=true:=t;obtain ⟨Ws,O,B⟩:=oA t;have o:=g.eF;rw [Ws] at o;have W:L.length=(bK w.a4 (L.map Prod.fst)).done.length:=by rw [<-c.1,y t,ft]
 unfold oR at s;rw [if_neg (by rw [t];simp)] at s;rw [c.1];generalize bK w.a4 (L.map Prod.fst)=C at g c s O B o W;have V9:bH bk Wd pb fR Wa (L.map Prod.fst):=a.kd.az K λk e=>by rcases e with e | e<;>omega
 have V2:bh Wd WG (nK (L.map Prod.snd)).flatten:=a.sk.rd.az K (hn a.sk.rd λk P e=>by have:=a.gi k P;rcases e with e | e<;>omega);refine c2 mix (λq env z=>∃ (i:Nat) (Wc:ax),q=C.done.length - i/\i<=C.done.length/\env=r6 ⟨aH,0,none⟩ pb fR Wa WG fR Ww We C.done.length Wf C.done.length i Wc/\ai Wd z/\∀ k,k<i->ni L C.done k=false) C.done.length
  ⟨0,_,by omega,by omega,rfl,ao.refl _ _,λk H=>by omega⟩ ?_
 rintro q env z ⟨i,Wc,rfl,WJ,rfl,f,x⟩;refine IG W (by omega) (o.bz f) V6 c WJ Wg (V9.new f) (V2.new f) Wc (R:=k' A w0 u aH tb r m j V (hq j G)) (λ_ _=>rfl) (λV3 N WN WH V4 Wn V7=>?_) (λV3 N WH V' Wq=>?_) (λWm V'=>?_)
 ·rw [s,if_pos (p6.2 ⟨i,fJ.2 V3,N⟩)];exact ⟨rfl,g.uR O B ((ao.b4 (f.new V4)).trans Wn λ_ _ e=>e) V7 rfl rfl rfl⟩
 ·exact eU ⟨C.done.length - (i+1),by omega,i+1,V',rfl,by omega,rfl,f.new Wq,λk H=>by
   rcases p4.1 H with H | rfl
   ·exact x k H
   ·exact N⟩
 ·subst Wm;refine p1 (pE (eU ?_));rw [QT];have Wr:¬ (List.range C.done.length).any (ni L C.done)=true:=by intro h;obtain ⟨k,Wo,I⟩:=p6.1 h;rw [x k (fJ.1 Wo)] at I;cases I
  rw [s,if_neg Wr];exact ⟨rfl,g.uR O B (ao.b4 f) (o.bz f) rfl rfl rfl⟩
end
end Go.Proofs.YtmkljjbioomepaaGreat
