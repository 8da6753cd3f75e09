import Derived.Test.YtmkljjbioomepaaGreatb33
import Derived.Test.YtmkljjbioomepaaGreatb21
import Derived.Test.YtmkljjbioomepaaGreatb23
set_option linter.all false
set_option maxHeartbeats 4000000
set_option maxRecDepth 100000
namespace Go.Proofs.YtmkljjbioomepaaGreat
open Go.Proofs.Tryz Go.bu
variable {A:bt} {D:List aO} {G:List (List aO)} {aT:List bd} {aJ:bd} {f:List (List aO)->cq×dA} {i m:Nat} {j:b3} {l eG:List aK} {p:aK} {eM sp:cP} {s:Int} {u w:ak} {vs:List aW} {x:aZ}
section
def mv (j:b3):aY:=j.v.mem.getD 0 jI
def fD (j:b3) (G:List (List aO)):List aW×dA×Bool:=
 if j.valid≠0 then ([],⟨j.valid,0,0,0,0⟩,true) else match (h8 j (mv j) G).1.ask with
 |some vs=>(vs,⟨0,0,0,0,0⟩,false)
 |none=>if (h8 j (mv j) G).1.dE=true\/(h8 j (mv j) G).1.a4≠[] then ([],⟨6,0,0,0,0⟩,true) else ([],(h8 j (mv j) G).2,true)
def nL (w:ak) (j:b3) (G:List (List aO)) (v:a2) (u:ak):Prop:=
 ∃ (aa:an) (ac:Nat) (cl:List aG),v=.tuple #[.slice aa cl.length ac,(fD j G).2.1.val,.bool (fD j G).2.2]/\ai w u/\bh u aa (dP cl).flatten/\(∀ k,aL aa k->w.heap.size<=k)/\ep (λk=>k<w.heap.size) u cl (fD j G).1
theorem nL.nil {o:dA} {b:Bool} (h:fD j G=([],o,b)) (c:ai w u):nL w j G (.tuple #[.slice none 0 0,o.val,.bool b]) u:=
 ⟨none,0,[],by rw [h];rfl,c,.inl rfl,λk a=>absurd a nA,by rw [h];exact ⟨rfl,λi v x al=>by simp at al⟩⟩
theorem xN {b:Nat} {cs:ax} (au:av u b cs o') (g:cs.length=5) (o:dA) {K:dA->aE} (f:∀ e,ao (λk=>k=b) u e->K o e) :
  ec u ⟨b,0,none⟩ 0 o.cells/\∀ a,a=cr u ⟨b,0,none⟩ 0 o.cells->dA.ex λres=>b6 a ⟨b,0,none⟩ 0 res.cells/\a=a/\K res a:=
 dQ au (vs:=o.cells) (by rw [g];rfl) (dA.single _) λa d c=>dA.aR o ⟨bJ d rfl,rfl,f a c⟩
theorem MV {A:a3} {r:dt} (V3:ri w r j) {gI:an} {dM gc:Nat} (WV:hI A w gI G) (WE:dM=G.length) (WD:dM<=gc) :
  a9 93 [r.val,.slice gI dM gc] w (nL w j G):=by
 refine bc Tryz.func93 ?_;rw [Vo];rintro b1 bE Wy Wj;obtain ⟨q,Wg⟩:=bl Wy Wj;have q:av bE b1 r.cells 41:=q;clear Wj;rintro aA Xa Wz Wk;obtain ⟨F,z⟩:=bl Wz Wk;have F:av Xa aA (dA.cells ⟨0,0,0,0,0⟩) o':=F;clear Wk;have J:=Wg.new z;have W3:=Wg.size;have WX:=q.lt;have WY:=F.lt;refine dt.aR r ⟨bJ (ai.aj z q) rfl,?_⟩;refine aC (JN (V3.new J)) ?_;rintro v bk ⟨rfl,B⟩;have L:=J.new B;have V:=ai.aj B F;refine ⟨_,rfl,dw (λal=>?_) (λal=>?_)⟩
 ·refine xN V rfl ⟨j.valid,0,0,0,0⟩ (K:=λres Wa=>nL w j G (.tuple #[.slice none 0 0,res.val,.bool true]) Wa) λXh WF=>nL.nil ?_ (L.trans WF λk a e=>by omega)
  unfold fD;rw [if_pos al]
 have g:=Le al (V3.prev▸V3.u64);obtain ⟨bN,V5⟩:∃ bN,j.v.mem[0]?=some bN:=⟨_,bD g.mem.1⟩;have WH:mv j=bN:=by unfold mv;rw [dF,V5];rfl
 rintro WK Wl;have C:ai bk WK:=by rw [Wl];exact cE _
 clear Wl;have M:=L.new C;have s:=ai.aj ((z.new B).new C) q;refine ⟨λy=>ai WK y,ao.refl _ _,dt.aR r ⟨λy WJ=>bJ (ai.aj WJ s) rfl,?_⟩⟩;refine aC (Eg WK gI dM gc) ?_;rintro v WQ ⟨tb,rfl,W9,Ws,f⟩;refine ⟨_,rfl,f,?_⟩;rintro Wb Xb WA Wm;obtain ⟨V_,D⟩:=bl WA Wm;have V_:av Xb Wb (pK r tb ⟨0,0,false⟩ 0 ⟨none,0,0,0⟩ (0,0)) oi:=V_;clear Wm;have W7:=f.size;have WP:=M.size;have W4:=z.size;have W5:=B.size;have W6:=C.size;have W0:=Ws.lt;refine ⟨f.new D,c3.aR r.View ⟨bJ (ai.aj (f.new D) s) rfl,?_⟩⟩;obtain ⟨Xd,V9⟩:=V3.view;have N:=(M.new f).new D;refine aC (BQ (V9.new N) V5) ?_;rintro v u8 ⟨rfl,V6⟩;have Wu:=ai.aj V6 V_;refine aY.aR bN ⟨true,rfl,gg Wu (by simp [pK,aY.cells,dt.cells]) (aY.single _),?_⟩;rintro Wc V8;have V':av Wc Wb (pK r tb bN 0 ⟨none,0,0,0⟩ (0,0)) oi:=by rw [V8];exact Wu.cr (o:=9) (i:=0) (vs:=bN.cells)
 have Wd:ao (λk=>k=Wb) u8 Wc:=by rw [V8];exact h0 _ _ _ _ _
 clear V8;have Wh:ai w Wc:=(N.new V6).trans Wd λk a e=>by omega
 have R:ai WQ Wc:=(D.new V6).trans Wd λk a e=>by omega
 have U:av Wc b1 r.cells 41:=ai.aj (f.new R) s;refine ⟨_,U.cell (i:=1) rfl,_,U.cell (i:=0) rfl,?_⟩;refine aC (vR Wc r.hy r.Client) ?_;rintro v WM ⟨rfl,rfl⟩;refine ⟨_,_,rfl,⟨_,V'.cell (i:=12) rfl⟩,V'.frozen,?_⟩;rintro c p;have I:ao (λk=>k=Wb) WM c:=by rw [p];exact eY _ _ _ _
 have Wo:av c Wb (pK r tb bN (gv j.inc j.a1) ⟨none,0,0,0⟩ (0,0)) oi:=by rw [p,<-V3.inc,<-V3.a1];exact V'.setCell (i:=12) _
 clear p;have O:ai w c:=Wh.trans I λk a e=>by omega
 have l:ai WQ c:=R.trans I λk a e=>by omega
 have Wt:av c tb (fV.cells ⟨gI,dM,gc,none,0,0,false⟩) pe:=ai.aj l Ws;have Wp:av c aA (dA.cells ⟨0,0,0,0,0⟩) o':=ai.aj ((C.new f).new l) V;have WB:dh w c Wb tb r bN j ⟨none,0,0,0⟩ (0,0):=⟨Wo,V3,g,V5,O,by omega,by omega,by omega⟩;have WU:eP A w c tb ⟨gI,dM,gc,none,0,0,false⟩ G:=⟨Wt,WV,WE,WD⟩;refine aC (MU WB WU ⟨rfl,rfl⟩) ?_;rintro v WR ⟨rfl,E⟩;have W8:=l.size;have Wv:av WR aA (dA.cells ⟨0,0,0,0,0⟩) o':=E.az.aj Wp (by omega);have WI:ai w WR:=O.trans E.az λk a e=>by omega
 obtain ⟨Xe,t⟩:=E.aj;obtain ⟨T,u,V2,x⟩:=E.fS;rw [<-WH] at u V2 x t;have WO:∀ (X:Prop),X->X:=λ_ h=>h
 refine ⟨rfl,_,t.cell (i:=8) rfl,?_⟩;refine aC (DA u.aj) ?_;rintro v Xi ⟨rfl,n⟩;have W:=ai.aj n Wv;have Z:=ai.aj n t;have P:=WI.new n;cases b:(h8 j (mv j) G).1.ask with
 |some vs=>
  rw [b] at x;obtain ⟨Xf,w1,WS,Xg,WN⟩:=x;have Wx:=WN.len;refine ⟨_,_,_,_,rfl,ek (by simp;omega) ?_⟩;refine xN W rfl ⟨0,0,0,0,0⟩ (K:=λres Wa=>nL w j G (.tuple #[.slice T.aa T.c8 T.ac,res.val,.bool false]) Wa) λWL We=>?_
  have WT:bH w1 WL T.aa T.c8 T.ac vs:=(WN.new n).az We λk e=>by omega
  obtain ⟨⟨cl,W1,Wn⟩,WZ,WC⟩:=WT;have W2:=Wn.1;have W_:=WS.size;have Wi:fD j G=(vs,⟨0,0,0,0,0⟩,false):=by unfold fD;rw [if_neg (by simpa using al),b]
  refine ⟨T.aa,T.ac,cl,?_,P.trans We λk a e=>by omega,W1.rd,λk WW=>by have:=WC k WW;omega,?_⟩
  ·rw [Wi,Wx,W2]
  ·rw [Wi];exact Wn.az (ao.refl _ _) λk a e=>.inl (by omega)
 |none=>
  rw [b] at x;refine ⟨_,_,_,_,rfl,cV (by simp;omega) ?_⟩;refine ⟨_,Z.cell (i:=8) rfl,?_⟩;refine aC (DB (ai.aj n u.aj)) ?_;rintro v WL ⟨rfl,V7⟩;have Y:=ai.aj V7 W;have Wq:=ai.aj V7 Z;have Q:=P.new V7;have H:=u.dM;refine ⟨_,rfl,?_⟩;cases hm:(T.dE || decide ((T.dM:Int)>0)) with
  |true=>
   refine xN Y rfl ⟨6,0,0,0,0⟩ (K:=λres Wa=>nL w j G (.tuple #[.slice none 0 0,res.val,.bool true]) Wa) λXc V4=>nL.nil ?_ (Q.trans V4 λk a e=>by omega)
   unfold fD;rw [if_neg (by simpa using al),b];refine if_pos ?_;rw [V2] at hm;rw [vk] at hm;rcases hm with hm | hm
   ·exact .inl hm
   ·right;intro e;rw [e] at H;simp at hm H;omega
  |false=>
   rintro Ww S;have d:ai WL Ww:=by rw [S];exact cE _
   clear S;have Wr:=ai.aj d Wq;refine ⟨λy=>ai Ww y,ao.refl _ _,dA.aR (h8 j (mv j) G).2 ⟨λy WJ=>bJ (ai.aj WJ Wr) rfl,?_⟩⟩;refine xN (ai.aj d Y) rfl (h8 j (mv j) G).2 (K:=λres Wa=>nL w j G (.tuple #[.slice none 0 0,res.val,.bool true]) Wa) λXc V4=>nL.nil ?_ ((Q.new d).trans V4 λk a e=>by omega)
   unfold fD;rw [if_neg (by simpa using al),b];refine if_neg ?_;rw [V2] at hm;obtain ⟨Wf,WG⟩:=Bool.or_eq_false_iff.1 hm;rintro (e | e)
   ·rw [e] at Wf;cases Wf
   ·apply e;apply fI;simp at WG <;> omega
end
section
open e7
theorem EW {f:aK->bd} (a:∀ p,(f p).length=9):∀ {W:List aK} {i:Nat} {p:aK},W[i]?=some p->∀ c,c<9->((W.map f).flatten)[9 * i+c]?=(f p)[c]?
 | [],i,p,h,c,b=>by simp at h
 |q::W,0,p,h,c,b=>by simp at h;subst h;rw [f9,gV,hU (by rw [a];omega)];congr 1;omega
 |q::W,i+1,p,h,c,b=>by rw [f9,gV,hV (by rw [a];omega),a,show 9 * (i+1)+c - 9=9 * i+c by omega];exact EW a (by simpa using h) c b
theorem MW {W:List aK} (h:W[i]?=some p) {c:Nat} (a:c<9):(fi s W).getD (2+9 * i+c) 0=(p.bo::p.Head::hA p).getD c 0:=by have b:=cb h;have d:=yI s W;unfold fi;simp only [dF];rw [hU (by omega)];have:=EW (f:=λp=>p.bo::p.Head::hA p) (λ_=>rfl) h c a;unfold nD;rw [show 2+9 * i+c=(9 * i+c)+1+1 by omega,nY,nY,this]
theorem O' {W:List aK} (h:W[i]?=some p) (b:∀ k,k<(fi s W).length->aJ.getD k 0=(fi s W).getD k 0) (f:p.bo<=256):oC aJ i=p:=by
 have e:=cb h;have d:=pA s W;have g:∀ c,c<9->((aJ.drop (2+9 * i)).take 9).getD c 0=(p.bo::p.Head::hA p).getD c 0:=λc a=>by rw [<-MW (s:=s) h a,<-b _ (by omega)];simp only [dF];rw [tg a,lu]
 unfold oC q0;rw [g 0 (by omega),g 1 (by omega),g 2 (by omega),g 3 (by omega),g 4 (by omega),g 5 (by omega),g 6 (by omega),g 7 (by omega),g 8 (by omega)];show (⟨if 256<p.bo then 256 else p.bo,_,_,_,_,_,_,_,_⟩:aK)=p;rw [if_neg (by omega)];rfl
theorem LW {W:List aK} {lines:Int} (al:fy s W lines=0) (n:aJ.length=112) (c:∀ k,k<(fi s W).length->aJ.getD k 0=(fi s W).getD k 0):eg aJ lines=0/\ew aJ lines=(s,W):=by
 obtain ⟨l,⟨s1,s2,lM,fR⟩,j,_⟩:=jj al;have h:=pA s W;have d:aJ.getD 0 0=s:=c 0 (by omega);have e:aJ.getD 1 0=W.length:=c 1 (by omega);have g:(aJ.getD 1 0).toNat=W.length:=by rw [e];rfl
 have b:hl aJ W.length=W:=by
  apply kj;intro i;unfold hl;rw [dR];by_cases a:i<W.length
  ·rw [kk a,bD a];have:=j _ (jS a);simp only [mW];rw [O' (bD a) c (by omega)]
  ·rw [lv (by simpa using a),lv (by omega)];rfl
 have f:fi s W=aJ.take (3+9 * W.length):=by
  apply kj;intro i;by_cases a:i<3+9 * W.length
  ·have:=c i (by omega);simp only [dF] at this;rw [tg a,bD (by omega),bD (by omega)];rw [bD (by omega),bD (by omega)] at this;simpa using this.symm
  ·rw [lv (by omega),lv (by simp;omega)]
 have ay:eg aJ lines=0:=by unfold eg;rw [if_neg (by omega),if_neg (by rw [d,e];omega),if_neg (by rw [e];omega),g,d,b,if_neg (by rw [al];simp),if_neg (by simpa using f)]
 refine ⟨ay,?_⟩;unfold ew;rw [if_pos ay,g,d,b]
theorem CE (h:1<=s/\s<1073741824):fQ s=4 * s+2:=by
 obtain ⟨n,rfl⟩:∃ n:Nat,s=n:=⟨s.toNat,by omega⟩;have b:ie .u64 (n:Int) 2=((n * 4:Nat):Int):=by show IntKind.u64.wrap ((n:Int) * 2 ^ 2)=_;have:(2:Int) ^ 2=4:=rfl;rw [this,jO (by omega) (by omega)];omega
 unfold fQ;rw [b,show (2:Int)=((2:Nat):Int) from rfl,u5 _ _ (by omega) (by omega)];have a:=vM n 2 2 (by omega);have c:(2:Nat) ^ 2=4:=rfl;rw [c] at a;rw [a];omega
theorem yC (h:1<=s/\s<1073741824):fQ s≠0:=by rw [CE h];omega
theorem LX (h:1<=s/\s<1073741824):h_ (fQ s)=(s,true):=by
 obtain ⟨_,e⟩:=zH (yX s);have a:db .u64 (fQ s) 2=s:=by rw [e,CE h];omega
 unfold h_;rw [a,if_pos ⟨h.1,h.2,rfl⟩]
theorem L0:h_ 0=(0,false):=by
 obtain ⟨_,e⟩:=zH hf;have a:db .u64 0 2=0:=by rw [e];rfl
 unfold h_;rw [a,if_neg (by omega)]
structure m7 (E:Env) (A:bt) (m:Nat) (L:bd):Prop where
 len:L.length=120
 cG:L.getD 0 0=if A.cG m=true then h' E else 0
 eB:A.eB m=true->∀ k,k<(gS E).length->L.getD (8+k) 0=(gS E).getD k 0
def uC (x:aZ):bd:=(x.words.drop 48).take 120
theorem Ei (h:i<120):(uC x).getD i 0=x.get (48+i):=by unfold uC aZ.get;simp only [dF];rw [tg h,lu]
theorem Mem.fq {E:Env} (ay:b8 E) (h:Mem E A m x):m7 E A m (uC x):=by have a:=ay.mr;have c:=ay.lH;have d:=h.aP.len;refine ⟨by unfold uC;simp;omega,by rw [Ei (by omega)];exact h.cG,λa k b=>?_⟩;rw [Ei (by omega),<-h.eB a k b];congr 1;omega
section
variable {E:Env} {A:bt} {m:Nat} {L:bd}
theorem m7.whole (ay:b8 E) (h:m7 E A m L) (d:A.eB m=true):fN L E.L=true/\cW L E.L=(c_ E,bI E):=by
 have f:(L.drop 8).length=112:=by rw [l1,h.len]
 obtain ⟨b,c⟩:=LW ay.c6 f λk e=>by rw [<-h.eB d k e];simp only [dF];rw [lu]
 have a:fN L E.L=true:=by unfold fN;rw [b,h.len];rfl
 refine ⟨a,?_⟩;unfold cW;rw [if_pos a];exact c
theorem m7.comm (ay:b8 E) (h:m7 E A m L) (d:A.eB m=true):li L E.L=A.cG m/\(A.cG m=true->fj L E.L=(c_ E,bI E)):=by
 obtain ⟨c,a⟩:=h.whole ay d;have b:li L E.L=A.cG m:=by
  unfold li;rw [c,a,h.cG,vl];cases A.cG m
  ·exact beq_eq_false_iff_ne.2 (yC ay.seq)
  ·exact beq_iff_eq.2 rfl
 refine ⟨b,λe=>?_⟩
 unfold fj;rw [b,if_pos e];exact a
theorem m7.none (h:m7 E A m L) (c:A.cG m=false):li L E.L=false:=by
 cases a:li L E.L with
 |false=>rfl
 |true=>exfalso;obtain ⟨b,_⟩:=Bt a;have d:=B4 b;unfold li at a;rw [b,vl] at a;have:=beq_iff_eq.1 a;rw [h.cG,c] at this;exact yC d this
theorem m7.holds (ay:b8 E) (h:m7 E A m L) (c:A.eB m=true) (d:j.lines=E.L):rv j (c_ E) (bI E) L=A.cG m:=by
 obtain ⟨a,b⟩:=h.comm ay c;unfold rv;rw [d,a];cases hm:A.cG m with
 |false=>rfl
 |true=>rw [b hm];unfold v_;simp
end
structure o9 (E:Env) (A:bt) (aT:List bd):Prop where
 len:aT.length=E.n
 at_:∀ (m:Nat) (L:bd),aT[m]?=some L->m7 E A m L
section
variable {E:Env} {A:bt} {aT:List bd}
theorem MX (h:o9 E A aT) (g:f' E A):eb E.L aT=((0,[]),false):=by
 have key:∀ (l:List bd),(∀ L ∈ l,li L E.L=false)->∀ b,l.foldl (lw E.L) b=b:=by
  intro l;induction l with
  |nil=>intro _ b;rfl
  |cons L l j=>intro d b;rw [vf];have:lw E.L b L=b:=if_neg (λe=>by rw [d L e2] at e;cases e.1);rw [this];exact j (λf a=>d f (fu _ a)) b
 refine key aT (λL a=>?_) _;obtain ⟨i,c⟩:=eh.1 a;exact (h.at_ i L c).none (g i (by have:=cb c;rw [h.len] at this;exact this))
theorem L1 (ay:b8 E) (h:o9 E A aT) (d:ia E A) (hm:∃ m,m<E.n/\A.cG m=true):eb E.L aT=((c_ E,bI E),true):=by
 have y:=ay.seq;have key:∀ (l:List bd),(∀ L ∈ l,li L E.L=true->fj L E.L=(c_ E,bI E))->∀ b,(b=((0,[]),false)\/b=((c_ E,bI E),true))->(l.foldl (lw E.L) b=((c_ E,bI E),true)\/l.foldl (lw E.L) b=((0,[]),false)/\b=((0,[]),false)/\∀ L ∈ l,li L E.L=false):=by
  intro l;induction l with
  |nil=>intro _ b d;rcases d with e | e;exact .inr ⟨e,e,λL a=>by cases a⟩;exact .inl e
  |cons L l u=>
   intro o b d;rw [vf];have j:=λp a=>o p (fu _ a)
   unfold lw at u ⊢;by_cases c:li L E.L=true
   ·have s:=o L e2 c;have t:(if li L E.L=true/\(fj L E.L).1>b.1.1 then (fj L E.L,true) else b)=((c_ E,bI E),true):=by
     rcases d with e | e
     ·rw [if_pos ⟨c,by rw [s,e];show c_ E>0;omega⟩,s]
     ·rw [if_neg (λg=>by have:=g.2;rw [s,e] at this;exact absurd this (by show ¬ c_ E>c_ E;omega)),e]
    rw [t];rcases u j _ (.inr rfl) with g | ⟨_,g,_⟩
    ·exact .inl g
    ·exact absurd (congrArg Prod.snd g) (by simp)
   ·have c:li L E.L=false:=by simpa using c
    rw [if_neg (λg=>by rw [c] at g;cases g.1)];rcases u j b d with g | ⟨q,r,x⟩
    ·exact .inl g
    ·exact .inr ⟨q,r,λp a=>by rcases e6.1 a with e | e;rw [e];exact c;exact x p e⟩
 obtain ⟨m,k,hm⟩:=hm;obtain ⟨L,a⟩:∃ L,aT[m]?=some L:=⟨_,bD (by rw [h.len];exact k)⟩;have o:∀ L ∈ aT,li L E.L=true->fj L E.L=(c_ E,bI E):=λL a c=>by obtain ⟨i,w⟩:=eh.1 a;have f:=cb w;rw [h.len] at f;obtain ⟨q,r⟩:=(h.at_ i L w).comm ay (d i f);exact r (by rw [<-q];exact c)
 rcases key aT o ((0,[]),false) (.inl rfl) with g | ⟨_,_,g⟩
 ·exact g
 ·have:=g L (b7 a);rw [((h.at_ m L a).comm ay (d m k)).1,hm] at this;cases this
theorem Pa (ay:b8 E) (h:o9 E A aT) (s:ia E A) {cH:Int} (z:cH=c_ E\/cH=E.ff 0):jG E.L cH aT=c_ E+1:=by
 have w:=ay.seq;have t:=ay.ff;have B:=ay.e.n;have key:∀ (l:List bd),(∀ L ∈ l,(L.getD 0 0=h' E\/L.getD 0 0=0)/\fN L E.L=true/\cW L E.L=(c_ E,bI E))->∀ g:Int,0<=g/\g<=c_ E->l.foldl (hF E.L) g=if l=[] then g else c_ E:=by
  intro l;induction l with
  |nil=>intro _ g _;rfl
  |cons L l x=>
   intro k g u;obtain ⟨p,q,r⟩:=k L e2;rw [vf];have f:hF E.L g L=c_ E:=by
    unfold hF;have d:(if (h_ (L.getD 0 0)).2=true then mw g (h_ (L.getD 0 0)).1 else g)<=c_ E:=by
     rcases p with e | e
     ·rw [e,LX w,if_pos rfl];unfold mw;simp only;split<;>omega
     ·rw [e,L0,if_neg (by simp)];exact u.2
    simp only;generalize (if (h_ (L.getD 0 0)).2=true then mw g (h_ (L.getD 0 0)).1 else g)=y at d ⊢;rw [if_pos q,r];unfold mw;simp only;split<;>omega
   rw [f,x (λo a=>k o (fu _ a)) _ (by omega),if_neg (List.cons_ne_nil L l)];split<;>rfl
 unfold jG;have c:iU cH=cH:=by unfold iU;rw [if_neg (by omega)]
 rw [c,key aT (λL a=>?_) cH (by omega),if_neg (λe=>by have:=h.len;rw [e] at this;simp at this <;> omega)];obtain ⟨i,j⟩:=eh.1 a;have b:=cb j;rw [h.len] at b;have a:=h.at_ i L j;refine ⟨?_,a.whole ay (s i b)⟩;rw [a.cG];split
 ·exact .inl rfl
 ·exact .inr rfl
end
end
section
open e7
def cw (E:Env) (c:Nat):b3:=⟨(c:Int),1,(E.L:Int),kc E.n,0,2,0⟩
def gA (c:Nat):Int:=256+((c:Int)+1)
section
variable {E:Env} {c:Nat}
theorem vL (a:c<6):f7 1 c=0/\gv 1 c=gA c:=by have h:f7 1 c=0:=D1 rfl (by omega);exact ⟨h,by rw [yO h];rfl⟩
theorem ry:(cw E c).v.mem=(List.range E.n).map bg:=rfl
theorem MY {n:Nat} (h:1<=n/\n<=5):(kc n).valid 5=0:=by
 obtain rfl | rfl | rfl | rfl | rfl:n=1\/n=2\/n=3\/n=4\/n=5:=by omega
 all_goals kernel_rfl
theorem CF (ay:b8 E) (i:1<=c/\c<6):(cw E c).valid=0:=by
 have k:=ay.e.L;have g:f7 (cw E c).inc (cw E c).a1=0:=(vL i.2).1;have a:(cw E c).v.valid 5=0:=MY ay.e.n;unfold b3.valid;rw [g,a];show (if (0:Int)≠0 then (0:Int) else if (0:Int)<0\/6<=(0:Int) then 1 else if (0:Int)≠0 then 0 else (cw E c).tail)=0;rw [if_neg (by omega),if_neg (by omega),if_neg (by omega)];unfold b3.tail;have b:¬ ((cw E c).lines<98\/256<(cw E c).lines):=by show ¬ ((E.L:Int)<98\/256<(E.L:Int));omega
 have d:¬ ((cw E c).dead=(cw E c).a1/\(cw E c).dS≠(cw E c).inc):=by show ¬ ((0:Int)=(c:Int)/\_);omega
 have f:¬ ((cw E c).dead≠(cw E c).a1/\((cw E c).dS<2\/60<(cw E c).dS\/Int.tmod (cw E c).dS 2≠0)):=by have j:Int.tmod (cw E c).dS 2=0:=rfl;have a:(cw E c).dS=2:=rfl;omega
 rw [if_neg b,if_neg d,if_neg f];exact if_neg λh=>h.1 rfl
theorem EX (b:1<=E.n):mv (cw E c)=bg 0:=by unfold mv;rw [ry];obtain ⟨k,a⟩:∃ k,E.n=k+1:=⟨E.n - 1,by omega⟩;rw [a,s'];rfl
theorem EP (hm:m<E.n):(cw E c).v.mem.getD m jI=bg m:=by rw [ry,dF,dR,kk hm];rfl
theorem AA (m:Nat) (a o w:Int):rY (cw E c) (bg m) a o w=fW m a o w:=rfl
theorem yD:cL (cw E c)=[⟨0,2,true⟩]:=by unfold cL;rw [if_neg (λh=>by have:mK (0:Int)=false:=rfl;have a:mK 0=true:=h.1;rw [this] at a;cases a)];rfl
theorem CG {α β:Type} {f:α->β}:∀ (l:List α),(l.map λx=>[f x]).flatten=l.map f
 | []=>rfl
 |a::l=>by rw [f9,gV,CG l];rfl
def iA (n:Nat):List aW:=(List.range n).map λm=>cR m 24 1
def hg (eM:cP):List aW:=eM.map λm=>fW m 24 1 2
def gZ (c:Nat):List aW:=[fW 0 49 0 (gA c)]
def gK (n:Nat):List aW:=((List.range n).map λm=>[cR m 24 1,cR m 48 120]).flatten++[cR 0 32 1]
def gB (E:Env) (sp:cP):List aW:=(sp.map λm=>[cx m 48 [0],cx m 56 (gS E),cx m 48 [h' E]]).flatten
def gM (W:List aK):List aW:=W.map λp=>cR 0 (p.bo * 8) 1
def fK (E:Env) (l:List aK):List aW:=((List.range (E.n - 1)).map λm=>l.map (fG (m+1))++[cx (m+1) 32 [c_ E]]).flatten
def f0 (E:Env) (l:List aK):List aW:=cx 0 32 [c_ E]::l.map (fG 0)
def ir (eG:List aK):List aW:=eG.map λp=>fW 0 (p.bo * 8) (eK p.Head 0) p.Head
def gG (c:Nat):List aW:=[fW 0 49 (gA c) 0]
theorem B7:hp (cw E c)=iA E.n:=by unfold hp iA;rw [yD,ry,ru];exact CG (List.range E.n) (f:=λm=>cR m 24 1)
theorem Ej (i:Nat):gh (cw E c) i=⟨0,2,true⟩:=by unfold gh;rw [yD];show ([⟨0,2,true⟩]:List da).getD (i % 1) pB=_;rw [Nat.mod_one];rfl
theorem Od (h:i<E.n):nw (cw E c) i=bg i:=by unfold nw;rw [yD];show (cw E c).v.mem.getD (i / 1) jI=_;rw [Nat.div_one];exact EP h
def kG (n:Nat) (ds:List aO):cP:=(List.range n).filter λi=>dx ds i == 1
theorem CH {ds:List aO} (h:∀ i,i<E.n->dx ds i=1\/dx ds i=2):∀ {k:Nat},k<=E.n->h3 (cw E c) ds k=(kG k ds).map λm=>(fW m 24 1 2,(⟨0,2,true⟩:da))
 | 0,_=>rfl
 |k+1,a=>by
  rw [AI,CH h (by omega)];unfold kG s6 tz;rw [ki,Bh,ja,Ej,Od (by omega),AA];congr 1;rcases h k (by omega) with e | e
  ·rw [if_pos (show dx ds k<2 by omega)];simp [e]
  ·rw [if_neg (show ¬ dx ds k<2 by omega)];simp [e]
def d3 (eM:cP) (X:List (List aO)):cq:=oR (eM.map λm=>(fW m 24 1 2,(⟨0,2,true⟩:da))) (bK X (hg eM))
def k5 (X:List (List aO)):cq:=⟨true,[],(0,0),X,none,false⟩
def Kp (E:Env) (c:Nat) (G:List (List aO)) (f:List (List aO)->cq×dA):Prop:=∀ X,h8 (cw E c) (bg 0) (G++X)=f X
theorem Kp.next {a:List (List aO)->cq×dA} (h:Kp E c G f) (b:∀ X,f (D::X)=a X):Kp E c (G++[D]) a:=λX=>by rw [lr];exact (h ([D]++X)).trans (b X)
theorem Kp.ask (ay:b8 E) (b:1<=c/\c<6) (h:Kp E c G f) (a:(f []).1.ask=some vs):fD (cw E c) G=(vs,⟨0,0,0,0,0⟩,false):=by have:=h [];rw [i'] at this;unfold fD;rw [if_neg (by rw [CF ay b];simp),EX ay.e.n.1,this,a]
theorem Kp.out (ay:b8 E) (g:1<=c/\c<6) (h:Kp E c G f) (a:(f []).1.ask=none) (b:(f []).1.dE=false) (d:(f []).1.a4=[]):fD (cw E c) G=([],(f []).2,true):=by have:=h [];rw [i'] at this;unfold fD;rw [if_neg (by rw [CF ay g];simp),EX ay.e.n.1,this,a];simp only;rw [if_neg (by rw [b,d];simp)]
theorem nM (h:vs≠[]):bK [] vs=⟨false,[],(0,0),[],some vs,false⟩:=AP h 0
theorem mx (h:vs≠[]) (a:Fit vs D) (X:List (List aO)):bK (D::X) vs=⟨true,D,(0,0),X,none,false⟩:=A6 X h a 0
theorem tw (X:List (List aO)):bK X []=k5 X:=BY X 0
def qK (E:Env) (c:Nat):List (List aO)->cq×dA:=h8 (cw E c) (bg 0)
def kW (E:Env) (c:Nat) (X:List (List aO)):cq×dA:=sL (cw E c) (bg 0) (h2 (cw E c) (bg 0) X)
def mg (E:Env) (c:Nat) (eM:cP) (X:List (List aO)):cq×dA:=if (d3 eM X).ok=false then (d3 eM X,iG (d3 eM X).out) else kW E c (d3 eM X).a4
def ow (E:Env) (c:Nat) (X:List (List aO)):cq×dA:=sL (cw E c) (bg 0) (k5 X)
def fA (E:Env) (c:Nat) (aT:List bd) (cH:Int) (c7:Int×Int) (S:cq):cq×dA:=q4 (cw E c) (bg 0) aT cH (c7,S)
theorem QA:Kp E c [] (qK E c):=λX=>rfl
theorem zy (a:1<=E.n):iA E.n≠[]:=by unfold iA;intro e;have:=congrArg List.length e;simp at this <;> omega
theorem Oe (a:1<=E.n):(qK E c []).1.ask=some (iA E.n):=by unfold qK h8 hq tA;rw [B7,nM (zy a)];rfl
theorem MZ (f:1<=E.n) (a:Fit (iA E.n) D) (hw:∀ i,i<E.n->dx D i=1\/dx D i=2) (X:List (List aO)):qK E c (D::X)=mg E c (kG E.n D) X:=by
 have e:D.length=E.n:=by rw [a.len];unfold iA;simp
 have b:(List.range D.length).any (jx (cw E c) D)=false:=by rw [yt];intro i d;have:=hw i (by have:=fJ.1 d;omega);unfold jx;rw [Ej];simp;show dx D i<=2;omega
 have ar:hq (cw E c) (D::X)=d3 (kG E.n D) X:=by unfold hq;rw [B7,mx (zy f) a];unfold tA;simp only;rw [if_neg (by simp),if_neg (by rw [b];simp),e,CH hw (cQ _)];unfold d3 hg;rw [ru];rfl
 unfold qK h8 mg kW;rw [ar]
theorem Of (X:List (List aO)):d3 [] X=k5 X:=by unfold d3 oR;rw [show hg []=[] from rfl,tw];rfl
theorem Og (X:List (List aO)):mg E c [] X=kW E c X:=by unfold mg;rw [Of];exact if_neg (by simp [k5])
theorem Oh (h:eM≠[]):(mg E c eM []).1.ask=some (hg eM):=by
 have au:hg eM≠[]:=by unfold hg;simpa using h
 unfold mg d3 oR;rw [nM au];rfl
theorem M0 (h:eM≠[]) (a:Fit (hg eM) D) (hw:∀ i,i<eM.length->dx D i=1\/dx D i=2) (X:List (List aO)):mg E c eM (D::X)=kW E c X:=by
 have au:hg eM≠[]:=by unfold hg;simpa using h
 have f:D.length=eM.length:=by rw [a.len];unfold hg;simp
 have ar:d3 eM (D::X)=k5 X:=by
  unfold d3 oR;rw [mx au a];simp only;have d:(List.range D.length).any (ni (eM.map λm=>(fW m 24 1 2,(⟨0,2,true⟩:da))) D)=false:=by rw [yt];intro i b;have b:=fJ.1 b;have hw:=hw i (by omega);obtain ⟨m,hm⟩:∃ m,eM[i]?=some m:=⟨_,bD (by omega)⟩;unfold ni mb;rw [dF,dR,hm];show ¬ ((decide (dx D i≠1) && (decide (dx D i≠2) && (true || decide (dx D i<2))))=true);rcases hw with e | e<;>simp [e]
  rw [if_neg (by simp),if_neg (by rw [d];simp)];rfl
 unfold mg;rw [ar];exact if_neg (by simp [k5])
theorem Bn (a:c<6):[jl (cw E c) (bg 0)]=gZ c:=by unfold jl gZ;rw [AA];show [fW 0 49 0 (gv 1 c)]=_;rw [(vL a).2]
theorem Oi (a:c<6):(kW E c []).1.ask=some (gZ c):=by unfold kW h2;rw [Bn a,nM (by simp [gZ])];rfl
theorem M1 (b:c<6) (d:Fit (gZ c) D) (a:mY D=0) (X:List (List aO)):kW E c (D::X)=ow E c X:=by unfold kW h2 ow;rw [Bn b,mx (by simp [gZ]) d,if_neg (by simp)];simp only;rw [a,if_neg (λh=>h.1 rfl)];rfl
theorem M3 (a:c<6) (e:Fit (gZ c) D) (b:mY D≠0) (d:mY D≠gA c) (X:List (List aO)):kW E c (D::X)=(⟨false,[],(3,mY D),X,none,false⟩,⟨3,0,0,0,mY D⟩):=by unfold kW h2;rw [Bn a,mx (by simp [gZ]) e,if_neg (by simp)];simp only;rw [if_pos ⟨b,by show mY D≠gv 1 c;rw [(vL a).2];exact d⟩];rfl
theorem BK:fz (cw E c) (bg 0)=gK E.n:=by unfold fz gK;rw [ry,ru];rfl
theorem zz (n:Nat):gK n≠[]:=by unfold gK;simp
theorem Oj:(ow E c []).1.ask=some (gK E.n):=by unfold ow sL fB rZ k5;rw [BK,nM (zz _)];rfl
def m2 (n:Nat) (D:List aO):List bd:=(List.range n).map λi=>(D.getD (2 * i+1) ⟨0,[]⟩).words
theorem M4 (h:Fit (gK E.n) D) (ar:∀ i,i<E.n->dx D (2 * i)=2) (X:List (List aO)):ow E c (D::X)=fA E c (m2 E.n D) (dx D (2 * E.n)) (hD (cw E c) (bg 0) (m2 E.n D) X).1 (hD (cw E c) (bg 0) (m2 E.n D) X).2:=by
 have a:(cw E c).v.mem.length=E.n:=by rw [ry];simp
 have b:bK (D::X) (fz (cw E c) (bg 0))=⟨true,D,(0,0),X,none,false⟩:=by rw [BK];exact mx (zz _) h X
 have d:mA (cw E c) D E.n=true:=by unfold mA;rw [gU];intro i j;exact beq_iff_eq.2 (ar i (fJ.1 j))
 have e:fB (cw E c) (bg 0) (D::X)=k5 X:=by unfold fB rZ;rw [b,if_neg (by simp)];simp only;rw [a,if_pos d];rfl
 have f:ke (cw E c) (bg 0) (D::X)=m2 E.n D:=by unfold ke rA;rw [b,a];rfl
 have g:m0 (cw E c) (bg 0) (D::X)=dx D (2 * E.n):=by unfold m0 s7;rw [b,a]
 unfold ow sL;rw [if_neg (by simp [k5])];show (if (fB (cw E c) (bg 0) (D::X)).ok=false then _ else q4 _ _ (ke (cw E c) (bg 0) (D::X)) (m0 (cw E c) (bg 0) (D::X)) (hD _ _ (ke (cw E c) (bg 0) (D::X)) (fB (cw E c) (bg 0) (D::X)).a4))=_;rw [e,f,g,if_neg (by simp [k5])];rfl
end
end
section
open e7
section
variable {E:Env} {c:Nat}
def mi (E:Env) (l:List aK) (X:List (List aO)):cq:=bK X (f0 E l)
def j3 (E:Env) (l:List aK) (X:List (List aO)):cq:=if (bK X (fK E l)).ok=false then bK X (fK E l) else mi E l (bK X (fK E l)).a4
def h7 (E:Env) (D:List aO):List aK:=gq (cw E 0) (bI E) D (bI E).length
def ks (E:Env) (X:List (List aO)):cq:=
 if (bK X (gM (bI E))).ok=false then bK X (gM (bI E)) else if (h7 E (bK X (gM (bI E))).done).length=0 then bK X (gM (bI E)) else j3 E (h7 E (bK X (gM (bI E))).done) (bK X (gM (bI E))).a4
def kt (E:Env) (sp:cP) (X:List (List aO)):cq:=if (bK X (gB E sp)).ok=false then bK X (gB E sp) else ks E (bK X (gB E sp)).a4
def nr (eG:List aK) (X:List (List aO)):cq:=bK X (ir eG)
def jN (E:Env) (A:bt):cP:=(List.range E.n).filter λm=>!A.cG m
theorem M5 (b:1<=E.n):(cw E c).v.mem.tail=(List.range (E.n - 1)).map λm=>bg (m+1):=by
 rw [ry];cases a:E.n with
 |zero=>omega
 |succ k=>rw [s'];simp
theorem L2 (a:1<=E.n) (l:List aK):tB (cw E c) (c_ E) l=fK E l:=by unfold tB fK;rw [M5 a,ru];rfl
theorem M6 (l:List aK):v8 (cw E c) (bg 0) (c_ E) l=f0 E l:=rfl
theorem M7 (X:List (List aO)):fp (cw E c) (bg 0) (bI E) X=bK X (gM (bI E)):=rfl
theorem BL (ay:b8 E) {A:bt} {aT:List bd} (h:o9 E A aT) (b:ia E A):∀ k,k<=E.n->nH (cw E c) (c_ E) (bI E) aT k=gB E ((List.range k).filter λm=>!A.cG m)
 | 0,_=>rfl
 |k+1,e=>by
  rw [B6,BL ay h b k (by omega)];obtain ⟨L,a⟩:∃ L,aT[k]?=some L:=⟨_,bD (by rw [h.len];omega)⟩;have d:=(h.at_ k L a).holds ay (b k (by omega)) (j:=cw E c) rfl;unfold xR gB;rw [dF,a,Option.getD_some,d,EP (by omega),ki,Bh,ja,Bi];congr 1;cases hm:A.cG k with
  |true=>simp [hm]
  |false=>simp [hm];rfl
theorem M8 (g:1<=E.n) (X:List (List aO)):pq (cw E c) (bg 0) (c_ E) (bI E) (fp (cw E c) (bg 0) (bI E) X)=ks E X:=by
 unfold pq ks j3 mi qL;rw [M7];have b:∀ D:List aO,D.length=(bI E).length->gq (cw E c) (bI E) D D.length=h7 E D:=λD e=>by unfold h7;rw [e];rfl
 by_cases a:(bK X (gM (bI E))).ok=true
 ·have f:=DV a;have d:¬ (bK X (gM (bI E))).ok=false:=by rw [a];simp
  rw [if_neg d,if_neg d,b _ (by rw [f];unfold gM;simp),L2 g,M6]
 ·rw [if_pos (by simpa using a),if_pos (by simpa using a)]
theorem KK (ay:b8 E) (h:o9 E A aT) (b:ia E A) (X:List (List aO)):pV (cw E c) (bg 0) (c_ E) (bI E) aT X=kt E (jN E A) X:=by
 unfold pV kt k4;have a:(cw E c).v.mem.length=E.n:=by rw [ry];simp
 rw [a,BL ay h b _ (cQ _)];show (if (bK X (gB E (jN E A))).ok=false then bK X (gB E (jN E A)) else pq _ _ _ _ (fp _ _ _ (bK X (gB E (jN E A))).a4))=_;rw [M8 ay.e.n.1]
theorem L3 (ay:b8 E) (h:o9 E A aT) (b:ia E A) (hm:∃ m,m<E.n/\A.cG m=true) (X:List (List aO)):hD (cw E c) (bg 0) aT X=((2,c_ E),kt E (jN E A) X):=by have a:eb (cw E c).lines aT=((c_ E,bI E),true):=L1 ay h b hm;unfold hD;rw [a,if_pos rfl];exact congrArg _ (KK ay h b X)
theorem L4 (ay:b8 E) (h:o9 E A aT) (q:f' E A):∃ c7 eG,(∀ X,hD (cw E c) (bg 0) aT X=(c7,nr eG X))/\c7.1≠2/\(ia E A->eG=bI E/\c7=(3,c_ E))/\eG.length<=12/\∀ p ∈ eG,96<=p.bo/\p.bo<E.L:=by
 have d:eb (cw E c).lines aT=((0,[]),false):=MX h q;have r:=ay.e.n;obtain ⟨L,l⟩:∃ L,aT[0]?=some L:=⟨_,bD (by rw [h.len];omega)⟩;have k:aT.getD 0 []=L:=by rw [dF,l];rfl
 have hw:ia E A->fN L E.L=true/\cW L E.L=(c_ E,bI E):=λi=>(h.at_ 0 L l).whole ay (i 0 (by omega))
 cases g:fN L E.L with
 |true=>
  refine ⟨(3,(cW L E.L).1),(cW L E.L).2,λX=>?_,by simp,λi=>by rw [(hw i).2];exact ⟨rfl,rfl⟩,?_⟩
  ·unfold hD;rw [d,if_neg (by simp),k,if_pos (show fN L (cw E c).lines=true from g)];rfl
  ·have j:=g;unfold fN at j;simp only [e1,decide_eq_true_eq,beq_iff_eq] at j;have f:=j.2;have o:cW L E.L=((L.drop 8).getD 0 0,hl (L.drop 8) ((L.drop 8).getD 1 0).toNat):=by unfold cW ew;rw [if_pos g,if_pos f]
   unfold eg at f;split at f
   ·omega
   split at f
   ·omega
   split at f
   ·omega
   split at f
   ·omega
   rename_i t;obtain ⟨_,a,b,_⟩:=jj (by omega:fy ((L.drop 8).getD 0 0) (hl (L.drop 8) ((L.drop 8).getD 1 0).toNat) E.L=0);rw [o];exact ⟨a.2.2.2,b⟩
 |false=>refine ⟨(1,0),[],λX=>?_,by simp,λi=>(by rw [(hw i).1] at g;cases g),by simp,λp s=>by cases s⟩;unfold hD;rw [d,if_neg (by simp),k,if_neg (show ¬ fN L (cw E c).lines=true by show ¬ fN L E.L=true;rw [g];simp)];unfold nr ir;rw [tj,tw];rfl
def su (D:List aO) (X:List (List aO)):cq:=⟨true,D,(0,0),X,none,false⟩
def ph (vs:List aW):cq:=⟨false,[],(0,0),[],some vs,false⟩
theorem zA (h:sp≠[]):gB E sp≠[]:=by
 cases sp with
 |nil=>exact absurd rfl h
 |cons a l=>simp [gB]
theorem zB (ay:b8 E):gM (bI E)≠[]:=by unfold gM;have:=ay.bM.some_;simpa using this
theorem we (b:1<E.n) (l:List aK):fK E l≠[]:=by obtain ⟨k,a⟩:∃ k,E.n - 1=k+1:=⟨E.n - 2,by omega⟩;unfold fK;rw [a,s'];simp
theorem zq (a:E.n=1) (l:List aK):fK E l=[]:=by unfold fK;rw [a];rfl
theorem Ok (X:List (List aO)):kt E [] X=ks E X:=by unfold kt;rw [show gB E []=[] from rfl,tw];exact if_neg (by simp [k5])
theorem Ol (h:sp≠[]):kt E sp []=ph (gB E sp):=by unfold kt;rw [nM (zA h)];rfl
theorem M9 (h:sp≠[]) (a:Fit (gB E sp) D) (X:List (List aO)):kt E sp (D::X)=ks E X:=by unfold kt;rw [mx (zA h) a];exact if_neg (by simp)
theorem Om (ay:b8 E):ks E []=ph (gM (bI E)):=by unfold ks;rw [nM (zB ay)];rfl
theorem M_ (ay:b8 E) (a:Fit (gM (bI E)) D) (X:List (List aO)):ks E (D::X)=if h7 E D=[] then su D X else j3 E (h7 E D) X:=by
 unfold ks;rw [mx (zB ay) a,if_neg (by simp)];simp only;by_cases h:h7 E D=[]
 ·rw [if_pos (by rw [h];rfl),if_pos h];rfl
 ·rw [if_neg (λe=>h (nZ.1 e)),if_neg h]
theorem On (a:E.n=1) (l:List aK) (X:List (List aO)):j3 E l X=mi E l X:=by unfold j3;rw [zq a,tw];exact if_neg (by simp [k5])
theorem Oo (a:1<E.n) (l:List aK):j3 E l []=ph (fK E l):=by unfold j3;rw [nM (we a l)];rfl
theorem Na (b:1<E.n) (a:Fit (fK E l) D) (X:List (List aO)):j3 E l (D::X)=mi E l X:=by unfold j3;rw [mx (we b l) a];exact if_neg (by simp)
theorem Oq (l:List aK):mi E l []=ph (f0 E l):=nM (by simp [f0])
theorem MK (a:Fit (f0 E l) D) (X:List (List aO)):mi E l (D::X)=su D X:=mx (by simp [f0]) a X
theorem Ot (X:List (List aO)):nr [] X=k5 X:=tw X
theorem Ou (h:eG≠[]):nr eG []=ph (ir eG):=nM (by unfold ir;simpa using h)
theorem M2 (h:eG≠[]) (a:Fit (ir eG) D) (X:List (List aO)):nr eG (D::X)=su D X:=mx (by unfold ir;simpa using h) a X
def nk (E:Env) (c:Nat) (aT:List bd) (cH:Int) (c7:Int×Int) (X:List (List aO)):cq×dA:=
 if (bK X (gG c)).ok=false then (bK X (gG c),iG (bK X (gG c)).out) else (bK X (gG c),⟨0,c7.1,c7.2,jG E.L cH aT,0⟩)
variable {aT:List bd} {cH:Int} {c7:Int×Int}
theorem Ov (a:c<6) (X:List (List aO)):hC (cw E c) (bg 0) X=bK X (gG c):=by unfold hC gG;rw [AA];show bK X [fW 0 49 (gv 1 c) 0]=_;rw [(vL a).2]
theorem wg (a:c<6) {S:cq} (h:S.ok=true):fA E c aT cH c7 S=nk E c aT cH c7 S.a4:=by unfold fA q4 nk;rw [if_neg (by rw [h];simp),Ov a];rfl
theorem tx (vs:List aW):(fA E c aT cH c7 (ph vs)).1.ask=some vs:=by unfold fA q4;rw [if_pos (show (ph vs).ok=false from rfl)];rfl
theorem Ow:(nk E c aT cH c7 []).1.ask=some (gG c):=by unfold nk;rw [nM (by simp [gG])];rfl
theorem ML (a:Fit (gG c) D) (X:List (List aO)):nk E c aT cH c7 (D::X)=(su D X,⟨0,c7.1,c7.2,jG E.L cH aT,0⟩):=by unfold nk;rw [mx (by simp [gG]) a];exact if_neg (by simp)
end
end
end Go.Proofs.YtmkljjbioomepaaGreat
