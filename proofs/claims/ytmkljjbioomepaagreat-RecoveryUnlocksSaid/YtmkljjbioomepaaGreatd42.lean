import Derived.Test.YtmkljjbioomepaaGreatd41
import Derived.Test.YtmkljjbioomepaaGreatProg
import Derived.Test.YtmkljjbioomepaaGreatd03
import Derived.Test.YtmkljjbioomepaaGreatd04
import Derived.Test.YtmkljjbioomepaaGreatd12
import Derived.Test.YtmkljjbioomepaaGreatd21
set_option linter.all false
set_option maxHeartbeats 4000000
set_option maxRecDepth 100000
namespace Go.Proofs.YtmkljjbioomepaaGreat
open Go.Proofs.Tryz Go.bs
namespace gP
structure ja (A:a6) (aw:Nat->Tag) (w:ak) (aJ:Nat) (la:an) (lc:Nat) (ds:List (an×ax)) (u:ak) (B:a6) (dz:Nat->Tag) (X:bR) (ts:List (e2×bJ conv)):Prop where
 lz:ft A aw w aJ (aL la) u B dz X
 own:a1 u g8 36 la ts.length lc (iU ts).flatten
 mV:∀ x ∈ ts,ip (λk=>B k\/aL la k) u x.1 x.2/\nb x.2
 lV:∀ d ∈ ds,o' (λk=>B k\/aL la k) u d.1 d.2
 fl:cd X.pure
theorem ja.new {A:a6} {aw:Nat->Tag} {w u bw:ak} {aJ:Nat} {la:an} {lc:Nat} {ds:List (an×ax)} {B:a6} {dz:Nat->Tag} {X:bR} {ts:List (e2×bJ conv)} (h:ja A aw w aJ la lc ds u B dz X ts) (a:ai u bw):ja A aw w aJ la lc ds bw B dz X ts:=
 ⟨h.lz.new a,a1.new a h.own,λx b=>⟨(h.mV x b).1.aA (ao.b9 a) λ_ _ e=>e,(h.mV x b).2⟩,λd aq=>(h.lV d aq).aA (ao.b9 a) λ_ _ e=>e,h.fl⟩
theorem ja.op {A:a6} {aw:Nat->Tag} {w u bw:ak} {aJ:Nat} {la:an} {lc:Nat} {ds:List (an×ax)} {B:a6} {dz:Nat->Tag} {X:bR} {ts:List (e2×bJ conv)} (h:ja A aw w aJ la lc ds u B dz X ts) {F:aE} {K:(a6)->Prop} (p:dR (λk=>B k\/aL la k) dz u aJ F bw K) (q:cd F) :
  ∃ B' j e,ja A aw w aJ la lc ds bw B' j e ts/\e.pure=F/\K (λk=>B' k\/aL la k):=by
 obtain ⟨B',j,e,o,b,f,c,a,i⟩:=h.lz.op p;refine ⟨B',j,e,⟨o,?_,λx n=>⟨(h.mV x n).1.aA c a,(h.mV x n).2⟩,λd aq=>(h.lV d aq).aA c a,by rw [b];exact q⟩,b,f⟩;refine ⟨h.own.1,?_⟩;rcases h.own.2 with s | ⟨g,cur,l,r,rest⟩
 ·exact .inl s
 ·exact .inr ⟨g,cur,l,(i g ⟨0,l⟩).trans r,rest⟩
theorem ja.Hp {A:a6} {aw:Nat->Tag} {w u w1:ak} {aJ lb:Nat} {lc:Nat} {ds:List (an×ax)} {B:a6} {dz:Nat->Tag} {X:bR} {ts:List (e2×bJ conv)} (h:ja A aw w aJ (some ⟨lb,0,none⟩) lc ds u B dz X ts) {i:Nat} {x:e2×bJ conv} (r:ts[i]?=some x) {v:a4}
  (t:r6 (λk=>B k\/aL (some ⟨lb,0,none⟩) k) dz u aJ (bN X.pure x.2) v w1) :
  ∃ B' n f a,v=a.val/\eh w1 ⟨lb,i * 36,none⟩ 0 a.cells/\
   ja A aw w aJ (some ⟨lb,0,none⟩) lc ds (cu w1 ⟨lb,i * 36,none⟩ 0 a.cells) B' n f (ts.set i (a,(bN X.pure x.2).2))/\f.pure=(bN X.pure x.2).1:=by
 obtain ⟨B',n,f,c,g,a,al,l⟩:=h.op t (h.fl.bN _);have j:=(lG.1 r).1;obtain ⟨hw,s⟩:=a1.Ub c.own (sJ ts) (by simp [iU]) j (vs:=a.cells) rfl (cb.single a);have q:ao (λk=>k=lb) w1 (cu w1 ⟨lb,i * 36,none⟩ 0 a.cells):=h7 _ _ _ _ _;have p:∀ k,k=lb->aL (some ⟨lb,0,none⟩) k:=λk e=>⟨0,by rw [e]⟩
 have b:ao (λk=>B' k\/aL (some ⟨lb,0,none⟩) k) w1 (cu w1 ⟨lb,i * 36,none⟩ 0 a.cells):=q.mono λk _ e=>.inr (p k e)
 refine ⟨B',n,f,a,al,hw,⟨c.lz.local q p,?_,λy z=>?_,λd aq=>(c.lV d aq).aA b λ_ _ e=>e,c.fl⟩,g⟩
 ·rw [o0];have e:iU (ts.set i (a,(bN X.pure x.2).2))=(iU ts).set i a.cells:=by simp [iU,iH]
  rw [e];exact s
 ·rcases lK z with o | rfl
  ·exact ⟨(c.mV y o).1.aA b λ_ _ e=>e,(c.mV y o).2⟩
  ·exact ⟨l.aA b λ_ _ e=>e,Ke (h.mV x (b5 r)).2⟩
theorem ja.la {A:a6} {aw:Nat->Tag} {w u:ak} {aJ:Nat} {la:an} {lc:Nat} {ds:List (an×ax)} {B:a6} {dz:Nat->Tag} {X:bR} {ts:List (e2×bJ conv)} (h:ja A aw w aJ la lc ds u B dz X ts) (b:0<ts.length):∃ lb,la=some ⟨lb,0,none⟩:=by
 rcases h.own.2 with ⟨_,c,_⟩ | ⟨g,cur,a,_⟩
 ·omega
 ·exact ⟨g,a⟩
def CC (A:a6) (aw:Nat->Tag) (w:ak) (aJ:Nat) (r:aE×List (bJ conv)) (v:a4) (w':ak):Prop:=
 dR A aw w aJ r.1 w' λB=>∃ la lc a,v=.slice la r.2.length lc/\a.map Prod.snd=r.2/\a1 w' g8 36 la r.2.length lc (iU a).flatten/\(∀ k,aL la k->¬ B k)/\∀ x ∈ a,ip B w' x.1 x.2
theorem Ep (ts:List (e2×bJ conv)) (i:Nat) (r:e2) (t:bJ conv):(ts.set i (r,t)).map Prod.snd=(ts.map Prod.snd).set i t:=by simp [iH]
theorem Er {A:a6} {aw:Nat->Tag} {w:ak} {aJ:Nat} {X:bR} (h:b6 A aw w aJ X) (Yh:cd X.pure) {ts:List (e2×bJ conv)} {a2:an} {pc:Nat} (X1:bk w a2 (iU ts).flatten) (Xw:∀ x ∈ ts,ip A w x.1 x.2/\nb x.2) (Ym:ts.length<=1000)
  {sch:a8} {sa:an} {sc:Nat} (X0:o' A w sa (is sch)) (X':∀ x ∈ sch,d9 x) {most:Nat} (hm:most<=1000000) :
  bb 15 [ptr aJ,.slice a2 ts.length pc,.slice sa sch.length sc,.slice none 0 0,.int .i64 most] w (CC A aw w aJ (dK X.pure (ts.map Prod.snd) sch [] most)):=by
 refine bd Tryz.func15 ?_;rw [ptr,V3];obtain ⟨inf,X4,au,b,XC⟩:=fV (T:=g8) (z:=.agg #[(.int .i64 0),(.int .i64 0),(.int .i64 0),(.int .i64 0),(.int .i64 0),(.int .i64 0),(.int .i64 0),(.int .u64 0),(.int .i64 0),(.int .i64 0),(.int .i64 0),(.int .i64 0),(.slice none 0 0),(.slice none 0 0),(.slice none 0 0),(.int .i64 0),(.int .i64 0),(.int .i64 0),(.int .i64 0),(.slice none 0 0),(.int .i64 0),(.int .i64 0),(.int .u64 0),(.slice none 0 0),(.bool false),(.bool false),(.int .i64 0),(.int .i64 0),(.slice none 0 0),(.int .i64 0),(.slice none 0 0),(.int .u64 0),(.int .i64 0),(.int .i64 0),(.int .i64 0),(.int .i64 0)]) (n:=36) (m:=392) (by kernel_rfl);have XY:a1 w g8 inf.size none 0 0 []:=a1.nil _ _ _;obtain ⟨ap,dr,w1,N,g,XU,XR⟩:=a1.append (P:=prog) (t:=FB) (ty:=FB) Tryz.underlying46 X4 au (by rw [b];rfl) (by omega) XY (s:=a2) (m:=ts.length) (c:=pc) (news:=(iU ts).flatten) (by rw [b,mx (sJ ts)];simp [iU]) X1 (I5 ts) (by omega) (by rw [XC];omega);rw [gM,m2,b] at g;rw [gM] at N;have Xv:ai w w1:=XU.mono λk _ R=>by obtain ⟨o,XH⟩:=R;cases XH
 have Xy:∀ k,aL ap k->w.heap.size<=k:=λk q=>by
  rcases XR with e | e
  ·rw [e] at q;obtain ⟨o,XH⟩:=q;cases XH
  ·rw [e] at q;obtain ⟨o,XH⟩:=q;simp at XH <;> omega
 have J:∀ k,k<w.heap.size->A k\/aL ap k->A k:=λk r X3=>X3.elim id λR=>by have:=Xy k R;omega
 have Yf:ft A aw w aJ (aL ap) w1 A aw X:=ft.start h Xv λk q=>⟨Xy k q,g.lt q⟩
 have XM:ja A aw w aJ ap dr [(sa,is sch)] w1 A aw X ts:=by refine ⟨Yf,g,λx Q=>⟨(Xw x Q).1.aA (ao.b9 Xv) J,(Xw x Q).2⟩,λd aq=>?_,Yh⟩;simp at aq;subst aq;exact X0.aA (ao.b9 Xv) J
 refine ⟨ap,ts.length,dr,w1,N,?_⟩;clear N XU Yf XY au XC b X4 inf XR;obtain ⟨inf,X4,au,b,XC⟩:=fV (T:=mj) (z:=.int .i64 0) (n:=1) (m:=8) (by kernel_rfl);generalize XD:(ts.map Prod.snd).map bJ.aW=cs;refine c8 mix (λm env u=>∃ (i:Nat) (y:an) (cc:Nat) (j:ax),m=ts.length - i/\i<=ts.length/\env=xl ⟨aJ,0,none⟩ ap ts.length dr sa sch.length sc none 0 0 most y i cc i j/\ai w1 u/\a1 u mj 1 y i cc (is (cs.take i))/\(∀ k,aL y k->w1.heap.size<=k)) ts.length
  ⟨0,none,0,_,rfl,by omega,rfl,ao.refl _ _,a1.nil _ _ _,λk q=>by obtain ⟨o,XH⟩:=q;cases XH⟩ ?_
 rintro m env u ⟨i,y,cc,j,rfl,H,rfl,K,L,U⟩;rw [Tc];refine bc (λXJ=>?_) (λXJ=>?_)
 ·have r:i<ts.length:=by omega
  have F:ts[i]?=some ts[i]:=bE r;obtain ⟨Ye,dw,f,S,l⟩:=(a1.new K g).rd.row (sJ ts) (by omega) (Bt F);have XT:cs[i]?=some ts[i].2.aW:=by rw [<-XD];simp [F]
  rw [f];refine ej (by omega) (by omega) ⟨ts[i].2.aW,by rw [<-(Xw _ (kY r)).1.aW];simpa using l 1 _ rfl,?_⟩;have XX:a1 u mj inf.size y i cc (is (cs.take i)):=by rw [b];exact L
  refine oI Tryz.underlying22 X4 au (by rw [b];rfl) (by omega) XX (vs:=[.int .i64 ts[i].2.aW]) (by rw [b];rfl) (by intro v al;simp at al;subst al;rfl) (by omega) (by omega) ?_;intro Yo X6 XL Yp Yj XW X9 XS;rw [b] at XW;rw [bH (by omega) (by omega),<-f];refine ⟨ts.length - (i+1),by omega,i+1,X6,XL,_,rfl,by omega,rfl,sF K X9 U,?_,?_⟩
  ·have e:is (cs.take (i+1))=is (cs.take i)++[.int .i64 ts[i].2.aW]:=by rw [ff,XT];simp [is]
   rw [e];exact XW
  ·intro k q;rcases XS k q with X7 | X7
   ·exact U k X7
   ·have:=K.size;omega
 have XF:i=ts.length:=by omega
 subst XF;have Yk:cs.length=ts.length:=by rw [<-XD];simp
 rw [h1 (by omega)] at L;rw [T7];clear XJ H;have XN:ja A aw w aJ ap dr [(y,is cs),(sa,is sch)] u A aw X ts:=by
  have aq:=XM.new K;refine ⟨aq.lz,aq.own,aq.mV,λd XE=>?_,Yh⟩;rcases eU.1 XE with rfl | XE
  ·refine ⟨L.rd,hk L.rd λk q e=>?_⟩;have X7:=U k q;rcases e with e | e
   ·have:=h.low k e;have:=Xv.size;omega
   ·have:=g.lt e;omega
  ·exact aq.lV d XE
 have C:dK X.pure (ts.map Prod.snd) sch [] most=turns (f_ cs sch [] most 0 X.pure (ts.map Prod.snd)).1 (f_ cs sch [] most 0 X.pure (ts.map Prod.snd)).2:=by unfold dK;rw [XD]
 rw [C];generalize XA:f_ cs sch [] most 0 X.pure (ts.map Prod.snd)=X2;have XO:=XA;clear C XM L U K X1 Xw X0;have Yg:cs.length<=1000:=by omega
 have I:∀ (z:ak) (B:a6) (dz:Nat->Tag) (Y:bR) (ys:List (e2×bJ conv)) (j:ax),ja A aw w aJ ap dr [(y,is cs),(sa,is sch)] z B dz Y ys->ys.length=ts.length->(Y.pure,ys.map Prod.snd)=X2->
   W prog (sub (bn f15) [1,1,1,1,1]) (xn ⟨aJ,0,none⟩ ap ts.length dr j) (dC prog f15 (CC A aw w aJ (turns X2.1 X2.2))) z:=by
  intro z B dz Y ys j a Xx XQ;rw [T8];rw [<-XQ];dsimp only;refine c8 mix (λm env z=>∃ (i:Nat) (B:a6) (dz:Nat->Tag) (Z:bR) (zs:List (e2×bJ conv)) (j:ax),m=ts.length - i/\i<=ts.length/\env=xo ⟨aJ,0,none⟩ ap ts.length dr i j/\ja A aw w aJ ap dr [(y,is cs),(sa,is sch)] z B dz Z zs/\zs.length=ts.length/\ml Y.pure (ys.map Prod.snd) i Z.pure (zs.map Prod.snd)) ts.length
   ⟨0,B,dz,Y,ys,_,rfl,by omega,rfl,a,Xx,ml.start _ _⟩ ?_
  clear a XQ;rintro m env z ⟨i,B,dz,Z,zs,j,rfl,H,rfl,a,E,G⟩;rw [Tf];refine bc (λXJ=>?_) (λXJ=>?_)
  ·have r:i<zs.length:=by omega
   have F:zs[i]?=some zs[i]:=bE r;obtain ⟨lb,XG⟩:=a.la (by omega);rw [XG] at a ⊢;obtain ⟨Ye,dw,f,S,l⟩:=a.own.rd.row (sJ zs) (by omega) (Bt F);simp at f;obtain ⟨rfl,rfl⟩:=f;have Q:=a.mV _ (b5 F);refine ej (by omega) (by omega) ?_;refine cb.aT zs[i].1 ⟨by simpa using S,?_⟩;refine aD (Ew a.lz.ck a.fl.b8 Q.1 Q.2) ?_;rintro v Yc M;obtain ⟨B',XK,X5,Yb,rfl,hw,D,XB⟩:=a.Hp F M;refine cb.aT Yb ⟨rfl,?_⟩;refine ej (by omega) (by omega) ?_;have Xz:0+Int.toNat (i:Int) * 36=i * 36:=by omega
   rw [Xz];refine ⟨hw,?_⟩;rintro Yn XI;rw [bH (by omega) (by omega)];refine ⟨ts.length - (i+1),by omega,i+1,B',XK,X5,_,_,rfl,by omega,rfl,by rw [XI];exact D,by simpa using E,?_⟩;rw [Ep,XB];exact G.step (by simp [F])
  ·have XF:i=ts.length:=by omega
   rw [T_];have p:=G.done (by simp;omega);rw [p];refine a.lz.done ⟨ap,dr,zs,by simp [E],rfl,by simpa using a.own,λk q R=>?_,λx Q=>(a.mV x Q).1.aA (ao.refl _ _) λ_ _ e=>.inl e⟩;obtain ⟨c9,l2,iM⟩:=a.lz.loc k q;rcases (a.lz.next.iff k).1 R with X3 | X3
   ·exact X3 iM
   ·omega
 refine c8 mix (λm env z=>∃ (n:Nat) (B:a6) (dz:Nat->Tag) (Y:bR) (ys:List (e2×bJ conv)) (j:ax),m=most - n/\n<=most/\env=xm ⟨aJ,0,none⟩ ap ts.length dr sa sch.length sc none 0 0 most y ts.length cc n j/\ja A aw w aJ ap dr [(y,is cs),(sa,is sch)] z B dz Y ys/\ys.length=ts.length/\f_ cs sch [] (most - n) n Y.pure (ys.map Prod.snd)=X2) most
  ⟨0,A,aw,X,ts,_,rfl,by omega,rfl,XN,rfl,XA⟩ ?_
 clear XN XA XO;rintro m env z ⟨n,B,dz,Y,ys,j,rfl,Yl,rfl,a,Xx,O⟩;rw [Td];refine bc (λXJ=>?_) (λXJ=>?_)
 ·have X_:most - n=(most - (n+1))+1:=by omega
  rw [X_,f_] at O;refine c8 mix (λm env z=>∃ (B:a6) (dz:Nat->Tag) (Z:bR) (j:ax),m=0/\env=uD ⟨aJ,0,none⟩ ap ts.length dr sa sch.length sc none 0 0 most y ts.length cc n (0:Nat) j/\ja A aw w aJ ap dr [(y,is cs),(sa,is sch)] z B dz Z ys/\Z.pure=Y.pure) 0
   ⟨B,dz,Y,_,rfl,rfl,a,rfl⟩ ?_
  clear a;rintro m env z ⟨B,dz,Z,j,rfl,rfl,a,Yi⟩;rw [Te];refine bc (λXZ=>absurd XZ (by omega)) (λXZ=>?_)
  have X8:jU Y.pure cs n []=Y.pure:=rfl;rw [X8] at O;rw [T9];rw [<-Yi] at O;refine c8 mix (λm env z=>∃ (i:Nat) (B:a6) (dz:Nat->Tag) (V:bR) (zs:List (e2×bJ conv)) (j:ax),m=ts.length - i/\i<=ts.length/\env=xp ⟨aJ,0,none⟩ ap ts.length dr sa sch.length sc none 0 0 most y ts.length cc n i j/\ja A aw w aJ ap dr [(y,is cs),(sa,is sch)] z B dz V zs/\zs.length=ts.length/\ml Z.pure (ys.map Prod.snd) i V.pure (zs.map Prod.snd)) ts.length
   ⟨0,B,dz,Z,ys,_,rfl,by omega,rfl,a,Xx,ml.start _ _⟩ ?_
  clear a XZ;rintro m env z ⟨i,B,dz,V,zs,j,rfl,H,rfl,a,E,G⟩;rw [Tg];refine bc (λXZ=>?_) (λXZ=>?_)
  ·have r:i<zs.length:=by omega
   have F:zs[i]?=some zs[i]:=bE r;obtain ⟨lb,XG⟩:=a.la (by omega);rw [XG] at a ⊢;obtain ⟨Ye,dw,f,S,l⟩:=a.own.rd.row (sJ zs) (by omega) (Bt F);simp at f;obtain ⟨rfl,rfl⟩:=f;have Q:=a.mV _ (b5 F);refine ej (by omega) (by omega) ?_;refine cb.aT zs[i].1 ⟨by simpa using S,?_⟩;refine aD (Ew a.lz.ck a.fl.b8 Q.1 Q.2) ?_;rintro v Yc M;obtain ⟨B',XK,X5,Yb,rfl,hw,D,XB⟩:=a.Hp F M;refine cb.aT Yb ⟨rfl,?_⟩;refine ej (by omega) (by omega) ?_;have Xz:0+Int.toNat (i:Int) * 36=i * 36:=by omega
   rw [Xz];refine ⟨hw,?_⟩;rintro Yn XI;rw [bH (by omega) (by omega)];refine ⟨ts.length - (i+1),by omega,i+1,B',XK,X5,_,_,rfl,by omega,rfl,by rw [XI];exact D,by simpa using E,?_⟩;rw [Ep,XB];exact G.step (by simp [F])
  ·have XF:i=ts.length:=by omega
   have p:=G.done (by simp;omega);rw [p] at O;rw [T'];have Ya:=(a.lV (sa,is sch) (by simp)).1;refine aD (Nl a.lz.ck a.fl Ya X' n) ?_;rintro v Yc ⟨rfl,M⟩;obtain ⟨B',XK,Yd,D,XP,_⟩:=a.op M (a.fl.fC _ _);refine ⟨_,rfl,ev (λR=>?_) (λR=>?_)⟩
   ·rw [if_neg (by rw [R];simp)] at O;exact I Yc B' XK Yd zs _ D E (by rw [XP];exact O)
   ·rw [if_pos R] at O;rw [bH (by omega) (by omega)];exact ⟨most - (n+1),by omega,n+1,B',XK,Yd,zs,_,rfl,by omega,rfl,D,E,by rw [XP];exact O⟩
 ·have XV:most - n=0:=by omega
  rw [XV,f_] at O;exact I z B dz Y ys _ a Xx O
theorem vS {l:List (e2×bJ conv)} {t:bJ conv} (h:l.map Prod.snd=[t]):∃ r,l=[(r,t)]:=by
 cases l with
 |nil=>cases h
 |cons x l=>rw [gj] at h;obtain ⟨a,b⟩:=List.cons.inj h;have c:l=[]:=List.map_eq_nil_iff.1 b;subst c;exact ⟨x.1,by rw [<-a]⟩
theorem LM (F:aE) (r:e2) (t:bJ conv):dK F ([(r,t)].map Prod.snd) [] [] 20000=ko F t:=rfl
section
attribute [local irreducible] dK ko
theorem zi {A:a6} {aw:Nat->Tag} {w:ak} {aJ:Nat} {X:bR} (h:b6 A aw w aJ X) (XC:cd X.pure) {r:e2} {t:bJ conv} (Xv:ip A w r t) (Y:nb t) :
  bb 26 [ptr aJ,r.val] w λv w'=>dR A aw w aJ (ko X.pure t).1 w' λB=>∃ o c,(ko X.pure t).2=[o]/\v=c.val/\ip B w' c o:=by
 refine bd Tryz.func26 ?_;rw [ptr,V4];rintro b1 w1 N C aB XL O D;obtain ⟨G,u⟩:=bl N C;obtain ⟨I,y⟩:=bl O D;have H:av XL b1 r.cells g8:=ai.aj y G;have Xy:=u.size;have XI:=I.lt;clear C D G;refine cb.aT r ⟨bO H rfl,?_⟩;rintro Xw J P E;obtain ⟨n,l⟩:=bl P E;have n:av J Xw r.cells g8:=n;clear E;have f:=(u.new y).new l;have XJ:=l.size;have Xx:ft A aw w aJ (λk=>k=aB) J A aw X:=ft.start h f λk XO=>by omega
 have j:∀ k,k<w.heap.size->A k\/k=aB->A k:=λk XF XB=>XB.elim id λe=>by omega
 have T:o' (λk=>A k\/k=aB) J none ([]:ax):=⟨.inl rfl,.inl rfl⟩;have W:bk J (some ⟨Xw,0,none⟩) (iU [(r,t)]).flatten:=fu n (by simp [iU,cb.cells]);have U:=Er Xx.ck XC (ts:=[(r,t)]) (pc:=1) W (λx F=>by simp at F;rw [F];exact ⟨Xv.aA (ao.b9 f) j,Y⟩) (by simp) (sch:=[]) (sa:=none) (sc:=0) T (λx Xv=>by cases Xv) (most:=20000) (by omega);refine aD U ?_;rintro v XP XH;obtain ⟨B',XR,XM,Xz,p,K,XE,XA,L⟩:=Xx.op XH;obtain ⟨la,lc,XK,rfl,b,d,XG,z⟩:=K;have M:=LM X.pure r t;rw [M] at p b d ⊢;obtain ⟨o,Z⟩:=K8 X.pure t;rw [Z] at b d ⊢;obtain ⟨c,rfl⟩:=vS b;refine ⟨_,_,_,rfl,?_⟩;obtain ⟨XN,dw,a,R,S⟩:=d.rd.row (sJ [(c,o)]) (by omega) (i:=0) rfl;have V:dw=0:=by
  rcases d.2 with ⟨he,_⟩ | ⟨g,cur,XD,_⟩
  ·rw [he] at a;cases a
  ·rw [XD] at a;simp at a <;> omega
 subst V;rw [a];refine ej (by omega) (by simp) ?_;have q:=(L aB rfl).trans (ai.aj l I);refine cb.aT c ⟨by simpa using R,?_⟩;refine dQ (vs:=c.cells) q rfl (cb.single c) λXQ Q s=>?_
 refine cb.aT c ⟨bO Q rfl,rfl,?_⟩;rw [<-p];refine (Xz.local s λ_ e=>e).done ⟨o,c,rfl,rfl,?_⟩;exact (z (c,o) (by simp)).aA (s.mono λ_ _ e=>.inr e) λk _ e=>.inl e
end
end gP
section
open IntKind
variable (w:ak) (R:cz) {i k l:Int} {s:an} {a b c:Nat} {j:ar} {A B C:aX}
theorem Ww:bf prog f13 [ab i,ab k,ab l,ae s a b] R w=(G0 23 #[ab i,ab 4,ab 101] w λc d P=>cond (!d) (R (.tuple #[.pointer none,ad false,ad false]) P) (eZ 19 #[ab k] P λf g h I=>Calls prog 24 #[.pointer c,ab i,ab 0,ab 1,ae f g h] I λe Xw=>cb.ex λQ=>∃ (j:Bool),e=.returned (.tuple #[Q.val,ad j])/\aS Xw #[ab 0,ab 0,ab 0,ab 0,ab 0,ab 0,ab 0,ah 0,ab 0,ab 0,ab 0,ab 0,a5,a5,a5,ab 0,ab 0,ab 0,ab 0,a5,ab 0,ab 0,ah 0,a5,ad false,ad false,ab 0,ab 0,a5,ab 0,a5,ah 0,ab 0,ab 0,ab 0,ab 0] 45 λD Y=>a_ Y (af D 0) 0 Q.cells λa9=>cond (!j) (R (.tuple #[.pointer none,ad false,ad false]) a9) (cw a9 λT B=>sN B (af D 0) λr=>(aS T r.cells.toArray 45 λXz S=>B S/\ct 12 #[ab l,ab 70] S λE K=>B K/\eZ 15 #[.pointer c,ae (bo Xz) 1 1,ae s a b,a5,ab E] K λu m n M=>bA u m 0 36 λZ=>eL M Z λXA=>a_ M (af D 0) 0 XA.cells λV=>cw V λU H=>e6 H (af D 23) λo p q=>dn 22 #[.pointer c,ab 0] U λA a'=>H a'/\cond A (G1 H (af D 25) λt=>R (.tuple #[.pointer c,ad ((p:Int)>=3),ad (!t)]) a') (R (.tuple #[.pointer c,ad ((p:Int)>=3),ad false]) a'))/\ct 12 #[ab l,ab 70] T λv O=>B O/\aS O r.cells.toArray 45 λXx C=>eZ 15 #[.pointer c,ae (bo Xx) 1 1,ae s a b,a5,ab v] C λx y z L=>bA x y 0 36 λX=>eL L X λXy=>a_ L (af D 0) 0 Xy.cells λXC=>cw XC λW G=>e6 G (af D 23) λXv N iY=>dn 22 #[.pointer c,ab 0] W λJ F=>G F/\cond J (G1 G (af D 25) λXB=>R (.tuple #[.pointer c,ad ((N:Int)>=3),ad (!XB)]) F) (R (.tuple #[.pointer c,ad ((N:Int)>=3),ad false]) F)))):=by kernel_rfl
theorem V7  : bf prog f14 [] R w=(G0 23 #[ab 1,ab 2,ab 101] w λa b w1=>cond (!b) (R (ad false) w1) (aS w1 #[ab 96] 3 λb1 G=>Calls prog 24 #[.pointer a,ab 1,ab 0,ab 1,ae (bo b1) 1 1] G λe H=>cb.ex λs=>∃ (c:Bool),e=.returned (.tuple #[s.val,ad c])/\aS H #[ab 0,ab 0,ab 0,ab 0,ab 0,ab 0,ab 0,ah 0,ab 0,ab 0,ab 0,ab 0,a5,a5,a5,ab 0,ab 0,ab 0,ab 0,a5,ab 0,ab 0,ah 0,a5,ad false,ad false,ab 0,ab 0,a5,ab 0,a5,ah 0,ab 0,ab 0,ab 0,ab 0] 45 λaB I=>a_ I (af aB 0) 0 s.cells λu=>cond (!c) (R (ad false) u) (eL u (af aB 0) λr=>aS u r.cells.toArray 45 λF J=>eZ 15 #[.pointer a,ae (bo F) 1 1,a5,a5,ab 3] J λd f g K=>Calls prog 30 #[.pointer a,ab 0,ab 96] K λe L=>aK.ex λt=>∃ (h:Bool),e=.returned (.tuple #[t.val,ad h])/\aS L #[ab 0,ah 0,ah 0,ah 0,ah 0,ah 0,ah 0,ah 0,ah 0] 73 λB M=>a_ M (af B 0) 0 t.cells λv=>cond (!h) (R (ad false) v) (dX v (af B 1) λi=>cond (i != 257) (R (ad false) v) (dn 22 #[.pointer a,ab 0] v λk x=>cond (!k) (R (ad false) x) (q5 16 #[ab 1,ab 1,ah 0] x λz y=>q5 26 #[.pointer a,z.val] y λD aa=>a_ aa (af aB 0) 0 D.cells λac=>Calls prog 30 #[.pointer a,ab 0,ab 96] ac λe bx=>aK.ex λA=>∃ (l:Bool),e=.returned (.tuple #[A.val,ad l])/\aS bx #[ab 0,ah 0,ah 0,ah 0,ah 0,ah 0,ah 0,ah 0,ah 0] 73 λC E=>a_ E (af C 0) 0 A.cells λj=>kj j (af aB 24) λm=>cond m (bX j (af aB 26) λn=>cond (n == 0) (bX j (af aB 33) λo=>cond (o == 3) (bX j (af aB 35) λp=>cond (p == 2) (cond l (dX j (af C 1) λq=>R (ad ((q:Int) == 256)) j) (R (ad false) j)) (R (ad false) j)) (R (ad false) j)) (R (ad false) j)) (R (ad false) j))))))):=by kernel_rfl
theorem Wx:bf prog f16 [ab i,ab k,ah l] R w=(aS w #[ab 0,ab 0,ab 0,ab 0,ab 0,ab 0,ab 0,ah 0,ab 0,ab 0,ab 0,ab 0,a5,a5,a5,ab 0,ab 0,ab 0,ab 0,a5,ab 0,ab 0,ah 0,a5,ad false,ad false,ab 0,ab 0,a5,ab 0,a5,ah 0,ab 0,ab 0,ab 0,ab 0] 45 λd f=>AV 28 #[ab i] f λa e=>a_ e (af d 0) 0 [ab 4,ab k,ab 0,ab 0,ab 0,ab 0,ab 0,ah 0,ab 0,ab 0,ab 0,ab 0,a5,a5,a5,ab k,ab 1,ab 101,ab a.Number,ae a.fh a.eW a.fQ,ab 0,ab 2,ah l,a5,ad false,ad false,ab 0,ab 0,a5,ab 0,a5,ah 0,ab 0,ab 0,ab 0,ab 0] λc=>eL c (af d 0) λb=>c=c/\R b.val c):=by kernel_rfl
def uE (c:Int) (d:an) (a b:Nat) (e:Int) (j:ar):ar:=ab c::ag j 0 2 (ae d a b::ab e::ag j 2 18 [])
def Gj (c:an) (a b:Nat) (j:ar):ar:=ag j 0 3 (ae c a b::ag j 3 19 [])
theorem VQ:bf prog f19 [ab i] R w=(cG prog (c7 f19 [1,1,0,1,0,0]) (uE i none 0 0 0 (undef::a5::bD 18 [])) (aP 0 (aU f19 [1,1,1] R)) w):=by kernel_rfl
theorem Tq (g:ar->aF):W prog (sb f19 [1,1,0,1,0,0]) (uE i s a b k j) (aZ g (aP 0 (aU f19 [1,1,1] R))) w=(cond (k<4) (ct 12 #[ab i,ab 14] w λc h=>0<=(u64.wrap k)/\cond (((fG .i64 (df .i64 (i64.wrap (c+1)) (u64.wrap k)) 1):Int) == 1) (aS h #[ab (i64.wrap (96+k))] 3 λl n=>db 22 (ae s a b) (ae (bo l) 1 1) n λe d f m=>g (uE i e d f (i64.wrap (k+1)) [aO j 0,aO j 1,ab k,ad (k<4),ab k,ab (i64.wrap (k+1)),ab i,ab c,ab (i64.wrap (c+1)),ab k,ah (u64.wrap k),ab (df .i64 (i64.wrap (c+1)) (u64.wrap k)),ab (fG .i64 (df .i64 (i64.wrap (c+1)) (u64.wrap k)) 1),ad (((fG .i64 (df .i64 (i64.wrap (c+1)) (u64.wrap k)) 1):Int) == 1),ae s a b,ab k,ab (i64.wrap (96+k)),ae (bo l) 1 1,ae e d f,aO j 19]) m) (g (uE i s a b (i64.wrap (k+1)) (aO j 0::aO j 1::ab k::ad (k<4)::ab k::ab (i64.wrap (k+1))::ab i::ab c::ab (i64.wrap (c+1))::ab k::ah (u64.wrap k)::ab (df .i64 (i64.wrap (c+1)) (u64.wrap k))::ab (fG .i64 (df .i64 (i64.wrap (c+1)) (u64.wrap k)) 1)::ad (((fG .i64 (df .i64 (i64.wrap (c+1)) (u64.wrap k)) 1):Int) == 1)::ag j 14 6 [])) h)) (W prog (sb f19 [1,1,1]) (Gj s a b (ab i::aO j 0::aO j 1::ab k::ab k::ad (k<4)::ag j 4 16 [])) (b7 f19 R) w)):=by kernel_rfl
theorem Tr:W prog (sb f19 [1,1,1]) (Gj s a b j) (b7 f19 R) w=(R (ae s a b) w):=by kernel_rfl
def w_ (e:aX) (s2:Int) (g:an) (a b:Nat) (c d:aX) (f:Int) (j:ar):ar:=.pointer (some e)::ag j 0 1 (ab s2::ag j 1 1 (ae g a b::ag j 2 5 (.pointer (some c)::ag j 7 1 (.pointer (some d)::ab f::ag j 8 44 []))))
def Gg (s2:Int) (a b:aX) (j:ar):ar:=ag j 0 2 (ab s2::ag j 2 7 (.pointer (some a)::ag j 9 1 (.pointer (some b)::ag j 10 45 [])))
theorem Vz:bf prog f24 [ba a,ab i,ab k,ab l,ae s b c] R w=(aS w #[ab 0,ab 0,ab 0,ab 0,ab 0,ab 0,ab 0,ah 0,ab 0,ab 0,ab 0,ab 0,a5,a5,a5,ab 0,ab 0,ab 0,ab 0,a5,ab 0,ab 0,ah 0,a5,ad false,ad false,ab 0,ab 0,a5,ab 0,a5,ah 0,ab 0,ab 0,ab 0,ab 0] 45 λg f=>AV 28 #[ab i] f λd j=>aS j #[ab 0,ab 0,ab 0,ab 0,a5,a5,a5] 39 λe h=>a_ h (af e 0) 0 [ab k,ab l,ab 101,ab d.Number,ae d.fh d.eW d.fQ,a5,a5] λm=>cG prog (c7 f24 [1,1,0,1,0,0]) (w_ (af a 0) k s b c (af g 0) (af e 0) 0 (ab i::ab l::bD 5 (ad false::bD 2 (ab k::ab l::ab i::d.val::.agg #[ab k,ab l,ab 101,ab d.Number,ae d.fh d.eW d.fQ,a5,a5]::bD 37 [])))) (aP 0 (aU f24 [1,1,1] R)) m):=by kernel_rfl
theorem SW (H:ar->aF):W prog (sb f24 [1,1,0,1,0,0]) (w_ A i s a b B C k j) (aZ H (aP 0 (aU f24 [1,1,1] R))) w=(cond (k<(a:Nat)) (bA s a k 1 λG=>bX w G λx=>Calls prog 30 #[.pointer (some A),ab 0,ab x] w λe a9=>aK.ex λo=>∃ (g:Bool),e=.returned (.tuple #[o.val,ad g])/\aS a9 #[ab 0,ah 0,ah 0,ah 0,ah 0,ah 0,ah 0,ah 0,ah 0] 73 λf a'=>a_ a' (af f 0) 0 o.cells λz=>cond (!g) (a_ z B 0 [ab 0,ab 0,ab 0,ab 0,ab 0,ab 0,ab 0,ah 0,ab 0,ab 0,ab 0,ab 0,a5,a5,a5,ab 0,ab 0,ab 0,ab 0,a5,ab 0,ab 0,ah 0,a5,ad false,ad false,ab 0,ab 0,a5,ab 0,a5,ah 0,ab 0,ab 0,ab 0,ab 0] λu=>eL u B λp=>u=u/\R (.tuple #[p.val,ad false]) u) (dX z (af f 1) λh=>cP z (af f 1) (ah (tM .u64 h 255)) λE=>pw (af f 2) 7 0 1 λq=>dX E q λy=>pw (af f 2) 7 0 1 λd=>cP E d (ah (u64.wrap (y+1))) λD=>b_ D (bY C 6) λc v l=>hI D (af f 0) λr=>aS D r.cells.toArray 73 λF M=>db 37 (ae c v l) (ae (bo F) 1 1) M λt m n K=>cP K (bY C 6) (ae t m n) λL=>H (w_ A i s a b B C (i64.wrap (k+1)) (ag j 0 8 (jp (af f 0)::ad g::ag j 10 5 [ab k,ae s a b,eo a,ad (k<(a:Nat)),ab k,ab (i64.wrap (k+1)),.tuple #[o.val,ad g],jp A,ae s a b,ab k,jp G,ab x,.tuple #[o.val,ad g],o.val,ad g,ad g,ad (!g),aO j 32,jp (af f 1),ah h,ah (tM .u64 h 255),jp (af f 1),jp (af f 2),jp q,ah y,ah (u64.wrap (y+1)),jp (af f 2),jp d,bL C 6,ae c v l,r.val,ae (bo F) 1 1,ae t m n,bL C 6,aO j 49,aO j 50,aO j 51]))) L)) (W prog (sb f24 [1,1,1]) (Gg i B C (jp A::aO j 0::aO j 1::ae s a b::ag j 2 6 (ab k::ag j 8 7 (ab k::ae s a b::eo a::ad (k<(a:Nat))::ag j 19 33 [])))) (b7 f24 R) w)):=by kernel_rfl
theorem Tt:W prog (sb f24 [1,1,1]) (Gg i A B j) (b7 f24 R) w=(AS w B λr=>a_ w A 0 [ab 3,ab i,ab 0,ab 0,ab 0,ab 0,ab 0,ah 0,ab r.Client,ab r.Seq,ab r.hs,ab r.View.Number,ae r.View.fh r.View.eW r.View.fQ,ae r.Reads r.k3 r.pg,ae r.eH r.dT r.hv,ab 0,ab 0,ab 0,ab 0,a5,ab 0,ab 0,ah 0,a5,ad false,ad false,ab 0,ab 0,a5,ab 0,a5,ah 0,ab 0,ab 0,ab 0,ab 0] λa=>eL a A λc=>a=a/\R (.tuple #[c.val,ad true]) a):=by kernel_rfl
end
section
open gP
theorem MU {w:ak} {x:Int} (F:d9 x):bb 19 [.int .i64 x] w λv u=>∃ a c,v=.slice a (fj (x % 14).toNat).length c/\bk u a (is (bp (fj (x % 14).toNat)))/\ai w u:=by
 refine bd Tryz.func19 ?_;rw [VQ];obtain ⟨y,G,j⟩:∃ y:Nat,x % 14=y/\y<14:=⟨(x % 14).toNat,by omega,by omega⟩;refine c8 mix (λm env u=>∃ (i:Nat) (a:an) (n c:Nat) (z:ax),m=4 - i/\i<=4/\n=(mD y i).length/\env=uE x a n c i z/\ai w u/\a1 u 3 1 a n c (is (bp (mD y i)))/\∀ k,aL a k->w.heap.size<=k) 4
  ⟨0,none,0,0,_,rfl,by omega,rfl,rfl,ao.refl _ _,a1.nil _ _ _,λk q=>(sY q).elim⟩ ?_
 rintro m env u ⟨i,a,n,c,z,rfl,H,rfl,rfl,l,d,f⟩;rw [Tq];refine bc (λh=>?_) (λD=>?_)
 ·have h:i<4:=by omega
  refine aD (tt _ _ _ F (by omega)) ?_;rintro v bG ⟨rfl,rfl⟩;rw [if_neg (by omega),G];refine ⟨_,rfl,?_⟩;have hlen:=I4 y i;have A:IntKind.i64.wrap ((y:Int)+1)=((y+1:Nat):Int):=by rw [bH (by omega) (by omega)];omega
  have B:IntKind.u64.wrap (i:Int)=(i:Int):=j3 (by omega) (by omega);dsimp only;rw [A,B,JY y j i h,bH (x:=(i:Int)+1) (by omega) (by omega),bH (x:=96+(i:Int)) (by omega) (by omega)];refine ⟨by omega,f' (λp=>?_) (λp=>?_)⟩
  ·refine NL d (x:=96+(i:Int)) (by omega) ?_;intro b ap cap bq C s r o;have E:=l.size;have g:=HH y i;rw [if_pos p] at g;refine ⟨4 - (i+1),by omega,i+1,ap,_,cap,_,rfl,by omega,by rw [g,dy];rfl,rfl,sF l r f,?_,λk q=>?_⟩
   ·rw [g];have:is (bp (mD y i++[96+i]))=is (bp (mD y i)++[96+(i:Int)]):=by simp [is,bp]
    rw [this];exact s
   ·rcases o k q with t | t
    ·exact f k t
    ·omega
  ·have g:=HH y i;rw [if_neg (by simp [p]),jJ] at g;exact ⟨4 - (i+1),by omega,i+1,a,_,c,_,rfl,by omega,by rw [g],rfl,l,by rw [g];exact d,f⟩
 ·have:i=4:=by omega
  subst this;rw [Tr];have e:(x % 14).toNat=y:=by omega
  rw [e];exact ⟨a,c,rfl,d.rd,l⟩
def vj:cb:=⟨0,0,⟨0⟩,⟨0,0,0,0,0⟩,⟨0,0,0,⟨0,none,0,0⟩,none,0,0,none,0,0⟩,⟨0,0,0,⟨0,none,0,0⟩,0,0,0⟩,none,0,0,false,false,0,⟨0,none,0,0⟩,0,none,0,0,0,0,0,0,0⟩
def hQ (c seq lines:Int) (dI:c2) (c6:an) (wl eg:Nat):cb:={ vj with Kind:=3,Client:=c,i':=⟨c,seq,lines,dI,none,0,0,c6,wl,eg⟩ }
def sQ (c prev:Int) (dI:c2):cb:={ vj with Kind:=4,Client:=c,Recover:=⟨c,1,101,dI,0,2,prev⟩ }
def uj (p:aK):aK:={ p with Head:=tM .u64 p.Head 255,v3:=IntKind.u64.wrap (p.v3+1) }
def k6 (n:aN) (L:cT):List aK:=L.map λl=>uj (n.dx l)
theorem Bu {A:a6} {aw:Nat->Tag} {w:ak} {aJ:Nat} {X:bR} (h:b6 A aw w aJ X) {n:Nat} (XV:1<=n/\n<=5) {x:hF} (X9:X.nodes[0]?=some x) (aq:x.n.down=false)
  {L:cT} (XZ:∀ l ∈ L,96<=l/\l<256/\l * 8+8<=x.n.words.length) (hlen:L.length<=1000) {a:an} {cc:Nat} (X4:bk w a (is (bp L))) (c seq:Int) :
  bb 24 [ptr aJ,.int .i64 n,.int .i64 c,.int .i64 seq,.slice a L.length cc] w λv u=>∃ dI c6 eg,v=.tuple #[(hQ c seq 101 dI c6 L.length eg).val,.bool true]/\ai w u/\gp A u dI (ro n)/\a1 u eu 9 c6 L.length eg (ia (k6 x.n L)).flatten/\∀ k,aL c6 k->w.heap.size<=k:=by
 refine bd Tryz.func24 ?_;rw [ptr,Vz];rintro b1 w1 XC V;obtain ⟨f,Q⟩:=bl XC V;have f:av w1 b1 vj.cells 45:=f;clear V;refine aD (y_ _ (n:=n) (by omega) (by omega)) ?_;rintro v XA ⟨dI,Ye,rfl,al,j,_,rfl⟩;have X3:=f.lt;have X5:=Q.size;have X6:=j.size;have al:gp (λk=>k<w1.heap.size\/XA.heap.size<=k) XA dI (ro n):=al.mono λk r d=>d.resolve_right (by omega)
 refine c2.aT dI ⟨rfl,?_⟩;rintro aB Yf N W;obtain ⟨Xw,J⟩:=bl N W;have F:=ai.aj (j.new J) f;clear W;refine dQ (vs:=dt.cells ⟨c,seq,101,dI,none,0,0,none,0,0⟩) Xw rfl (dt.single ⟨c,seq,101,dI,none,0,0,none,0,0⟩) λXY Xx p=>?_
 have G:=p.aj F (by omega);have y:ai XA XY:=J.trans p λk r e=>by omega
 have K:ai w XY:=(Q.new j).new y;have O:aB=XA.heap.size:=N;have XL:=al.new y;clear f F Xw p J y;refine c8 mix (λq env z=>∃ (i:Nat) (c6:an) (eg:Nat) (XW:ax),q=L.length - i/\i<=L.length/\env=w_ ⟨aJ,0,none⟩ c a L.length cc ⟨b1,0,none⟩ ⟨aB,0,none⟩ i XW/\ai w z/\gp (λk=>k<w1.heap.size\/XA.heap.size<=k) z dI (ro n)/\av z b1 vj.cells 45/\av z aB (dt.cells ⟨c,seq,101,dI,none,0,0,c6,i,eg⟩) 39/\a1 z eu 9 c6 i eg (ia (k6 x.n (L.take i))).flatten/\∀ k,aL c6 k->aB<k) L.length
  ⟨0,none,0,_,rfl,by omega,rfl,K,XL,G,Xx,a1.nil _ _ _,λk d=>(sY d).elim⟩ ?_
 clear G Xx;rintro q env z ⟨i,c6,eg,XW,rfl,Ya,rfl,P,U,f,M,B,g⟩;rw [SW];refine bc (λr=>?_) (λX2=>?_)
 ·have t:i<L.length:=by omega
  obtain ⟨XH,O,XI⟩:=XZ L[i] (kY t);have XT:(bp L)[i]?=some (L[i]:Int):=by simp [bp,t]
  have S:k6 x.n (L.take (i+1))=k6 x.n (L.take i)++[uj (x.n.dx L[i])]:=by unfold k6;rw [H_ t,jn];rfl
  generalize L[i]=l at XH O XI XT S;refine U5 (X4.new P) XT rfl (by simp [bp]) λb o X1=>⟨_,X1 _ (ao.refl _ _),?_⟩
  refine aD (tK (h.new P) X9 (l:=l) (by omega) (by omega) aq) ?_;rintro v Yb ⟨rfl,j⟩;refine aK.aT (x.n.dx l) ⟨true,rfl,?_⟩;rintro XQ bq XD T;obtain ⟨Xz,R⟩:=bl XD T;clear T;refine dQ (vs:=(x.n.dx l).cells) Xz rfl (aK.single _) λX_ au p=>?_
  have K:ai z X_:=(j.new R).trans p λk r e=>by have:=j.size;omega
  have XS:z.heap.size<=XQ:=by have:=j.size;omega
  clear Xz R p;refine di rfl ⟨_,au.cell (i:=1) rfl,?_⟩;refine rU au (o:=1) (by simp [aK.cells]) λYc Xy XF=>?_
  refine vf (by omega) (by omega) ⟨_,Xy.cell (i:=2) rfl,?_⟩;refine vf (by omega) (by omega) ?_;refine rU Xy (o:=2) (by simp [aK.cells]) λXX XN XG=>?_
  have XO:av XX XQ (uj (x.n.dx l)).cells eu:=XN;have s:ai z XX:=K.trans (XF.trans XG λ_ _ h=>h) λk r e=>by omega
  have Y:=ai.aj s f;have H:=ai.aj s M;refine ⟨_,_,_,H.cell (i:=6) rfl,?_⟩;refine aK.aT (uj (x.n.dx l)) ⟨bO XO rfl,?_⟩;refine O4 (B.new s) (by omega) ?_;intro X' ap cap u8 X0 XK C XB;have Z:=C.aj Y (λe=>by have:=g b1 e;omega);have Xv:=C.aj H (λe=>by have:=g aB e;omega);have XU:=M.lt;have X7:=s.size;have X8:=P.size;have E:∀ k,aL ap k->aB<k:=λk d=>by
   rcases XB k d with XR | XR
   ·exact g k XR
   ·omega
  refine rU (b:=aB) Xv (o:=6) (by simp [dt.cells]) λYd XP D=>?_
  rw [bH (x:=(i:Int)+1) (by omega) (by omega)];have XJ:ai w u8:=sF (P.new s) C λk d=>by have:=g k d;omega
  have XM:=((U.new s).aA C λk d=>.inr (by have:=g k d;omega)).aA D λk e=>.inr (by omega)
  exact ⟨L.length - (i+1),by omega,i+1,ap,cap,_,rfl,by omega,rfl,XJ.trans D λk r e=>by omega,XM,D.aj Z (by omega),XP,by rw [S];exact XK.aA D λk d e=>by have:=E k d;omega,E⟩
 ·have XE:i=L.length:=by omega
  subst XE;rw [Tt];rw [h0] at B;refine dt.aT ⟨c,seq,101,dI,none,0,0,c6,L.length,eg⟩ ⟨bO M rfl,?_⟩;refine dQ (vs:=(hQ c seq 101 dI c6 L.length eg).cells) f rfl (cb.single _) λbG au d=>?_
  refine cb.aT (hQ c seq 101 dI c6 L.length eg) ⟨bO au rfl,rfl,dI,c6,eg,rfl,P.trans d λk r e=>by omega,?_,B.aA d λk I e=>by have:=g k I;omega,λk I=>by have:=g k I;omega⟩;exact (U.aA d λk e=>.inl (by omega)).mono λk _ d=>.inl (by have:=h.low k d;omega)
theorem Fv {A:a6} {w:ak} (l:∀ k,A k->k<w.heap.size) {n:Nat} (j:1<=n/\n<=5) (c prev:Int) :
  bb 16 [.int .i64 n,.int .i64 c,.int .u64 prev] w λv u=>∃ dI,v=(sQ c prev dI).val/\ai w u/\gp A u dI (ro n):=by
 refine bd Tryz.func16 ?_;rw [Wx];rintro b1 w1 h g;obtain ⟨a,d⟩:=bl h g;have a:av w1 b1 vj.cells 45:=a;clear g;refine aD (y_ _ (n:=n) (by omega) (by omega)) ?_;rintro v t ⟨dI,s,rfl,al,f,_,rfl⟩;have r:=d.size;refine c2.aT dI ⟨rfl,?_⟩;refine dQ (vs:=(sQ c prev dI).cells) (ai.aj f a) rfl (cb.single _) λx i b=>?_
 refine cb.aT (sQ c prev dI) ⟨bO i rfl,rfl,dI,rfl,(d.new f).trans b λk q e=>by omega,?_⟩;have p:=a.lt;exact (al.aA b λk e=>(by show k<w1.heap.size;omega)).mono λk _ o=>(by have:=l k o;show k<w1.heap.size;omega)
end
section
open gP
def qh (c:Int) (j:c0):bJ gP.conv:=⟨c,.inl j,[],false,false,.inl (0,0)⟩
def PP (c:Int) (j:ca):bJ gP.conv:=⟨c,.inr j,[],false,false,.inr ⟨0,0,0,0,0⟩⟩
structure z2 (p:aK):Prop where
 head:cj p.Head
 data:∀ x ∈ hz p,cj x
theorem yZ {A:a6} {u:ak} {c seq lines:Int} {n:Nat} {dI:c2} {c6:an} {wl eg:Nat} {W:List aK} (al:gp A u dI (ro n))
  (hw:bk u c6 (ia W).flatten) (d:wl=W.length) (b:W.length<=1000000) (e:(ia W).flatten=[]\/gA A c6) (hu:∀ p ∈ W,z2 p) :
  ip A u (hQ c seq lines dI c6 wl eg) (qh c ⟨c,seq,lines,ro n,[],W⟩):=
 ⟨rfl,rfl,rfl,rfl,hS.nil _ _ _,rfl,cY _,⟨⟨rfl,rfl,rfl,⟨A,al⟩,.inl rfl,rfl,by simp,⟨hw,d,b,λp a=>(hu p a).head⟩⟩,al,.inl rfl,e,λp a=>(hu p a).data⟩,⟨rfl,rfl⟩,by show ([]:List (List aM)).length<=201;simp⟩
theorem DP {A:a6} {u:ak} {c prev:Int} {n:Nat} {dI:c2} (al:gp A u dI (ro n)) (a:cj prev) :
  ip A u (sQ c prev dI) (PP c ⟨c,1,101,ro n,0,2,prev⟩):=
 ⟨rfl,rfl,rfl,rfl,hS.nil _ _ _,rfl,cY _,⟨⟨rfl,rfl,rfl,⟨A,al⟩,rfl,rfl,rfl,a⟩,al⟩,⟨rfl,rfl,rfl,rfl⟩,by show ([]:List (List aM)).length<=201;simp⟩
structure oe (w z:ak) (aJ:Nat) (A:a6) (aw:Nat->Tag) (X:bR) (F:aE):Prop where
 ck:b6 A aw z aJ X
 pure:X.pure=F
 new:ai w z
 own:∀ k,A k->w.heap.size<=k
section
variable {w z:ak} {aJ:Nat} {A:a6} {aw:Nat->Tag} {X:bR} {F:aE}
theorem oe.jX {b:ak} (h:oe w z aJ A aw X F) (a:ai z b):oe w b aJ A aw X F:=⟨h.ck.new a,h.pure,h.new.new a,h.own⟩
theorem oe.op {u:ak} {cy:aE} {K:(a6)->Prop} (h:oe w z aJ A aw X F) (p:dR A aw z aJ cy u K):∃ A' χ' e,oe w u aJ A' χ' e cy/\K A'/\ao A z u/\∀ k,k<z.heap.size->A' k->A k:=by
 obtain ⟨A',χ',e,g,i,l,j⟩:=p;have d:ao A z u:=g.aA.mono λk _ n=>h.ck.e9 k n
 have a:∀ k,k<z.heap.size->A' k->A k:=λk b c=>by
  rcases (g.iff k).1 c with f | ⟨_,f,_⟩
  ·exact h.ck.e9 k (g.grow k b f)
  ·exact f
 refine ⟨A',χ',e,⟨i,l,h.new.trans d λk b c=>by have:=h.own k c;omega,λk c=>?_⟩,j,d,a⟩;have:=h.new.size;by_cases b:k<z.heap.size
 ·exact h.own k (a k b c)
 ·omega
theorem ft.owns {w0 w u:ak} {L B:a6} {dz:Nat->Tag} {e:bR} (t:ft A aw w aJ L u B dz X) (f:b6 A aw w aJ e) (g:ai w0 w) (d:∀ k,A k->w0.heap.size<=k):∀ k,B k\/L k->w0.heap.size<=k:=λk a=>by
 have h:=g.size;rcases a with a | a
 ·rcases (t.next.iff k).1 a with b | ⟨_,b,_⟩
  ·by_cases c:k<w.heap.size
   ·exact d k (f.e9 k (t.next.grow k c b))
   ·omega
  ·exact d k b
 ·have:=(t.loc k a).1;omega
attribute [local irreducible] dK
end
end
section
open gP

end
section
def Ex (p:cR):Prop:=p.a3=[]->p.bz=0/\p.words=[]
def rO (C:bh):Prop:=∀ l ∈ C.az,Ex l.pair
def en (F:aE):Prop:=∀ C ∈ F.aR,rO C
theorem en.fresh (n c L:Nat):en (aE.fresh n c L):=λC a l b=>by obtain ⟨i,_,rfl⟩:=cZ.1 a;obtain ⟨j,_,rfl⟩:=cZ.1 b;exact λ_=>⟨rfl,rfl⟩
section
variable {F:aE}
theorem en.dO (h:en F) {c:Int} {C:bh} (b:rO C):en (F.dO c C):=λD d=>by
 rcases lK d with a | rfl
 ·exact h D a
 ·exact b
theorem en.cE (h:en F) {c:Int} {C:bh} (a:F.cE c=some C):rO C:=by
 unfold aE.cE at a;split at a
 ·cases a
 ·exact h C (b5 a)
theorem H3:∀ (vs:List aQ) {C:bh} {k:Nat},rO C->rO (C.fc k vs)
 | [],C,k,h=>h
 |v::vs,C,k,h=>by
  refine H3 vs (C:=C.e5 k v) λl c=>?_
  obtain ⟨j,a⟩:=ei.1 c;have a:(C.az.modify v.node.toNat λl=>⟨{ l.pair with a3:=l.pair.a3++[v] },l.bC++[k]⟩)[j]?=some l:=a;rw [rA] at a;cases b:C.az[j]? with
  |none=>rw [b] at a;cases a
  |some x=>
   rw [b] at a;split at a
   ·cases a;intro e;simp at e
   ·cases a;exact h x (b5 b)
theorem en.post (h:en F) (c:Int) (vs:List aQ):en (F.post c vs).2:=by
 unfold aE.post;cases a:F.cE c with
 |none=>exact h
 |some C=>
  simp only;repeat' split
  all_goals first | exact h | exact h.dO (H3 vs (h.cE a))
theorem en.take (h:en F) (c:Int):en (F.take c).2:=by
 unfold aE.take;cases a:F.cE c with
 |none=>exact h
 |some C=>
  simp only;repeat' split
  all_goals first | exact h | exact h.dO λl b=>h.cE a l b
theorem J1 {p:cR} (n:aN) (al:p.a3≠[]):Ex (p.step n).1:=by
 unfold cR.step;cases e:p.a3 with
 |nil=>exact absurd e al
 |cons x xs=>
  simp only;split
  ·exact λ_=>⟨rfl,rfl⟩
  ·split
   ·intro a;cases a
   ·exact λ_=>⟨rfl,rfl⟩
theorem en.step (h:en F) (x:fv):en (F.step x).2:=by
 unfold aE.step;split
 ·unfold aE.iX;repeat' split
  all_goals exact h
 ·split
  ·exact h
  ·cases i:F.cE x.aW with
   |none=>exact h
   |some C=>
    simp only;split
    ·exact h
    ·split
     ·rename_i l n j k;split
      ·exact h
      ·rename_i al;refine en.dO (c:=x.aW) h λl' a=>?_
       have f:rO C:=h.cE i;have g:=J1 n λe=>al (by rw [e];rfl)
       cases aq:(l.pair.step n).2.2 with
       |none=>
        rw [aq] at a;rcases lK a with b | rfl
        ·exact f l' b
        ·exact g
       |some d=>
        rw [aq] at a;rcases lK a with b | rfl
        ·exact f l' b
        ·exact g
     ·exact h
theorem en.die (h:en F) (c:Int):en (F.die c).2:=by
 unfold aE.die;cases b:F.cE c with
 |none=>exact h
 |some C=>
  simp only;split
  ·exact h
  ·exact en.dO (c:=c) h λl a=>by cases a
variable {cv:Conv}
theorem en.bN (h:en F) (t:bJ cv):en (bN F t).1:=by
 unfold Go.Proofs.YtmkljjbioomepaaGreat.bN;split
 ·exact h
 ·unfold hG;have a:=h.take t.aW;repeat' split
  all_goals first | exact a | exact a.post _ _
theorem en.turns:∀ (l:List (bJ cv)) {F:aE},en F->en (turns F l).1
 | [],_,h=>h
 |t::l,F,h=>by unfold Go.Proofs.YtmkljjbioomepaaGreat.turns;exact en.turns l (h.bN t)
theorem en.fC (h:en F) (sch:a8) (n:Nat):en (fC F sch n).2:=by
 unfold Go.Proofs.YtmkljjbioomepaaGreat.fC;split
 ·exact h
 ·exact h.step _
theorem en.f_ (cs sch:a8):∀ (f n:Nat) {F:aE} (l:List (bJ cv)),en F->en (f_ cs sch [] f n F l).1
 | 0,_,_,_,h=>h
 |f+1,n,F,l,h=>by
  unfold Go.Proofs.YtmkljjbioomepaaGreat.f_;have a:=(en.turns l (F:=jU F cs n []) h).fC sch n;split
  ·exact en.f_ cs sch f (n+1) _ a
  ·exact a
theorem en.dK (h:en F) (l:List (bJ cv)) (sch:a8) (most:Nat):en (dK F l sch [] most).1:=en.turns _ (en.f_ _ _ _ _ _ h)
end
theorem BY {i:Nat}:∀ {ls:List cA} {j:Nat},j' i j ls=[]->∀ l ∈ ls,l.pair.a3=[]
 | [],j,h,l,a=>by cases a
 |x::ls,j,h,l,a=>by
  unfold j' at h;obtain ⟨b,c⟩:=BE.1 h;rcases eU.1 a with rfl | a
  ·split at b
   ·cases b
   ·exact lI.1 (by omega)
  ·exact BY c l a
theorem BZ:∀ {cs:List bh} {i:Nat},jw i cs=[]->∀ C ∈ cs,∀ l ∈ C.az,l.pair.a3=[]
 | [],i,h,C,a=>by cases a
 |x::cs,i,h,C,a=>by
  unfold jw at h;obtain ⟨b,c⟩:=BE.1 h;rcases eU.1 a with rfl | a
  ·exact BY b
  ·exact BZ c C a
theorem J2 {F:aE} (h:F.dU=[]):F.bU=[]/\∀ C ∈ F.aR,∀ l ∈ C.az,l.pair.a3=[]:=by
 unfold aE.dU at h;obtain ⟨b,a⟩:=BE.1 h;refine ⟨?_,BZ b⟩;cases c:F.bU with
 |nil=>rfl
 |cons p cl=>rw [c] at a;cases a
end
end Go.Proofs.YtmkljjbioomepaaGreat
