import Derived.Test.YtmkljjbioomepaaGreate20
import Derived.Test.YtmkljjbioomepaaGreatProg
import Derived.Test.YtmkljjbioomepaaGreate03
set_option linter.all false
set_option maxHeartbeats 4000000
set_option maxRecDepth 100000
namespace Go.Proofs.YtmkljjbioomepaaGreat
open Go.Proofs.Tryz Go.bn
variable {A:a2} {B i n tb:Nat} {K:aV->Prop} {Q:cp} {a:an} {f:Int} {u bo w0 z:al}
section
theorem oH {G:List (List aC)} {vs:List aG} (h:(cd G vs f).ok=true):(cd G vs f).ask=none/\(cd G vs f).di=false/\(cd G vs f).out=(0,0):=by
 unfold cd at h ⊢;split at h
 ·cases h
 ·rename_i a;rw [if_neg a];split at h
  ·cases h
  ·rename_i b;rw [if_neg b];exact ⟨rfl,rfl,rfl⟩
theorem fX.ok {R:b2} (h:fX A w0 u tb B R bo) (e:R.ask=none) (hw:R.di=false) (k:Bool) (d:List aC) (o:Int×Int):fX A w0 u tb B ⟨k,d,o,R.a7,none,false⟩ bo:=by obtain ⟨f,c,g,b,a⟩:=h;rw [e] at a;exact ⟨f,c,g,by rw [b,hw],a⟩
theorem fX.clean {R:b2} (h:fX A w0 u tb B R bo) (d:R.ask=none) (hw:R.di=false):∃ b,ek A w0 bo tb b R.a7/\fz b:=by obtain ⟨f,b,e,c,a⟩:=h;rw [d] at a;exact ⟨b,e,a,by rw [c,hw]⟩
theorem Cg {α:Type} {cells:α->aw} {sz:Nat} (c:∀ x,(cells x).length=sz) (f:0<sz) {S:aE} {l:List α} (g:∀ y,S y->bg y a (l.map cells).flatten) (hu:S u) {x:α} (d:l[i]?=some x) {z:Int} (au:z=i) (s:n=l.length)
  (k:∀ b o,(∀ y,S y->∀ (q:Nat) (v:a0),(cells x)[q]?=some v->y.cell? ⟨b,o+q,none⟩=some v)->K ⟨b,o,none⟩):bB a n z sz K:=by
 subst au s;have p:=cz d;have h:∀ r ∈ l.map cells,r.length=sz:=λr t=>by obtain ⟨y,_,rfl⟩:=cD.1 t;exact c y
 obtain ⟨b,o,rfl,A,B⟩:=(g u hu).row (sz:=sz) h f (i:=i) (r:=cells x) (by simp [d]);refine dT (by omega) (by omega) ?_;have:=k b (o+i * sz) λy w q v aj=>by obtain ⟨b',C,e,_,j⟩:=(g y w).row (sz:=sz) h f (i:=i) (r:=cells x) (by simp [d]);simp at e;obtain ⟨rfl,rfl⟩:=e;exact j q v aj
 simpa using this
theorem NO {b:Nat} {zs:aw} (au:av u b zs er) (n:zs.length=2) (c f:Int) {K:bq->aE} (l:∀ g,ao (λk=>k=b) u g->K ⟨c,f⟩ g) :
  dR u ⟨b,0,none⟩ 0 [(.int .i64 c),(.int .i64 f)]/\∀ a,a=cl u ⟨b,0,none⟩ 0 [(.int .i64 c),(.int .i64 f)]->bq.ex λr=>b7 a ⟨b,0,none⟩ 0 r.cells/\dR a ⟨b,0,none⟩ 0 r.cells/\∀ d,d=cl a ⟨b,0,none⟩ 0 r.cells->bq.ex λres=>b7 d ⟨b,0,none⟩ 0 res.cells/\d=d/\K res d:=
 dC au (vs:=bq.cells ⟨c,f⟩) (by rw [n];rfl) (bq.single _) λa j h=>x8 j λg i=>l g (h.trans i λ_ _ e=>e)
theorem R9 {l:a4} (h:bg u a (us l)) {x:Int} (d:l[i]?=some x) {z:Int} (au:z=i) (j:n=l.length)
  (f:∀ b o,(∀ y,ai u y->y.cell? ⟨b,o,none⟩=some (.int .u64 x))->K ⟨b,o,none⟩):bB a n z 1 K:=by
 subst au j;have g:=cz d;have c:(us l)[i]?=some (.int .u64 x):=by simp [us,d]
 rcases h with he | ⟨b,o,rfl,e⟩
 ·rw [he] at c;cases c
 ·refine dT (by omega) (by omega) ?_;have:=f b (o+i) λy k=>(bg.new k (.inr ⟨b,o,rfl,e⟩)).cell c
  simpa using this
theorem Gf:∀ (b:a4) (c:List aC),fr (b.take c.length) c=fr b c
 | [],c=>by simp
 |x::b,[]=>by simp [fr]
 |x::b,d::c=>by simp only [fU,List.take_succ_cons,fr];rw [Gf b c]
theorem Gg:∀ (a:List aG) (b:a4) (c:List aC),hk (a.take c.length) (b.take c.length) c=hk a b c
 | [],b,c=>by simp [hk]
 |v::a,[],c=>by simp only [List.take_nil];cases c<;>simp [hk]
 |v::a,x::b,[]=>by simp [hk]
 |v::a,x::b,d::c=>by simp only [fU,List.take_succ_cons,hk];rw [Gg a b c]
variable {A:a2} {w0 u:al} {aT tb b1:Nat} {r:cU} {bJ:aO} {j:b_}
structure np (A:a2) (w0 u z:al) (aT tb b1:Nat) (r:cU) (bJ:aO) (j:b_) (R:b2):Prop where
 c7:eR w0 z aT tb r bJ j
 co:∃ o:bq,av z b1 o.cells er
 hp:∃ T,ek A w0 z tb T R.a7/\fz T
 ax:ao (λk=>k=tb) u z
theorem np.new {z b:al} {R:b2} (h:np A w0 u z aT tb b1 r bJ j R) (a:ai z b):np A w0 u b aT tb b1 r bJ j R:=by obtain ⟨c,⟨o,d⟩,⟨T,e,f⟩,g⟩:=h;exact ⟨c.bw a,⟨o,ai.ak a d⟩,⟨T,e.new a,f⟩,g.new a⟩
theorem np.O8 {c:al} {R:b2} (h:np A w0 u z aT tb b1 r bJ j R) {M:a2} (b:ao M z c) (a:∀ k,M k->w0.heap.size<=k/\u.heap.size<=k/\k≠aT/\k≠b1/\k≠tb):np A w0 u c aT tb b1 r bJ j R:=by obtain ⟨d,⟨o,f⟩,⟨T,g,i⟩,l⟩:=h;exact ⟨d.ax b λk e=>⟨(a k e).1,(a k e).2.2.1⟩,⟨o,b.ak f λe=>(a _ e).2.2.2.1 rfl⟩,⟨T,g.ax b λe=>(a _ e).2.2.2.2 rfl,i⟩,l.trans b λk n e=>by have:=a k e;omega⟩
theorem Lx {n:al} {G:List (List aC)} {vs us:List aG} (L:(cd G vs 1).ok=true) (J:np A w0 u z aT tb b1 r bJ j (cd G vs 1)) (y:ai w0 n) (c:u.heap.size<=b1) (a:b1<n.heap.size) (M:tb<u.heap.size) (h:u.heap.size<=n.heap.size)
  {F:an} {un H:Nat} (aj:bD n z F un H us) (hlen:us.length<=100000) (d:Bool) (N:aw)
  (dp:∀ v w',km A w0 u tb u.heap.size (if d=false then ⟨true,[],(0,0),(cd G vs 1).a7,none,false⟩
   else if (cd (cd G vs 1).a7 us 1).ok=true then ⟨false,[],(7,1),(cd (cd G vs 1).a7 us 1).a7,none,false⟩ else cd (cd G vs 1).a7 us 1) v w'->Q v w') :
  W prog (sub (bh f173) [1,1,1,1,1,1,1,1,1]) (yN ⟨aT,0,none⟩ ⟨b1,0,none⟩ F un H d N) (dh prog f173 Q) z:=by
 rw [P0];obtain ⟨q,⟨o,p⟩,⟨T,C,k⟩,s⟩:=J;cases d with
 |false=>
  refine lM p rfl 0 0 λE e=>dp _ _ ⟨rfl,?_⟩
  have I:fX A w0 u tb n.heap.size ⟨true,[],(0,0),(cd G vs 1).a7,none,false⟩ z:=⟨s,T,C,k.di,k.cW⟩;exact I.put (ao.refl _ _) (ao.refl _ _) e c a (by omega) h
 |true=>
  have i:=rU q C k y (by omega) aj hlen 1;refine aD i ?_;rintro v O ⟨dk,dc,raw,rfl,t,_⟩;have f:=t.after s;have B:av O b1 o.cells er:=t.ax.ak p (by omega);refine ⟨_,_,_,bq.aS ⟨(cd (cd G vs 1).a7 us 1).out.1,(cd (cd G vs 1).a7 us 1).out.2⟩ ⟨(cd (cd G vs 1).a7 us 1).ok,rfl,?_⟩⟩;refine dC B rfl (bq.single _) λu8 x l=>?_
  have D:=f.put (B':=u.heap.size) (ao.refl _ _) (ao.refl _ _) l c a (by omega) h;cases b:(cd (cd G vs 1).a7 us 1).ok with
  |true=>
   obtain ⟨K,hw,_⟩:=oH b;have w:=f.ok K hw false [] (7,1);have g:=w.put (B':=n.heap.size) (ao.refl _ _) (ao.refl _ _) l c a (by omega) (dd _);refine NO x rfl 7 1 λE e=>dp _ _ ?_
   simp only [Bool.true_eq_false,if_false,if_true,b];exact ⟨rfl,g.put (ao.refl _ _) (ao.refl _ _) e c a (by omega) h⟩
  |false=>
   have g:=f.put (B':=n.heap.size) (ao.refl _ _) (ao.refl _ _) l c a (by omega) (dd _);refine x8 x λE e=>dp _ _ ?_
   simp only [Bool.true_eq_false,if_false,if_true,b,qe];refine ⟨?_,g.put (ao.refl _ _) (ao.refl _ _) e c a (by omega) h⟩;rw [b]
theorem Ly {aX:an} {pc:Nat} {UU:an} {UV:Nat} {T:ee} {G:List (List aC)} {bH:al} (g:nq w0 bH aT tb r bJ j z aX n pc UU UV (c2 j) (fA j)) (Uq:ai u bH) (X:ai w0 u) (VD:ek A w0 z tb T G) (U1:fz T) (U2:av z b1 (bq.cells ⟨0,0⟩) er)
  (Uj:u.heap.size<=b1) (R:b1<bH.heap.size) (Vc:tb<u.heap.size) (VH:aT<u.heap.size) (UT:aw) (dp:∀ v w',km A w0 u tb u.heap.size (jO j G) v w'->Q v w') :
  W prog (sub (bh f173) [1,1,1,1,1]) (yM ⟨aT,0,none⟩ ⟨b1,0,none⟩ aX n pc none 0 0 UU n UV UT) (dh prog f173 Q) z:=by
 rw [PZ];have UJ:=Uq.size;have VP:=X.size;have VM:=g.jT.len;have VT:=g.wl;have Vp:=g.c7.ca;have VK:=Vp.rK;have VL:=Vp.zg;have Vr:n<=36:=by rw [VM];unfold c2;simp only [c8,fc];omega
 have UI:ai u z:=Uq.new g.new;have Uk:=rU g.c7 VD U1 (X.new Uq) (by omega) g.jT (by omega) 1;refine aD Uk ?_;rintro v VU ⟨dk,dc,raw,rfl,I,Va,UC,Vb⟩;refine ⟨_,_,_,bq.aS ⟨(cd G (c2 j) 1).out.1,(cd G (c2 j) 1).out.2⟩ ⟨(cd G (c2 j) 1).ok,rfl,?_⟩⟩;have Vg:av VU b1 (bq.cells ⟨0,0⟩) er:=I.ax.ak U2 (by omega);have UK:=I.after (ao.bZ UI);refine dC Vg rfl (bq.single _) λUv Uu O=>?_
 unfold jO at dp;cases E:(cd G (c2 j) 1).ok with
 |false=>
  have UL:=UK.put (B':=bH.heap.size) (ao.refl _ _) (ao.refl _ _) O Uj R (by omega) (dd _);refine x8 Uu λWa U5=>dp _ _ ?_
  rw [if_pos E];refine ⟨?_,UL.put (ao.refl _ _) (ao.refl _ _) U5 Uj R (by omega) UJ⟩;rw [E]
 |true=>
  rw [if_neg (by rw [E];simp)] at dp;obtain ⟨VE,hw,V6⟩:=oH E;obtain ⟨Vy,UX,UB⟩:=I.clean VE hw;have p:ao (λk=>k=tb\/k=b1) z Uv:=(I.ax.mono λk _ e=>.inl e).trans (O.mono λk _ e=>.inr e) λ_ _ e=>e
  have Uy:np A w0 u Uv aT tb b1 r bJ j (cd G (c2 j) 1):=by
   refine ⟨g.c7.ax p λk e=>?_,⟨_,Uu⟩,⟨Vy,UX.ax O (by omega),UB⟩,((ao.bZ UI).trans I.ax λ_ _ e=>e).trans O λk Um e=>by omega⟩;have Vm:=g.c7.ki;have Vn:=g.c7.ne;rcases e with e | e
   ·exact ⟨by omega,by omega⟩
   ·exact ⟨by omega,by omega⟩
  have UM:bD bH Uv aX n pc (c2 j):=g.jT.yT g.fa p λk N e=>by have:=g.jT.fO k N;omega
  have F:aY Uv nx 1 UU n UV (us (fA j)):=g.own.ax p λk N e=>by have:=g.s7 k N;omega
  obtain ⟨⟨w,Us,B⟩,VS,VR⟩:=UM;have V:=Us.rd;have UN:=g.fa;have UO:=F.rd;have J:=Uy.c7.new;have Vq:=Uu.lt;have VI:=UC.1;have Vt:bH.heap.size<=Uv.heap.size:=by have Vm:=g.new.size;have Vn:=p.size;omega
  clear F;refine c1 mix (λq env y=>∃ (i:Nat) (Ui:Bool) (UQ:an) (un UR:Nat) (UT:aw),q=raw.length - i/\i<=raw.length/\Ui=fr ((fA j).take i) ((cd G (c2 j) 1).done.take i)/\env=qL ⟨aT,0,none⟩ ⟨b1,0,none⟩ aX n pc UQ un UR UU n UV Ui dk raw.length dc raw.length i UT/\ai Uv y/\bD Uv y UQ un UR (hk ((c2 j).take i) ((fA j).take i) ((cd G (c2 j) 1).done.take i))/\np A w0 u y aT tb b1 r bJ j (cd G (c2 j) 1)) raw.length
   ⟨0,false,none,0,0,_,rfl,by omega,rfl,rfl,ao.refl _ _,bD.nil _ _,Uy⟩ ?_
  rintro q env y ⟨i,Ui,UQ,un,UR,UT,rfl,V5,Ul,rfl,Up,l,L⟩;rw [Pm];have VQ:=l.len;have Vu:=@zO ((c2 j).take i) ((fA j).take i) ((cd G (c2 j) 1).done.take i);have Vv:((c2 j).take i).length<=n:=by rw [gR];omega
  refine a9 (λUm=>?_) (λVJ=>?_)
  ·have C:i<raw.length:=by omega
   obtain ⟨d,aA⟩:∃ d,raw[i]?=some d:=⟨_,bM C⟩;have Vs:raw.length=(c2 j).length:=Vb.resolve_left λe=>by rw [e] at C;simp at C
   obtain ⟨x,Ve⟩:∃ x,(cd G (c2 j) 1).done[i]?=some x:=⟨_,bM (by omega)⟩;obtain ⟨US,Ut⟩:∃ US,(fA j)[i]?=some US:=⟨_,bM (by omega)⟩;obtain ⟨v1,Ur⟩:∃ v1,(c2 j)[i]?=some v1:=⟨_,bM (by omega)⟩;obtain ⟨r1,H⟩:∃ r1,w[i]?=some r1:=⟨_,bM (by have:=B.1;omega)⟩;have U4:=UC.2 i d x aA Ve;have f:=B.2 i r1 v1 H Ur;have s:=UN v1 (cj Ur);have Vl:fr ((fA j).take (i+1)) ((cd G (c2 j) 1).done.take (i+1))=(fr ((fA j).take i) ((cd G (c2 j) 1).done.take i) || decide (e5 x≠US)):=by rw [eT,eT,Ut,Ve];exact AL (by rw [gR,gR];omega)
   have Uw:hk ((c2 j).take (i+1)) ((fA j).take (i+1)) ((cd G (c2 j) 1).done.take (i+1))=hk ((c2 j).take i) ((fA j).take i) ((cd G (c2 j) 1).done.take i)++(if e5 x=US/\v1.kind=3 then [qx v1] else []):=by rw [eT,eT,eT,Ut,Ve,Ur];exact AK (by rw [gR,gR];omega) (by rw [gR,gR];omega)
   refine ew (cells:=bF.cells) bF.len (by omega) (Va.new (J.new Up)) aA rfl rfl λb o U0 _=>bF.aS d ⟨U0,?_⟩
   refine dU (vs:=d.cells) rfl (bF.single _) λVY VV VF Vf UG=>?_
   rintro Vw Y;have Un:ai VV Vw:=by rw [Y];exact cL _
   clear Y;have D:=(Up.new UG).new Un;refine ⟨λy=>ai Vw y,ao.refl _ _,bF.aS d ⟨λy K=>bI (ai.ak (Un.new K) Vf) rfl,?_⟩⟩;refine R9 (UO.new D) Ut rfl (by omega) λVZ V7 UZ=>⟨US,λy K=>UZ y K,?_⟩
   have M:=ul (U4.ax (ao.bZ (J.new D)) λ_ _ e=>e);refine aD M ?_;rintro v Wb ⟨rfl,Uo⟩;have c:=D.new Uo;have a:=(UG.new Un).new Uo;refine ⟨_,rfl,Uo,dt (λe=>?_) (λe=>?_)⟩
   ·rw [if_neg λh=>e h.1,g_] at Uw;rw [bA (x:=(i:Int)+1) (by omega) (by omega)];exact ⟨raw.length - (i+1),by omega,i+1,true,UQ,un,UR,_,rfl,by omega,by rw [Vl];simp [e],rfl,c,by rw [Uw];exact l.new a,L.new a⟩
   ·have Ux:Ui=fr ((fA j).take (i+1)) ((cd G (c2 j) 1).done.take (i+1)):=by rw [Vl,Ul];simp [e]
    have UF:r1.Kind=v1.kind:=by rw [f.eq];rfl
    refine ew (cells:=aF.cells) aF.len (by omega) (V.new c) H rfl (by have:=B.1;omega) λV0 V8 Vo U9=>⟨_,U9 0 _ rfl,dJ (λUW=>?_) (λUW=>?_)⟩
    ·rw [if_pos ⟨e,by rw [<-UF];exact UW⟩] at Uw;refine ew (cells:=aF.cells) aF.len (by omega) (V.new c) H rfl (by have:=B.1;omega) λV1 V9 UA VN=>aF.aS r1 ⟨UA,?_⟩
     refine dU (vs:=r1.cells) rfl (aF.single _) λVz VW VG UP UH=>?_
     rintro VX Z;have P:ai VW VX:=by rw [Z];exact cL _
     clear Z;have Vh:=ai.ak P UP;have t:=aY.new ((c.new UH).new P) Us;have Uz:∀ k,aL aX k->k≠Vz:=λk N=>by obtain ⟨cs,U3⟩:=fm Us N;have Vm:=U3.lt;have Vn:=c.size;omega
     refine ⟨λy=>aY y cr 9 aX n pc (dz w).flatten,t,?_⟩;refine Cg (S:=λy=>aY y cr 9 aX n pc (dz w).flatten) (cells:=aF.cells) aF.len (by omega) (λy K=>K.rd) t H rfl (by have:=B.1;omega) λV2 V_ U_=>⟨r1.ai,λy K=>U_ y K 5 _ rfl,?_⟩
     refine Cg (S:=λy=>aY y cr 9 aX n pc (dz w).flatten) (cells:=aF.cells) aF.len (by omega) (λy K=>K.rd) t H rfl (by have:=B.1;omega) λV3 V' U'=>⟨r1.Old,λy K=>U' y K 4 _ rfl,?_⟩
     refine kl Vh (i:=4) rfl λWc Vi UE=>⟨t.ax UE λk N e=>Uz k N e,?_⟩
     refine kl Vi (i:=5) rfl λVx Vj U6=>?_
     have VO:=P.size;have U:ai y Vx:=(((a.new UH).new P).trans UE λk Um e=>by have:=a.size;omega).trans U6 λk Um e=>by have:=a.size;omega
     refine aF.aS { r1 with Old:=r1.ai,ai:=r1.Old } ⟨bI Vj rfl,?_⟩;rintro V4 We UY Vk;have Vd:cA (λk=>k<y.heap.size) Vx { r1 with Old:=r1.ai,ai:=r1.Old } (qx v1):=by
      refine ⟨?_,?_,λ_=>s,.inl s,λz au=>?_,f.old,f.new,f.key,f.dQ,f.cap,f.ko⟩
      ·have VA:=f.eq;rw [VA];rfl
      ·rw [show (qx v1).words=[] from s];exact .inl rfl
      ·rw [show (qx v1).words=[] from s] at au;cases au
     refine bD.lk l Up U Vd (by omega) UY Vk λap ac Wd VC U7 U8=>?_
     rw [bA (x:=(i:Int)+1) (by omega) (by omega)];refine ⟨raw.length - (i+1),by omega,i+1,Ui,ap,un+1,ac,_,rfl,by omega,Ux,rfl,U8,by rw [Uw];exact VC,(L.new U).O8 U7 λk N=>?_⟩;have:=l.fO k N;exact ⟨by omega,by omega,by omega,by omega,by omega⟩
    ·rw [if_neg λh=>UW (by rw [UF];exact h.2),g_] at Uw;rw [bA (x:=(i:Int)+1) (by omega) (by omega)];exact ⟨raw.length - (i+1),by omega,i+1,Ui,UQ,un,UR,_,rfl,by omega,Ux,rfl,c,by rw [Uw];exact l.new a,L.new a⟩
  ·have UD:i=(cd G (c2 j) 1).done.length:=by omega
   rw [UD,hq,Gf] at Ul;rw [UD,hq,Gg] at l;have VB:=@zO (c2 j) (fA j) (cd G (c2 j) 1).done;refine Lx E L J Uj (by omega) Vc (by omega) l (by omega) Ui _ λv w' aj=>dp v w' ?_
   rw [Ul] at aj;exact aj
end
section
abbrev DG:TypeId:=274
theorem Nc {aT:Nat} {r:cU} {bJ:aO} {j:b_} (a:eR w0 u aT tb r bJ j) {T:ee} {G:List (List aC)} (UQ:ek A w0 u tb T G) (UF:fz T) :
  ba 173 [ptr aT] u (km A w0 u tb u.heap.size (jO j G)):=by
 refine bc Tryz.func173 ?_;rw [ptr,RC];rintro b1 bH UD Ut;obtain ⟨L,J⟩:=bk UD Ut;have L:av bH b1 (bq.cells ⟨0,0⟩) er:=L;clear Ut;have Z:=a.bw J;have UC:=UQ.new J;have hlen:=a.bs.fR.len;have U1:=J.size;have UI:=L.lt;have UM:=UQ.ak.lt;have Uj:=a.ca;have UV:=Uj.aP;have UW:=Uj.rK;have UX:=Uj.zg;have UH:=a.bs.aP;have w:=a.mem;have U0:=Uj.dQ bJ (cj w);have P:dO bJ.ch:=by unfold dO;omega
 have UR:=Z.new.size;have Uo:q2 j=bJ:=by
  unfold q2;cases Up:j.v.mem with
  |nil=>rw [Up] at w;cases w
  |cons x xs=>rw [Up] at w;simp at w;subst w;rfl
 refine ⟨_,_,_,Z.ak.cell (i:=6) rfl,?_⟩;refine c1 mix (λq env z=>∃ (i:Nat) (aX:an) (pc:Nat) (V:an) (W:Nat) (Uv:aw),q=j.writes.length - i/\i<=j.writes.length/\env=vc ⟨aT,0,none⟩ ⟨b1,0,none⟩ aX i pc none 0 0 V i W r.ef r.dF r.gT r.dF i Uv/\nq w0 bH aT tb r bJ j z aX i pc V W ((j.writes.take i).map (k9 j)) ((j.writes.take i).map (·.Head))) j.writes.length
  ⟨0,none,0,none,0,_,rfl,by omega,rfl,⟨Z,ao.refl _ _,bD.nil _ _,(λx Uu=>by simp at Uu),aY.nil _ _ _,(λk UZ=>absurd UZ mM),rfl⟩⟩ ?_
 rintro q env z ⟨i,aX,pc,V,W,Uv,rfl,UY,rfl,g⟩;rw [Pk,hlen];refine a9 (λUJ=>?_) (λUG=>?_)
 ·obtain ⟨p,K⟩:∃ p,j.writes[i]?=some p:=⟨_,bM (by omega)⟩;have H:=cj K;have F:=Uj.wl p H;have UK:=Uj.FX p H;have UL:=a.bs.fR.u64 p H;refine ew (cells:=aR.cells) aR.len (by omega) (a.bs.fR.rd.new g.c7.new) K rfl rfl λb o Ui _=>aR.aS p ⟨Ui,?_⟩
  refine dU (vs:=p.cells) rfl (aR.single _) λO UO UE M Ul=>?_
  rintro Uw e;have B:ai UO Uw:=by rw [e];exact cL _
  clear e;have d:=Ul.new B;refine ⟨λy=>av y O p.cells eN/\eR w0 y aT tb r bJ j,⟨ai.ak B M,g.c7.bw d⟩,aR.aS p ⟨λy C=>bI C.1 rfl,_,λy C=>C.2.ak.cell (i:=0) rfl,?_⟩⟩;refine aD (w9 Uw p UK.1 (by omega)) ?_;rintro v U4 ⟨rfl,Uq⟩;refine ⟨_,_,rfl,?_⟩;rintro US U;have Ur:ai U4 US:=by rw [U];exact cL _
  clear U;have R:=(d.new Uq).new Ur;have n:=ai.ak ((B.new Uq).new Ur) M;have t:=g.c7.bw R;refine ⟨λy=>av y O p.cells eN/\eR w0 y aT tb r bJ j,⟨n,t⟩,aO.aS bJ ⟨λy C=>bI C.2.ak rfl,_,λy C=>C.1.cell (i:=0) rfl,_,λy C=>C.1.cell (i:=1) rfl,?_⟩⟩;refine aD (p2 US F.1 F.2) ?_;rintro v UP ⟨rfl,rfl⟩;refine ⟨_,rfl,⟨n,t⟩,?_⟩;rw [UH];have Um:cA (λ_=>False) UP ⟨3,0,p.bm * 8,0,p.Head,eP p.Head j.aP,none,0,0,0,0⟩ ⟨3,0,p.bm * 8,0,p.Head,eP p.Head j.aP,[],0,0⟩:=oP (.inl rfl) rfl (by omega) (λ_=>rfl) (λx Uu=>by cases Uu) (by simp) UL (Cc _ _);have f:=re t P Um;refine aD f ?_;rintro v U5 ⟨UN,rfl,I,c⟩;refine aF.aS UN ⟨rfl,⟨ai.ak c n,t.bw c⟩,?_⟩;rintro UT U6 Y Un;have X:=g.bw R;have D:addr j.v.number bJ ⟨3,0,p.bm * 8,0,p.Head,eP p.Head j.aP,[],0,0⟩=k9 j p:=by unfold k9;rw [Uo]
  rw [D] at I;refine X.push c I rfl (by omega) (by omega) (ai.ak c n) (by decide) (by decide) (y:=p.Head) (S:=λy=>av y O p.cells eN/\eR w0 y aT tb r bJ j) (λN UA UB=>⟨UA,UB⟩) Y Un (rd:=λN y=>N.cell? ⟨O,1,none⟩=some (.int .u64 y)) (λN h=>h.cell (i:=1) rfl) λap ac U2 UU U3 Ux fH N E=>?_
  rw [bA (x:=(i:Int)+1) (by omega) (by omega)];have Uy:(j.writes.take i).map (k9 j)++[k9 j p]=(j.writes.take (i+1)).map (k9 j):=by rw [eT,K];simp
  have Uz:(j.writes.take i).map (·.Head)++[p.Head]=(j.writes.take (i+1)).map (·.Head):=by rw [eT,K];simp
  rw [Uy,Uz] at E;exact ⟨j.writes.length - (i+1),by omega,i+1,ap,ac,Ux,fH,_,rfl,by omega,by rw [<-hlen];rfl,E⟩
 ·have Uk:i=j.writes.length:=by omega
  subst Uk;simp only [hq] at g;rw [PY];have Us:=a.bs.len;refine ⟨_,_,_,g.c7.ak.cell (i:=5) rfl,?_⟩;refine c1 mix (λq env z=>∃ (i:Nat) (aX:an) (pc:Nat) (V:an) (W:Nat) (Uv:aw),q=j.reads.length - i/\i<=j.reads.length/\env=vd ⟨aT,0,none⟩ ⟨b1,0,none⟩ aX (j.writes.length+i) pc none 0 0 V (j.writes.length+i) W r.Reads r.ky r.ob r.ky i Uv/\nq w0 bH aT tb r bJ j z aX (j.writes.length+i) pc V W (j.writes.map (k9 j)++(j.reads.take i).map (nf j)) (j.writes.map (·.Head)++(j.reads.take i).map (·.Head))) j.reads.length
   ⟨0,aX,pc,V,W,_,rfl,by omega,rfl,by rw [List.take_zero,qh,qh,g_,g_];exact g⟩ ?_
  rintro q env z ⟨i,aX,pc,V,W,Uv,rfl,UY,rfl,g⟩;rw [Pl,Us];refine a9 (λUJ=>?_) (λUG=>?_)
  ·obtain ⟨p,K⟩:∃ p,j.reads[i]?=some p:=⟨_,bM (by omega)⟩;have H:=cj K;have F:=Uj.Sb p H;refine ew (cells:=en.cells) en.len (by omega) (a.bs.rd.new g.c7.new) K rfl rfl λb o Ui _=>en.aS p ⟨Ui,?_⟩
   refine dU (vs:=p.cells) rfl (en.single _) λO UO UE M Ul=>?_
   rintro Uw e;have B:ai UO Uw:=by rw [e];exact cL _
   clear e;have d:=Ul.new B;have l:=ai.ak B M;have s:=g.c7.bw d;refine ⟨λy=>av y O p.cells DG/\eR w0 y aT tb r bJ j,⟨l,s⟩,aO.aS bJ ⟨λy C=>bI C.2.ak rfl,_,λy C=>C.1.cell (i:=0) rfl,?_⟩⟩;refine aD (p2 Uw F.1 F.2) ?_;rintro v UP ⟨rfl,rfl⟩;refine ⟨_,rfl,⟨l,s⟩,?_⟩;have Um:cA (λ_=>False) UP ⟨1,0,p.bm * 8,1,0,0,none,0,0,0,0⟩ ⟨1,0,p.bm * 8,1,0,0,[],0,0⟩:=oP (.inl rfl) rfl (by omega) (λ_=>rfl) (λx Uu=>by cases Uu) (by simp) gQ gQ;have f:=re s P Um;refine aD f ?_;rintro v U5 ⟨UN,rfl,I,c⟩;refine aF.aS UN ⟨rfl,⟨ai.ak c l,s.bw c⟩,?_⟩;rintro UT U6 Y Un;have X:=g.bw d;have D:addr j.v.number bJ ⟨1,0,p.bm * 8,1,0,0,[],0,0⟩=nf j p:=by unfold nf;rw [Uo]
   rw [D] at I;refine X.push c I rfl (by omega) (by omega) (ai.ak c l) (by decide) (by decide) (y:=p.Head) (S:=λy=>av y O p.cells DG/\eR w0 y aT tb r bJ j) (λN UA UB=>⟨UA,UB⟩) Y Un (rd:=λN y=>N.cell? ⟨O,1,none⟩=some (.int .u64 y)) (λN h=>h.cell (i:=1) rfl) λap ac U2 UU U3 Ux fH N E=>?_
   rw [bA (x:=(i:Int)+1) (by omega) (by omega)];have Uy:j.writes.map (k9 j)++(j.reads.take i).map (nf j)++[nf j p]=j.writes.map (k9 j)++(j.reads.take (i+1)).map (nf j):=by rw [eT,K];simp
   have Uz:j.writes.map (·.Head)++(j.reads.take i).map (·.Head)++[p.Head]=j.writes.map (·.Head)++(j.reads.take (i+1)).map (·.Head):=by rw [eT,K];simp
   rw [Uy,Uz] at E;exact ⟨j.reads.length - (i+1),by omega,i+1,ap,ac,Ux,fH,_,rfl,by omega,by rw [<-Us];rfl,E⟩
  ·have Uk:i=j.reads.length:=by omega
   subst Uk;simp only [hq] at g;have Q:=g.new;refine Ly g J a.new (UC.new Q) UF (ai.ak Q L) (by omega) UI UM a.ak.lt _ λv w' aj=>aj
end
section
open IntKind
variable (w:al) (R:cp) {s:an} {a b:Nat} {A:aV} {i k:Int} {j:aq}
theorem T6 (a8:cU):bd prog f92 [a8.val,ae s a b] R w=(aQ w a8.cells.toArray 39 λa5 X=>aQ X #[ab 0,ab 0] 171 λA K=>y' K (af a5 0) λr=>cm 124 #[r.val] K λc M=>cond (c != 0) (a_ M (af A 0) 0 [ab c,ab 0] λD=>dH D (af A 0) λm=>D=D/\R (.tuple #[a3,m.val,ad true]) D) (cu M λN B=>tc B (af a5 0) λu=>mR 115 #[ae s a b] N λd L=>B L/\aQ L #[ab u.Client,ab u.Seq,ab u.gS,ab u.View.Number,ae u.View.e8 u.View.eM u.View.fv,ae u.Reads u.ky u.ob,ae u.ef u.dF u.gT,.pointer d,ab 0,ab 0,ad false] 212 λF H=>B H/\lo H (af a5 3) λn=>Calls prog 125 #[n.val] H λe I=>aO.ex λo=>∃ (f:Bool),e=.returned (.tuple #[o.val,ad f])/\a_ I (af F 8) 0 o.cells λP=>RK 126 #[a' F] P λq p=>a_ p (af A 0) 0 q.cells λj=>l0 j (af F 7) λt=>iX 118 #[.pointer t] j λg h i k v=>cond k (a_ v (af A 0) 0 [ab 0,ab 0] λx=>dH x (af A 0) λy=>x=x/\R (.tuple #[ae g h i,y.val,ad false]) x) (l0 v (af F 7) λQ=>dm 119 #[.pointer Q] v λl z=>cond l (a_ z (af A 0) 0 [ab 6,ab 0] λY=>cu Y λZ V=>EX V (af A 0) λS=>a_ Z (af A 0) 0 S.cells λE=>dH E (af A 0) λC=>E=E/\R (.tuple #[a3,C.val,ad true]) E) (cu z λO J=>EX J (af A 0) λT=>a_ O (af A 0) 0 T.cells λG=>dH G (af A 0) λW=>G=G/\R (.tuple #[a3,W.val,ad true]) G)))):=by kernel_rfl
def vf (s2:aV) (a:an) (b c:Nat) (d f:Int) (j:aq):aq:=ag j 0 2 (.pointer (some s2)::ag j 2 14 (ae a b c::ab d::ab f::ag j 16 13 []))
def Ed (a:aV) (j:aq):aq:=ag j 0 2 (.pointer (some a)::ag j 2 30 [])
theorem Rq:bd prog f126 [a' a] R w=(aQ w #[ab 0,ab 0] 171 λd e=>aQ e #[.func (.func 172) #[a' a] #[],.func (.func 173) #[a' a] #[],.func (.func 174) #[a' a] #[],.func (.func 175) #[a' a] #[],.func (.func 176) #[a' a] #[]] 277 λc b=>cx prog (cY f126 [1,0,1,0,0]) (vf (af d 0) (bj c) 5 5 5 0 (jp (af a 0)::bx 5 (jp (af a 0)::.func (.func 172) #[a' a] #[]::jp (af a 0)::.func (.func 173) #[a' a] #[]::jp (af a 0)::.func (.func 174) #[a' a] #[]::jp (af a 0)::.func (.func 175) #[a' a] #[]::jp (af a 0)::.func (.func 176) #[a' a] #[]::bx 13 []))) (aW 0 (aZ f126 [1,1] R)) b):=by kernel_rfl
theorem P5 (m:aq->aE):W prog (sb f126 [1,0,1,0,0]) (vf A s a b i k j) (a1 m (aW 0 (aZ f126 [1,1] R))) w=(cond (k<i) (bB s a k 1 λn=>∃ x,w.cell? n=some x/\ix prog x #[] w λe p=>bq.ex λh=>∃ g,e=.returned (.tuple #[h.val,ad g])/\aQ p #[ab 0,ab 0] 171 λf o=>a_ o (af f 0) 0 h.cells λl=>cond (!g) (dH l (af f 0) λr=>a_ l A 0 r.cells λd=>dH d A λc=>d=d/\R c.val d) (m (vf A s a b i (i64.wrap (k+1)) (aN j 0::aN j 1::aN j 2::x::jp (af f 0)::ad g::ag j 6 10 [ad (k<i),jp n,x,.tuple #[h.val,ad g],x,.tuple #[h.val,ad g],h.val,ad g,ad g,ad (!g),aN j 26,ab (i64.wrap (k+1)),aN j 28])) l)) (W prog (sb f126 [1,1]) (Ed A (ag j 0 16 (ae s a b::ab i::ab k::ad (k<i)::ag j 17 12 []))) (bW f126 R) w)):=by kernel_rfl
theorem Qt:W prog (sb f126 [1,1]) (Ed A j) (bW f126 R) w=(a_ w A 0 [ab 0,ab 3] λa=>dH a A λb=>a=a/\R b.val a):=by kernel_rfl
end
section
def f9:List (List (List aC)->b2)->List (List aC)->b2
 | [],G=>n6 G
 |f::a,G=>hV (f G) (f9 a)
def nU (j:b_):List (List (List aC)->b2):=[qw j,jO j,pd j,i_ j,kC j]
def runM (j:b_) (G:List (List aC)):b2:=f9 (nU j) G
def p5 (R:b2):Int×Int:=if R.ok=true then (0,3) else R.out
theorem QN:hU prog 172=true:=by kernel_rfl
theorem QO:hU prog 173=true:=by kernel_rfl
theorem QP:hU prog 174=true:=by kernel_rfl
theorem QQ:hU prog 175=true:=by kernel_rfl
theorem QR:hU prog 176=true:=by kernel_rfl
def yL (aT:Nat):aw:=[.func (.func 172) #[ptr aT] #[],.func (.func 173) #[ptr aT] #[],.func (.func 174) #[ptr aT] #[],.func (.func 175) #[ptr aT] #[],.func (.func 176) #[ptr aT] #[]]
variable {A:a2} {w0 u:al} {aT tb:Nat} {r:cU} {bJ:aO} {j:b_}
theorem Nd (b:eR w0 z aT tb r bJ j) (aA:n7 j) {T:ee} {G:List (List aC)} (c:ek A w0 z tb T G) (a:fz T) (e:i<5) :
  ∃ (f:FuncId) (F:List (List aC)->b2),(yL aT)[i]?=some (.func (.func f) #[ptr aT] #[])/\(nU j)[i]?=some F/\hU prog f=true/\ba f [ptr aT] z (km A w0 z tb z.heap.size (F G)):=by
 have d:i=0\/i=1\/i=2\/i=3\/i=4:=by omega
 rcases d with rfl | rfl | rfl | rfl | rfl
 ·exact ⟨_,_,rfl,rfl,QN,Na b aA c a⟩
 ·exact ⟨_,_,rfl,rfl,QO,Nc b c a⟩
 ·exact ⟨_,_,rfl,rfl,QP,Lv b c a⟩
 ·exact ⟨_,_,rfl,rfl,QQ,Lw b aA c a⟩
 ·exact ⟨_,_,rfl,rfl,QR,J7 b aA c a⟩
theorem Jn {F:List (List aC)->b2} {l:List (List (List aC)->b2)} (h:l[i]?=some F) (G:List (List aC)):f9 (l.drop i) G=hV (F G) (f9 (l.drop (i+1))):=by have a:=cz h;rw [qa a];rw [bM a] at h;cases h;rfl
theorem BI (G:List (List aC)):(n6 G).ask=none/\(n6 G).di=false:=⟨rfl,rfl⟩
theorem Ch {j:b_} {G:List (List aC)} {a:Int} {ws:a4} (h:(mH j G a ws f).ok=true):(mH j G a ws f).ask=none/\(mH j G a ws f).di=false:=by
 unfold mH at h ⊢;split
 ·exact BI G
 ·rename_i b;rw [if_neg b] at h;exact ⟨(oH h).1,(oH h).2.1⟩
theorem J8 {j:b_} {G:List (List aC)} (h:(jO j G).ok=true):(jO j G).ask=none/\(jO j G).di=false:=by
 unfold jO at h ⊢;split
 ·rename_i a;rw [if_pos a] at h;rw [a] at h;cases h
 ·rename_i a;rw [if_neg a] at h;split
  ·exact ⟨rfl,rfl⟩
  ·rename_i c;rw [if_neg c] at h;split
   ·rename_i b;rw [if_pos b] at h;cases h
   ·rename_i b;rw [if_neg b] at h;exact absurd h b
theorem J9 {j:b_} {G:List (List aC)} (h:(i_ j G).ok=true):(i_ j G).ask=none/\(i_ j G).di=false:=⟨(oH h).1,(oH h).2.1⟩
theorem Lz {j:b_} {G:List (List aC)} (h:(kC j G).ok=true):(kC j G).ask=none/\(kC j G).di=false:=by
 unfold kC at h ⊢;split
 ·exact BI G
 ·rename_i a;rw [if_neg a] at h;exact ⟨(oH h).1,(oH h).2.1⟩
theorem Nf {j:b_} (i:Nat) (F:List (List aC)->b2) (h:(nU j)[i]?=some F) (G:List (List aC)) (a:(F G).ok=true):(F G).ask=none/\(F G).di=false:=by
 have b:=cz h;have c:i=0\/i=1\/i=2\/i=3\/i=4:=by unfold nU at b;simp at b <;> omega
 rcases c with rfl | rfl | rfl | rfl | rfl<;>cases h
 ·exact Ch a
 ·exact J8 a
 ·exact Ch a
 ·exact J9 a
 ·exact Lz a
attribute [local irreducible] hU ix mb
theorem NP (C:eR w0 u aT tb r bJ j) (aA:n7 j) {T:ee} {G:List (List aC)} (Ui:ek A w0 u tb T G) (O:fz T) :
  ba 126 [ptr aT] u λv bo=>v=bq.val ⟨(p5 (runM j G)).1,(p5 (runM j G)).2⟩/\fX A w0 u tb u.heap.size (runM j G) bo:=by
 refine bc Tryz.func126 ?_;rw [ptr,Rq];rintro b1 bH M H;obtain ⟨b,D⟩:=bk M H;have b:av bH b1 (bq.cells ⟨0,0⟩) er:=b;clear H;rintro az bY N I;obtain ⟨d,E⟩:=bk N I;obtain ⟨k4,d⟩:∃ k4,av bY az (yL aT) k4:=⟨_,d⟩;clear I;have g:=D.new E;have s:=ai.ak E b;have Us:=s.lt;have Ut:=d.lt;have Uw:=Ui.ak.lt;have Uj:=C.ak.lt;have Uv:=D.size;refine c1 mix (λq env z=>∃ (i:Nat) (c:List (List aC)) (Uk:aw),q=5 - i/\i<=5/\env=vf ⟨b1,0,none⟩ (some ⟨az,0,none⟩) 5 5 5 i Uk/\eR w0 z aT tb r bJ j/\(∃ T,ek A w0 z tb T c/\fz T)/\ao (λk=>k=tb) u z/\av z b1 (bq.cells ⟨0,0⟩) er/\av z az (yL aT) k4/\runM j G=f9 ((nU j).drop i) c) 5
  ⟨0,G,_,rfl,by omega,rfl,C.bw g,⟨T,Ui.new g,O⟩,ao.bZ g,s,d,rfl⟩ ?_
 rintro q env z ⟨i,c,Uk,rfl,UC,rfl,l,⟨Um,y,w⟩,n,b,d,a⟩;rw [P5];refine a9 (λUu=>?_) (λUr=>?_)
 ·obtain ⟨f,F,Uq,Z,V,P⟩:=Nd l aA y w (i:=i) (by omega);rw [Jn Z] at a;refine dT (by omega) (by omega) ⟨_,d.cell (i:=0+i * 1) (by rw [gG,Nat.mul_one];exact Uq),?_⟩;refine pU V (xs:=#[ptr aT]) (by simp) ?_;refine aD P ?_;rintro v Ux ⟨rfl,p⟩;refine bq.aS ⟨(F c).out.1,(F c).out.2⟩ ⟨(F c).ok,rfl,?_⟩;refine dU (vs:=bq.cells ⟨(F c).out.1,(F c).out.2⟩) rfl (bq.single _) λUz Uy Up X o=>?_
  have W:=n.size;have U:=b.lt;have h:=(p.after n).new o;have t:av Uy b1 (bq.cells ⟨0,0⟩) er:=ai.ak o (p.ax.ak b (by omega));have J:=ai.ak o (p.ax.ak d (by omega));unfold hV at a;cases K:(F c).ok with
  |false=>
   rw [if_neg (by rw [K];simp)] at a;refine fK rfl ?_;refine bq.aS ⟨(F c).out.1,(F c).out.2⟩ ⟨bI X rfl,?_⟩;refine dC t rfl (bq.single _) λUD Y S=>?_
   refine bq.aS ⟨(F c).out.1,(F c).out.2⟩ ⟨bI Y rfl,rfl,?_,?_⟩
   ·rw [a];unfold p5;rw [if_neg (by rw [K];simp)]
   ·rw [a];exact h.put (ao.refl _ _) (ao.refl _ _) S (by omega) (by omega) (by omega) (by omega)
  |true=>rw [if_pos K] at a;obtain ⟨Uo,hw⟩:=Nf i F Z c K;obtain ⟨Ul,L,B⟩:=h.clean Uo hw;rw [bA (x:=(i:Int)+1) (by omega) (by omega)];exact ⟨5 - (i+1),by omega,i+1,(F c).a7,_,rfl,by omega,rfl,(l.ax p.ax λk e=>by have UA:=l.ki;have UB:=l.ne;exact ⟨by omega,by omega⟩).bw o,⟨Ul,L,B⟩,h.ax,t,J,a⟩
 ·have Q:i=5:=by omega
  subst Q;rw [Qt,a];refine lM b rfl 0 3 λUx R=>⟨rfl,?_⟩
  have Un:fX A w0 u tb z.heap.size (f9 ((nU j).drop 5) c) z:=⟨n,Um,y,w.di,w.cW⟩;have W:=n.size;have U:=b.lt;exact Un.put (ao.refl _ _) (ao.refl _ _) R (by omega) (by omega) (by omega) (by omega)
end
end Go.Proofs.YtmkljjbioomepaaGreat
