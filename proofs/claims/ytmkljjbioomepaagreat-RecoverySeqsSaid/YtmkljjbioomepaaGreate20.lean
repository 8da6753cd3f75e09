import Derived.Test.YtmkljjbioomepaaGreate19
import Derived.Test.YtmkljjbioomepaaGreatProg
import Derived.Test.YtmkljjbioomepaaGreate03
set_option linter.all false
set_option maxHeartbeats 4000000
set_option maxRecDepth 100000
namespace Go.Proofs.YtmkljjbioomepaaGreat
open Go.Proofs.Tryz Go.bn
variable {A M:a2} {B b cap n tb:Nat} {a:an} {cs:aw} {u bo bH br w w' w0:al}
section
theorem jE {k a c:Nat} (h:(some ⟨b,a,none⟩:an)=some ⟨k,c,none⟩):b=k/\a=c:=by injection h with h;injection h with d e;exact ⟨d,e⟩
theorem av.get {i:Nat} {T:TypeId} {v:a0} (h:av w b cs T) (a:w.cell? ⟨b,i,none⟩=some v):cs[i]?=some v:=by unfold World.cell? at a;simp only [show w.heap[(⟨b,i,none⟩:aV).block]?=_ from h] at a;simpa using a
theorem bD.O9 {vs:List aG} (h:bD w0 u a n cap vs) {o:bq} (z:av u b o.cells er) (p:ao (λk=>k=b) u bo):bD w0 bo a n cap vs:=by
 obtain ⟨⟨l,A,aj⟩,G,F⟩:=h;have q:¬ aL a b:=λe=>by obtain ⟨cs,r⟩:=fm A e;exact r.ne z (by decide) rfl
 refine ⟨⟨l,A.ax p λk p e=>q (e▸p),aj.1,λi v x f D=>?_⟩,G,F⟩;have c:=aj.2 i v x f D;have s:cA (λk=>k=b\/(k<w0.heap.size\/aL a k)) u v x:=by
  refine ⟨c.eq,c.rd,c.nil,?_,c.wf,c.new,c.old,c.key,c.dQ,c.cap,c.ko⟩;by_cases he:x.words=[]
  ·exact .inl he
  ·right;have d:=c.off.resolve_left he;have g:=c.rd;cases hw:v.Words with
   |none=>trivial
   |some bu=>
    rw [hw] at d g;rintro (e | e)
    ·obtain ⟨y,ys,j⟩:=zX he;rcases g with B | ⟨b',C,t,E⟩
     ·rw [j] at B;cases B
     ·simp only [e7] at t;subst t;have e:b'=b:=e;subst e;have w:=E 0 (.int .u64 y) (by rw [j];rfl);rw [lz] at w;have f:=av.get z w;rcases C with _ | _ | C
      ·cases f
      ·cases f
      ·cases f
    ·exact d e
 exact (s.ax (p.mono λk _ e=>.inl e) λ_ _ e=>e).mono λk e=>.inr e
theorem fX.Rg {bY j:al} {B':Nat} {R:b2} (h:fX A w0 bH tb B R bY) (s:ai u bH) (a:ai bY br) {o:bq} (t:av br b o.cells er) (f:ao (λk=>k=b) br j) (z:u.heap.size<=b) (d:b≠tb) (y:B'<=B):fX A w0 u tb B' R j:=by
 obtain ⟨g,l,w,hw,c⟩:=h;refine ⟨(((ao.bZ s).trans g λ_ _ e=>e).new a).trans f λk r e=>by omega,l,(w.new a).ax f λe=>d e.symm,hw,?_⟩;cases i:R.ask with
 |none=>rw [i] at c;exact c
 |some vs=>rw [i] at c;obtain ⟨n,w1,p,x,q⟩:=c;exact ⟨n,w1,p,by omega,(q.new a).O9 t f⟩
def j2 (M:a2) (w:al) (a:an) (n:Nat) (vs:List aG):Prop:=∃ b:List aF,bg w a (dz b).flatten/\dX M w b vs/\n=vs.length
theorem j2.new {M:a2} {w w':al} {a:an} {n:Nat} {vs:List aG} (h:j2 M w a n vs) (c:ai w w'):j2 M w' a n vs:=by obtain ⟨b,d,f,g⟩:=h;exact ⟨b,d.new c,f.ax (ao.bZ c) λ_ _ e=>e,g⟩
theorem bD.iU {vs:List aG} (h:bD w0 u a n cap vs) (d:∀ k,k<u.heap.size->M k->k<w0.heap.size):j2 M u a n vs:=by obtain ⟨⟨b,g,aj⟩,f,i⟩:=h;exact ⟨b,g.rd,aj.ax (ao.refl _ _) λk c e=>.inl (d k c e),f⟩
theorem j2.wide {M':a2} {vs:List aG} (h:j2 M w a n vs) (c:ai w w') (j:∀ k,k<w.heap.size->M' k->M k):j2 M' w' a n vs:=by obtain ⟨b,d,f,g⟩:=h;refine ⟨b,d.new c,?_,g⟩;have i:dX M' w b vs:=f.ax (ao.refl _ _) j;exact i.ax (ao.bZ c) λ_ _ e=>e
theorem bD.DK {E:an} {p G:Nat} {vs x:List aG} (h:bD w0 bH a n cap vs) (F:ai w0 bH) (I:j2 (λk=>k<w0.heap.size\/aL a k) bH E p x) (O:n+p<=100000) {K:an->Nat->Nat->aE}
  (A:∀ ap d i,bD w0 i ap (n+p) d (vs++x)->ao (aL a) bH i->ai w0 i->K ap (n+p) d i) :
  ∃ (ap:an) (c b:Nat),∃ i,(Builtin.append_ #[fV,fV] fV #[(.slice a n cap),(.slice E p G)]).run prog bH=.ok (.slice ap c b) i/\K ap c b i:=by
 obtain ⟨⟨o,M,D⟩,L,s⟩:=h;obtain ⟨f,C,j,t⟩:=I;obtain ⟨inf,J,au,w,y⟩:=fp (T:=cr) (z:=.agg #[.int .i64 0,.int .i64 0,.int .i64 0,.int .i64 0,.int .u64 0,.int .u64 0,.slice none 0 0,.int .u64 0,.int .i64 0]) (n:=9) (m:=88) (by kernel_rfl);have N:=F.size;refine p4 (cells:=aF.cells) (sz:=9) aF.len aF.single Tryz.underlying125 J au (by rw [w];rfl) w (by decide) (by rw [y];decide) (l:=o) (by rw [wu];exact M) (l2:=f) (m:=p) (by rw [wu];exact C) (by rw [j.1];exact t) (by omega) λap d i H g q=>?_
 have r:∀ k,aL ap k->w0.heap.size<=k:=λk A=>by
  rcases q k A with e | e
  ·exact s k e
  ·omega
 have u:∀ k,k<bH.heap.size->(k<w0.heap.size\/aL ap k)->(k<w0.heap.size\/aL a k):=λk B e=>e.imp id λe=>by
  rcases q k e with e | e
  ·exact e
  ·omega
 exact A ap d i ⟨⟨o++f,H,dX.app (D.ax (g.mono λk _ e=>.inr e) u) (j.ax (g.mono λk _ e=>.inr e) u)⟩,by rw [c8,L,t],r⟩ g (F.trans g λk B e=>by have:=s k e;omega)
theorem bD.box {v:aF} {x:aG} (j:ai br w) (aj:cA (λk=>k<br.heap.size) w v x) (f:b=w.heap.size) (hw:w'=w.alloc (.cells v.cells.toArray cr)):bD br w' (some ⟨b,0,none⟩) 1 1 [x]/\ai w w':=by
 obtain ⟨au,a⟩:=bk f hw;have au:av w' b v.cells cr:=au;have l:=j.size;refine ⟨⟨⟨[v],⟨rfl,.inr ⟨b,_,rfl,au,by omega,by decide,rfl,by rw [show (dz [v]).flatten=v.cells by simp [dz]];rfl⟩⟩,dX.one ?_⟩,rfl,λk h=>by obtain ⟨o,c⟩:=h;simp at c <;> omega⟩,a⟩;have d:cA (λk=>k<br.heap.size\/aL (some ⟨b,0,none⟩) k) w v x:=aj.ax (ao.refl _ _) λk i e=>by
  rcases e with e | ⟨o,c⟩
  ·exact e
  ·exfalso;have g:b=k/\0=o:=jE c;omega
 exact d.ax (ao.bZ a) λ_ _ e=>e
def fo (j:b_):List aG:=match j.v.mem with
 |m::_=>kN j m::j.writes.map (iZ j m)
 | []=>[]
def kC (j:b_) (G:List (List aC)):b2:=if j.writes=[] then n6 G else cd G (fo j) 3
structure FS (A:a2) (w0 br:al) (aT tb b1:Nat) (r:cU) (bJ:aO) (j:b_) (T:ee) (G:List (List aC)) (w:al):Prop where
 c7:eR w0 w aT tb r bJ j
 hp:ek A w0 w tb T G
 b1:av w b1 (bq.cells ⟨0,0⟩) er
 new:ai br w
theorem FS.bw {A:a2} {w0 br w w':al} {aT tb b1:Nat} {r:cU} {bJ:aO} {j:b_} {T:ee} {G:List (List aC)} (h:FS A w0 br aT tb b1 r bJ j T G w) (a:ai w w'):FS A w0 br aT tb b1 r bJ j T G w':=
 ⟨h.c7.bw a,h.hp.new a,ai.ak a h.b1,h.new.new a⟩
theorem FS.ax {A:a2} {w0 br w w':al} {aT tb b1:Nat} {r:cU} {bJ:aO} {j:b_} {T:ee} {G:List (List aC)} (h:FS A w0 br aT tb b1 r bJ j T G w) {M:a2} (b:ao M w w') (a:∀ k,M k->br.heap.size<=k) (g:aT<br.heap.size) (i:tb<br.heap.size) (f:b1<br.heap.size) (d:w0.heap.size<=br.heap.size):FS A w0 br aT tb b1 r bJ j T G w':=
 ⟨h.c7.ax b λk e=>by have:=a k e;omega,h.hp.ax b λe=>by have:=a _ e;omega,b.ak h.b1 λe=>by have:=a _ e;omega,h.new.trans b λk c e=>by have:=a k e;omega⟩
section
variable {A:a2} {w0 u br:al} {aT tb b1:Nat} {r:cU} {bJ:aO} {j:b_} {T:ee} {G:List (List aC)}
theorem Nb (J:ai u br) (U:aT<br.heap.size) (S:tb<br.heap.size) (L:b1<br.heap.size) (M:u.heap.size<=b1) (B:b1≠tb) (E:ai w0 br) (C:fz T) {R:cp} (K:∀ v w',km A w0 u tb u.heap.size (cd G (fo j) 3) v w'->R v w') {w:al} (f:FS A w0 br aT tb b1 r bJ j T G w) {a:an} {n cap:Nat} (aj:bD br w a n cap (fo j)) (V:n<=100000) :
  Calls prog 213 #[(.pointer (some ⟨aT,0,none⟩)),(.slice a n cap),(.int .i64 3)] w λe o=>∃ (k:an) (l m:Nat),bq.ex λy=>∃ (n:Bool),e=.returned (.tuple #[(.slice k l m),y.val,(.bool n)])/\av o aT (k_ r tb bJ) lE/\∀ i p,i=o.heap.size->p=o.alloc (.cells #[(.int .i64 0),(.int .i64 0)] er)->av p aT (k_ r tb bJ) lE/\dR p ⟨i,0,none⟩ 0 y.cells/\∀ cg,cg=cl p ⟨i,0,none⟩ 0 y.cells->bq.ex λr=>b7 cg ⟨i,0,none⟩ 0 r.cells/\dR cg ⟨b1,0,none⟩ 0 r.cells/\∀ b8,b8=cl cg ⟨b1,0,none⟩ 0 r.cells->bq.ex λI=>b7 b8 ⟨b1,0,none⟩ 0 I.cells/\b8=b8/\R (.tuple #[I.val,(.bool n)]) b8:=by
 have d:=rU (A:=A) f.c7 f.hp C E S aj (by have:=aj.len;omega) 3;refine aD d ?_;rintro v o ⟨dk,dc,raw,rfl,b,_⟩;refine ⟨_,_,_,bq.aS ⟨(cd G (fo j) 3).out.1,(cd G (fo j) 3).out.2⟩ ⟨_,rfl,?_⟩⟩;have c:av o aT (k_ r tb bJ) lE:=b.ax.ak f.c7.ak f.c7.ne;refine ⟨c,?_⟩;rintro i p z x;obtain ⟨h,g⟩:=bk z x;have h:av p i (bq.cells ⟨0,0⟩) er:=h;clear x;have P:=b.ax.size;have Q:=f.new.size;have O:=J.size;refine ⟨ai.ak g c,dC h rfl (bq.single _) λcg F s=>bq.aS _ ⟨bI F rfl,?_⟩⟩;have q:av cg b1 (bq.cells ⟨0,0⟩) er:=s.ak (ai.ak g (b.ax.ak f.b1 B)) (by omega);refine dC q rfl (bq.single _) λb8 H D=>bq.aS _ ⟨bI H rfl,rfl,K _ _ ⟨rfl,?_⟩⟩
 have t:ai o cg:=g.trans s λk N e=>by omega
 exact b.put (J.new f.new) t D (by omega) L (by omega) (by omega)
theorem NN (E:ai u br) (P:aT<br.heap.size) (N:tb<br.heap.size) (H:b1<br.heap.size) (J:u.heap.size<=b1) (s:b1≠tb) (y:ai w0 br) (t:fz T) {R:cp} (F:∀ v w',km A w0 u tb u.heap.size (cd G (fo j) 3) v w'->R v w') {w:al} (f:FS A w0 br aT tb b1 r bJ j T G w) {a:an} {n cap:Nat} (aj:bD br w a n cap (fo j)) (Q:n<=100000) {g:Nat} (C:av w g (bq.cells ⟨0,0⟩) er) (I:br.heap.size<=g) :
  Calls prog 213 #[(.pointer (some ⟨aT,0,none⟩)),(.slice a n cap),(.int .i64 3)] w λe p=>∃ (k:an) (l m:Nat),bq.ex λq=>∃ (n:Bool),e=.returned (.tuple #[(.slice k l m),q.val,(.bool n)])/\av p aT (k_ r tb bJ) lE/\dR p ⟨g,0,none⟩ 0 q.cells/\∀ cg,cg=cl p ⟨g,0,none⟩ 0 q.cells->bq.ex λr=>b7 cg ⟨g,0,none⟩ 0 r.cells/\dR cg ⟨b1,0,none⟩ 0 r.cells/\∀ b8,b8=cl cg ⟨b1,0,none⟩ 0 r.cells->bq.ex λD=>b7 b8 ⟨b1,0,none⟩ 0 D.cells/\b8=b8/\R (.tuple #[D.val,(.bool n)]) b8:=by
 have d:=rU (A:=A) f.c7 f.hp t y N aj (by have:=aj.len;omega) 3;refine aD d ?_;rintro v O ⟨dk,dc,raw,rfl,b,_⟩;refine ⟨_,_,_,bq.aS ⟨(cd G (fo j) 3).out.1,(cd G (fo j) 3).out.2⟩ ⟨_,rfl,?_⟩⟩;have L:=b.ax.size;have M:=f.new.size;have K:=E.size;have c:av O g (bq.cells ⟨0,0⟩) er:=b.ax.ak C (by omega);refine ⟨b.ax.ak f.c7.ak f.c7.ne,dC c rfl (bq.single _) λcg z i=>bq.aS _ ⟨bI z rfl,?_⟩⟩;have h:av cg b1 (bq.cells ⟨0,0⟩) er:=i.ak (b.ax.ak f.b1 s) (by omega);refine dC h rfl (bq.single _) λb8 B x=>bq.aS _ ⟨bI B rfl,rfl,F _ _ ⟨rfl,?_⟩⟩
 have o:=b.Rg (u:=u) (B':=br.heap.size) (E.new f.new) (ao.refl _ _) c i (by omega) (by omega) (dd _);exact o.put (ao.refl _ _) (ao.refl _ _) x (by omega) H (by omega) (by omega)
theorem J7 (UA:eR w0 u aT tb r bJ j) (aA:n7 j) (Vs:ek A w0 u tb T G) (UO:fz T) :
  ba 176 [ptr aT] u (km A w0 u tb u.heap.size (kC j G)):=by
 refine bc Tryz.func176 ?_;rw [ptr,QA];rintro b1 bH Vd U9;obtain ⟨UE,UB⟩:=bk Vd U9;have UE:av bH b1 (bq.cells ⟨0,0⟩) er:=UE;clear U9;have U4:=UA.bw UB;have U3:=Vs.new UB;have hlen:=UA.bs.fR.len;have Vl:=UB.size;have Vi:=UE.lt;have VJ:=Vs.ak.lt;have Vu:=UA.ak.lt;have Vg:=UA.ca;have VG:=Vg.rK;have Ur:=UA.mem;have VH:=Vg.dQ bJ (cj Ur);have UK:dO bJ.ch:=by unfold dO;omega
 have U0:fo j=[kN j bJ]++j.writes.map (iZ j bJ):=by
  unfold fo;cases U6:j.v.mem with
  |nil=>rw [U6] at Ur;cases Ur
  |cons x xs=>rw [U6] at Ur;simp at Ur;subst Ur;rfl
 unfold kC;refine ⟨_,_,_,U4.ak.cell (i:=6) rfl,dJ (λe=>?_) (λe=>?_)⟩
 ·have UI:j.writes=[]:=fb (by omega);rw [if_pos UI];exact lM UE rfl 0 0 λVP Vh=>⟨rfl,(fX.skip (B:=bH.heap.size) U3 UO (ao.refl _ _)).put UB (ao.refl _ _) Vh (by omega) Vi (by omega) Vl⟩
 ·have UI:j.writes≠[]:=λVD=>by rw [VD] at hlen;simp at hlen <;> omega
  rw [if_neg UI];obtain ⟨_,Vn⟩:=Vg.wr UI;rintro br U_;have UC:ai bH br:=by rw [U_];exact cL _
  clear U_;have U1:=UB.new UC;have VI:=UC.size;have UG:FS A w0 br aT tb b1 r bJ j T G br:=⟨U4.bw UC,U3.new UC,ai.ak UC UE,ao.refl _ _⟩;have UT:=UG.c7.new;have Vw:=UT.size;have so:=@Nb A w0 u br aT tb b1 r bJ j T G U1 (by omega) (by omega) (by omega) (by omega) (by omega) UT UO (km A w0 u tb u.heap.size (cd G (fo j) 3)) (λ_ _ h=>h);have S:=@NN A w0 u br aT tb b1 r bJ j T G U1 (by omega) (by omega) (by omega) (by omega) (by omega) UT UO (km A w0 u tb u.heap.size (cd G (fo j) 3)) (λ_ _ h=>h);have app:∀ {w:al} {az:Nat} {d:an} {n g:Nat},FS A w0 br aT tb b1 r bJ j T G w->bD br w (some ⟨az,0,none⟩) 1 1 [kN j bJ]->n=j.writes.length->j2 (λk=>k<br.heap.size\/aL (some ⟨az,0,none⟩) k) w d n (j.writes.map (iZ j bJ))->∀ {K:an->Nat->Nat->aE},(∀ ap m c w',FS A w0 br aT tb b1 r bJ j T G w'->bD br w' ap m c (fo j)->m<=100000->ao (aL (some ⟨az,0,none⟩)) w w'->K ap m c w')->
    ∃ (ap:an) (h i:Nat),∃ Uu,(Builtin.append_ #[fV,fV] fV #[(.slice (some ⟨az,0,none⟩) 1 1),(.slice d n g)]).run prog w=.ok (.slice ap h i) Uu/\K ap h i Uu:=by
   intro w az d n g Ut Vb UH Vk K U2;refine bD.DK Vb Ut.new Vk (by omega) λap UZ VK Vr P z=>?_
   rw [<-U0] at Vr;exact U2 ap _ UZ VK (Ut.ax P (λk Vv=>Vb.fO k Vv) (by omega) (by omega) (by omega) (by omega)) Vr (by omega) P
  have L:∀ {w w':al} {b:Nat},FS A w0 br aT tb b1 r bJ j T G w->b=w.heap.size->w'=w.alloc (.cells #[(.int .i64 0),(.int .i64 0)] er)->FS A w0 br aT tb b1 r bJ j T G w'/\ai w w'/\av w' b (bq.cells ⟨0,0⟩) er/\br.heap.size<=b:=by intro w w' b Ut VF hw;obtain ⟨au,UH⟩:=bk VF hw;have:=Ut.new.size;exact ⟨Ut.bw UH,UH,au,by omega⟩
  have clk:∀ {w:al} {K:Ending->aE},FS A w0 br aT tb b1 r bJ j T G w->(∀ (UJ:aF) w',FS A w0 br aT tb b1 r bJ j T G w'->ai w w'->cA (λk=>k<br.heap.size) w' UJ (kN j bJ)->K (.returned UJ.val) w')->Calls prog 218 #[(.pointer (some ⟨aT,0,none⟩)),bJ.val] w K:=by intro w K Ut U2;refine aD (BF Ut.c7 Vn UK) ?_;rintro v w' ⟨UJ,rfl,US,UH⟩;have:=Ut.new.size;exact U2 UJ w' (Ut.bw UH) UH (US.mono λk Vv=>by omega)
  have Up:∀ {w:al} {K:Ending->aE},FS A w0 br aT tb b1 r bJ j T G w->(∀ (a:an) (c:Nat) w',FS A w0 br aT tb b1 r bJ j T G w'->ai w w'->bD w w' a j.writes.length c (j.writes.map (iZ j bJ))->K (.returned (.slice a j.writes.length c)) w')->Calls prog 217 #[(.pointer (some ⟨aT,0,none⟩)),bJ.val] w K:=by intro w K Ut U2;refine aD (BG Ut.c7 aA UK) ?_;rintro v w' ⟨a,c,rfl,US,UH⟩;exact U2 a c w' (Ut.bw UH) UH US
  have Ux:∀ {w:al} {az k:Nat},az<w.heap.size->(k<br.heap.size\/aL (some ⟨az,0,none⟩) k)->br.heap.size<=w.heap.size->k<w.heap.size:=by
   intro w az k VN VE VO;rcases VE with e | ⟨o,I⟩
   ·omega
   ·have:az=k/\0=o:=jE I;omega
  have s:∀ {w:al} {az n c:Nat} {vs:List aG},bD br w (some ⟨az,0,none⟩) n c vs->az<w.heap.size:=by intro w az n c vs h;obtain ⟨Vx,I,_⟩:=h.ex;exact I.lt ⟨0,rfl⟩
  refine ⟨λy=>av y aT (k_ r tb bJ) lE,UG.c7.ak,aO.aS bJ ⟨λy Vo=>bI Vo rfl,aO.aS bJ ⟨λy Vo=>bI Vo rfl,?_⟩⟩⟩;refine ⟨clk UG λUJ VL F U7 Un=>aF.aS UJ ⟨rfl,F.c7.ak,?_,?_,?_⟩,?_⟩
  ·
   rintro az Vy Uv UD;obtain ⟨t,Ul⟩:=bD.box F.new Un Uv UD;have N:=F.bw Ul;have Um:=N.new.size;have Y:=s t;refine ⟨N.c7.ak,?_,?_⟩
   ·refine Up N λd c UW l p C=>⟨_,_,_,rfl,l.c7.ak,?_,?_⟩
    ·refine app l (t.new p) rfl (C.iU λk _ e=>Ux Y e Um) λap m UF Uu f R Q _=>⟨f.c7.ak,so f R Q,?_⟩
     rintro VA VC UM UN;obtain ⟨q,H,O,U⟩:=L f UM UN;exact ⟨q.c7.ak,S q (R.new H) Q O U⟩
    ·rintro UX Vq V Uz;obtain ⟨q,H,O,U⟩:=L l V Uz;refine ⟨q.c7.ak,?_⟩;have Vm:=p.size;refine app q (t.new (p.new H)) rfl ((C.iU λk _ e=>Ux Y e Um).new H) λap m UF Uu f R Q P=>⟨f.c7.ak,S f R Q (P.ak O λe=>?_) U⟩
     obtain ⟨o,I⟩:=e;have:az=UX/\0=o:=jE I;omega
   ·rintro VB VM Ve Vf;obtain ⟨q,H,O,U⟩:=L N Ve Vf;have Vm:=H.size;have Vc:=O.lt;refine ⟨q.c7.ak,Up q λd c UW l p C=>⟨_,_,_,rfl,l.c7.ak,?_⟩⟩;refine app l (t.new (H.new p)) rfl (C.iU λk _ e=>by have:=Ux Y e Um;omega) λap m UF Uu f R Q P=>⟨f.c7.ak,S f R Q (P.ak (ai.ak p O) λe=>?_) U⟩
    obtain ⟨o,I⟩:=e;have:az=VB/\0=o:=jE I;omega
  ·
   refine Up F λd c UW l p C=>⟨_,_,_,rfl,l.c7.ak,?_,?_⟩
   ·rintro X UL Z Ui;obtain ⟨E,z⟩:=bD.box l.new (Un.ax (ao.bZ p) λ_ _ e=>e) Z Ui;have f:=l.bw z;have UQ:=F.new.size;have UR:=l.new.size;have J:j2 (λk=>k<br.heap.size\/aL (some ⟨X,0,none⟩) k) UL d j.writes.length (j.writes.map (iZ j bJ)):=(C.iU (M:=λk=>k<br.heap.size) λk _ e=>by omega).wide z λk UP e=>by
     rcases e with e | ⟨o,I⟩
     ·exact e
     ·exfalso;have:X=k/\0=o:=jE I;omega
    refine ⟨f.c7.ak,?_,?_⟩
    ·refine app f E rfl J λap m UF Uu q U' U5 _=>⟨q.c7.ak,so q U' U5,?_⟩
     rintro VA VC UM UN;obtain ⟨D,Vj,Vp,Uw⟩:=L q UM UN;exact ⟨D.c7.ak,S D (U'.new Vj) U5 Vp Uw⟩
    ·rintro UX Vq V Uz;obtain ⟨q,H,O,U⟩:=L f V Uz;refine ⟨q.c7.ak,?_⟩;have Vt:=s E;refine app q (E.new H) rfl (J.new H) λap m UF Uu D Uo Uk Uj=>⟨D.c7.ak,S D Uo Uk (Uj.ak O λe=>?_) U⟩
     obtain ⟨o,I⟩:=e;have:X=UX/\0=o:=jE I;omega
   ·rintro UX Vq V Uz;obtain ⟨q,H,O,U⟩:=L l V Uz;refine ⟨q.c7.ak,?_⟩;rintro X UL Z Ui;obtain ⟨E,z⟩:=bD.box q.new (Un.ax (ao.bZ (p.new H)) λ_ _ e=>e) Z Ui;have f:=q.bw z;have UQ:=F.new.size;have UR:=l.new.size;have Vc:=O.lt;have J:j2 (λk=>k<br.heap.size\/aL (some ⟨X,0,none⟩) k) UL d j.writes.length (j.writes.map (iZ j bJ)):=((C.iU (M:=λk=>k<br.heap.size) λk _ e=>by omega).new H).wide z λk UP e=>by
     rcases e with e | ⟨o,I⟩
     ·exact e
     ·exfalso;have:X=k/\0=o:=jE I;omega
    refine ⟨f.c7.ak,?_⟩;refine app f E rfl J λap m UF Uu D Uo Uk Uj=>⟨D.c7.ak,S D Uo Uk (Uj.ak (ai.ak z O) λe=>?_) U⟩
    obtain ⟨o,I⟩:=e;have:X=UX/\0=o:=jE I;omega
  ·
   rintro UY Vz Uw UU;obtain ⟨W,U8,Us,Uy⟩:=L F Uw UU;have Va:cA (λk=>k<br.heap.size) Vz UJ (kN j bJ):=Un.ax (ao.bZ U8) λ_ _ e=>e
   refine ⟨W.c7.ak,?_⟩;refine ⟨?_,?_⟩
   ·rintro az Vy Uv UD;obtain ⟨t,Ul⟩:=bD.box W.new Va Uv UD;have N:=W.bw Ul;have Um:=N.new.size;have Y:=s t;have UV:=Us.lt;refine ⟨N.c7.ak,Up N λd c UW l p C=>⟨_,_,_,rfl,l.c7.ak,?_⟩⟩;refine app l (t.new p) rfl (C.iU λk _ e=>Ux Y e Um) λap m UF Uu f R Q P=>⟨f.c7.ak,S f R Q (P.ak (ai.ak (Ul.new p) Us) λe=>?_) Uy⟩
    obtain ⟨o,I⟩:=e;have:az=UY/\0=o:=jE I;omega
   ·refine Up W λd c UW l p C=>⟨_,_,_,rfl,l.c7.ak,?_⟩
    rintro X UL Z Ui;obtain ⟨E,z⟩:=bD.box l.new (Va.ax (ao.bZ p) λ_ _ e=>e) Z Ui;have f:=l.bw z;have UQ:=W.new.size;have UR:=p.size;have UV:=Us.lt;have J:j2 (λk=>k<br.heap.size\/aL (some ⟨X,0,none⟩) k) UL d j.writes.length (j.writes.map (iZ j bJ)):=(C.iU (M:=λk=>k<br.heap.size) λk _ e=>by omega).wide z λk UP e=>by
     rcases e with e | ⟨o,I⟩
     ·exact e
     ·exfalso;have:X=k/\0=o:=jE I;omega
    refine ⟨f.c7.ak,?_⟩;refine app f E rfl J λap m UF Uu D Uo Uk Uj=>⟨D.c7.ak,S D Uo Uk (Uj.ak (ai.ak (p.new z) Us) λe=>?_) Uy⟩
    obtain ⟨o,I⟩:=e;have:X=UY/\0=o:=jE I;omega
  ·rintro UY Vz Uw UU;obtain ⟨W,U8,Us,Uy⟩:=L UG Uw UU;refine ⟨W.c7.ak,clk W λUJ VL F U7 Un=>aF.aS UJ ⟨rfl,F.c7.ak,?_⟩⟩;have Uq:=ai.ak U7 Us;refine ⟨?_,?_⟩
   ·rintro az Vy Uv UD;obtain ⟨t,Ul⟩:=bD.box F.new Un Uv UD;have N:=F.bw Ul;have Um:=N.new.size;have Y:=s t;have UV:=Uq.lt;refine ⟨N.c7.ak,Up N λd c UW l p C=>⟨_,_,_,rfl,l.c7.ak,?_⟩⟩;refine app l (t.new p) rfl (C.iU λk _ e=>Ux Y e Um) λap m UF Uu f R Q P=>⟨f.c7.ak,S f R Q (P.ak (ai.ak (Ul.new p) Uq) λe=>?_) Uy⟩
    obtain ⟨o,I⟩:=e;have:az=UY/\0=o:=jE I;omega
   ·refine Up F λd c UW l p C=>⟨_,_,_,rfl,l.c7.ak,?_⟩
    rintro X UL Z Ui;obtain ⟨E,z⟩:=bD.box l.new (Un.ax (ao.bZ p) λ_ _ e=>e) Z Ui;have f:=l.bw z;have UQ:=F.new.size;have UR:=p.size;have UV:=Uq.lt;have J:j2 (λk=>k<br.heap.size\/aL (some ⟨X,0,none⟩) k) UL d j.writes.length (j.writes.map (iZ j bJ)):=(C.iU (M:=λk=>k<br.heap.size) λk _ e=>by omega).wide z λk UP e=>by
     rcases e with e | ⟨o,I⟩
     ·exact e
     ·exfalso;have:X=k/\0=o:=jE I;omega
    refine ⟨f.c7.ak,?_⟩;refine app f E rfl J λap m UF Uu D Uo Uk Uj=>⟨D.c7.ak,S D Uo Uk (Uj.ak (ai.ak (p.new z) Uq) λe=>?_) Uy⟩
    obtain ⟨o,I⟩:=e;have:X=UY/\0=o:=jE I;omega
end
end
section
open IntKind
variable (w:al) (R:cp) {a b c d e f g h:Nat} {A B:aV} {s t u v:an} {i k:Int} {j:aq} {F:Bool}
def vc (e s2:aV) (n:an) (a b:Nat) (o:an) (c d:Nat) (p:an) (f g:Nat) (h:an) (i k:Nat) (l m:Int) (j:aq):aq:=.pointer (some e)::ag j 0 1 (.pointer (some s2)::ag j 1 1 (ae n a b::ae o c d::ae p f g::ag j 2 15 (ae h i k::ab l::ab m::ag j 17 130 [])))
def Eb (a b:aV) (e:an) (c d:Nat) (k:an) (f g:Nat) (l:an) (h i:Nat) (j:aq):aq:=.pointer (some a)::ag j 0 1 (.pointer (some b)::ag j 1 1 (ae e c d::ae k f g::ae l h i::ag j 2 148 []))
def vd (e s2:aV) (n:an) (a b:Nat) (o:an) (c d:Nat) (p:an) (f g:Nat) (h:an) (i k:Nat) (l m:Int) (j:aq):aq:=.pointer (some e)::ag j 0 1 (.pointer (some s2)::ag j 1 1 (ae n a b::ae o c d::ae p f g::ag j 2 57 (ae h i k::ab l::ab m::ag j 59 88 [])))
def yM (a b:aV) (e:an) (c d:Nat) (k:an) (f g:Nat) (l:an) (h i:Nat) (j:aq):aq:=.pointer (some a)::ag j 0 1 (.pointer (some b)::ag j 1 1 (ae e c d::ae k f g::ae l h i::ag j 2 148 []))
def qL (e s2:aV) (o:an) (a b:Nat) (p:an) (c d:Nat) (q:an) (f g:Nat) (h:Bool) (i:an) (k l:Nat) (m n:Int) (j:aq):aq:=.pointer (some e)::ag j 0 1 (.pointer (some s2)::ag j 1 1 (ae o a b::ae p c d::ae q f g::ag j 2 7 (ad h::ag j 9 84 (ae i k l::ab m::ab n::ag j 93 53 []))))
def yN (a b:aV) (e:an) (c d:Nat) (f:Bool) (j:aq):aq:=.pointer (some a)::ag j 0 1 (.pointer (some b)::ag j 1 2 (ae e c d::ag j 3 8 (ad f::ag j 11 140 [])))
theorem RC:bd prog f173 [a' a] R w=(aQ w #[ab 0,ab 0] 171 λf e=>b0 e (af a 6) λd b c=>cx prog (cY f173 [1,1,1,0,1,0,0]) (vc (af a 0) (af f 0) none 0 0 none 0 0 none 0 0 d b c (b:Nat) 0 (undef::ad false::bx 11 (jp (af a 0)::jp (af a 0)::jp (af a 0)::jp (af a 6)::bx 130 []))) (aW 0 (aZ f173 [1,1,1,1] R)) e):=by kernel_rfl
theorem Pk (L:aq->aE):W prog (sb f173 [1,1,1,0,1,0,0]) (vc A B s a b t c d u e f v g h i k j) (a1 L (aW 0 (aZ f173 [1,1,1,1] R))) w=(cond (k<i) (bB v g k 9 λN=>hG w N λr=>aQ w #[ab 0,ah 0,ah 0,ah 0,ah 0,ah 0,ah 0,ah 0,ah 0] 73 λD U=>a_ U (af D 0) 0 r.cells λY=>cu Y λZ C=>ta C (af D 0) λV=>cP C A λn=>g6 211 #[V.val,ab n] Z λo p J=>cu J λX F=>gO F (bS A 8) λP=>cP F (af D 0) λq=>js F (af D 1) λl=>cm 108 #[ab q] X λm M=>F M/\eh 212 #[.pointer (some A),P.val,.agg #[ab 3,ab 0,ab m,ab 0,ah l,ah o,a3,ah 0,ab 0]] M λa8 K=>F K/\aQ K a8.cells.toArray 158 λT O=>F O/\cZ 125 (ae s a b) (ae (bj T) 1 1) O λG E x H=>F H/\dN H (af D 1) λy=>aQ H #[ah y] 30 λQ Ui=>cZ 94 (ae u e f) (ae (bj Q) 1 1) Ui λz S I a5=>L (vc A B G E x t c d z S I v g h i (i64.wrap (k+1)) (aN j 0::aN j 1::aN j 2::jp (af D 0)::ah o::ab p::ag j 6 11 (ad (k<i)::jp N::r.val::.tuple #[ah o,ab p]::V.val::jp A::jp A::jp A::jp A::ab n::.tuple #[ah o,ab p]::ah o::ab p::ae s a b::jp A::jp A::jp A::bE A 8::P.val::jp (af D 0)::ab q::ab m::jp (af D 1)::ah l::ah o::.agg #[ab 3,ab 0,ab m,ab 0,ah l,ah o,a3,ah 0,ab 0]::a8.val::ae (bj T) 1 1::ae G E x::ae u e f::jp (af D 1)::ah y::ae (bj Q) 1 1::ae z S I::ab (i64.wrap (k+1))::ag j 52 95 []))) a5) (W prog (sb f173 [1,1,1,1]) (Eb A B s a b t c d u e f (ag j 0 17 (ae v g h::ab i::ab k::ad (k<i)::ag j 18 129 []))) (bW f173 R) w)):=by kernel_rfl
theorem PY:W prog (sb f173 [1,1,1,1]) (Eb A B s a b t c d u e f j) (bW f173 R) w=(b0 w (bS A 5) λk l m=>cx prog (cY f173 [1,1,1,1,0,1,0,0]) (vd A B s a b t c d u e f k l m (l:Nat) 0 (ag j 0 55 (jp A::jp A::jp A::bE A 5::ag j 62 88 []))) (aW 2 (aZ f173 [1,1,1,1,1] R)) w):=by kernel_rfl
theorem Pl (M:aq->aE):W prog (sb f173 [1,1,1,1,0,1,0,0]) (vd A B s a b t c d u e f v g h i k j) (a1 M (aW 2 (aZ f173 [1,1,1,1,1] R))) w=(cond (k<i) (bB v g k 2 λL=>za w L λr=>aQ w #[ab 0,ah 0] 274 λD P=>a_ P (af D 0) 0 r.cells λS=>cu S λT E=>gO E (bS A 8) λy=>cP E (af D 0) λn=>cm 108 #[ab n] T λo H=>E H/\eh 212 #[.pointer (some A),y.val,.agg #[ab 1,ab 0,ab o,ab 1,ah 0,ah 0,a3,ah 0,ab 0]] H λz a8=>E a8/\aQ a8 z.cells.toArray 158 λK N=>E N/\cZ 125 (ae s a b) (ae (bj K) 1 1) N λF p q G=>E G/\dN G (af D 1) λl=>aQ G #[ah l] 30 λa5 O=>cZ 94 (ae u e f) (ae (bj a5) 1 1) O λm C x Q=>M (vd A B F p q t c d m C x v g h i (i64.wrap (k+1)) (ag j 0 7 (jp (af D 0)::ag j 8 51 (ad (k<i)::jp L::r.val::ae s a b::jp A::jp A::jp A::bE A 8::y.val::jp (af D 0)::ab n::ab o::.agg #[ab 1,ab 0,ab o,ab 1,ah 0,ah 0,a3,ah 0,ab 0]::z.val::ae (bj K) 1 1::ae F p q::ae u e f::jp (af D 1)::ah l::ae (bj a5) 1 1::ae m C x::ab (i64.wrap (k+1))::ag j 81 66 [])))) Q) (W prog (sb f173 [1,1,1,1,1]) (yM A B s a b t c d u e f (ag j 0 59 (ae v g h::ab i::ab k::ad (k<i)::ag j 60 87 []))) (bW f173 R) w)):=by kernel_rfl
theorem PZ:W prog (sb f173 [1,1,1,1,1]) (yM A B s a b t c d u e f j) (bW f173 R) w=(Calls prog 213 #[.pointer (some A),ae s a b,ab 1] w λg q=>∃ k l m,bq.ex λo=>∃ n,g=.returned (.tuple #[ae k l m,o.val,ad n])/\a_ q B 0 o.cells λi=>cond (!n) (dH i B λr=>a_ i B 0 r.cells λh=>dH h B λp=>h=h/\R (.tuple #[p.val,ad false]) h) (cx prog (cY f173 [1,1,1,1,1,1,1,1,0,1,0,0]) (qL A B s a b t c d u e f false k l m (l:Nat) 0 (aN j 0::ad n::ag j 2 6 (ae k l m::ag j 10 74 (.tuple #[ae k l m,o.val,ad n]::jp A::ae s a b::.tuple #[ae k l m,o.val,ad n]::ae k l m::o.val::ad n::ad n::ad (!n)::aN j 93::ag j 97 53 [])))) (aW 4 (aZ f173 [1,1,1,1,1,1,1,1,1] R)) i)):=by kernel_rfl
theorem Pm (a5:aq->aE):W prog (sb f173 [1,1,1,1,1,1,1,1,0,1,0,0]) (qL A B s a b t c d u e f F v g h i k j) (a1 a5 (aW 4 (aZ f173 [1,1,1,1,1,1,1,1,1] R))) w=(cond (k<i) (bB v g k 2 λa8=>oI w a8 λr=>aQ w #[ab 0,a3] 131 λH Ui=>a_ Ui (af H 0) 0 r.cells λZ=>cu Z λU D=>vY D (af H 0) λK=>bB u e k 1 λy=>js D y λx=>iV 196 #[K.val] U λo G=>D G/\cond (o != x) (a5 (qL A B s a b t c d u e f true v g h i (i64.wrap (k+1)) (ag j 0 9 (ab k::jp (af H 0)::ag j 11 82 (ad (k<i)::ab k::jp a8::r.val::ad ((o:Int) != x)::K.val::ah o::ae u e f::ab k::jp y::ah x::ad ((o:Int) != x)::ag j 105 27 (ab (i64.wrap (k+1))::ag j 133 13 []))))) G) (bB s a k 9 λz=>bG G z λp=>cond (p == 3) (bB s a k 9 λI=>ln G I λQ=>aQ G #[ab 0,ab 0,ab 0,ab 0,ah 0,ah 0,a3,ah 0,ab 0] 158 λE V=>a_ V (af E 0) 0 Q.cells λJ=>cu J λY M=>bB s a k 9 λN=>js M (bS N 5) λq=>bB s a k 9 λL=>js M (bS L 4) λl=>cE Y (af E 4) (ah q) λS=>M S/\cE S (af E 5) (ah l) λO=>ln O (af E 0) λP=>aQ O P.cells.toArray 158 λT X=>cZ 125 (ae t c d) (ae (bj T) 1 1) X λC m n Uj=>a5 (qL A B s a b C m n u e f F v g h i (i64.wrap (k+1)) (ag j 0 9 (ab k::jp (af H 0)::jp (af E 0)::ag j 12 81 (ad (k<i)::ab k::jp a8::r.val::ad ((o:Int) != x)::K.val::ah o::ae u e f::ab k::jp y::ah x::ad ((o:Int) != x)::ad ((p:Int) == 3)::ae s a b::ab k::jp z::jp z::ab p::ad ((p:Int) == 3)::ae s a b::ab k::jp I::Q.val::ae s a b::ab k::jp N::bE N 5::ah q::ae s a b::ab k::jp L::bE L 4::ah l::jp (af E 4)::jp (af E 5)::ae t c d::P.val::ae (bj T) 1 1::ae C m n::ab (i64.wrap (k+1))::ag j 133 13 [])))) Uj) (a5 (qL A B s a b t c d u e f F v g h i (i64.wrap (k+1)) (ag j 0 9 (ab k::jp (af H 0)::ag j 11 82 (ad (k<i)::ab k::jp a8::r.val::ad ((o:Int) != x)::K.val::ah o::ae u e f::ab k::jp y::ah x::ad ((o:Int) != x)::ad ((p:Int) == 3)::ae s a b::ab k::jp z::jp z::ab p::ad ((p:Int) == 3)::ag j 112 20 (ab (i64.wrap (k+1))::ag j 133 13 []))))) G))) (W prog (sb f173 [1,1,1,1,1,1,1,1,1]) (yN A B t c d F (aN j 0::aN j 1::ae s a b::ae u e f::ag j 2 91 (ae v g h::ab i::ab k::ad (k<i)::ag j 94 52 []))) (bW f173 R) w)):=by kernel_rfl
theorem P0:W prog (sb f173 [1,1,1,1,1,1,1,1,1]) (yN A B s a b F j) (bW f173 R) w=(cond (!F) (a_ w B 0 [ab 0,ab 0] λd=>dH d B λl=>d=d/\R (.tuple #[l.val,ad true]) d) (Calls prog 213 #[.pointer (some A),ae s a b,ab 1] w λe t=>∃ g h i,bq.ex λm=>∃ k,e=.returned (.tuple #[ae g h i,m.val,ad k])/\a_ t B 0 m.cells λp=>cond k (a_ p B 0 [ab 7,ab 1] λq=>dH q B λr=>a_ q B 0 r.cells λc=>dH c B λn=>c=c/\R (.tuple #[n.val,ad false]) c) (dH p B λu=>a_ p B 0 u.cells λf=>dH f B λo=>f=f/\R (.tuple #[o.val,ad false]) f))):=by kernel_rfl
end
section
def q2 (j:b_):aO:=j.v.mem.headD jn
def k9 (j:b_) (p:aR):aG:=addr j.v.number (q2 j) ⟨3,0,p.bm * 8,0,p.Head,eP p.Head j.aP,[],0,0⟩
def nf (j:b_) (s:en):aG:=addr j.v.number (q2 j) ⟨1,0,s.bm * 8,1,0,0,[],0,0⟩
def c2 (j:b_):List aG:=j.writes.map (k9 j)++j.reads.map (nf j)
def fA (j:b_):a4:=j.writes.map (·.Head)++j.reads.map (·.Head)
def qx (v:aG):aG:={ v with old:=v.new,new:=v.old }
def hk:List aG->a4->List aC->List aG
 |v::vs,x::xs,d::ds=>(if e5 d=x/\v.kind=3 then [qx v] else [])++hk vs xs ds
 | _,_,_=>[]
def fr:a4->List aC->Bool
 |x::xs,d::ds=>decide (e5 d≠x) || fr xs ds
 | _,_=>false
def jO (j:b_) (G:List (List aC)):b2:=
 if (cd G (c2 j) 1).ok=false then cd G (c2 j) 1
 else if fr (fA j) (cd G (c2 j) 1).done=false then ⟨true,[],(0,0),(cd G (c2 j) 1).a7,none,false⟩
 else if (cd (cd G (c2 j) 1).a7 (hk (c2 j) (fA j) (cd G (c2 j) 1).done) 1).ok=true then ⟨false,[],(7,1),(cd (cd G (c2 j) 1).a7 (hk (c2 j) (fA j) (cd G (c2 j) 1).done) 1).a7,none,false⟩
 else cd (cd G (c2 j) 1).a7 (hk (c2 j) (fA j) (cd G (c2 j) 1).done) 1
theorem AK:∀ {a:List aG} {b:a4} {c:List aC} {v:aG} {x:Int} {d:aC},a.length=c.length->b.length=c.length->hk (a++[v]) (b++[x]) (c++[d])=hk a b c++(if e5 d=x/\v.kind=3 then [qx v] else [])
 | [],[],[],v,x,d,_,_=>by simp [hk]
 | _::a,_::b,_::c,v,x,d,e,f=>by simp only [List.cons_append,hk];rw [AK (by simpa using e) (by simpa using f),jW]
 | [],_,_::_,_,_,_,h,_=>by simp at h
 | _::_,_,[],_,_,_,h,_=>by simp at h
 | _,[],_::_,_,_,_,_,h=>by simp at h
 | _,_::_,[],_,_,_,_,h=>by simp at h
theorem AL:∀ {b:a4} {c:List aC} {x:Int} {d:aC},b.length=c.length->fr (b++[x]) (c++[d])=(fr b c || decide (e5 d≠x))
 | [],[],x,d,_=>by simp [fr]
 | _::b,_::c,x,d,h=>by simp only [List.cons_append,fr];rw [AL (by simpa using h),Bool.or_assoc]
 | [],_::_,_,_,h=>by simp at h
 | _::_,[],_,_,h=>by simp at h
theorem zO:∀ {a:List aG} {b:a4} {c:List aC},(hk a b c).length<=a.length
 |v::a,y::b,d::c=>by
  have:=@zO a b c;unfold hk;rw [c8];split
  ·simp;omega
  ·simp;omega
 | [],_,_=>by simp [hk]
 | _::_,[],_=>by simp [hk]
 | _::_,_::_,[]=>by simp [hk]
theorem bD.yT {vs:List aG} (h:bD w0 u a n cap vs) (d:∀ x ∈ vs,x.words=[]) (j:ao M u bo) (o:∀ k,aL a k->¬ M k):bD w0 bo a n cap vs:=by obtain ⟨⟨c,r,aj⟩,q,p⟩:=h;refine ⟨⟨c,r.ax j o,aj.1,λi v x l g=>?_⟩,q,p⟩;have b:=aj.2 i v x l g;have he:=d x (cj g);have f:cA (λk=>M k\/(k<w0.heap.size\/aL a k)) u v x:=⟨b.eq,b.rd,b.nil,.inl he,b.wf,b.new,b.old,b.key,b.dQ,b.cap,b.ko⟩;exact (f.ax (j.mono λk _ e=>.inl e) λ_ _ e=>e).mono λk e=>.inr e
theorem fX.after {a b:al} {R:b2} (h:fX A w0 a tb B R b) (c:ao (λk=>k=tb) u a):fX A w0 u tb B R b:=
 ⟨c.trans h.ax λ_ _ e=>e,h.hp⟩
theorem x8 {o:bq} (au:av u b o.cells er) {K:bq->aE} (f:∀ e,ao (λk=>k=b) u e->K o e) :
  bq.ex λr=>b7 u ⟨b,0,none⟩ 0 r.cells/\dR u ⟨b,0,none⟩ 0 r.cells/\∀ a,a=cl u ⟨b,0,none⟩ 0 r.cells->bq.ex λres=>b7 a ⟨b,0,none⟩ 0 res.cells/\a=a/\K res a:=
 bq.aS o ⟨bI au rfl,dC au rfl (bq.single _) λa d c=>bq.aS o ⟨bI d rfl,rfl,f a c⟩⟩
structure nq (w0 bH:al) (aT tb:Nat) (r:cU) (bJ:aO) (j:b_) (z:al) (aX:an) (n pc:Nat) (EO:an) (Ry:Nat) (vs:List aG) (ws:a4):Prop where
 c7:eR w0 z aT tb r bJ j
 new:ai bH z
 jT:bD bH z aX n pc vs
 fa:∀ x ∈ vs,x.words=[]
 own:aY z nx 1 EO n Ry (us ws)
 s7:∀ k,aL EO k->bH.heap.size<=k
 wl:ws.length=n
theorem nq.bw {w0 bH:al} {aT tb:Nat} {r:cU} {bJ:aO} {j:b_} {z d:al} {aX:an} {n pc:Nat} {b:an} {c:Nat} {vs:List aG} {ws:a4} (h:nq w0 bH aT tb r bJ j z aX n pc b c vs ws) (a:ai z d):nq w0 bH aT tb r bJ j d aX n pc b c vs ws:=
 ⟨h.c7.bw a,h.new.new a,h.jT.new a,h.fa,aY.new a h.own,h.s7,h.wl⟩
theorem nq.push {aT:Nat} {r:cU} {bJ:aO} {j:b_} {z G:al} {aX:an} {pc:Nat} {T:an} {Um:Nat} {vs:List aG} {ws:a4} (h:nq w0 bH aT tb r bJ j z aX n pc T Um vs ws) (F:ai z G) {v:aF} {x:aG} (aj:cA (λk=>k<z.heap.size) G v x) (Ul:x.words=[]) (Uz:n<=1000) (Uu:w0.heap.size<=bH.heap.size)
  {R:Nat} {E:TypeId} (t:av G R cs E) (X:E≠cr) (Us:E≠nx) {y:Int} {S:aE} (Up:∀ l,av l R cs E->eR w0 l aT tb r bJ j->S l) {b1:Nat} {U:al} (Ut:b1=G.heap.size) (au:U=G.alloc (.cells v.cells.toArray cr)) {rd:al->Int->Prop} (Uj:∀ l,av l R cs E->rd l y) {N:an->Nat->Nat->al->Int->Nat->al->an->Nat->Nat->aE}
  (Ur:∀ ap ac d p o q fH l,nq w0 bH aT tb r bJ j l ap (n+1) ac q fH (vs++[x]) (ws++[y])->N ap (n+1) ac d y p o q (n+1) fH l) :
  S U/\∃ (ap:an) (cW ac:Nat),∃ d,(Builtin.append_ #[fV,fV] fV #[(.slice aX n pc),(.slice (some ⟨b1,0,none⟩) 1 1)]).run prog U=.ok (.slice ap cW ac) d/\S d/\∃ y:Int,rd d y/\∀ p o,p=d.heap.size->o=d.alloc (.cells #[(.int .u64 y)] nx)->∃ (q:an) (Un fH:Nat),∃ V,(Builtin.append_ #[94,94] 94 #[(.slice T n Um),(.slice (some ⟨p,0,none⟩) 1 1)]).run prog o=.ok (.slice q Un fH) V/\N ap cW ac d y p o q Un fH V:=by
 have O:ai G U:=by rw [au];exact gY _ _
 have u:=h.c7.bw F;refine ⟨Up _ (ai.ak O t) (u.bw O),?_⟩;have Ux:=F.size;refine bD.lk h.jT h.new F aj (by omega) Ut au λap H d Uo A J=>?_
 have L:=h.jT;have C:∀ k,aL aX k->bH.heap.size<=k/\∃ cs,av z k cs cr:=λk c=>by obtain ⟨Q,Ui,_⟩:=L.ex;exact ⟨L.fO k c,fm Ui c⟩
 have s:av d R cs E:=A.ak t λe=>by obtain ⟨_,i,a⟩:=C _ e;exact (ai.ak F a).ne t (λe=>X e.symm) rfl
 have w:eR w0 d aT tb r bJ j:=u.ax A λk c=>by
  obtain ⟨Uy,i,a⟩:=C k c;refine ⟨by omega,λe=>?_⟩
  exact (e▸ai.ak F a).ne u.ak (by decide) rfl
 refine ⟨Up _ s w,y,Uj _ s,?_⟩;rintro p o Y P;obtain ⟨D,b⟩:=bk Y P;have D:av o p (us [y]) nx:=D;clear P;have g:aY d nx 1 T n Um (us ws):=(aY.new F h.own).ax A λk c e=>by obtain ⟨_,i,a⟩:=C k e;obtain ⟨W,f⟩:=fm h.own c;exact a.ne f (by decide) rfl
 refine r5 (aY.new b g) (l2:=[y]) (m:=1) (e9 D rfl) rfl (by omega) λq fH V Uq B Z=>?_
 have Uw:=J.size;have I:∀ k,aL q k->bH.heap.size<=k:=λk c=>by
  rcases Z k c with e | e
  ·exact h.s7 k e
  ·have:=b.size;omega
 have K:∀ jc ∈ vs++[x],jc.words=[]:=λjc Uk=>by
  rcases gH.1 Uk with e | e
  ·exact h.fa jc e
  ·simp at e;subst e;exact Ul
 have M:∀ k,aL T k->∃ cs,av o k cs nx:=λk c=>fm (aY.new b g) c
 refine Ur ap H d p o q fH V ⟨(w.bw b).ax B λk c=>?_,(J.new b).trans B λk Uv e=>by have:=h.s7 k e;omega,(Uo.new b).yT K B λk c e=>?_,K,Uq,I,by rw [c8,h.wl];rfl⟩
 ·obtain ⟨i,a⟩:=M k c;refine ⟨by have:=h.s7 k c;omega,λe=>?_⟩
  exact (e▸a).ne (w.bw b).ak (by decide) rfl
 ·obtain ⟨i,a⟩:=M k e;obtain ⟨Q,Ui,_⟩:=(Uo.new b).ex;obtain ⟨W,f⟩:=fm Ui c;exact a.ne f (by decide) rfl
end
end Go.Proofs.YtmkljjbioomepaaGreat
