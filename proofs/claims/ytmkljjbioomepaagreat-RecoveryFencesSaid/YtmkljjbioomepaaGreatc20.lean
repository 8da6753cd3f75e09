import Derived.Test.YtmkljjbioomepaaGreatc19
import Derived.Test.YtmkljjbioomepaaGreatProg
import Derived.Test.YtmkljjbioomepaaGreatc03
set_option linter.all false
set_option maxHeartbeats 4000000
set_option maxRecDepth 100000
namespace Go.Proofs.YtmkljjbioomepaaGreat
open Go.Proofs.Tryz Go.br
variable {A M:a5} {B b cap n tb:Nat} {R:cn} {a:al} {cs:ax} {o:bB} {u bq bE bu w w' w0:ak} {v:aG} {vs:List aP} {x:aP}
section
theorem jR {k a c:Nat} (h:(some ⟨b,a,none⟩:al)=some ⟨k,c,none⟩):b=k/\a=c:=by injection h with h;injection h with d e;exact ⟨d,e⟩
theorem av.get {i:Nat} {T:TypeId} {v:a4} (h:av w b cs T) (a:w.cell? ⟨b,i,none⟩=some v):cs[i]?=some v:=by unfold World.cell? at a;simp only [show w.heap[(⟨b,i,none⟩:aU).block]?=_ from h] at a;simpa using a
theorem bH.P5 (h:bH w0 u a n cap vs) (w:av u b o.cells eQ) (l:ao (λk=>k=b) u bq):bH w0 bq a n cap vs:=by
 obtain ⟨⟨cf,z,an⟩,F,E⟩:=h;have p:¬ aK a b:=λe=>by obtain ⟨cs,q⟩:=fI z e;exact q.ne w (by decide) rfl
 refine ⟨⟨cf,z.az l λk l e=>p (e▸l),an.1,λi v x f C=>?_⟩,F,E⟩;have c:=an.2 i v x f C;have r:cE (λk=>k=b\/(k<w0.heap.size\/aK a k)) u v x:=by
  refine ⟨c.eq,c.rd,c.nil,?_,c.wf,c.new,c.old,c.key,c.ee,c.cap,c.kI⟩;by_cases he:x.words=[]
  ·exact .inl he
  ·right;have d:=c.off.resolve_left he;have g:=c.rd;cases hw:v.Words with
   |none=>trivial
   |some bw=>
    rw [hw] at d g;rintro (e | e)
    ·obtain ⟨y,ys,j⟩:=sX he;rcases g with A | ⟨b',B,s,D⟩
     ·rw [j] at A;cases A
     ·simp only [e8] at s;subst s;have e:b'=b:=e;subst e;have t:=D 0 (.int .u64 y) (by rw [j];rfl);rw [lY] at t;have f:=av.get w t;rcases B with _ | _ | B
      ·cases f
      ·cases f
      ·cases f
    ·exact d e
 exact (r.az (l.mono λk _ e=>.inl e) λ_ _ e=>e).mono λk e=>.inr e
theorem gv.Sd {j l:ak} {B':Nat} (h:gv A w0 bE tb B R j) (t:ai u bE) (a:ai j bu) (w:av bu b o.cells eQ) (f:ao (λk=>k=b) bu l) (C:u.heap.size<=b) (d:b≠tb) (z:B'<=B):gv A w0 u tb B' R l:=by
 obtain ⟨g,n,x,hw,c⟩:=h;refine ⟨(((ao.b3 t).trans g λ_ _ e=>e).new a).trans f λk s e=>by omega,n,(x.new a).az f λe=>d e.symm,hw,?_⟩;cases i:R.ask with
 |none=>rw [i] at c;exact c
 |some vs=>rw [i] at c;obtain ⟨p,w1,q,y,r⟩:=c;exact ⟨p,w1,q,by omega,(r.new a).P5 w f⟩
def ke (M:a5) (w:ak) (a:al) (n:Nat) (vs:List aP):Prop:=∃ cf:List aG,bh w a (dP cf).flatten/\en M w cf vs/\n=vs.length
theorem ke.new {M:a5} {w w':ak} {a:al} {n:Nat} {vs:List aP} (h:ke M w a n vs) (b:ai w w'):ke M w' a n vs:=by obtain ⟨cf,c,d,f⟩:=h;exact ⟨cf,c.new b,d.az (ao.b3 b) λ_ _ e=>e,f⟩
theorem bH.hJ (h:bH w0 u a n cap vs) (c:∀ k,k<u.heap.size->M k->k<w0.heap.size):ke M u a n vs:=by obtain ⟨⟨cf,f,an⟩,d,g⟩:=h;exact ⟨cf,f.rd,an.az (ao.refl _ _) λk b e=>.inl (c k b e),d⟩
theorem ke.wide {M':a5} (h:ke M w a n vs) (b:ai w w') (i:∀ k,k<w.heap.size->M' k->M k):ke M' w' a n vs:=by obtain ⟨cf,c,d,f⟩:=h;refine ⟨cf,c.new b,?_,f⟩;have g:en M' w cf vs:=d.az (ao.refl _ _) i;exact g.az (ao.b3 b) λ_ _ e=>e
theorem bH.EI {D:al} {o F:Nat} {w:List aP} (h:bH w0 bE a n cap vs) (E:ai w0 bE) (H:ke (λk=>k<w0.heap.size\/aK a k) bE D o w) (N:n+o<=100000) {K:al->Nat->Nat->aE}
  (y:∀ ap d i,bH w0 i ap (n+o) d (vs++w)->ao (aK a) bE i->ai w0 i->K ap (n+o) d i) :
  ∃ (ap:al) (c b:Nat),∃ i,(Builtin.append_ #[gp,gp] gp #[(.slice a n cap),(.slice D o F)]).run prog bE=.ok (.slice ap c b) i/\K ap c b i:=by
 obtain ⟨⟨cf,L,C⟩,J,r⟩:=h;obtain ⟨f,B,j,s⟩:=H;obtain ⟨inf,I,au,u,x⟩:=fL (T:=cy) (z:=.agg #[.int .i64 0,.int .i64 0,.int .i64 0,.int .i64 0,.int .u64 0,.int .u64 0,.slice none 0 0,.int .u64 0,.int .i64 0]) (n:=9) (m:=88) (by kernel_rfl);have M:=E.size;refine q5 (cells:=aG.cells) (sz:=9) aG.len aG.single Tryz.underlying125 I au (by rw [u];rfl) u (by decide) (by rw [x];decide) (l:=cf) (by rw [xE];exact L) (l2:=f) (m:=o) (by rw [xE];exact B) (by rw [j.1];exact s) (by omega) λap d i G g p=>?_
 have q:∀ k,aK ap k->w0.heap.size<=k:=λk y=>by
  rcases p k y with e | e
  ·exact r k e
  ·omega
 have t:∀ k,k<bE.heap.size->(k<w0.heap.size\/aK ap k)->(k<w0.heap.size\/aK a k):=λk A e=>e.imp id λe=>by
  rcases p k e with e | e
  ·exact e
  ·omega
 exact y ap d i ⟨⟨cf++f,G,en.app (C.az (g.mono λk _ e=>.inr e) t) (j.az (g.mono λk _ e=>.inr e) t)⟩,by rw [dH,J,s],q⟩ g (E.trans g λk A e=>by have:=r k e;omega)
theorem bH.box (j:ai bu w) (an:cE (λk=>k<bu.heap.size) w v x) (f:b=w.heap.size) (hw:w'=w.alloc (.cells v.cells.toArray cy)):bH bu w' (some ⟨b,0,none⟩) 1 1 [x]/\ai w w':=by
 obtain ⟨au,a⟩:=bl f hw;have au:av w' b v.cells cy:=au;have l:=j.size;refine ⟨⟨⟨[v],⟨rfl,.inr ⟨b,_,rfl,au,by omega,by decide,rfl,by rw [show (dP [v]).flatten=v.cells by simp [dP]];rfl⟩⟩,en.one ?_⟩,rfl,λk h=>by obtain ⟨o,c⟩:=h;simp at c <;> omega⟩,a⟩;have d:cE (λk=>k<bu.heap.size\/aK (some ⟨b,0,none⟩) k) w v x:=an.az (ao.refl _ _) λk i e=>by
  rcases e with e | ⟨o,c⟩
  ·exact e
  ·exfalso;have g:b=k/\0=o:=jR c;omega
 exact d.az (ao.b3 a) λ_ _ e=>e
def hU (j:cS):List aP:=match j.v.mem with
 |m::_=>qr j m::j.writes.map (js j m)
 | []=>[]
def nb (j:cS) (G:List (List aL)):cn:=if j.writes=[] then rB G else cb G (hU j) 3
structure FS (A:a5) (w0 bu:ak) (aY tb b1:Nat) (r:dv) (bO:aZ) (j:cS) (T:gg) (G:List (List aL)) (w:ak):Prop where
 dg:e5 w0 w aY tb r bO j
 fO:eO A w0 w tb T G
 b1:av w b1 (bB.cells ⟨0,0⟩) eQ
 new:ai bu w
theorem FS.bx {A:a5} {w0 bu w w':ak} {aY tb b1:Nat} {r:dv} {bO:aZ} {j:cS} {T:gg} {G:List (List aL)} (h:FS A w0 bu aY tb b1 r bO j T G w) (a:ai w w'):FS A w0 bu aY tb b1 r bO j T G w':=
 ⟨h.dg.bx a,h.fO.new a,ai.aj a h.b1,h.new.new a⟩
theorem FS.az {A:a5} {w0 bu w w':ak} {aY tb b1:Nat} {r:dv} {bO:aZ} {j:cS} {T:gg} {G:List (List aL)} (h:FS A w0 bu aY tb b1 r bO j T G w) {M:a5} (b:ao M w w') (a:∀ k,M k->bu.heap.size<=k) (g:aY<bu.heap.size) (i:tb<bu.heap.size) (f:b1<bu.heap.size) (d:w0.heap.size<=bu.heap.size):FS A w0 bu aY tb b1 r bO j T G w':=
 ⟨h.dg.az b λk e=>by have:=a k e;omega,h.fO.az b λe=>by have:=a _ e;omega,b.aj h.b1 λe=>by have:=a _ e;omega,h.new.trans b λk c e=>by have:=a k e;omega⟩
section
variable {A:a5} {w0 u bu:ak} {aY tb b1:Nat} {r:dv} {bO:aZ} {j:cS} {T:gg} {G:List (List aL)}
theorem Ns (K:ai u bu) (V:aY<bu.heap.size) (U:tb<bu.heap.size) (M:b1<bu.heap.size) (N:u.heap.size<=b1) (C:b1≠tb) (F:ai w0 bu) (D:fT T) {R:cA} (L:∀ v w',kG A w0 u tb u.heap.size (cb G (hU j) 3) v w'->R v w') {w:ak} (f:FS A w0 bu aY tb b1 r bO j T G w) {a:al} {n cap:Nat} (an:bH bu w a n cap (hU j)) (W:n<=100000) :
  Calls prog 213 #[(.pointer (some ⟨aY,0,none⟩)),(.slice a n cap),(.int .i64 3)] w λe p=>∃ (k:al) (l m:Nat),bB.ex λz=>∃ (n:Bool),e=.returned (.tuple #[(.slice k l m),z.val,(.bool n)])/\av p aY (lE r tb bO) l5/\∀ i q,i=p.heap.size->q=p.alloc (.cells #[(.int .i64 0),(.int .i64 0)] eQ)->av q aY (lE r tb bO) l5/\eh q ⟨i,0,none⟩ 0 z.cells/\∀ cz,cz=ct q ⟨i,0,none⟩ 0 z.cells->bB.ex λr=>b6 cz ⟨i,0,none⟩ 0 r.cells/\eh cz ⟨b1,0,none⟩ 0 r.cells/\∀ o,o=ct cz ⟨b1,0,none⟩ 0 r.cells->bB.ex λJ=>b6 o ⟨b1,0,none⟩ 0 J.cells/\o=o/\R (.tuple #[J.val,(.bool n)]) o:=by
 have d:=rq (A:=A) f.dg f.fO D F U an (by have:=an.len;omega) 3;refine aC d ?_;rintro v p ⟨dA,dc,raw,rfl,b,_⟩;refine ⟨_,_,_,bB.aS ⟨(cb G (hU j) 3).out.1,(cb G (hU j) 3).out.2⟩ ⟨_,rfl,?_⟩⟩;have c:av p aY (lE r tb bO) l5:=b.az.aj f.dg.aj f.dg.ne;refine ⟨c,?_⟩;rintro i q B y;obtain ⟨h,g⟩:=bl B y;have h:av q i (bB.cells ⟨0,0⟩) eQ:=h;clear y;have Q:=b.az.size;have S:=f.new.size;have P:=K.size;refine ⟨ai.aj g c,dO h rfl (bB.single _) λcz H t=>bB.aS _ ⟨bK H rfl,?_⟩⟩;have s:av cz b1 (bB.cells ⟨0,0⟩) eQ:=t.aj (ai.aj g (b.az.aj f.b1 C)) (by omega);refine dO s rfl (bB.single _) λo I E=>bB.aS _ ⟨bK I rfl,rfl,L _ _ ⟨rfl,?_⟩⟩
 have x:ai p cz:=g.trans t λk O e=>by omega
 exact b.put (K.new f.new) x E (by omega) M (by omega) (by omega)
theorem OW (F:ai u bu) (Q:aY<bu.heap.size) (O:tb<bu.heap.size) (I:b1<bu.heap.size) (K:u.heap.size<=b1) (t:b1≠tb) (z:ai w0 bu) (x:fT T) {R:cA} (H:∀ v w',kG A w0 u tb u.heap.size (cb G (hU j) 3) v w'->R v w') {w:ak} (f:FS A w0 bu aY tb b1 r bO j T G w) {a:al} {n cap:Nat} (an:bH bu w a n cap (hU j)) (S:n<=100000) {g:Nat} (D:av w g (bB.cells ⟨0,0⟩) eQ) (J:bu.heap.size<=g) :
  Calls prog 213 #[(.pointer (some ⟨aY,0,none⟩)),(.slice a n cap),(.int .i64 3)] w λe q=>∃ (k:al) (l m:Nat),bB.ex λs=>∃ (n:Bool),e=.returned (.tuple #[(.slice k l m),s.val,(.bool n)])/\av q aY (lE r tb bO) l5/\eh q ⟨g,0,none⟩ 0 s.cells/\∀ cz,cz=ct q ⟨g,0,none⟩ 0 s.cells->bB.ex λr=>b6 cz ⟨g,0,none⟩ 0 r.cells/\eh cz ⟨b1,0,none⟩ 0 r.cells/\∀ h,h=ct cz ⟨b1,0,none⟩ 0 r.cells->bB.ex λE=>b6 h ⟨b1,0,none⟩ 0 E.cells/\h=h/\R (.tuple #[E.val,(.bool n)]) h:=by
 have d:=rq (A:=A) f.dg f.fO x z O an (by have:=an.len;omega) 3;refine aC d ?_;rintro v P ⟨dA,dc,raw,rfl,b,_⟩;refine ⟨_,_,_,bB.aS ⟨(cb G (hU j) 3).out.1,(cb G (hU j) 3).out.2⟩ ⟨_,rfl,?_⟩⟩;have M:=b.az.size;have N:=f.new.size;have L:=F.size;have c:av P g (bB.cells ⟨0,0⟩) eQ:=b.az.aj D (by omega);refine ⟨b.az.aj f.dg.aj f.dg.ne,dO c rfl (bB.single _) λcz B o=>bB.aS _ ⟨bK B rfl,?_⟩⟩;have i:av cz b1 (bB.cells ⟨0,0⟩) eQ:=o.aj (b.az.aj f.b1 t) (by omega);refine dO i rfl (bB.single _) λh C y=>bB.aS _ ⟨bK C rfl,rfl,H _ _ ⟨rfl,?_⟩⟩
 have p:=b.Sd (u:=u) (B':=bu.heap.size) (F.new f.new) (ao.refl _ _) c o (by omega) (by omega) (cO _);exact p.put (ao.refl _ _) (ao.refl _ _) y (by omega) I (by omega) (by omega)
theorem Lc (VI:e5 w0 u aY tb r bO j) (ar:oX j) (Wz:eO A w0 u tb T G) (VV:fT T) :
  a_ 176 [ptr aY] u (kG A w0 u tb u.heap.size (nb j G)):=by
 refine bc Tryz.func176 ?_;rw [ptr,Rs];rintro b1 bE Wk We;obtain ⟨VM,VJ⟩:=bl Wk We;have VM:av bE b1 (bB.cells ⟨0,0⟩) eQ:=VM;clear We;have V':=VI.bx VJ;have V_:=Wz.new VJ;have hlen:=VI.bN.bS.len;have Ws:=VJ.size;have Wp:=VM.lt;have WO:=Wz.aj.lt;have WB:=VI.aj.lt;have Wn:=VI.cj;have WL:=Wn.sM;have Vz:=VI.mem;have WM:=Wn.ee bO (cg Vz);have VR:ec bO.ck:=by unfold ec;omega
 have V7:hU j=[qr j bO]++j.writes.map (js j bO):=by
  unfold hU;cases Wb:j.v.mem with
  |nil=>rw [Wb] at Vz;cases Vz
  |cons x xs=>rw [Wb] at Vz;simp at Vz;subst Vz;rfl
 unfold nb;refine ⟨_,_,_,V'.aj.cell (i:=6) rfl,dJ (λe=>?_) (λe=>?_)⟩
 ·have VQ:j.writes=[]:=fB (by omega);rw [if_pos VQ];exact mc VM rfl 0 0 λWU Wo=>⟨rfl,(gv.skip (B:=bE.heap.size) V_ VV (ao.refl _ _)).put VJ (ao.refl _ _) Wo (by omega) Wp (by omega) Ws⟩
 ·have VQ:j.writes≠[]:=λWI=>by rw [WI] at hlen;simp at hlen <;> omega
  rw [if_neg VQ];obtain ⟨_,Wu⟩:=Wn.wr VQ;rintro bu Wf;have VK:ai bE bu:=by rw [Wf];exact cD _
  clear Wf;have V8:=VJ.new VK;have WN:=VK.size;have VO:FS A w0 bu aY tb b1 r bO j T G bu:=⟨V'.bx VK,V_.new VK,ai.aj VK VM,ao.refl _ _⟩;have V0:=VO.dg.new;have WD:=V0.size;have so:=@Ns A w0 u bu aY tb b1 r bO j T G V8 (by omega) (by omega) (by omega) (by omega) (by omega) V0 VV (kG A w0 u tb u.heap.size (cb G (hU j) 3)) (λ_ _ h=>h);have S:=@OW A w0 u bu aY tb b1 r bO j T G V8 (by omega) (by omega) (by omega) (by omega) (by omega) V0 VV (kG A w0 u tb u.heap.size (cb G (hU j) 3)) (λ_ _ h=>h);have app:∀ {w:ak} {aA:Nat} {d:al} {n g:Nat},FS A w0 bu aY tb b1 r bO j T G w->bH bu w (some ⟨aA,0,none⟩) 1 1 [qr j bO]->n=j.writes.length->ke (λk=>k<bu.heap.size\/aK (some ⟨aA,0,none⟩) k) w d n (j.writes.map (js j bO))->∀ {K:al->Nat->Nat->aE},(∀ ap m c w',FS A w0 bu aY tb b1 r bO j T G w'->bH bu w' ap m c (hU j)->m<=100000->ao (aK (some ⟨aA,0,none⟩)) w w'->K ap m c w')->
    ∃ (ap:al) (h i:Nat),∃ VC,(Builtin.append_ #[gp,gp] gp #[(.slice (some ⟨aA,0,none⟩) 1 1),(.slice d n g)]).run prog w=.ok (.slice ap h i) VC/\K ap h i VC:=by
   intro w aA d n g VB Wi VP Wr K V9;refine bH.EI Wi VB.new Wr (by omega) λap V6 WP Wy P z=>?_
   rw [<-V7] at Wy;exact V9 ap _ V6 WP (VB.az P (λk WC=>Wi.f9 k WC) (by omega) (by omega) (by omega) (by omega)) Wy (by omega) P
  have L:∀ {w w':ak} {b:Nat},FS A w0 bu aY tb b1 r bO j T G w->b=w.heap.size->w'=w.alloc (.cells #[(.int .i64 0),(.int .i64 0)] eQ)->FS A w0 bu aY tb b1 r bO j T G w'/\ai w w'/\av w' b (bB.cells ⟨0,0⟩) eQ/\bu.heap.size<=b:=by intro w w' b VB WK hw;obtain ⟨au,VP⟩:=bl WK hw;have:=VB.new.size;exact ⟨VB.bx VP,VP,au,by omega⟩
  have cG:∀ {w:ak} {K:Ending->aE},FS A w0 bu aY tb b1 r bO j T G w->(∀ (bj:aG) w',FS A w0 bu aY tb b1 r bO j T G w'->ai w w'->cE (λk=>k<bu.heap.size) w' bj (qr j bO)->K (.returned bj.val) w')->Calls prog 218 #[(.pointer (some ⟨aY,0,none⟩)),bO.val] w K:=by intro w K VB V9;refine aC (Cj VB.dg Wu VR) ?_;rintro v w' ⟨bj,rfl,VZ,VP⟩;have:=VB.new.size;exact V9 bj w' (VB.bx VP) VP (VZ.mono λk WC=>by omega)
  have jm:∀ {w:ak} {K:Ending->aE},FS A w0 bu aY tb b1 r bO j T G w->(∀ (a:al) (c:Nat) w',FS A w0 bu aY tb b1 r bO j T G w'->ai w w'->bH w w' a j.writes.length c (j.writes.map (js j bO))->K (.returned (.slice a j.writes.length c)) w')->Calls prog 217 #[(.pointer (some ⟨aY,0,none⟩)),bO.val] w K:=by intro w K VB V9;refine aC (Ck VB.dg ar VR) ?_;rintro v w' ⟨a,c,rfl,VZ,VP⟩;exact V9 a c w' (VB.bx VP) VP VZ
  have VF:∀ {w:ak} {aA k:Nat},aA<w.heap.size->(k<bu.heap.size\/aK (some ⟨aA,0,none⟩) k)->bu.heap.size<=w.heap.size->k<w.heap.size:=by
   intro w aA k WS WJ WT;rcases WJ with e | ⟨o,I⟩
   ·omega
   ·have:aA=k/\0=o:=jR I;omega
  have s:∀ {w:ak} {aA n c:Nat} {vs:List aP},bH bu w (some ⟨aA,0,none⟩) n c vs->aA<w.heap.size:=by intro w aA n c vs h;obtain ⟨cf,I,_⟩:=h.ex;exact I.lt ⟨0,rfl⟩
  refine ⟨λy=>av y aY (lE r tb bO) l5,VO.dg.aj,aZ.aS bO ⟨λy Wv=>bK Wv rfl,aZ.aS bO ⟨λy Wv=>bK Wv rfl,?_⟩⟩⟩;refine ⟨cG VO λbj WQ F Wc Vw=>aG.aS bj ⟨rfl,F.dg.aj,?_,?_,?_⟩,?_⟩
  ·
   rintro aA WE VD VL;obtain ⟨t,Vu⟩:=bH.box F.new Vw VD VL;have N:=F.bx Vu;have Vv:=N.new.size;have Y:=s t;refine ⟨N.dg.aj,?_,?_⟩
   ·refine jm N λd c V3 l p C=>⟨_,_,_,rfl,l.dg.aj,?_,?_⟩
    ·refine app l (t.new p) rfl (C.hJ λk _ e=>VF Y e Vv) λap m VN VC f R Q _=>⟨f.dg.aj,so f R Q,?_⟩
     rintro WG WH VT VU;obtain ⟨q,H,O,U⟩:=L f VT VU;exact ⟨q.dg.aj,S q (R.new H) Q O U⟩
    ·rintro V4 Wx V VH;obtain ⟨q,H,O,U⟩:=L l V VH;refine ⟨q.dg.aj,?_⟩;have Wt:=p.size;refine app q (t.new (p.new H)) rfl ((C.hJ λk _ e=>VF Y e Vv).new H) λap m VN VC f R Q P=>⟨f.dg.aj,S f R Q (P.aj O λe=>?_) U⟩
     obtain ⟨o,I⟩:=e;have:aA=V4/\0=o:=jR I;omega
   ·rintro dn WR Wl Wm;obtain ⟨q,H,O,U⟩:=L N Wl Wm;have Wt:=H.size;have Wj:=O.lt;refine ⟨q.dg.aj,jm q λd c V3 l p C=>⟨_,_,_,rfl,l.dg.aj,?_⟩⟩;refine app l (t.new (H.new p)) rfl (C.hJ λk _ e=>by have:=VF Y e Vv;omega) λap m VN VC f R Q P=>⟨f.dg.aj,S f R Q (P.aj (ai.aj p O) λe=>?_) U⟩
    obtain ⟨o,I⟩:=e;have:aA=dn/\0=o:=jR I;omega
  ·
   refine jm F λd c V3 l p C=>⟨_,_,_,rfl,l.dg.aj,?_,?_⟩
   ·rintro X VS Z Vr;obtain ⟨E,z⟩:=bH.box l.new (Vw.az (ao.b3 p) λ_ _ e=>e) Z Vr;have f:=l.bx z;have VX:=F.new.size;have VY:=l.new.size;have J:ke (λk=>k<bu.heap.size\/aK (some ⟨X,0,none⟩) k) VS d j.writes.length (j.writes.map (js j bO)):=(C.hJ (M:=λk=>k<bu.heap.size) λk _ e=>by omega).wide z λk VW e=>by
     rcases e with e | ⟨o,I⟩
     ·exact e
     ·exfalso;have:X=k/\0=o:=jR I;omega
    refine ⟨f.dg.aj,?_,?_⟩
    ·refine app f E rfl J λap m VN VC q Wg Wa _=>⟨q.dg.aj,so q Wg Wa,?_⟩
     rintro WG WH VT VU;obtain ⟨D,Wq,Ww,VE⟩:=L q VT VU;exact ⟨D.dg.aj,S D (Wg.new Wq) Wa Ww VE⟩
    ·rintro V4 Wx V VH;obtain ⟨q,H,O,U⟩:=L f V VH;refine ⟨q.dg.aj,?_⟩;have WA:=s E;refine app q (E.new H) rfl (J.new H) λap m VN VC D Vx Vt Vs=>⟨D.dg.aj,S D Vx Vt (Vs.aj O λe=>?_) U⟩
     obtain ⟨o,I⟩:=e;have:X=V4/\0=o:=jR I;omega
   ·rintro V4 Wx V VH;obtain ⟨q,H,O,U⟩:=L l V VH;refine ⟨q.dg.aj,?_⟩;rintro X VS Z Vr;obtain ⟨E,z⟩:=bH.box q.new (Vw.az (ao.b3 (p.new H)) λ_ _ e=>e) Z Vr;have f:=q.bx z;have VX:=F.new.size;have VY:=l.new.size;have Wj:=O.lt;have J:ke (λk=>k<bu.heap.size\/aK (some ⟨X,0,none⟩) k) VS d j.writes.length (j.writes.map (js j bO)):=((C.hJ (M:=λk=>k<bu.heap.size) λk _ e=>by omega).new H).wide z λk VW e=>by
     rcases e with e | ⟨o,I⟩
     ·exact e
     ·exfalso;have:X=k/\0=o:=jR I;omega
    refine ⟨f.dg.aj,?_⟩;refine app f E rfl J λap m VN VC D Vx Vt Vs=>⟨D.dg.aj,S D Vx Vt (Vs.aj (ai.aj z O) λe=>?_) U⟩
    obtain ⟨o,I⟩:=e;have:X=V4/\0=o:=jR I;omega
  ·
   rintro V5 WF VE V1;obtain ⟨W,Wd,VA,VG⟩:=L F VE V1;have Wh:cE (λk=>k<bu.heap.size) WF bj (qr j bO):=Vw.az (ao.b3 Wd) λ_ _ e=>e
   refine ⟨W.dg.aj,?_⟩;refine ⟨?_,?_⟩
   ·rintro aA WE VD VL;obtain ⟨t,Vu⟩:=bH.box W.new Wh VD VL;have N:=W.bx Vu;have Vv:=N.new.size;have Y:=s t;have V2:=VA.lt;refine ⟨N.dg.aj,jm N λd c V3 l p C=>⟨_,_,_,rfl,l.dg.aj,?_⟩⟩;refine app l (t.new p) rfl (C.hJ λk _ e=>VF Y e Vv) λap m VN VC f R Q P=>⟨f.dg.aj,S f R Q (P.aj (ai.aj (Vu.new p) VA) λe=>?_) VG⟩
    obtain ⟨o,I⟩:=e;have:aA=V5/\0=o:=jR I;omega
   ·refine jm W λd c V3 l p C=>⟨_,_,_,rfl,l.dg.aj,?_⟩
    rintro X VS Z Vr;obtain ⟨E,z⟩:=bH.box l.new (Wh.az (ao.b3 p) λ_ _ e=>e) Z Vr;have f:=l.bx z;have VX:=W.new.size;have VY:=p.size;have V2:=VA.lt;have J:ke (λk=>k<bu.heap.size\/aK (some ⟨X,0,none⟩) k) VS d j.writes.length (j.writes.map (js j bO)):=(C.hJ (M:=λk=>k<bu.heap.size) λk _ e=>by omega).wide z λk VW e=>by
     rcases e with e | ⟨o,I⟩
     ·exact e
     ·exfalso;have:X=k/\0=o:=jR I;omega
    refine ⟨f.dg.aj,?_⟩;refine app f E rfl J λap m VN VC D Vx Vt Vs=>⟨D.dg.aj,S D Vx Vt (Vs.aj (ai.aj (p.new z) VA) λe=>?_) VG⟩
    obtain ⟨o,I⟩:=e;have:X=V5/\0=o:=jR I;omega
  ·rintro V5 WF VE V1;obtain ⟨W,Wd,VA,VG⟩:=L VO VE V1;refine ⟨W.dg.aj,cG W λbj WQ F Wc Vw=>aG.aS bj ⟨rfl,F.dg.aj,?_⟩⟩;have Vy:=ai.aj Wc VA;refine ⟨?_,?_⟩
   ·rintro aA WE VD VL;obtain ⟨t,Vu⟩:=bH.box F.new Vw VD VL;have N:=F.bx Vu;have Vv:=N.new.size;have Y:=s t;have V2:=Vy.lt;refine ⟨N.dg.aj,jm N λd c V3 l p C=>⟨_,_,_,rfl,l.dg.aj,?_⟩⟩;refine app l (t.new p) rfl (C.hJ λk _ e=>VF Y e Vv) λap m VN VC f R Q P=>⟨f.dg.aj,S f R Q (P.aj (ai.aj (Vu.new p) Vy) λe=>?_) VG⟩
    obtain ⟨o,I⟩:=e;have:aA=V5/\0=o:=jR I;omega
   ·refine jm F λd c V3 l p C=>⟨_,_,_,rfl,l.dg.aj,?_⟩
    rintro X VS Z Vr;obtain ⟨E,z⟩:=bH.box l.new (Vw.az (ao.b3 p) λ_ _ e=>e) Z Vr;have f:=l.bx z;have VX:=F.new.size;have VY:=p.size;have V2:=Vy.lt;have J:ke (λk=>k<bu.heap.size\/aK (some ⟨X,0,none⟩) k) VS d j.writes.length (j.writes.map (js j bO)):=(C.hJ (M:=λk=>k<bu.heap.size) λk _ e=>by omega).wide z λk VW e=>by
     rcases e with e | ⟨o,I⟩
     ·exact e
     ·exfalso;have:X=k/\0=o:=jR I;omega
    refine ⟨f.dg.aj,?_⟩;refine app f E rfl J λap m VN VC D Vx Vt Vs=>⟨D.dg.aj,S D Vx Vt (Vs.aj (ai.aj (p.new z) Vy) λe=>?_) VG⟩
    obtain ⟨o,I⟩:=e;have:X=V5/\0=o:=jR I;omega
end
end
section
open IntKind
variable (w:ak) (R:cA) {a b c d e f g h:Nat} {A B:aU} {s t u v:al} {i k:Int} {j:aq} {F:Bool}
def wC (e s2:aU) (n:al) (a b:Nat) (o:al) (c d:Nat) (p:al) (f g:Nat) (h:al) (i k:Nat) (l m:Int) (j:aq):aq:=.pointer (some e)::ag j 0 1 (.pointer (some s2)::ag j 1 1 (ae n a b::ae o c d::ae p f g::ag j 2 15 (ae h i k::ab l::ab m::ag j 17 130 [])))
def Fc (a b:aU) (e:al) (c d:Nat) (k:al) (f g:Nat) (l:al) (h i:Nat) (j:aq):aq:=.pointer (some a)::ag j 0 1 (.pointer (some b)::ag j 1 1 (ae e c d::ae k f g::ae l h i::ag j 2 148 []))
def wD (e s2:aU) (n:al) (a b:Nat) (o:al) (c d:Nat) (p:al) (f g:Nat) (h:al) (i k:Nat) (l m:Int) (j:aq):aq:=.pointer (some e)::ag j 0 1 (.pointer (some s2)::ag j 1 1 (ae n a b::ae o c d::ae p f g::ag j 2 57 (ae h i k::ab l::ab m::ag j 59 88 [])))
def zL (a b:aU) (e:al) (c d:Nat) (k:al) (f g:Nat) (l:al) (h i:Nat) (j:aq):aq:=.pointer (some a)::ag j 0 1 (.pointer (some b)::ag j 1 1 (ae e c d::ae k f g::ae l h i::ag j 2 148 []))
def rR (e s2:aU) (o:al) (a b:Nat) (p:al) (c d:Nat) (q:al) (f g:Nat) (h:Bool) (i:al) (k l:Nat) (m n:Int) (j:aq):aq:=.pointer (some e)::ag j 0 1 (.pointer (some s2)::ag j 1 1 (ae o a b::ae p c d::ae q f g::ag j 2 7 (ad h::ag j 9 84 (ae i k l::ab m::ab n::ag j 93 53 []))))
def zM (a b:aU) (e:al) (c d:Nat) (f:Bool) (j:aq):aq:=.pointer (some a)::ag j 0 1 (.pointer (some b)::ag j 1 2 (ae e c d::ag j 3 8 (ad f::ag j 11 140 [])))
theorem SB:bf prog f173 [a9 a] R w=(aR w #[ab 0,ab 0] 171 λf e=>b4 e (af a 6) λd b c=>cu prog (c0 f173 [1,1,1,0,1,0,0]) (wC (af a 0) (af f 0) none 0 0 none 0 0 none 0 0 d b c (b:Nat) 0 (undef::ad false::bd 11 (jp (af a 0)::jp (af a 0)::jp (af a 0)::jp (af a 6)::bd 130 []))) (aO 0 (aQ f173 [1,1,1,1] R)) e):=by kernel_rfl
theorem Qc (Q:aq->aE):W prog (sb f173 [1,1,1,0,1,0,0]) (wC A B s a b t c d u e f v g h i k j) (aV Q (aO 0 (aQ f173 [1,1,1,1] R))) w=(cond (k<i) (bk v g k 9 λT=>ht w T λr=>aR w #[ab 0,ah 0,ah 0,ah 0,ah 0,ah 0,ah 0,ah 0,ah 0] 73 λD Z=>a8 Z (af D 0) 0 r.cells λJ=>cq J λVr C=>uu C (af D 0) λN=>cL C A λn=>hs 211 #[N.val,ab n] Vr λo p X=>cq X λU F=>hb F (bM A 8) λO=>cL F (af D 0) λq=>jF F (af D 1) λl=>cm 108 #[ab q] U λm L=>F L/\eL 212 #[.pointer (some A),O.val,.agg #[ab 3,ab 0,ab m,ab 0,ah l,ah o,a6,ah 0,ab 0]] L λV M=>F M/\aR M V.cells.toArray 158 λS I=>F I/\c6 125 (ae s a b) (ae (bm S) 1 1) I λG E x aW=>F aW/\dp aW (af D 1) λy=>aR aW #[ah y] 30 λa1 Y=>c6 94 (ae u e f) (ae (bm a1) 1 1) Y λz P K H=>Q (wC A B G E x t c d z P K v g h i (i64.wrap (k+1)) (aF j 0::aF j 1::aF j 2::jp (af D 0)::ah o::ab p::ag j 6 11 (ad (k<i)::jp T::r.val::.tuple #[ah o,ab p]::N.val::jp A::jp A::jp A::jp A::ab n::.tuple #[ah o,ab p]::ah o::ab p::ae s a b::jp A::jp A::jp A::bI A 8::O.val::jp (af D 0)::ab q::ab m::jp (af D 1)::ah l::ah o::.agg #[ab 3,ab 0,ab m,ab 0,ah l,ah o,a6,ah 0,ab 0]::V.val::ae (bm S) 1 1::ae G E x::ae u e f::jp (af D 1)::ah y::ae (bm a1) 1 1::ae z P K::ab (i64.wrap (k+1))::ag j 52 95 []))) H) (W prog (sb f173 [1,1,1,1]) (Fc A B s a b t c d u e f (ag j 0 17 (ae v g h::ab i::ab k::ad (k<i)::ag j 18 129 []))) (b0 f173 R) w)):=by kernel_rfl
theorem QT:W prog (sb f173 [1,1,1,1]) (Fc A B s a b t c d u e f j) (b0 f173 R) w=(b4 w (bM A 5) λk l m=>cu prog (c0 f173 [1,1,1,1,0,1,0,0]) (wD A B s a b t c d u e f k l m (l:Nat) 0 (ag j 0 55 (jp A::jp A::jp A::bI A 5::ag j 62 88 []))) (aO 2 (aQ f173 [1,1,1,1,1] R)) w):=by kernel_rfl
theorem Qd (K:aq->aE):W prog (sb f173 [1,1,1,1,0,1,0,0]) (wD A B s a b t c d u e f v g h i k j) (aV K (aO 2 (aQ f173 [1,1,1,1,1] R))) w=(cond (k<i) (bk v g k 2 λL=>z_ w L λr=>aR w #[ab 0,ah 0] 274 λC Q=>a8 Q (af C 0) 0 r.cells λS=>cq S λO E=>hb E (bM A 8) λy=>cL E (af C 0) λn=>cm 108 #[ab n] O λo H=>E H/\eL 212 #[.pointer (some A),y.val,.agg #[ab 1,ab 0,ab o,ab 1,ah 0,ah 0,a6,ah 0,ab 0]] H λz M=>E M/\aR M z.cells.toArray 158 λa1 N=>E N/\c6 125 (ae s a b) (ae (bm a1) 1 1) N λF p q G=>E G/\dp G (af C 1) λl=>aR G #[ah l] 30 λaW T=>c6 94 (ae u e f) (ae (bm aW) 1 1) T λm D x P=>K (wD A B F p q t c d m D x v g h i (i64.wrap (k+1)) (ag j 0 7 (jp (af C 0)::ag j 8 51 (ad (k<i)::jp L::r.val::ae s a b::jp A::jp A::jp A::bI A 8::y.val::jp (af C 0)::ab n::ab o::.agg #[ab 1,ab 0,ab o,ab 1,ah 0,ah 0,a6,ah 0,ab 0]::z.val::ae (bm a1) 1 1::ae F p q::ae u e f::jp (af C 1)::ah l::ae (bm aW) 1 1::ae m D x::ab (i64.wrap (k+1))::ag j 81 66 [])))) P) (W prog (sb f173 [1,1,1,1,1]) (zL A B s a b t c d u e f (ag j 0 59 (ae v g h::ab i::ab k::ad (k<i)::ag j 60 87 []))) (b0 f173 R) w)):=by kernel_rfl
theorem QU:W prog (sb f173 [1,1,1,1,1]) (zL A B s a b t c d u e f j) (b0 f173 R) w=(Calls prog 213 #[.pointer (some A),ae s a b,ab 1] w λg q=>∃ k l m,bB.ex λo=>∃ n,g=.returned (.tuple #[ae k l m,o.val,ad n])/\a8 q B 0 o.cells λi=>cond (!n) (dT i B λr=>a8 i B 0 r.cells λh=>dT h B λp=>h=h/\R (.tuple #[p.val,ad false]) h) (cu prog (c0 f173 [1,1,1,1,1,1,1,1,0,1,0,0]) (rR A B s a b t c d u e f false k l m (l:Nat) 0 (aF j 0::ad n::ag j 2 6 (ae k l m::ag j 10 74 (.tuple #[ae k l m,o.val,ad n]::jp A::ae s a b::.tuple #[ae k l m,o.val,ad n]::ae k l m::o.val::ad n::ad n::ad (!n)::aF j 93::ag j 97 53 [])))) (aO 4 (aQ f173 [1,1,1,1,1,1,1,1,1] R)) i)):=by kernel_rfl
theorem Qe (aW:aq->aE):W prog (sb f173 [1,1,1,1,1,1,1,1,0,1,0,0]) (rR A B s a b t c d u e f F v g h i k j) (aV aW (aO 4 (aQ f173 [1,1,1,1,1,1,1,1,1] R))) w=(cond (k<i) (bk v g k 2 λK=>pC w K λr=>aR w #[ab 0,a6] 131 λH X=>a8 X (af H 0) 0 r.cells λY=>cq Y λVr D=>xj D (af H 0) λa1=>bk u e k 1 λy=>jF D y λx=>jn 196 #[a1.val] Vr λo G=>D G/\cond (o != x) (aW (rR A B s a b t c d u e f true v g h i (i64.wrap (k+1)) (ag j 0 9 (ab k::jp (af H 0)::ag j 11 82 (ad (k<i)::ab k::jp K::r.val::ad ((o:Int) != x)::a1.val::ah o::ae u e f::ab k::jp y::ah x::ad ((o:Int) != x)::ag j 105 27 (ab (i64.wrap (k+1))::ag j 133 13 []))))) G) (bk s a k 9 λz=>bt G z λp=>cond (p == 3) (bk s a k 9 λS=>lO G S λP=>aR G #[ab 0,ab 0,ab 0,ab 0,ah 0,ah 0,a6,ah 0,ab 0] 158 λE Z=>a8 Z (af E 0) 0 P.cells λJ=>cq J λU N=>bk s a k 9 λL=>jF N (bM L 5) λq=>bk s a k 9 λM=>jF N (bM M 4) λl=>cH U (af E 4) (ah q) λI=>N I/\cH I (af E 5) (ah l) λT=>lO T (af E 0) λQ=>aR T Q.cells.toArray 158 λO Vs=>c6 125 (ae t c d) (ae (bm O) 1 1) Vs λC m n V=>aW (rR A B s a b C m n u e f F v g h i (i64.wrap (k+1)) (ag j 0 9 (ab k::jp (af H 0)::jp (af E 0)::ag j 12 81 (ad (k<i)::ab k::jp K::r.val::ad ((o:Int) != x)::a1.val::ah o::ae u e f::ab k::jp y::ah x::ad ((o:Int) != x)::ad ((p:Int) == 3)::ae s a b::ab k::jp z::jp z::ab p::ad ((p:Int) == 3)::ae s a b::ab k::jp S::P.val::ae s a b::ab k::jp L::bI L 5::ah q::ae s a b::ab k::jp M::bI M 4::ah l::jp (af E 4)::jp (af E 5)::ae t c d::Q.val::ae (bm O) 1 1::ae C m n::ab (i64.wrap (k+1))::ag j 133 13 [])))) V) (aW (rR A B s a b t c d u e f F v g h i (i64.wrap (k+1)) (ag j 0 9 (ab k::jp (af H 0)::ag j 11 82 (ad (k<i)::ab k::jp K::r.val::ad ((o:Int) != x)::a1.val::ah o::ae u e f::ab k::jp y::ah x::ad ((o:Int) != x)::ad ((p:Int) == 3)::ae s a b::ab k::jp z::jp z::ab p::ad ((p:Int) == 3)::ag j 112 20 (ab (i64.wrap (k+1))::ag j 133 13 []))))) G))) (W prog (sb f173 [1,1,1,1,1,1,1,1,1]) (zM A B t c d F (aF j 0::aF j 1::ae s a b::ae u e f::ag j 2 91 (ae v g h::ab i::ab k::ad (k<i)::ag j 94 52 []))) (b0 f173 R) w)):=by kernel_rfl
theorem QV:W prog (sb f173 [1,1,1,1,1,1,1,1,1]) (zM A B s a b F j) (b0 f173 R) w=(cond (!F) (a8 w B 0 [ab 0,ab 0] λc=>dT c B λl=>c=c/\R (.tuple #[l.val,ad true]) c) (Calls prog 213 #[.pointer (some A),ae s a b,ab 1] w λe t=>∃ g h i,bB.ex λm=>∃ k,e=.returned (.tuple #[ae g h i,m.val,ad k])/\a8 t B 0 m.cells λp=>cond k (a8 p B 0 [ab 7,ab 1] λq=>dT q B λr=>a8 q B 0 r.cells λd=>dT d B λn=>d=d/\R (.tuple #[n.val,ad false]) d) (dT p B λu=>a8 p B 0 u.cells λf=>dT f B λo=>f=f/\R (.tuple #[o.val,ad false]) f))):=by kernel_rfl
end
section
def r7 (j:cS):aZ:=j.v.mem.headD jC
def lD (j:cS) (p:aJ):aP:=addr j.v.number (r7 j) ⟨3,0,p.bn * 8,0,p.Head,eJ p.Head j.a3,[],0,0⟩
def nW (j:cS) (s:eP):aP:=addr j.v.number (r7 j) ⟨1,0,s.bn * 8,1,0,0,[],0,0⟩
def dF (j:cS):List aP:=j.writes.map (lD j)++j.reads.map (nW j)
def iD (j:cS):bb:=j.writes.map (·.Head)++j.reads.map (·.Head)
def rD (v:aP):aP:={ v with old:=v.new,new:=v.old }
def hH:List aP->bb->List aL->List aP
 |v::vs,x::xs,d::ds=>(if dZ d=x/\v.kind=3 then [rD v] else [])++hH vs xs ds
 | _,_,_=>[]
def ie:bb->List aL->Bool
 |x::xs,d::ds=>decide (dZ d≠x) || ie xs ds
 | _,_=>false
def j0 (j:cS) (G:List (List aL)):cn:=
 if (cb G (dF j) 1).ok=false then cb G (dF j) 1
 else if ie (iD j) (cb G (dF j) 1).done=false then ⟨true,[],(0,0),(cb G (dF j) 1).a7,none,false⟩
 else if (cb (cb G (dF j) 1).a7 (hH (dF j) (iD j) (cb G (dF j) 1).done) 1).ok=true then ⟨false,[],(7,1),(cb (cb G (dF j) 1).a7 (hH (dF j) (iD j) (cb G (dF j) 1).done) 1).a7,none,false⟩
 else cb (cb G (dF j) 1).a7 (hH (dF j) (iD j) (cb G (dF j) 1).done) 1
theorem BV:∀ {a:List aP} {b:bb} {c:List aL} {v:aP} {x:Int} {d:aL},a.length=c.length->b.length=c.length->hH (a++[v]) (b++[x]) (c++[d])=hH a b c++(if dZ d=x/\v.kind=3 then [rD v] else [])
 | [],[],[],v,x,d,_,_=>by simp [hH]
 | _::a,_::b,_::c,v,x,d,e,f=>by simp only [List.cons_append,hH];rw [BV (by simpa using e) (by simpa using f),ln]
 | [],_,_::_,_,_,_,h,_=>by simp at h
 | _::_,_,[],_,_,_,h,_=>by simp at h
 | _,[],_::_,_,_,_,_,h=>by simp at h
 | _,_::_,[],_,_,_,_,h=>by simp at h
theorem BW:∀ {b:bb} {c:List aL} {x:Int} {d:aL},b.length=c.length->ie (b++[x]) (c++[d])=(ie b c || decide (dZ d≠x))
 | [],[],x,d,_=>by simp [ie]
 | _::b,_::c,x,d,h=>by simp only [List.cons_append,ie];rw [BW (by simpa using h),Bool.or_assoc]
 | [],_::_,_,_,h=>by simp at h
 | _::_,[],_,_,h=>by simp at h
theorem AA:∀ {a:List aP} {b:bb} {c:List aL},(hH a b c).length<=a.length
 |v::a,y::b,d::c=>by
  have:=@AA a b c;unfold hH;rw [dH];split
  ·simp;omega
  ·simp;omega
 | [],_,_=>by simp [hH]
 | _::_,[],_=>by simp [hH]
 | _::_,_::_,[]=>by simp [hH]
theorem bH.zS (h:bH w0 u a n cap vs) (c:∀ x ∈ vs,x.words=[]) (g:ao M u bq) (l:∀ k,aK a k->¬ M k):bH w0 bq a n cap vs:=by obtain ⟨⟨cf,q,an⟩,p,o⟩:=h;refine ⟨⟨cf,q.az g l,an.1,λi v x j f=>?_⟩,p,o⟩;have b:=an.2 i v x j f;have he:=c x (cg f);have d:cE (λk=>M k\/(k<w0.heap.size\/aK a k)) u v x:=⟨b.eq,b.rd,b.nil,.inl he,b.wf,b.new,b.old,b.key,b.ee,b.cap,b.kI⟩;exact (d.az (g.mono λk _ e=>.inl e) λ_ _ e=>e).mono λk e=>.inr e
theorem gv.after {a b:ak} (h:gv A w0 a tb B R b) (c:ao (λk=>k=tb) u a):gv A w0 u tb B R b:=
 ⟨c.trans h.az λ_ _ e=>e,h.fO⟩
theorem y8 (au:av u b o.cells eQ) {K:bB->aE} (f:∀ e,ao (λk=>k=b) u e->K o e) :
  bB.ex λr=>b6 u ⟨b,0,none⟩ 0 r.cells/\eh u ⟨b,0,none⟩ 0 r.cells/\∀ a,a=ct u ⟨b,0,none⟩ 0 r.cells->bB.ex λres=>b6 a ⟨b,0,none⟩ 0 res.cells/\a=a/\K res a:=
 bB.aS o ⟨bK au rfl,dO au rfl (bB.single _) λa d c=>bB.aS o ⟨bK d rfl,rfl,f a c⟩⟩
structure n2 (w0 bE:ak) (aY tb:Nat) (r:dv) (bO:aZ) (j:cS) (z:ak) (pa:al) (n pc:Nat) (FT:al) (Sx:Nat) (vs:List aP) (ws:bb):Prop where
 dg:e5 w0 z aY tb r bO j
 new:ai bE z
 j6:bH bE z pa n pc vs
 fo:∀ x ∈ vs,x.words=[]
 own:a2 z n_ 1 FT n Sx (us ws)
 um:∀ k,aK FT k->bE.heap.size<=k
 wl:ws.length=n
theorem n2.bx {w0 bE:ak} {aY tb:Nat} {r:dv} {bO:aZ} {j:cS} {z d:ak} {pa:al} {n pc:Nat} {b:al} {c:Nat} {vs:List aP} {ws:bb} (h:n2 w0 bE aY tb r bO j z pa n pc b c vs ws) (a:ai z d):n2 w0 bE aY tb r bO j d pa n pc b c vs ws:=
 ⟨h.dg.bx a,h.new.new a,h.j6.new a,h.fo,a2.new a h.own,h.um,h.wl⟩
theorem n2.push {aY:Nat} {r:dv} {bO:aZ} {j:cS} {z F:ak} {pa:al} {pc:Nat} {Q:al} {Vt:Nat} {ws:bb} (h:n2 w0 bE aY tb r bO j z pa n pc Q Vt vs ws) (E:ai z F) (an:cE (λk=>k<z.heap.size) F v x) (Vs:x.words=[]) (VG:n<=1000) (VB:w0.heap.size<=bE.heap.size)
  {P:Nat} {D:TypeId} (s:av F P cs D) (V:D≠cy) (Vz:D≠n_) {y:Int} {S:aE} (Vw:∀ l,av l P cs D->e5 w0 l aY tb r bO j->S l) {b1:Nat} {R:ak} (VA:b1=F.heap.size) (au:R=F.alloc (.cells v.cells.toArray cy)) {rd:ak->Int->Prop} (Z:∀ l,av l P cs D->rd l y) {N:al->Nat->Nat->ak->Int->Nat->ak->al->Nat->Nat->aE}
  (Vy:∀ ap ac d p o jw fa l,n2 w0 bE aY tb r bO j l ap (n+1) ac jw fa (vs++[x]) (ws++[y])->N ap (n+1) ac d y p o jw (n+1) fa l) :
  S R/\∃ (ap:al) (c5 ac:Nat),∃ d,(Builtin.append_ #[gp,gp] gp #[(.slice pa n pc),(.slice (some ⟨b1,0,none⟩) 1 1)]).run prog R=.ok (.slice ap c5 ac) d/\S d/\∃ y:Int,rd d y/\∀ p o,p=d.heap.size->o=d.alloc (.cells #[(.int .u64 y)] n_)->∃ (jw:al) (Vu fa:Nat),∃ T,(Builtin.append_ #[94,94] 94 #[(.slice Q n Vt),(.slice (some ⟨p,0,none⟩) 1 1)]).run prog o=.ok (.slice jw Vu fa) T/\N ap c5 ac d y p o jw Vu fa T:=by
 have M:ai F R:=by rw [au];exact hk _ _
 have t:=h.dg.bx E;refine ⟨Vw _ (ai.aj M s) (t.bx M),?_⟩;have VE:=E.size;refine bH.lN h.j6 h.new E an (by omega) VA au λap G d Vv w I=>?_
 have K:=h.j6;have B:∀ k,aK pa k->bE.heap.size<=k/\∃ cs,av z k cs cy:=λk c=>by obtain ⟨cf,Y,_⟩:=K.ex;exact ⟨K.f9 k c,fI Y c⟩
 have q:av d P cs D:=w.aj s λe=>by obtain ⟨_,i,a⟩:=B _ e;exact (ai.aj E a).ne s (λe=>V e.symm) rfl
 have u:e5 w0 d aY tb r bO j:=t.az w λk c=>by
  obtain ⟨VF,i,a⟩:=B k c;refine ⟨by omega,λe=>?_⟩
  exact (e▸ai.aj E a).ne t.aj (by decide) rfl
 refine ⟨Vw _ q u,y,Z _ q,?_⟩;rintro p o W O;obtain ⟨C,b⟩:=bl W O;have C:av o p (us [y]) n_:=C;clear O;have g:a2 d n_ 1 Q n Vt (us ws):=(a2.new E h.own).az w λk c e=>by obtain ⟨_,i,a⟩:=B k e;obtain ⟨U,f⟩:=fI h.own c;exact a.ne f (by decide) rfl
 refine tm (a2.new b g) (l2:=[y]) (m:=1) (fk C rfl) rfl (by omega) λjw fa T Vx A X=>?_
 have VD:=I.size;have H:∀ k,aK jw k->bE.heap.size<=k:=λk c=>by
  rcases X k c with e | e
  ·exact h.um k e
  ·have:=b.size;omega
 have J:∀ gm ∈ vs++[x],gm.words=[]:=λgm Vr=>by
  rcases jL.1 Vr with e | e
  ·exact h.fo gm e
  ·simp at e;subst e;exact Vs
 have L:∀ k,aK Q k->∃ cs,av o k cs n_:=λk c=>fI (a2.new b g) c
 refine Vy ap G d p o jw fa T ⟨(u.bx b).az A λk c=>?_,(I.new b).trans A λk VC e=>by have:=h.um k e;omega,(Vv.new b).zS J A λk c e=>?_,J,Vx,H,by rw [dH,h.wl];rfl⟩
 ·obtain ⟨i,a⟩:=L k c;refine ⟨by have:=h.um k c;omega,λe=>?_⟩
  exact (e▸a).ne (u.bx b).aj (by decide) rfl
 ·obtain ⟨i,a⟩:=L k e;obtain ⟨cf,Y,_⟩:=(Vv.new b).ex;obtain ⟨U,f⟩:=fI Y c;exact a.ne f (by decide) rfl
end
end Go.Proofs.YtmkljjbioomepaaGreat
