import Derived.Test.YtmkljjbioomepaaGreatc17
import Derived.Test.YtmkljjbioomepaaGreatProg
import Derived.Test.YtmkljjbioomepaaGreatc03
set_option linter.all false
set_option maxHeartbeats 4000000
set_option maxRecDepth 100000
namespace Go.Proofs.YtmkljjbioomepaaGreat
open Go.Proofs.Tryz Go.br
variable {M:a5} {a:al} {c cap aY n tb:Nat} {j:cS} {lines seq:Int} {m bO:aZ} {r:dv} {u bq bE w w0:ak} {v:aG} {vs:List aP} {x:aP}
section
theorem kF {b i:Nat} {cs:ax} {T:TypeId} {v x:a4} {K:aE} (a:av u b cs T) (c:cs[i]?=some x) (d:∀ w',av w' b (cs.set i v) T->ao (λk=>k=b) u w'->K w') :
  (∃ y,u.cell? ⟨b,i,none⟩=some y)/\u.frozen? ⟨b,i,none⟩=false/\∀ w',w'=u.setCell ⟨b,i,none⟩ v->K w':=
 ⟨⟨x,a.cell c⟩,a.frozen,λw' e=>by subst e;exact d _ (a.setCell v) (eV _ _ _ _)⟩
def addr (num:Int) (m:aZ) (x:aP):aP:={ x with node:=m.Node,ee:=m.ck,key:=qG num }
theorem A5 (w:ak) {r:cX} (VA:0<=r.Number) (VB:r.Number<16) (X:ec m.ck) (an:cE M w v x) :
  a_ 241 [r.val,m.val,.bool true,v.val] w λy w'=>∃ bj:aG,y=bj.val/\cE (λk=>k<w.heap.size) w' bj (addr r.Number m x)/\ai w w':=by
 refine bc Tryz.func241 ?_;rw [U3];rintro b1 w1 T J;obtain ⟨q,H⟩:=bl T J;have q:av w1 b1 r.cells m3:=q;clear J;rintro aA VO U K;obtain ⟨s,D⟩:=bl U K;have s:av VO aA m.cells eH:=s;clear K;rintro R VP V L;obtain ⟨t,p⟩:=bl V L;have t:av VP R v.cells cy:=t;clear L;rintro S Vy W N;obtain ⟨u,l⟩:=bl W N;have u:av Vy S (aG.cells ⟨0,0,0,0,0,0,none,0,0,0,0⟩) cy:=u;clear N;rintro VQ O;have c:ai Vy VQ:=by rw [O];exact cD _
 clear O;have VH:=H.size;have VI:=D.size;have VJ:=p.size;have VK:=l.size;have VL:=c.size;have VD:=q.lt;have VE:=s.lt;have VF:=t.lt;have VG:=u.lt;have G:=(((H.new D).new p).new l).new c;have Vw:=ai.aj (((D.new p).new l).new c) q;have Vz:=ai.aj ((p.new l).new c) s;have d:=ai.aj (l.new c) t;have Q:=ai.aj c u;refine ⟨λy=>av y aA m.cells eH,Vz,_,λy Vs=>Vs.cell (i:=0) rfl,_,λy Vs=>Vs.cell (i:=1) rfl,kF d (i:=1) rfl λVU d E=>⟨E.aj Vz (by omega),kF d (i:=8) rfl λVR d Z=>?_⟩⟩;have b:=E.trans Z λ_ _ e=>e
 have Vw:=b.aj Vw (by omega);refine ⟨_,Vw.cell (i:=0) rfl,?_⟩;refine aC (N9 VR VA VB) ?_;rintro z VV ⟨rfl,rfl⟩;refine ⟨_,_,rfl,kF d (i:=7) rfl λVv d C=>⟨_,_,_,d.cell (i:=6) rfl,?_⟩⟩;have g:ai w Vv:=G.trans (b.trans C λ_ _ e=>e) λk F e=>by omega
 have P:v.cI=x.words.length:=by rw [an.eq];rfl
 refine aC (Ai (xs:=us x.words) (by rw [hC,P]) (an.rd.new g) (pr _) (by have:=an.kI;omega) (λe=>by rw [P,an.nil e];rfl)) ?_;rintro z VN ⟨B,cap,rfl,j,o,Y,I⟩;have VM:=g.size;have Vx:=(b.trans C λ_ _ e=>e).size;refine ⟨_,_,_,rfl,kF (ai.aj j d) (i:=6) rfl λVt d f=>?_⟩;have Q:=f.aj (ai.aj j ((b.trans C λ_ _ e=>e).aj Q (by omega))) (show ¬ S=R by omega);have d:av Vt R (aG.cells { v with Node:=m.Node,ck:=m.ck,Key:=qG r.Number,Words:=B,cC:=cap }) cy:=d;refine aG.aS _ ⟨bK d rfl,dO Q rfl (aG.single _) λVu Q A=>?_⟩;refine aG.aS _ ⟨bK Q rfl,rfl,_,rfl,?_,((g.new j).trans f λk F e=>by omega).trans A λk F e=>by omega⟩;have n:us x.words=[]\/gd (λk=>k<Vv.heap.size) B:=g9 o.rd λk VC e=>by have:=Y k VC;omega
 have Vr:bh Vu B (us x.words):=(o.rd.az f (n.imp id λh=>by
  cases B with
  |none=>trivial
  |some a=>exact λe=>h (by have e:a.block=R:=e;omega))).az A (n.imp id λh=>by
  cases B with
  |none=>trivial
  |some a=>exact λe=>h (by have e:a.block=S:=e;omega))
 refine ⟨?_,Vr,λe=>an.nil (I.1 e),?_,an.wf,an.new,an.old,?_,X,a2.le o,an.kI⟩
 ·show ({ v with Node:=m.Node,ck:=m.ck,Key:=qG r.Number,Words:=B,cC:=cap }:aG)=_;have e:=an.eq;generalize v.Words=VS at e;generalize v.cC=VT at e;subst e;rfl
 ·rcases n with h | h
  ·left;have:=congrArg List.length h;rw [hC] at this;exact fB this
  ·right;cases B with
   |none=>trivial
   |some a=>exact λe=>h (by have e:a.block<w.heap.size:=e;show a.block<Vv.heap.size;omega)
 ·show b8 (qG r.Number);unfold qG b8;omega
theorem BS (l:List aZ):∀ r ∈ f_ l,r.length=3:=by intro r a;obtain ⟨x,_,rfl⟩:=cW.1 a;rfl
theorem HU (l:List aZ):∀ u ∈ (f_ l).flatten,single u=true:=by intro u hu;obtain ⟨r,a,b⟩:=oO.1 hu;obtain ⟨y,_,rfl⟩:=cW.1 a;exact aZ.single y u b
theorem La {vs:List aZ} (h:vs.length=n) (r:bh w a (f_ vs).flatten) (s:n<=1000000) (l:a=none->n=0) :
  a_ 243 [.slice a n c] w λv w'=>∃ e cap,v=.slice e n cap/\tc w w' eH 3 a e n cap (f_ vs).flatten:=by
 refine bc Tryz.func243 ?_;rw [PP];obtain ⟨i,p,au,d,g⟩:=fL (T:=eH) (z:=.agg #[.int .i64 0,.int .i64 0,.bool false]) (n:=3) (m:=24) (by kernel_rfl);cases a with
 |none=>
  refine eB rfl ⟨none,0,by rw [l rfl],ao.refl _ _,?_,?_,by simp⟩
  ·rw [l rfl] at h ⊢;rw [fB h];exact a2.nil _ _ _
  ·rintro k ⟨o,q⟩;cases q
 |some a=>refine cR rfl ?_;rintro b1 w1 rfl rfl;obtain ⟨e,b,w',f,j⟩:=xv (t:=33) (ty:=33) (n:=n) (c:=c) (w:=w) (a:=a) (xs:=(f_ vs).flatten) Tryz.underlying33 p au (by rw [d];rfl) (by omega) (by rw [mf (BS vs),d,f_,fC,h]) r (HU vs) (by omega) (by rw [g];omega);exact ⟨e,n,b,w',f,e,b,rfl,by rw [d] at j;exact j⟩
theorem BT {r:cX} {v:jd} (h:f0 M w r v) (hm:v.mem[0]?=some m):a_ 125 [r.val] w λx w'=>x=.tuple #[m.val,.bool true]/\ai w w':=by
 refine bc Tryz.func125 ?_;rw [U0];rintro b1 w1 p l;obtain ⟨d,g⟩:=bl p l;have d:av w1 b1 r.cells m3:=d;clear l;rintro aA B q n;obtain ⟨f,j⟩:=bl q n;have f:av B aA (aZ.cells jC) eH:=f;clear n;have c:=ai.aj j d;have a:=g.new j;have A:=g.size;have C:=ch hm;have y:=h.len;refine ⟨_,_,_,c.cell (i:=1) rfl,dJ (λe=>absurd e (by omega)) (λ_=>⟨_,_,_,c.cell (i:=1) rfl,?_⟩)⟩;refine eo (cells:=aZ.cells) aZ.len (by omega) (i:=0) (h.rd.new a) hm rfl y λb o s _=>aZ.aS m ⟨s,dO f rfl (aZ.single _) λD u t=>?_⟩
 exact aZ.aS m ⟨bK u rfl,rfl,rfl,a.trans t λk z e=>by omega⟩
theorem BU {r:cX} {v:jd} (h:f0 M w r v) (B:0<v.mem.length):a_ 216 [r.val] w λy w'=>∃ (a:al) (cap:Nat),y=.slice a (v.mem.length - 1) cap/\ai w w'/\bh w' a (f_ v.mem.tail).flatten:=by
 refine bc Tryz.func216 ?_;rw [U2];rintro b1 w1 l j;obtain ⟨c,f⟩:=bl l j;have c:av w1 b1 r.cells m3:=c;clear j;have hlen:=h.len;have t:=h.cap;have C:=h.small;refine ⟨_,_,_,c.cell (i:=1) rfl,dJ (λe=>absurd e (by omega)) (λ_=>⟨_,_,_,c.cell (i:=1) rfl,?_⟩)⟩;have q:=h.rd.new f;have n:(f_ v.mem).flatten.length=v.mem.length * 3:=by rw [mf (BS _),f_,fC]
 obtain ⟨b,o,k⟩:∃ b o,r.dL=some ⟨b,o,none⟩:=by
  rcases q with he | ⟨b,o,e,_⟩
  ·have:=congrArg List.length he;rw [n] at this;simp at this <;> omega
  ·exact ⟨b,o,e⟩
 rw [k] at q ⊢;rw [hlen];have s:(f_ v.mem.tail).flatten=((f_ v.mem).flatten).drop 3:=by
  cases D:v.mem with
  |nil=>rfl
  |cons x xs=>rfl
 refine kt (by omega) (by omega) (by omega) (by omega) (by omega) λa A=>?_
 have d:bh w1 a (f_ v.mem.tail).flatten/\a≠none:=by
  rcases A with rfl | ⟨e,rfl⟩
  ·refine ⟨?_,by simp⟩;rw [s];exact q.drop 3
  ·refine ⟨?_,by simp⟩;have:v.mem.tail=[]:=fB (by rw [ri];omega);rw [this];exact .inl rfl
 have z:Int.toNat (v.mem.length:Int) - Int.toNat 1=v.mem.length - 1:=by omega
 rw [z];refine aC (La (vs:=v.mem.tail) (by rw [ri]) d.1 (by omega) (λe=>absurd e d.2)) ?_;rintro y E ⟨u,cap,rfl,p,g,_⟩;exact ⟨_,_,_,rfl,u,cap,rfl,f.new p,g.rd⟩
structure bH (w0 u:ak) (a:al) (n cap:Nat) (vs:List aP):Prop where
 ex:∃ cf:List aG,a2 u cy 9 a n cap (dP cf).flatten/\en (λk=>k<w0.heap.size\/aK a k) u cf vs
 len:n=vs.length
 f9:∀ k,aK a k->w0.heap.size<=k
theorem bH.nil (w0 u:ak):bH w0 u none 0 0 []:=⟨⟨[],a2.nil _ _ _,rfl,λi v x h=>by simp at h⟩,rfl,λk a=>absurd a nr⟩
theorem bH.new {w0 u bq:ak} {a:al} {n cap:Nat} {vs:List aP} (h:bH w0 u a n cap vs) (b:ai u bq):bH w0 bq a n cap vs:=by obtain ⟨⟨cf,f,an⟩,d,c⟩:=h;exact ⟨⟨cf,a2.new b f,an.az (ao.b3 b) λ_ _ e=>e⟩,d,c⟩
theorem bH.az {w0 u bq:ak} {a:al} {n cap:Nat} {vs:List aP} (h:bH w0 u a n cap vs) {M:a5} (b:ao M u bq) (c:∀ k,M k->k<w0.heap.size):bH w0 bq a n cap vs:=by obtain ⟨⟨cf,g,an⟩,f,d⟩:=h;refine ⟨⟨cf,g.az b λk b e=>?_,an.az (b.mono λk _ e=>.inl (c k e)) λ_ _ e=>e⟩,f,d⟩;have:=d k b;have:=c k e;omega
theorem bH.mono {w1:ak} (h:bH w1 u a n cap vs) (g:w0.heap.size<=w1.heap.size):bH w0 u a n cap vs:=by obtain ⟨⟨cf,f,an⟩,d,b⟩:=h;exact ⟨⟨cf,f,an.az (ao.refl _ _) λk _ e=>e.imp (λe=>by omega) id⟩,d,λk c=>by have:=b k c;omega⟩
theorem en.app {r1 b:List aG} {v1 v2:List aP} (e:en M w r1 v1) (f:en M w b v2):en M w (r1++b) (v1++v2):=by
 obtain ⟨dd,c⟩:=e;obtain ⟨l2,d⟩:=f;refine ⟨by simp [dd,l2],λi v x an a=>?_⟩;by_cases g:i<r1.length
 ·rw [hP g] at an;rw [hP (by omega)] at a;exact c i v x an a
 ·rw [hQ (by omega)] at an;rw [hQ (by omega)] at a;rw [<-dd] at a;exact d _ v x an a
theorem en.one (h:cE M w v x):en M w [v] [x]:=⟨rfl,λi bj gm a b=>by
 cases i with
 |zero=>simp at a b;subst a b;exact h
 |succ i=>simp at a⟩
theorem bH.ou (h:bH w0 u a n cap vs) (j:ai w0 u) (hu:ai u bE) (an:cE (λk=>k<u.heap.size) bE v x) (H:n<=100000) {K:Nat->al->Nat->Nat->aE}
  (s:∀ b ap f i,b=bE.heap.size->bH w0 i ap (n+1) f (vs++[x])->ao (aK a) bE i->ai w0 i->K b ap (n+1) f i) :
  ∀ b1 A,b1=bE.heap.size->A=bE.alloc (.cells v.cells.toArray cy)->∃ (ap:al) (d c:Nat),∃ i,(Builtin.append_ #[gp,gp] gp #[(.slice a n cap),(.slice (some ⟨b1,0,none⟩) 1 1)]).run prog A=.ok (.slice ap d c) i/\K b1 ap d c i:=by
 obtain ⟨⟨cf,z,y⟩,E,p⟩:=h;have B:=j.new hu;have F:=j.size;have G:=hu.size;refine LZ (a2.new hu z) (v:=v) (by omega) λb ap f i D C g l=>?_
 have o:∀ k,aK ap k->w0.heap.size<=k:=λk s=>by
  rcases l k s with e | e
  ·exact p k e
  ·omega
 refine s b ap f i D ⟨⟨cf++[v],by rw [GZ];simpa [dP] using C,?_⟩,by rw [dH,E];rfl,o⟩ g (B.trans g λk q e=>by have:=p k e;omega);have r:∀ k,k<bE.heap.size->(k<w0.heap.size\/aK ap k)->(k<w0.heap.size\/aK a k):=λk q e=>e.imp id λe=>by
  rcases l k e with e | e
  ·exact e
  ·omega
 have t:=y.az (M':=λk=>k<w0.heap.size\/aK a k) (ao.b3 hu) λ_ _ e=>e
 refine en.app (t.az (g.mono λk _ e=>.inr e) r) (en.one ?_);have w:cE (λk=>k<w0.heap.size\/aK a k) bE v x:=an.az (ao.refl _ _) λk q e=>by
  rcases e with e | e
  ·omega
  ·exact z.lt e
 exact w.az (g.mono λk _ e=>.inr e) r
theorem bH.lN (h:bH w0 u a n cap vs) (i:ai w0 u) (hu:ai u bE) (an:cE (λk=>k<u.heap.size) bE v x) (r:n<=100000) {b1:Nat} {j:ak} (q:b1=bE.heap.size) (hw:j=bE.alloc (.cells v.cells.toArray cy)) {K:al->Nat->Nat->aE}
  (s:∀ ap f g,bH w0 g ap (n+1) f (vs++[x])->ao (aK a) bE g->ai w0 g->K ap (n+1) f g) :
  ∃ (ap:al) (e d:Nat),∃ g,(Builtin.append_ #[gp,gp] gp #[(.slice a n cap),(.slice (some ⟨b1,0,none⟩) 1 1)]).run prog j=.ok (.slice ap e d) g/\K ap e d g:=
 bH.ou h i hu an r (K:=λ_ ap n c w=>K ap n c w) (λb ap f g _ l o p=>s ap f g l o p) b1 j q hw
end
section
open IntKind
variable (w:ak) (R:cA) {a b c d:Nat} {A B:aU} {s t:al} {i k:Int} {j:aq}
theorem Sz:bf prog f172 [a9 a] R w=(aR w #[ab 0,ab 0] 171 λp t=>cq t λu l=>cL l (af a 0) λj=>uv l (af a 0) λs=>cm 209 #[ab j] u λb n=>l n/\F3 168 #[s.val] n λh o=>l o/\eg 210 #[h.val] o λc d f q=>l q/\Calls prog 208 #[a9 a,ab b,ae c d f,ab 1] q λe r=>bB.ex λi=>∃ g,e=.returned (.tuple #[i.val,ad g])/\l r/\a8 r (af p 0) 0 i.cells λm=>dT m (af p 0) λk=>m=m/\R (.tuple #[k.val,ad g]) m):=by kernel_rfl
theorem SA:bf prog f174 [a9 a] R w=(aR w #[ab 0,ab 0] 171 λl m=>bt m (af a 1) λj=>hs 214 #[ab j] m λb c n=>bt n (af a 0) λd=>cm 215 #[ab d] n λf o=>aR o #[ah b] 30 λq p=>Calls prog 208 #[a9 a,ab f,ae (bm q) 1 1,ab 2] p λe r=>bB.ex λh=>∃ g,e=.returned (.tuple #[h.val,ad g])/\a8 r (af l 0) 0 h.cells λk=>dT k (af l 0) λi=>k=k/\R (.tuple #[i.val,ad g]) k):=by kernel_rfl
def tN (e s2:aU) (i:al) (a b:Nat) (c:al) (d f:Nat) (g h:Int) (j:aq):aq:=.pointer (some e)::ag j 0 1 (.pointer (some s2)::ag j 1 1 (ae i a b::ag j 2 10 (ae c d f::ab g::ab h::ag j 12 31 [])))
def E1 (a b:aU) (e:al) (c d:Nat) (j:aq):aq:=.pointer (some a)::ag j 0 1 (.pointer (some b)::ag j 1 1 (ae e c d::ag j 2 44 []))
theorem Rk:bf prog f175 [a9 a] R w=(aR w #[ab 0,ab 0] 171 λg f=>lP f (af a 3) λd=>eg 216 #[d.val] f λe b c h=>cu prog (c0 f175 [1,1,0,1,0,0]) (tN (af a 0) (af g 0) none 0 0 e b c (b:Nat) 0 (undef::ad false::bd 5 (jp (af a 0)::jp (af a 0)::jp (af a 0)::jp (af a 3)::d.val::bd 31 []))) (aO 0 (aQ f175 [1,1,1] R)) h):=by kernel_rfl
theorem P3 (C:aq->aE):W prog (sb f175 [1,1,0,1,0,0]) (tN A B s a b t c d i k j) (aV C (aO 0 (aQ f175 [1,1,1] R))) w=(cond (k<i) (bk t c k 3 λD=>ig w D λr=>aR w #[ab 0,ab 0,ad false] 116 λy a1=>a8 a1 (af y 0) 0 r.cells λz=>b4 z (bM A 6) λg h l=>cond ((h:Int)>0) (ig z (af y 0) λH=>eg 217 #[.pointer (some A),H.val] z λm n o aW=>c6 125 (ae s a b) (ae m n o) aW λu p q E=>ig E (af y 0) λG=>eL 218 #[.pointer (some A),G.val] E λx K=>aR K x.cells.toArray 158 λF L=>c6 125 (ae u p q) (ae (bm F) 1 1) L λe f v M=>C (tN A B e f v t c d i (i64.wrap (k+1)) (aF j 0::aF j 1::aF j 2::jp (af y 0)::ag j 4 8 (ad (k<i)::jp D::r.val::jp A::jp A::jp A::bI A 6::ae g h l::c9 h::ad ((h:Int)>0)::ae s a b::jp A::H.val::ae m n o::ae u p q::ae u p q::jp A::G.val::x.val::ae (bm F) 1 1::ae e f v::ab (i64.wrap (k+1))::ag j 34 9 []))) M) (C (tN A B s a b t c d i (i64.wrap (k+1)) (aF j 0::aF j 1::aF j 2::jp (af y 0)::ag j 4 8 (ad (k<i)::jp D::r.val::jp A::jp A::jp A::bI A 6::ae g h l::c9 h::ad ((h:Int)>0)::ag j 22 11 (ab (i64.wrap (k+1))::ag j 34 9 [])))) z)) (W prog (sb f175 [1,1,1]) (E1 A B s a b (ag j 0 12 (ae t c d::ab i::ab k::ad (k<i)::ag j 13 30 []))) (b0 f175 R) w)):=by kernel_rfl
theorem Qb:W prog (sb f175 [1,1,1]) (E1 A B s a b j) (b0 f175 R) w=(Calls prog 213 #[.pointer (some A),ae s a b,ab 3] w λe n=>∃ f g h,bB.ex λk=>∃ i,e=.returned (.tuple #[ae f g h,k.val,ad i])/\aR n #[ab 0,ab 0] 171 λm o=>a8 o (af m 0) 0 k.cells λd=>dT d (af m 0) λr=>a8 d B 0 r.cells λc=>dT c B λl=>c=c/\R (.tuple #[l.val,ad i]) c):=by kernel_rfl
theorem Rs:bf prog f176 [a9 a] R w=(aR w #[ab 0,ab 0] 171 λC Ya=>b4 Ya (af a 6) λj b c=>cond ((b:Int) == 0) (a8 Ya (af C 0) 0 [ab 0,ab 0] λW=>dT W (af C 0) λWA=>W=W/\R (.tuple #[WA.val,ad true]) W) (cq Ya λX3 u=>hb u (af a 8) λXz=>hb u (af a 8) λG=>(eL 218 #[a9 a,Xz.val] X3 λH T=>u T/\(aR T H.cells.toArray 158 λYk Yh=>u Yh/\(eg 217 #[a9 a,G.val] Yh λd f g Yb=>u Yb/\(c6 125 (ae (bm Yk) 1 1) (ae d f g) Yb λXY h i Yi=>u Yi/\(Calls prog 213 #[a9 a,ae XY h i,ab 3] Yi λe XQ=>∃ (k:al) (l m:Nat),bB.ex λXq=>∃ (n:Bool),e=.returned (.tuple #[ae k l m,Xq.val,ad n])/\u XQ/\aR XQ #[ab 0,ab 0] 171 λXW XJ=>u XJ/\a8 XJ (af XW 0) 0 Xq.cells λXh=>dT Xh (af XW 0) λr=>a8 Xh (af C 0) 0 r.cells λV=>dT V (af C 0) λVQ=>V=V/\R (.tuple #[VQ.val,ad n]) V)/\aR Yi #[ab 0,ab 0] 171 λXu Xd=>u Xd/\Calls prog 213 #[a9 a,ae XY h i,ab 3] Xd λe Xe=>∃ (o:al) (p q:Nat),bB.ex λXO=>∃ (s:Bool),e=.returned (.tuple #[ae o p q,XO.val,ad s])/\u Xe/\a8 Xe (af Xu 0) 0 XO.cells λXD=>dT XD (af Xu 0) λVW=>a8 XD (af C 0) 0 VW.cells λY=>dT Y (af C 0) λWt=>Y=Y/\R (.tuple #[Wt.val,ad s]) Y)/\aR Yb #[ab 0,ab 0] 171 λW_ Xp=>u Xp/\c6 125 (ae (bm Yk) 1 1) (ae d f g) Xp λt v x W2=>u W2/\Calls prog 213 #[a9 a,ae t v x,ab 3] W2 λe X4=>∃ (y:al) (z Wr:Nat),bB.ex λXM=>∃ (W7:Bool),e=.returned (.tuple #[ae y z Wr,XM.val,ad W7])/\u X4/\a8 X4 (af W_ 0) 0 XM.cells λE=>dT E (af W_ 0) λWm=>a8 E (af C 0) 0 Wm.cells λa1=>dT a1 (af C 0) λWS=>a1=a1/\R (.tuple #[WS.val,ad W7]) a1)/\aR Yh #[ab 0,ab 0] 171 λXa XL=>u XL/\eg 217 #[a9 a,G.val] XL λWL VC VG X2=>u X2/\c6 125 (ae (bm Yk) 1 1) (ae WL VC VG) X2 λWb VU VD X1=>u X1/\Calls prog 213 #[a9 a,ae Wb VU VD,ab 3] X1 λe XK=>∃ (Vz:al) (WU V3:Nat),bB.ex λXl=>∃ (A:Bool),e=.returned (.tuple #[ae Vz WU V3,Xl.val,ad A])/\u XK/\a8 XK (af Xa 0) 0 Xl.cells λW3=>dT W3 (af Xa 0) λWo=>a8 W3 (af C 0) 0 Wo.cells λL=>dT L (af C 0) λVw=>L=L/\R (.tuple #[Vw.val,ad A]) L)/\(eg 217 #[a9 a,G.val] T λYe Yf ij I=>u I/\(aR I H.cells.toArray 158 λXR Yd=>u Yd/\(c6 125 (ae (bm XR) 1 1) (ae Ye Yf ij) Yd λW5 WM XX D=>u D/\(Calls prog 213 #[a9 a,ae W5 WM XX,ab 3] D λe Xw=>∃ (Vu:al) (Wl WC:Nat),bB.ex λWZ=>∃ (F:Bool),e=.returned (.tuple #[ae Vu Wl WC,WZ.val,ad F])/\u Xw/\aR Xw #[ab 0,ab 0] 171 λWX XG=>u XG/\a8 XG (af WX 0) 0 WZ.cells λXy=>dT Xy (af WX 0) λWV=>a8 Xy (af C 0) 0 WV.cells λQ=>dT Q (af C 0) λVN=>Q=Q/\R (.tuple #[VN.val,ad F]) Q)/\aR D #[ab 0,ab 0] 171 λXb Xg=>u Xg/\Calls prog 213 #[a9 a,ae W5 WM XX,ab 3] Xg λe Wf=>∃ (VH:al) (VP WO:Nat),bB.ex λWY=>∃ (Xi:Bool),e=.returned (.tuple #[ae VH VP WO,WY.val,ad Xi])/\u Wf/\a8 Wf (af Xb 0) 0 WY.cells λWq=>dT Wq (af Xb 0) λWQ=>a8 Wq (af C 0) 0 WQ.cells λO=>dT O (af C 0) λWE=>O=O/\R (.tuple #[WE.val,ad Xi]) O)/\aR Yd #[ab 0,ab 0] 171 λXj XB=>u XB/\c6 125 (ae (bm XR) 1 1) (ae Ye Yf ij) XB λVx WK WF W8=>u W8/\Calls prog 213 #[a9 a,ae Vx WK WF,ab 3] W8 λe XP=>∃ (Wy:al) (Yl Wp:Nat),bB.ex λXf=>∃ (V6:Bool),e=.returned (.tuple #[ae Wy Yl Wp,Xf.val,ad V6])/\u XP/\a8 XP (af Xj 0) 0 Xf.cells λX5=>dT X5 (af Xj 0) λVy=>a8 X5 (af C 0) 0 Vy.cells λP=>dT P (af C 0) λWw=>P=P/\R (.tuple #[Ww.val,ad V6]) P)/\aR I #[ab 0,ab 0] 171 λVK XT=>u XT/\aR XT H.cells.toArray 158 λWv W0=>u W0/\c6 125 (ae (bm Wv) 1 1) (ae Ye Yf ij) W0 λVY VZ WI X9=>u X9/\Calls prog 213 #[a9 a,ae VY VZ WI,ab 3] X9 λe XI=>∃ (VL:al) (V9 VM:Nat),bB.ex λXm=>∃ (W1:Bool),e=.returned (.tuple #[ae VL V9 VM,Xm.val,ad W1])/\u XI/\a8 XI (af VK 0) 0 Xm.cells λXv=>dT Xv (af VK 0) λVv=>a8 Xv (af C 0) 0 Vv.cells λZ=>dT Z (af C 0) λYj=>Z=Z/\R (.tuple #[Yj.val,ad W1]) Z)/\aR T #[ab 0,ab 0] 171 λX M=>u M/\(aR M H.cells.toArray 158 λWx Xx=>u Xx/\eg 217 #[a9 a,G.val] Xx λWd Wz VF XH=>u XH/\c6 125 (ae (bm Wx) 1 1) (ae Wd Wz VF) XH λWG V8 WR XE=>u XE/\Calls prog 213 #[a9 a,ae WG V8 WR,ab 3] XE λe Xo=>∃ (WD:al) (Wu We:Nat),bB.ex λX0=>∃ (X6:Bool),e=.returned (.tuple #[ae WD Wu We,X0.val,ad X6])/\u Xo/\a8 Xo (af X 0) 0 X0.cells λX8=>dT X8 (af X 0) λWc=>a8 X8 (af C 0) 0 Wc.cells λX'=>dT X' (af C 0) λVR=>X'=X'/\R (.tuple #[VR.val,ad X6]) X')/\eg 217 #[a9 a,G.val] M λV_ WH WT W6=>u W6/\aR W6 H.cells.toArray 158 λWj Xn=>u Xn/\c6 125 (ae (bm Wj) 1 1) (ae V_ WH WT) Xn λVT V1 VB XU=>u XU/\Calls prog 213 #[a9 a,ae VT V1 VB,ab 3] XU λe J=>∃ (VX:al) (Wa V2:Nat),bB.ex λX_=>∃ (X7:Bool),e=.returned (.tuple #[ae VX Wa V2,X_.val,ad X7])/\u J/\a8 J (af X 0) 0 X_.cells λXc=>dT Xc (af X 0) λWs=>a8 Xc (af C 0) 0 Ws.cells λN=>dT N (af C 0) λVr=>N=N/\R (.tuple #[Vr.val,ad X7]) N)/\aR X3 #[ab 0,ab 0] 171 λK W4=>u W4/\eL 218 #[a9 a,Xz.val] W4 λXV Yc=>u Yc/\(aR Yc XV.cells.toArray 158 λWJ Xt=>u Xt/\eg 217 #[a9 a,G.val] Xt λWi V5 VA W9=>u W9/\c6 125 (ae (bm WJ) 1 1) (ae Wi V5 VA) W9 λB VO VJ VV=>u VV/\Calls prog 213 #[a9 a,ae B VO VJ,ab 3] VV λe XZ=>∃ (VS:al) (WP V7:Nat),bB.ex λXA=>∃ (WW:Bool),e=.returned (.tuple #[ae VS WP V7,XA.val,ad WW])/\u XZ/\a8 XZ (af K 0) 0 XA.cells λXC=>dT XC (af K 0) λU=>a8 XC (af C 0) 0 U.cells λaW=>dT aW (af C 0) λVs=>aW=aW/\R (.tuple #[Vs.val,ad WW]) aW)/\eg 217 #[a9 a,G.val] Yc λV' Wn V4 XF=>u XF/\aR XF XV.cells.toArray 158 λVt WB=>u WB/\c6 125 (ae (bm Vt) 1 1) (ae V' Wn V4) WB λYg WN V0 XS=>u XS/\Calls prog 213 #[a9 a,ae Yg WN V0,ab 3] XS λe XN=>∃ (VE:al) (Wg VI:Nat),bB.ex λXr=>∃ (Xk:Bool),e=.returned (.tuple #[ae VE Wg VI,Xr.val,ad Xk])/\u XN/\a8 XN (af K 0) 0 Xr.cells λXs=>dT Xs (af K 0) λWk=>a8 Xs (af C 0) 0 Wk.cells λS=>dT S (af C 0) λWh=>S=S/\R (.tuple #[Wh.val,ad Xk]) S)):=by kernel_rfl
theorem Sv:bf prog f208 [a9 a,ab i,ae s b c,ab k] R w=(aR w #[ab 0,ab 0] 171 λt y=>b4 y (af a 6) λx d f=>cond ((d:Int) == 0) (a8 y (af t 0) 0 [ab 0,ab 0] λu=>dT u (af t 0) λo=>u=u/\R (.tuple #[o.val,ad true]) u) (eg 237 #[a9 a,.agg #[ab 2,ab 0,ab i,ab 0,ah 0,ah 0,ae s b c,ah 0,ab 0]] y λg h j C=>Calls prog 213 #[a9 a,ae g h j,ab k] C λe D=>∃ z l m,bB.ex λp=>∃ n,e=.returned (.tuple #[ae z l m,p.val,ad n])/\aR D #[ab 0,ab 0] 171 λA E=>a8 E (af A 0) 0 p.cells λB=>dT B (af A 0) λr=>a8 B (af t 0) 0 r.cells λv=>dT v (af t 0) λq=>v=v/\R (.tuple #[q.val,ad n]) v)):=by kernel_rfl
end
section
structure Ee (j:cS):Prop where
 a3:0<=j.a3/\j.a3<6
 num:0<=j.v.number/\j.v.number<16
 mem:0<j.v.mem.length/\j.v.mem.length<=5
 ee:∀ m ∈ j.v.mem,1<=m.ck/\m.ck<=31
 sM:j.writes.length<=12
 xn:j.reads.length<=24
 wr:j.writes≠[]->fr j.seq j.writes 256=0/\1<=j.seq/\j.seq<1073741824
 wl:∀ p ∈ j.writes,96<=p.bn/\p.bn<256
 GQ:∀ p ∈ j.writes,lS p.Head=true/\kr p.Head=true
 qW:∀ s ∈ j.reads,96<=s.bn/\s.bn<256
theorem ji {W:List aJ} (h:fr seq W lines=0):(98<=lines/\lines<=256)/\(1<=seq/\seq<1073741824/\1<=W.length/\W.length<=12)/\(∀ p ∈ W,96<=p.bn/\p.bn<lines)/\(∀ p ∈ W,lS p.Head=true/\kr p.Head=true)/\(W.all λp=>iw p.bn lines)=true/\(List.range W.length).all (λi=>jO W i && jW (W.getD i hE))=true:=by
 unfold fr at h;split at h
 ·omega
 rename_i f;split at h
 ·omega
 rename_i g;split at h
 ·omega
 rename_i a;split at h
 ·omega
 rename_i b;have a:(W.all λp=>iw p.bn lines)=true:=sZ _▸a;have b:(List.range W.length).all (λi=>jO W i && jW (W.getD i hE))=true:=sZ _▸b;refine ⟨by omega,by omega,λp d=>?_,λp d=>?_,a,b⟩
 ·have:=gQ.1 a p d;unfold iw at this;have:=of_decide_eq_true this;omega
 ·obtain ⟨i,e⟩:=List.getElem?_of_mem d;have c:=ch e;have:=gQ.1 b i (fE.2 c);rw [ox e] at this;unfold jW at this;simp only [eY] at this;exact ⟨this.2.2,this.2.1⟩
theorem Am {W:List aJ} (h:fr seq W lines=0):fr seq W 256=0:=by
 obtain ⟨e,f,b,_,g,c⟩:=ji h;have a:(W.all λp=>iw p.bn 256)=true:=gQ.2 λp d=>by have:=b p d;unfold iw;exact decide_eq_true (by omega)
 unfold fr;rw [if_neg (by omega),if_neg (by omega),if_neg (by rw [a];simp),if_neg (by rw [c];simp)]
theorem DQ {l:List aZ} (h:(List.range l.length).all (j5 n l)=true):l.length<=n:=by
 have key:∀ i,i<l.length->(i:Int)<=(l.getD i jC).Node/\(l.getD i jC).Node<n:=by
  intro i;induction i with
  |zero=>intro a;have:=gQ.1 h 0 (fE.2 a);unfold j5 at this;simp at this ⊢;omega
  |succ i d=>intro a;have c:=d (by omega);have:=gQ.1 h (i+1) (fE.2 a);unfold j5 at this;simp at this c ⊢;omega
 rcases x4 l.length with b | b
 ·omega
 ·have:=key (l.length - 1) (by omega);omega
theorem L2 (h:j.valid=0):Ee j:=by
 unfold cS.valid at h;split at h
 ·omega
 rename_i k;split at h
 ·omega
 rename_i b;have b:j.v.valid 5=0:=by omega
 split at h
 ·omega
 rename_i i;split at h
 ·omega
 rename_i l;split at h
 ·omega
 rename_i w;split at h
 ·omega
 rename_i g;split at h
 ·omega
 rename_i x;have g:(j.reads.all λs=>iw s.bn j.lines)=true:=sZ _▸g;have hw:j.writes≠[]->fr j.seq j.writes j.lines=0:=λa=>by
  have:=u1.2 a;by_cases e:fr j.seq j.writes j.lines=0
  ·exact e
  ·exact absurd ⟨this,e⟩ l
 unfold jd.valid at b;split at b
 ·omega
 rename_i q;split at b
 ·omega
 rename_i r;split at b
 ·omega
 rename_i t;split at b
 ·omega
 rename_i d;split at b
 ·omega
 rename_i f;have f:j.v.mem.all mE=true:=by simpa using f
 have d:(List.range j.v.mem.length).all (j5 (5:Nat) j.v.mem)=true:=sZ _▸d;have u:=DQ d;have emp:∀ {P:aJ->Prop},(j.writes≠[]->∀ p ∈ j.writes,P p)->∀ p ∈ j.writes,P p:=λn p c=>n (List.ne_nil_of_mem c) p c
 refine ⟨by omega,by omega,by omega,λm hm=>?_,?_,by omega,λa=>?_,emp λa p c=>?_,emp λa p c=>(ji (hw a)).2.2.2.1 p c,λs o=>?_⟩
 ·have:=gQ.1 f m hm;unfold mE at this;exact of_decide_eq_true this
 ·by_cases e:j.writes=[]
  ·rw [e];simp
  ·exact (ji (hw e)).2.1.2.2.2
 ·obtain ⟨_,b,_⟩:=ji (hw a);exact ⟨Am (hw a),b.1,b.2.1⟩
 ·obtain ⟨k,_,i,_⟩:=ji (hw a);have:=i p c;omega
 ·have:=gQ.1 g s o;unfold iw at this;have:=of_decide_eq_true this;omega
abbrev l5:TypeId:=212
abbrev eQ:TypeId:=171
abbrev n_:TypeId:=30
def lE (r:dv) (tb:Nat) (m:aZ):ax:=r.cells++(ptr tb::m.cells)
structure e5 (w0 u:ak) (aY tb:Nat) (r:dv) (m:aZ) (j:cS):Prop where
 aj:av u aY (lE r tb m) l5
 bN:pW w0 r j
 cj:Ee j
 mem:j.v.mem[0]?=some m
 new:ai w0 u
 EO:w0.heap.size<=aY
 kC:w0.heap.size<=tb
 ne:aY≠tb
theorem e5.bx (h:e5 w0 u aY tb r m j) (a:ai u bq):e5 w0 bq aY tb r m j:=
 ⟨ai.aj a h.aj,h.bN,h.cj,h.mem,h.new.new a,h.EO,h.kC,h.ne⟩
theorem e5.az (h:e5 w0 u aY tb r m j) (b:ao M u bq) (a:∀ k,M k->w0.heap.size<=k/\k≠aY):e5 w0 bq aY tb r m j:=
 ⟨b.aj h.aj λe=>(a _ e).2 rfl,h.bN,h.cj,h.mem,h.new.trans b λk c e=>by have:=(a k e).1;omega,h.EO,h.kC,h.ne⟩
theorem e5.num {w0 u:ak} {aY tb:Nat} {r:dv} {m:aZ} {j:cS} (h:e5 w0 u aY tb r m j):r.View.Number=j.v.number:=by obtain ⟨M,an⟩:=h.bN.view;exact an.num
theorem sh (h:e5 w0 w aY tb r bO j) (F:ec m.ck) (an:cE M w v x) :
  a_ 212 [ptr aY,m.val,v.val] w λy w'=>∃ bj:aG,y=bj.val/\cE (λk=>k<w.heap.size) w' bj (addr j.v.number m x)/\ai w w':=by
 refine bc Tryz.func212 ?_;rw [ptr,Rj];rintro b1 w1 C s;obtain ⟨g,n⟩:=bl C s;have g:av w1 b1 m.cells eH:=g;clear s;rintro aA S D t;obtain ⟨i,f⟩:=bl D t;have i:av S aA v.cells cy:=i;clear t;rintro K J E u;obtain ⟨d,c⟩:=bl E u;have d:av J K (aG.cells ⟨0,0,0,0,0,0,none,0,0,0,0⟩) cy:=d;clear u;rintro B z;have b:ai J B:=by rw [z];exact cD _
 clear z;have a:=((n.new f).new c).new b;have O:=n.size;have P:=f.size;have Q:=c.size;have R:=b.size;have L:=h.bx a;have p:=h.num;have U:=h.cj.num;refine ⟨λy=>ai B y,ao.refl _ _,cX.aS r.View ⟨λy A=>bK (ai.aj A L.aj) rfl,aZ.aS m ⟨λy A=>bK (ai.aj (((f.new c).new b).new A) g) rfl,aG.aS v ⟨λy A=>bK (ai.aj ((c.new b).new A) i) rfl,?_⟩⟩⟩⟩;refine aC (A5 B (by omega) (by omega) F (an.az (ao.b3 a) λ_ _ e=>e)) ?_;rintro y V ⟨bj,rfl,q,o⟩;refine aG.aS bj ⟨rfl,dO (ai.aj (b.new o) d) rfl (aG.single _) λT H l=>?_⟩;have I:=d.lt;refine aG.aS bj ⟨bK H rfl,rfl,bj,rfl,?_,(a.new o).trans l λk N e=>by omega⟩;rw [p] at q;have G:cE (λk=>k<B.heap.size) T bj (addr j.v.number m x):=q.az (l.mono λk _ e=>by omega) λ_ _ e=>e
 exact G.az (ao.refl _ _) λk _ e=>by omega
theorem cE.mono {M':a5} (h:cE M w v x) (a:∀ k,M' k->M k):cE M' w v x:=h.az (ao.refl _ _) λk _ e=>a k e
theorem pK {k at_ nn old new:Int} {ws:bb} (i:bh w a (us ws)) (g:n=ws.length) (e:n<=c) (b:a=none->ws=[]) (hu:∀ x ∈ ws,b8 x) (f:ws.length<=1000000) (h:b8 old) (d:b8 new) :
  cE (λ_=>False) w ⟨k,0,at_,nn,old,new,a,n,c,0,0⟩ ⟨k,0,at_,nn,old,new,ws,0,0⟩:=by
 subst g;refine ⟨rfl,i,b,.inr ?_,hu,d,h,?_,?_,e,f⟩
 ·cases a with
  |none=>trivial
  |some a=>exact id
 ·have au:b8 0:=⟨by decide,by decide⟩;exact au
 ·have au:ec 0:=⟨by decide,by decide⟩;exact au
def qr (j:cS) (m:aZ):aP:=addr j.v.number m ⟨2,0,32+j.a3,0,0,0,[j.seq],0,0⟩
def js (j:cS) (m:aZ) (p:aJ):aP:=addr j.v.number m ⟨2,0,p.bn * 8,0,0,0,ir p,0,0⟩
theorem hd:b8 0:=⟨by decide,by decide⟩
theorem Cj (h:e5 w0 w aY tb r bO j) (VA:1<=j.seq/\j.seq<1073741824) (F:ec m.ck) :
  a_ 218 [ptr aY,m.val] w λy w'=>∃ bj:aG,y=bj.val/\cE (λk=>k<w.heap.size) w' bj (qr j m)/\ai w w':=by
 refine bc Tryz.func218 ?_;rw [ptr,Sf];rintro b1 w1 S J;obtain ⟨B,H⟩:=bl S J;have B:av w1 b1 m.cells eH:=B;clear J;rintro aA Vu T K;obtain ⟨p,A⟩:=bl T K;have p:av Vu aA (aG.cells ⟨0,0,0,0,0,0,none,0,0,0,0⟩) cy:=p;clear K;rintro R L;have n:ai Vu R:=by rw [L];exact cD _
 clear L;have q:=(H.new A).new n;have Vw:=H.size;have Vx:=A.size;have Vy:=n.size;have Q:=h.bx q;have VE:=h.cj.a3;have W:=h.bN.a3;have X:=h.bN.seq;have Vs:=p.lt;refine ⟨λy=>ai R y,ao.refl _ _,aZ.aS m ⟨λy O=>bK (ai.aj ((A.new n).new O) B) rfl,⟨_,λy O=>(ai.aj O Q.aj).cell (i:=0) rfl,_,λy O=>(ai.aj O Q.aj).cell (i:=1) rfl,?_⟩⟩⟩;dsimp only;rw [W,X,j8 (x:=j.seq) (by omega) (by omega)];have fin:∀ {l D:ak} {bj:aG},ai R l->ai l D->cE (λk=>k<l.heap.size) D bj (qr j m)->
   (eh D ⟨aA,0,none⟩ 0 bj.cells/\∀ u,u=ct D ⟨aA,0,none⟩ 0 bj.cells->aG.ex λg=>b6 u ⟨aA,0,none⟩ 0 g.cells/\u=u/\∃ bj:aG,g.val=bj.val/\cE (λk=>k<w.heap.size) u bj (qr j m)/\ai w u):=by
  intro l D bj z E f;have Vz:=z.size;refine dO (ai.aj ((n.new z).new E) p) rfl (aG.single _) λu Z G=>?_
  refine aG.aS bj ⟨bK Z rfl,rfl,bj,rfl,?_,((q.new z).new E).trans G λk Vv e=>by omega⟩;have Y:cE (λk=>k<l.heap.size) u bj (qr j m):=f.az (G.mono λk _ e=>by omega) λ_ _ e=>e
  exact Y.mono λk e=>by omega
 have t:∀ {l:ak} {P:Nat},av l P [.int .u64 j.seq] n_->cE (λ_=>False) l ⟨2,0,32+j.a3,0,0,0,some ⟨P,0,none⟩,1,1,0,0⟩ ⟨2,0,32+j.a3,0,0,0,[j.seq],0,0⟩:=by intro l P C;exact pK (fk C rfl) rfl (by omega) (λe=>by cases e) (λx Vt=>by simp at Vt;subst Vt;unfold b8;omega) (by simp) hd hd
 refine ⟨?_,?_⟩
 ·refine aC (vf R (by omega)) ?_;rintro y VF ⟨rfl,b⟩;refine ⟨_,rfl,b,?_⟩;rintro P l U M;obtain ⟨C,o⟩:=bl U M;clear M;refine ⟨b.new o,?_⟩;have a:=sh (Q.bx (b.new o)) F (t C);refine aC a ?_;rintro y D ⟨bj,rfl,f,I⟩;exact aG.aS bj ⟨rfl,(b.new o).new I,fin (b.new o) I f⟩
 ·rintro VD VC V N;obtain ⟨Vr,c⟩:=bl V N;clear N;refine ⟨c,?_⟩;refine aC (vf VC (by omega)) ?_;rintro y VG ⟨rfl,d⟩;refine ⟨_,rfl,c.new d,?_⟩;have a:=sh (Q.bx (c.new d)) F (t (ai.aj d Vr));refine aC a ?_;rintro y VB ⟨bj,rfl,f,s⟩;exact aG.aS bj ⟨rfl,(c.new d).new s,fin (c.new d) s f⟩
theorem DR {p:aJ} (h:∀ x ∈ hz p,b8 x):∀ x ∈ ir p,b8 x:=λx a=>by
 unfold ir at a;rcases e9.1 a with rfl | a
 ·exact L0 _
 ·exact h x a
theorem Ck (h:e5 w0 w aY tb r bO j) (ar:∀ p ∈ j.writes,∀ x ∈ hz p,b8 x) (Y:ec m.ck) :
  a_ 217 [ptr aY,m.val] w λy w'=>∃ (a:al) (cap:Nat),y=.slice a j.writes.length cap/\bH w w' a j.writes.length cap (j.writes.map (js j m))/\ai w w':=by
 refine bc Tryz.func217 ?_;rw [ptr,Se];rintro b1 w1 W S;obtain ⟨c,F⟩:=bl W S;have c:av w1 b1 m.cells eH:=c;clear S;have VA:=h.bx F;have hlen:=h.bN.bS.len;have VP:=h.cj.sM;have VR:=F.size;refine ⟨_,_,_,VA.aj.cell (i:=6) rfl,?_⟩;refine c2 mix (λq env u=>∃ (i:Nat) (pa:al) (pc:Nat) (VF:ax),q=j.writes.length - i/\i<=j.writes.length/\env=wo ⟨aY,0,none⟩ ⟨b1,0,none⟩ pa i pc r.ei r.dI r.gq r.dI i VF/\ai w u/\bH w u pa i pc ((j.writes.take i).map (js j m))/\av u b1 m.cells eH/\e5 w0 u aY tb r bO j) j.writes.length
  ⟨0,none,0,_,rfl,by omega,rfl,F,bH.nil _ _,c,VA⟩ ?_
 rintro q env u ⟨i,pa,pc,VF,rfl,VY,rfl,H,l,c,D⟩;rw [P0,hlen];have M:ai w0 u:=h.new.new H;refine a' (λVQ=>?_) (λVO=>?_)
 ·obtain ⟨p,Vu⟩:∃ p,j.writes[i]?=some p:=⟨_,bF (by omega)⟩;have z:=cg Vu;have Q:=h.cj.wl p z;have Vv:=h.cj.GQ p z;have Vw:=h.bN.bS.u64 p z;refine eo (cells:=aJ.cells) aJ.len (by omega) (h.bN.bS.rd.new M) Vu rfl rfl λb o Z _=>aJ.aS p ⟨Z,?_⟩
  refine ea (vs:=p.cells) rfl (aJ.single _) λVI VT VM n J=>?_
  refine aJ.aS p ⟨bK n rfl,?_⟩;refine aC (BR VT p Vw Vv.2) ?_;rintro y bu ⟨aa,ac,rfl,K,A,VL⟩;refine ⟨_,_,_,_,rfl,?_⟩;rintro VG T;have G:ai bu VG:=by rw [T];exact cD _
  clear T;have f:=K.new G;have d:=(J.new K).new G;refine ⟨λy=>av y VI p.cells ep/\av y b1 m.cells eH,⟨ai.aj f n,ai.aj d c⟩,aZ.aS m ⟨λy Vz=>bK Vz.2 rfl,_,λy Vz=>Vz.1.cell (i:=0) rfl,?_⟩⟩;refine aC (q4 VG Q.1 Q.2) ?_;rintro y VU ⟨rfl,rfl⟩;refine ⟨_,rfl,⟨ai.aj f n,ai.aj d c⟩,?_⟩;have Vy:cE (λ_=>False) VU ⟨2,0,p.bn * 8,0,0,0,aa,8,ac,0,0⟩ ⟨2,0,p.bn * 8,0,0,0,ir p,0,0⟩:=pK (a2.new G A).rd (by rfl) (a2.le A) (λe=>by
   obtain ⟨_,VK⟩:=A;rcases VK with ⟨VZ,_,_⟩ | ⟨g,cur,VN,_⟩
   ·omega
   ·rw [VN] at e;cases e) (DR (ar p z)) (by simp [ir,hz]) hd hd
  have B:=sh (D.bx d) Y Vy;refine aC B ?_;rintro y VV ⟨bj,rfl,Vx,t⟩;have s:=d.new t;refine aG.aS bj ⟨rfl,⟨ai.aj (f.new t) n,ai.aj s c⟩,?_⟩;have R:=l.new d;rintro VX VW X U;have L:ai VV VW:=by rw [U];exact hk _ _
  refine ⟨⟨ai.aj ((f.new t).new L) n,ai.aj (s.new L) c⟩,?_⟩;have VE:=n.lt;have VD:=c.lt;have P:∀ k,aK pa k->k<u.heap.size:=λk V=>by obtain ⟨cf,N,_⟩:=l.ex;exact N.lt V
  have VS:=J.size;refine bH.lN R (H.new d) t Vx (by omega) X U λap I u8 VB E Vt=>?_
  have O:¬ aK pa b1:=λe=>by have VC:=l.ex;obtain ⟨cf,N,_⟩:=VC;obtain ⟨cs,C⟩:=fI N e;exact absurd (C.ne c (by decide)) (λVr=>Vr rfl)
  have VH:av u8 b1 m.cells eH:=E.aj (ai.aj s c) O;refine ⟨⟨E.aj (ai.aj (f.new t) n) λe=>by have:=P _ e;omega,VH⟩,?_⟩;rw [bC (x:=(i:Int)+1) (by omega) (by omega)];have e:(j.writes.take i).map (js j m)++[addr j.v.number m ⟨2,0,p.bn * 8,0,0,0,ir p,0,0⟩]=(j.writes.take (i+1)).map (js j m):=by rw [e7,Vu];simp [js]
  rw [e] at VB;refine ⟨j.writes.length - (i+1),by omega,i+1,ap,I,_,rfl,by omega,by rw [<-hlen];rfl,Vt,VB,VH,(D.bx s).az E λk V=>?_⟩;have VC:=l.f9 k V;have VJ:=h.new.size;refine ⟨by omega,λe=>?_⟩
  obtain ⟨cf,N,_⟩:=l.ex;obtain ⟨cs,C⟩:=fI N V;exact absurd (e▸C |>.ne D.aj (by decide)) (λVr=>Vr rfl)
 ·have Vs:i=j.writes.length:=by omega
  subst Vs;rw [QH];rw [hv] at l;exact ⟨pa,pc,rfl,l,H⟩
end
end Go.Proofs.YtmkljjbioomepaaGreat
