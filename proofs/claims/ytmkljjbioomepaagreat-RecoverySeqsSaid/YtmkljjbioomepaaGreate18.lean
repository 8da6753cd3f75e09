import Derived.Test.YtmkljjbioomepaaGreate17
import Derived.Test.YtmkljjbioomepaaGreatProg
import Derived.Test.YtmkljjbioomepaaGreate03
set_option linter.all false
set_option maxHeartbeats 4000000
set_option maxRecDepth 100000
namespace Go.Proofs.YtmkljjbioomepaaGreat
open Go.Proofs.Tryz Go.bn
variable {M:a2} {a:an} {c cap aT n tb:Nat} {lines seq:Int} {u bo bH w w0:al}
section
theorem kl {b i:Nat} {cs:aw} {T:TypeId} {v x:a0} {K:aE} (a:av u b cs T) (c:cs[i]?=some x) (d:∀ w',av w' b (cs.set i v) T->ao (λk=>k=b) u w'->K w') :
  (∃ y,u.cell? ⟨b,i,none⟩=some y)/\u.frozen? ⟨b,i,none⟩=false/\∀ w',w'=u.setCell ⟨b,i,none⟩ v->K w':=
 ⟨⟨x,a.cell c⟩,a.frozen,λw' e=>by subst e;exact d _ (a.setCell v) (eA _ _ _ _)⟩
def addr (num:Int) (m:aO) (x:aG):aG:={ x with node:=m.Node,dQ:=m.ch,key:=pK num }
theorem Ge (w:al) {r:cO} {m:aO} (Us:0<=r.Number) (Ut:r.Number<16) (X:dO m.ch) {v:aF} {x:aG} (aj:cA M w v x) :
  ba 241 [r.val,m.val,.bool true,v.val] w λy w'=>∃ Up:aF,y=Up.val/\cA (λk=>k<w.heap.size) w' Up (addr r.Number m x)/\ai w w':=by
 refine bc Tryz.func241 ?_;rw [TJ];rintro b1 w1 T J;obtain ⟨q,H⟩:=bk T J;have q:av w1 b1 r.cells mu:=q;clear J;rintro az UG U K;obtain ⟨s,D⟩:=bk U K;have s:av UG az m.cells ed:=s;clear K;rintro R UH V L;obtain ⟨t,p⟩:=bk V L;have t:av UH R v.cells cr:=t;clear L;rintro S Uq W N;obtain ⟨u,l⟩:=bk W N;have u:av Uq S (aF.cells ⟨0,0,0,0,0,0,none,0,0,0,0⟩) cr:=u;clear N;rintro UI O;have c:ai Uq UI:=by rw [O];exact cL _
 clear O;have Uz:=H.size;have UA:=D.size;have UB:=p.size;have UC:=l.size;have UD:=c.size;have Uv:=q.lt;have Uw:=s.lt;have Ux:=t.lt;have Uy:=u.lt;have G:=(((H.new D).new p).new l).new c;have Un:=ai.ak (((D.new p).new l).new c) q;have Ur:=ai.ak ((p.new l).new c) s;have d:=ai.ak (l.new c) t;have Q:=ai.ak c u;refine ⟨λy=>av y az m.cells ed,Ur,_,λy Uj=>Uj.cell (i:=0) rfl,_,λy Uj=>Uj.cell (i:=1) rfl,kl d (i:=1) rfl λUM d E=>⟨E.ak Ur (by omega),kl d (i:=8) rfl λUJ d Z=>?_⟩⟩;have b:=E.trans Z λ_ _ e=>e
 have Un:=b.ak Un (by omega);refine ⟨_,Un.cell (i:=0) rfl,?_⟩;refine aD (NL UJ Us Ut) ?_;rintro z UN ⟨rfl,rfl⟩;refine ⟨_,_,rfl,kl d (i:=7) rfl λUm d C=>⟨_,_,_,d.cell (i:=6) rfl,?_⟩⟩;have g:ai w Um:=G.trans (b.trans C λ_ _ e=>e) λk F e=>by omega
 have P:v.cG=x.words.length:=by rw [aj.eq];rfl
 refine aD (zm (xs:=us x.words) (by rw [hg,P]) (aj.rd.new g) (oB _) (by have:=aj.ko;omega) (λe=>by rw [P,aj.nil e];rfl)) ?_;rintro z UF ⟨B,cap,rfl,j,o,Y,I⟩;have UE:=g.size;have Uo:=(b.trans C λ_ _ e=>e).size;refine ⟨_,_,_,rfl,kl (ai.ak j d) (i:=6) rfl λUk d f=>?_⟩;have Q:=f.ak (ai.ak j ((b.trans C λ_ _ e=>e).ak Q (by omega))) (show ¬ S=R by omega);have d:av Uk R (aF.cells { v with Node:=m.Node,ch:=m.ch,Key:=pK r.Number,Words:=B,cy:=cap }) cr:=d;refine aF.aS _ ⟨bI d rfl,dC Q rfl (aF.single _) λUl Q A=>?_⟩;refine aF.aS _ ⟨bI Q rfl,rfl,_,rfl,?_,((g.new j).trans f λk F e=>by omega).trans A λk F e=>by omega⟩;have n:us x.words=[]\/fM (λk=>k<Um.heap.size) B:=g0 o.rd λk Uu e=>by have:=Y k Uu;omega
 have Ui:bg Ul B (us x.words):=(o.rd.ax f (n.imp id λh=>by
  cases B with
  |none=>trivial
  |some a=>exact λe=>h (by have e:a.block=R:=e;omega))).ax A (n.imp id λh=>by
  cases B with
  |none=>trivial
  |some a=>exact λe=>h (by have e:a.block=S:=e;omega))
 refine ⟨?_,Ui,λe=>aj.nil (I.1 e),?_,aj.wf,aj.new,aj.old,?_,X,aY.le o,aj.ko⟩
 ·show ({ v with Node:=m.Node,ch:=m.ch,Key:=pK r.Number,Words:=B,cy:=cap }:aF)=_;have e:=aj.eq;generalize v.Words=UK at e;generalize v.cy=UL at e;subst e;rfl
 ·rcases n with h | h
  ·left;have:=congrArg List.length h;rw [hg] at this;exact fb this
  ·right;cases B with
   |none=>trivial
   |some a=>exact λe=>h (by have e:a.block<w.heap.size:=e;show a.block<Um.heap.size;omega)
 ·show b3 (pK r.Number);unfold pK b3;omega
theorem AH (l:List aO):∀ r ∈ fW l,r.length=3:=by intro r a;obtain ⟨x,_,rfl⟩:=cD.1 a;rfl
theorem Ha (l:List aO):∀ u ∈ (fW l).flatten,single u=true:=by intro u hu;obtain ⟨r,a,b⟩:=kZ.1 hu;obtain ⟨y,_,rfl⟩:=cD.1 a;exact aO.single y u b
theorem KR {vs:List aO} (h:vs.length=n) (r:bg w a (fW vs).flatten) (s:n<=1000000) (l:a=none->n=0) :
  ba 243 [.slice a n c] w λv w'=>∃ e cap,v=.slice e n cap/\r6 w w' ed 3 a e n cap (fW vs).flatten:=by
 refine bc Tryz.func243 ?_;rw [OW];obtain ⟨i,p,au,d,g⟩:=fp (T:=ed) (z:=.agg #[.int .i64 0,.int .i64 0,.bool false]) (n:=3) (m:=24) (by kernel_rfl);cases a with
 |none=>
  refine fK rfl ⟨none,0,by rw [l rfl],ao.refl _ _,?_,?_,by simp⟩
  ·rw [l rfl] at h ⊢;rw [fb h];exact aY.nil _ _ _
  ·rintro k ⟨o,q⟩;cases q
 |some a=>refine dw rfl ?_;rintro b1 w1 rfl rfl;obtain ⟨e,b,w',f,j⟩:=v9 (t:=33) (ty:=33) (n:=n) (c:=c) (w:=w) (a:=a) (xs:=(fW vs).flatten) Tryz.underlying33 p au (by rw [d];rfl) (by omega) (by rw [lN (AH vs),d,fW,fc,h]) r (Ha vs) (by omega) (by rw [g];omega);exact ⟨e,n,b,w',f,e,b,rfl,by rw [d] at j;exact j⟩
theorem AI {r:cO} {v:iI} (h:fG M w r v) {m:aO} (hm:v.mem[0]?=some m):ba 125 [r.val] w λx w'=>x=.tuple #[m.val,.bool true]/\ai w w':=by
 refine bc Tryz.func125 ?_;rw [TG];rintro b1 w1 p l;obtain ⟨d,g⟩:=bk p l;have d:av w1 b1 r.cells mu:=d;clear l;rintro az B q n;obtain ⟨f,j⟩:=bk q n;have f:av B az (aO.cells jn) ed:=f;clear n;have c:=ai.ak j d;have a:=g.new j;have A:=g.size;have C:=cz hm;have y:=h.len;refine ⟨_,_,_,c.cell (i:=1) rfl,dJ (λe=>absurd e (by omega)) (λ_=>⟨_,_,_,c.cell (i:=1) rfl,?_⟩)⟩;refine ew (cells:=aO.cells) aO.len (by omega) (i:=0) (h.rd.new a) hm rfl y λb o s _=>aO.aS m ⟨s,dC f rfl (aO.single _) λD u t=>?_⟩
 exact aO.aS m ⟨bI u rfl,rfl,rfl,a.trans t λk z e=>by omega⟩
theorem AJ {r:cO} {v:iI} (h:fG M w r v) (B:0<v.mem.length):ba 216 [r.val] w λy w'=>∃ (a:an) (cap:Nat),y=.slice a (v.mem.length - 1) cap/\ai w w'/\bg w' a (fW v.mem.tail).flatten:=by
 refine bc Tryz.func216 ?_;rw [TI];rintro b1 w1 l j;obtain ⟨c,f⟩:=bk l j;have c:av w1 b1 r.cells mu:=c;clear j;have hlen:=h.len;have t:=h.cap;have C:=h.small;refine ⟨_,_,_,c.cell (i:=1) rfl,dJ (λe=>absurd e (by omega)) (λ_=>⟨_,_,_,c.cell (i:=1) rfl,?_⟩)⟩;have q:=h.rd.new f;have n:(fW v.mem).flatten.length=v.mem.length * 3:=by rw [lN (AH _),fW,fc]
 obtain ⟨b,o,k⟩:∃ b o,r.e8=some ⟨b,o,none⟩:=by
  rcases q with he | ⟨b,o,e,_⟩
  ·have:=congrArg List.length he;rw [n] at this;simp at this <;> omega
  ·exact ⟨b,o,e⟩
 rw [k] at q ⊢;rw [hlen];have s:(fW v.mem.tail).flatten=((fW v.mem).flatten).drop 3:=by
  cases D:v.mem with
  |nil=>rfl
  |cons x xs=>rfl
 refine kc (by omega) (by omega) (by omega) (by omega) (by omega) λa A=>?_
 have d:bg w1 a (fW v.mem.tail).flatten/\a≠none:=by
  rcases A with rfl | ⟨e,rfl⟩
  ·refine ⟨?_,by simp⟩;rw [s];exact q.drop 3
  ·refine ⟨?_,by simp⟩;have:v.mem.tail=[]:=fb (by rw [n0];omega);rw [this];exact .inl rfl
 have z:Int.toNat (v.mem.length:Int) - Int.toNat 1=v.mem.length - 1:=by omega
 rw [z];refine aD (KR (vs:=v.mem.tail) (by rw [n0]) d.1 (by omega) (λe=>absurd e d.2)) ?_;rintro y E ⟨u,cap,rfl,p,g,_⟩;exact ⟨_,_,_,rfl,u,cap,rfl,f.new p,g.rd⟩
structure bD (w0 u:al) (a:an) (n cap:Nat) (vs:List aG):Prop where
 ex:∃ E8:List aF,aY u cr 9 a n cap (dz E8).flatten/\dX (λk=>k<w0.heap.size\/aL a k) u E8 vs
 len:n=vs.length
 fO:∀ k,aL a k->w0.heap.size<=k
theorem bD.nil (w0 u:al):bD w0 u none 0 0 []:=⟨⟨[],aY.nil _ _ _,rfl,λi v x h=>by simp at h⟩,rfl,λk a=>absurd a mM⟩
theorem bD.new {w0 u bo:al} {a:an} {n cap:Nat} {vs:List aG} (h:bD w0 u a n cap vs) (c:ai u bo):bD w0 bo a n cap vs:=by obtain ⟨⟨b,g,aj⟩,f,d⟩:=h;exact ⟨⟨b,aY.new c g,aj.ax (ao.bZ c) λ_ _ e=>e⟩,f,d⟩
theorem bD.ax {w0 u bo:al} {a:an} {n cap:Nat} {vs:List aG} (h:bD w0 u a n cap vs) {M:a2} (c:ao M u bo) (d:∀ k,M k->k<w0.heap.size):bD w0 bo a n cap vs:=by obtain ⟨⟨b,i,aj⟩,g,f⟩:=h;refine ⟨⟨b,i.ax c λk c e=>?_,aj.ax (c.mono λk _ e=>.inl (d k e)) λ_ _ e=>e⟩,g,f⟩;have:=f k c;have:=d k e;omega
theorem bD.mono {w1:al} {vs:List aG} (h:bD w1 u a n cap vs) (i:w0.heap.size<=w1.heap.size):bD w0 u a n cap vs:=by obtain ⟨⟨b,g,aj⟩,f,c⟩:=h;exact ⟨⟨b,g,aj.ax (ao.refl _ _) λk _ e=>e.imp (λe=>by omega) id⟩,f,λk d=>by have:=c k d;omega⟩
theorem dX.app {r1 b:List aF} {v1 v2:List aG} (e:dX M w r1 v1) (f:dX M w b v2):dX M w (r1++b) (v1++v2):=by
 obtain ⟨b6,c⟩:=e;obtain ⟨l2,d⟩:=f;refine ⟨by simp [b6,l2],λi v x aj a=>?_⟩;by_cases g:i<r1.length
 ·rw [jd g] at aj;rw [jd (by omega)] at a;exact c i v x aj a
 ·rw [jv (by omega)] at aj;rw [jv (by omega)] at a;rw [<-b6] at a;exact d _ v x aj a
theorem dX.one {v:aF} {x:aG} (h:cA M w v x):dX M w [v] [x]:=⟨rfl,λi c jc a b=>by
 cases i with
 |zero=>simp at a b;subst a b;exact h
 |succ i=>simp at a⟩
theorem bD.nI {vs:List aG} (h:bD w0 u a n cap vs) (j:ai w0 u) (hu:ai u bH) {v:aF} {x:aG} (aj:cA (λk=>k<u.heap.size) bH v x) (I:n<=100000) {K:Nat->an->Nat->Nat->aE}
  (t:∀ b ap f i,b=bH.heap.size->bD w0 i ap (n+1) f (vs++[x])->ao (aL a) bH i->ai w0 i->K b ap (n+1) f i) :
  ∀ b1 B,b1=bH.heap.size->B=bH.alloc (.cells v.cells.toArray cr)->∃ (ap:an) (d c:Nat),∃ i,(Builtin.append_ #[fV,fV] fV #[(.slice a n cap),(.slice (some ⟨b1,0,none⟩) 1 1)]).run prog B=.ok (.slice ap d c) i/\K b1 ap d c i:=by
 obtain ⟨⟨s,A,z⟩,F,p⟩:=h;have C:=j.new hu;have G:=j.size;have H:=hu.size;refine Lp (aY.new hu A) (v:=v) (by omega) λb ap f i E D g l=>?_
 have o:∀ k,aL ap k->w0.heap.size<=k:=λk t=>by
  rcases l k t with e | e
  ·exact p k e
  ·omega
 refine t b ap f i E ⟨⟨s++[v],by rw [FQ];simpa [dz] using D,?_⟩,by rw [c8,F];rfl,o⟩ g (C.trans g λk q e=>by have:=p k e;omega);have r:∀ k,k<bH.heap.size->(k<w0.heap.size\/aL ap k)->(k<w0.heap.size\/aL a k):=λk q e=>e.imp id λe=>by
  rcases l k e with e | e
  ·exact e
  ·omega
 have w:=z.ax (M':=λk=>k<w0.heap.size\/aL a k) (ao.bZ hu) λ_ _ e=>e
 refine dX.app (w.ax (g.mono λk _ e=>.inr e) r) (dX.one ?_);have y:cA (λk=>k<w0.heap.size\/aL a k) bH v x:=aj.ax (ao.refl _ _) λk q e=>by
  rcases e with e | e
  ·omega
  ·exact A.lt e
 exact y.ax (g.mono λk _ e=>.inr e) r
theorem bD.lk {vs:List aG} (h:bD w0 u a n cap vs) (i:ai w0 u) (hu:ai u bH) {v:aF} {x:aG} (aj:cA (λk=>k<u.heap.size) bH v x) (r:n<=100000) {b1:Nat} {j:al} (q:b1=bH.heap.size) (hw:j=bH.alloc (.cells v.cells.toArray cr)) {K:an->Nat->Nat->aE}
  (s:∀ ap f g,bD w0 g ap (n+1) f (vs++[x])->ao (aL a) bH g->ai w0 g->K ap (n+1) f g) :
  ∃ (ap:an) (e d:Nat),∃ g,(Builtin.append_ #[fV,fV] fV #[(.slice a n cap),(.slice (some ⟨b1,0,none⟩) 1 1)]).run prog j=.ok (.slice ap e d) g/\K ap e d g:=
 bD.nI h i hu aj r (K:=λ_ ap n c w=>K ap n c w) (λb ap f g _ l o p=>s ap f g l o p) b1 j q hw
end
section
open IntKind
variable (w:al) (R:cp) {a b c d:Nat} {A B:aV} {s t:an} {i k:Int} {j:aq}
theorem RA:bd prog f172 [a' a] R w=(aQ w #[ab 0,ab 0] 171 λo t=>cu t λu l=>cP l (af a 0) λj=>tc l (af a 0) λs=>cm 209 #[ab j] u λb r=>l r/\EW 168 #[s.val] r λh n=>l n/\eF 210 #[h.val] n λc d f p=>l p/\Calls prog 208 #[a' a,ab b,ae c d f,ab 1] p λe q=>bq.ex λi=>∃ g,e=.returned (.tuple #[i.val,ad g])/\l q/\a_ q (af o 0) 0 i.cells λm=>dH m (af o 0) λk=>m=m/\R (.tuple #[k.val,ad g]) m):=by kernel_rfl
theorem RB:bd prog f174 [a' a] R w=(aQ w #[ab 0,ab 0] 171 λl m=>bG m (af a 1) λj=>g6 214 #[ab j] m λb c n=>bG n (af a 0) λd=>cm 215 #[ab d] n λf r=>aQ r #[ah b] 30 λq o=>Calls prog 208 #[a' a,ab f,ae (bj q) 1 1,ab 2] o λe p=>bq.ex λh=>∃ g,e=.returned (.tuple #[h.val,ad g])/\a_ p (af l 0) 0 h.cells λk=>dH k (af l 0) λi=>k=k/\R (.tuple #[i.val,ad g]) k):=by kernel_rfl
def sG (e s2:aV) (i:an) (a b:Nat) (c:an) (d f:Nat) (g h:Int) (j:aq):aq:=.pointer (some e)::ag j 0 1 (.pointer (some s2)::ag j 1 1 (ae i a b::ag j 2 10 (ae c d f::ab g::ab h::ag j 12 31 [])))
def D0 (a b:aV) (e:an) (c d:Nat) (j:aq):aq:=.pointer (some a)::ag j 0 1 (.pointer (some b)::ag j 1 1 (ae e c d::ag j 2 44 []))
theorem Qq:bd prog f175 [a' a] R w=(aQ w #[ab 0,ab 0] 171 λh f=>lo f (af a 3) λd=>eF 216 #[d.val] f λe b c g=>cx prog (cY f175 [1,1,0,1,0,0]) (sG (af a 0) (af h 0) none 0 0 e b c (b:Nat) 0 (undef::ad false::bx 5 (jp (af a 0)::jp (af a 0)::jp (af a 0)::jp (af a 3)::d.val::bx 31 []))) (aW 0 (aZ f175 [1,1,1] R)) g):=by kernel_rfl
theorem O' (C:aq->aE):W prog (sb f175 [1,1,0,1,0,0]) (sG A B s a b t c d i k j) (a1 C (aW 0 (aZ f175 [1,1,1] R))) w=(cond (k<i) (bB t c k 3 λD=>hX w D λr=>aQ w #[ab 0,ab 0,ad false] 116 λy a8=>a_ a8 (af y 0) 0 r.cells λz=>b0 z (bS A 6) λg h l=>cond ((h:Int)>0) (hX z (af y 0) λH=>eF 217 #[.pointer (some A),H.val] z λm n o M=>cZ 125 (ae s a b) (ae m n o) M λu p q E=>hX E (af y 0) λF=>eh 218 #[.pointer (some A),F.val] E λx a5=>aQ a5 x.cells.toArray 158 λG L=>cZ 125 (ae u p q) (ae (bj G) 1 1) L λe f v K=>C (sG A B e f v t c d i (i64.wrap (k+1)) (aN j 0::aN j 1::aN j 2::jp (af y 0)::ag j 4 8 (ad (k<i)::jp D::r.val::jp A::jp A::jp A::bE A 6::ae g h l::du h::ad ((h:Int)>0)::ae s a b::jp A::H.val::ae m n o::ae u p q::ae u p q::jp A::F.val::x.val::ae (bj G) 1 1::ae e f v::ab (i64.wrap (k+1))::ag j 34 9 []))) K) (C (sG A B s a b t c d i (i64.wrap (k+1)) (aN j 0::aN j 1::aN j 2::jp (af y 0)::ag j 4 8 (ad (k<i)::jp D::r.val::jp A::jp A::jp A::bE A 6::ae g h l::du h::ad ((h:Int)>0)::ag j 22 11 (ab (i64.wrap (k+1))::ag j 34 9 [])))) z)) (W prog (sb f175 [1,1,1]) (D0 A B s a b (ag j 0 12 (ae t c d::ab i::ab k::ad (k<i)::ag j 13 30 []))) (bW f175 R) w)):=by kernel_rfl
theorem Pj:W prog (sb f175 [1,1,1]) (D0 A B s a b j) (bW f175 R) w=(Calls prog 213 #[.pointer (some A),ae s a b,ab 3] w λe o=>∃ f g h,bq.ex λk=>∃ i,e=.returned (.tuple #[ae f g h,k.val,ad i])/\aQ o #[ab 0,ab 0] 171 λd n=>a_ n (af d 0) 0 k.cells λm=>dH m (af d 0) λr=>a_ m B 0 r.cells λc=>dH c B λl=>c=c/\R (.tuple #[l.val,ad i]) c):=by kernel_rfl
theorem QA:bd prog f176 [a' a] R w=(aQ w #[ab 0,ab 0] 171 λC I=>b0 I (af a 6) λj b c=>cond ((b:Int) == 0) (a_ I (af C 0) 0 [ab 0,ab 0] λX=>dH X (af C 0) λVu=>X=X/\R (.tuple #[Vu.val,ad true]) X) (cu I λWa u=>gO u (af a 8) λV6=>gO u (af a 8) λG=>(eh 218 #[a' a,V6.val] Wa λH W1=>u W1/\(aQ W1 H.cells.toArray 158 λW5 W9=>u W9/\(eF 217 #[a' a,G.val] W9 λd f g W3=>u W3/\(cZ 125 (ae (bj W5) 1 1) (ae d f g) W3 λWk h i W2=>u W2/\(Calls prog 213 #[a' a,ae Wk h i,ab 3] W2 λe Wd=>∃ (k:an) (l m:Nat),bq.ex λWU=>∃ (n:Bool),e=.returned (.tuple #[ae k l m,WU.val,ad n])/\u Wd/\aQ Wd #[ab 0,ab 0] 171 λWj V8=>u V8/\a_ V8 (af Wj 0) 0 WU.cells λV3=>dH V3 (af Wj 0) λr=>a_ V3 (af C 0) 0 r.cells λZ=>dH Z (af C 0) λUQ=>Z=Z/\R (.tuple #[UQ.val,ad n]) Z)/\aQ W2 #[ab 0,ab 0] 171 λVN VD=>u VD/\Calls prog 213 #[a' a,ae Wk h i,ab 3] VD λe WM=>∃ (o:an) (p q:Nat),bq.ex λVV=>∃ (s:Bool),e=.returned (.tuple #[ae o p q,VV.val,ad s])/\u WM/\a_ WM (af VN 0) 0 VV.cells λVW=>dH VW (af VN 0) λUH=>a_ VW (af C 0) 0 UH.cells λP=>dH P (af C 0) λUp=>P=P/\R (.tuple #[Up.val,ad s]) P)/\aQ W3 #[ab 0,ab 0] 171 λWs WB=>u WB/\cZ 125 (ae (bj W5) 1 1) (ae d f g) WB λt v x Wy=>u Wy/\Calls prog 213 #[a' a,ae t v x,ab 3] Wy λe We=>∃ (y:an) (z U2:Nat),bq.ex λWW=>∃ (WF:Bool),e=.returned (.tuple #[ae y z U2,WW.val,ad WF])/\u We/\a_ We (af Ws 0) 0 WW.cells λE=>dH E (af Ws 0) λVq=>a_ E (af C 0) 0 Vq.cells λN=>dH N (af C 0) λUJ=>N=N/\R (.tuple #[UJ.val,ad WF]) N)/\aQ W9 #[ab 0,ab 0] 171 λV2 VX=>u VX/\eF 217 #[a' a,G.val] VX λUt Vv U_ Wh=>u Wh/\cZ 125 (ae (bj W5) 1 1) (ae Ut Vv U_) Wh λUz Uu Vd WY=>u WY/\Calls prog 213 #[a' a,ae Uz Uu Vd,ab 3] WY λe VS=>∃ (Ve:an) (Ux Va:Nat),bq.ex λWP=>∃ (A:Bool),e=.returned (.tuple #[ae Ve Ux Va,WP.val,ad A])/\u VS/\a_ VS (af V2 0) 0 WP.cells λVT=>dH VT (af V2 0) λVp=>a_ VT (af C 0) 0 Vp.cells λa8=>dH a8 (af C 0) λVj=>a8=a8/\R (.tuple #[Vj.val,ad A]) a8)/\(eF 217 #[a' a,G.val] W1 λiB J W4 W8=>u W8/\(aQ W8 H.cells.toArray 158 λWb W6=>u W6/\(cZ 125 (ae (bj Wb) 1 1) (ae iB J W4) W6 λV' WC WS D=>u D/\(Calls prog 213 #[a' a,ae V' WC WS,ab 3] D λe V1=>∃ (Ur:an) (VF VL:Nat),bq.ex λVP=>∃ (F:Bool),e=.returned (.tuple #[ae Ur VF VL,VP.val,ad F])/\u V1/\aQ V1 #[ab 0,ab 0] 171 λV4 WD=>u WD/\a_ WD (af V4 0) 0 VP.cells λWf=>dH Wf (af V4 0) λVm=>a_ Wf (af C 0) 0 Vm.cells λL=>dH L (af C 0) λU4=>L=L/\R (.tuple #[U4.val,ad F]) L)/\aQ D #[ab 0,ab 0] 171 λV0 Wo=>u Wo/\Calls prog 213 #[a' a,ae V' WC WS,ab 3] Wo λe VY=>∃ (UW:an) (Uy UK:Nat),bq.ex λWZ=>∃ (UM:Bool),e=.returned (.tuple #[ae UW Uy UK,WZ.val,ad UM])/\u VY/\a_ VY (af V0 0) 0 WZ.cells λV7=>dH V7 (af V0 0) λVB=>a_ V7 (af C 0) 0 VB.cells λY=>dH Y (af C 0) λUC=>Y=Y/\R (.tuple #[UC.val,ad UM]) Y)/\aQ W6 #[ab 0,ab 0] 171 λVs Wt=>u Wt/\cZ 125 (ae (bj Wb) 1 1) (ae iB J W4) Wt λUs Vw Vr Wz=>u Wz/\Calls prog 213 #[a' a,ae Us Vw Vr,ab 3] Wz λe Wv=>∃ (Vx:an) (VI Uk:Nat),bq.ex λWw=>∃ (VO:Bool),e=.returned (.tuple #[ae Vx VI Uk,Ww.val,ad VO])/\u Wv/\a_ Wv (af Vs 0) 0 Ww.cells λWm=>dH Wm (af Vs 0) λUn=>a_ Wm (af C 0) 0 Un.cells λK=>dH K (af C 0) λU'=>K=K/\R (.tuple #[U'.val,ad VO]) K)/\aQ W8 #[ab 0,ab 0] 171 λV9 Wg=>u Wg/\aQ Wg H.cells.toArray 158 λU1 VZ=>u VZ/\cZ 125 (ae (bj U1) 1 1) (ae iB J W4) VZ λUO UD VC VQ=>u VQ/\Calls prog 213 #[a' a,ae UO UD VC,ab 3] VQ λe UX=>∃ (Vk:an) (Ui Um:Nat),bq.ex λWl=>∃ (Wn:Bool),e=.returned (.tuple #[ae Vk Ui Um,Wl.val,ad Wn])/\u UX/\a_ UX (af V9 0) 0 Wl.cells λWQ=>dH WQ (af V9 0) λUN=>a_ WQ (af C 0) 0 UN.cells λO=>dH O (af C 0) λXa=>O=O/\R (.tuple #[Xa.val,ad Wn]) O)/\aQ W1 #[ab 0,ab 0] 171 λV W=>u W/\(aQ W H.cells.toArray 158 λUl WJ=>u WJ/\eF 217 #[a' a,G.val] WJ λVy UF Vn Wc=>u Wc/\cZ 125 (ae (bj Ul) 1 1) (ae Vy UF Vn) Wc λUT Uo Uw U8=>u U8/\Calls prog 213 #[a' a,ae UT Uo Uw,ab 3] U8 λe V5=>∃ (Vc:an) (VM UP:Nat),bq.ex λWq=>∃ (Wx:Bool),e=.returned (.tuple #[ae Vc VM UP,Wq.val,ad Wx])/\u V5/\a_ V5 (af V 0) 0 Wq.cells λUB=>dH UB (af V 0) λUR=>a_ UB (af C 0) 0 UR.cells λa5=>dH a5 (af C 0) λUv=>a5=a5/\R (.tuple #[Uv.val,ad Wx]) a5)/\eF 217 #[a' a,G.val] W λVG Vz VA W0=>u W0/\aQ W0 H.cells.toArray 158 λVJ WX=>u WX/\cZ 125 (ae (bj VJ) 1 1) (ae VG Vz VA) WX λUV VK Vt WV=>u WV/\Calls prog 213 #[a' a,ae UV VK Vt,ab 3] WV λe Xc=>∃ (Vi:an) (U3 UL:Nat),bq.ex λVh=>∃ (VU:Bool),e=.returned (.tuple #[ae Vi U3 UL,Vh.val,ad VU])/\u Xc/\a_ Xc (af V 0) 0 Vh.cells λWp=>dH Wp (af V 0) λUY=>a_ Wp (af C 0) 0 UY.cells λM=>dH M (af C 0) λU9=>M=M/\R (.tuple #[U9.val,ad VU]) M)/\aQ Wa #[ab 0,ab 0] 171 λS WT=>u WT/\eh 218 #[a' a,V6.val] WT λWr W_=>u W_/\(aQ W_ Wr.cells.toArray 158 λU5 WR=>u WR/\eF 217 #[a' a,G.val] WR λUE UG Vb WI=>u WI/\cZ 125 (ae (bj U5) 1 1) (ae UE UG Vb) WI λB UA UZ Wi=>u Wi/\Calls prog 213 #[a' a,ae B UA UZ,ab 3] Wi λe WN=>∃ (U7:an) (VH Vg:Nat),bq.ex λWL=>∃ (Wu:Bool),e=.returned (.tuple #[ae U7 VH Vg,WL.val,ad Wu])/\u WN/\a_ WN (af S 0) 0 WL.cells λWH=>dH WH (af S 0) λVl=>a_ WH (af C 0) 0 Vl.cells λQ=>dH Q (af C 0) λVf=>Q=Q/\R (.tuple #[Vf.val,ad Wu]) Q)/\eF 217 #[a' a,G.val] W_ λXb UU Uj WG=>u WG/\aQ WG Wr.cells.toArray 158 λVE VR=>u VR/\cZ 125 (ae (bj VE) 1 1) (ae Xb UU Uj) VR λW7 Uq U WK=>u WK/\Calls prog 213 #[a' a,ae W7 Uq U,ab 3] WK λe V_=>∃ (Vo:an) (U6 U0:Nat),bq.ex λWE=>∃ (WO:Bool),e=.returned (.tuple #[ae Vo U6 U0,WE.val,ad WO])/\u V_/\a_ V_ (af S 0) 0 WE.cells λWA=>dH WA (af S 0) λUI=>a_ WA (af C 0) 0 UI.cells λT=>dH T (af C 0) λUS=>T=T/\R (.tuple #[US.val,ad WO]) T)):=by kernel_rfl
theorem Rp:bd prog f208 [a' a,ab i,ae s b c,ab k] R w=(aQ w #[ab 0,ab 0] 171 λt y=>b0 y (af a 6) λx d f=>cond ((d:Int) == 0) (a_ y (af t 0) 0 [ab 0,ab 0] λv=>dH v (af t 0) λo=>v=v/\R (.tuple #[o.val,ad true]) v) (eF 237 #[a' a,.agg #[ab 2,ab 0,ab i,ab 0,ah 0,ah 0,ae s b c,ah 0,ab 0]] y λg h j E=>Calls prog 213 #[a' a,ae g h j,ab k] E λe C=>∃ z l m,bq.ex λp=>∃ n,e=.returned (.tuple #[ae z l m,p.val,ad n])/\aQ C #[ab 0,ab 0] 171 λA D=>a_ D (af A 0) 0 p.cells λB=>dH B (af A 0) λr=>a_ B (af t 0) 0 r.cells λu=>dH u (af t 0) λq=>u=u/\R (.tuple #[q.val,ad n]) u)):=by kernel_rfl
end
section
structure Dp (j:b_):Prop where
 aP:0<=j.aP/\j.aP<6
 num:0<=j.v.number/\j.v.number<16
 mem:0<j.v.mem.length/\j.v.mem.length<=5
 dQ:∀ m ∈ j.v.mem,1<=m.ch/\m.ch<=31
 rK:j.writes.length<=12
 zg:j.reads.length<=24
 wr:j.writes≠[]->ff j.seq j.writes 256=0/\1<=j.seq/\j.seq<1073741824
 wl:∀ p ∈ j.writes,96<=p.bm/\p.bm<256
 FX:∀ p ∈ j.writes,l9 p.Head=true/\jI p.Head=true
 Sb:∀ s ∈ j.reads,96<=s.bm/\s.bm<256
theorem jD {W:List aR} (h:ff seq W lines=0):(98<=lines/\lines<=256)/\(1<=seq/\seq<1073741824/\1<=W.length/\W.length<=12)/\(∀ p ∈ W,96<=p.bm/\p.bm<lines)/\(∀ p ∈ W,l9 p.Head=true/\jI p.Head=true)/\(W.all λp=>hh p.bm lines)=true/\(List.range W.length).all (λi=>jg W i && hP (W.getD i hB))=true:=by
 unfold ff at h;split at h
 ·omega
 rename_i f;split at h
 ·omega
 rename_i g;split at h
 ·omega
 rename_i a;split at h
 ·omega
 rename_i b;have a:(W.all λp=>hh p.bm lines)=true:=o4 _▸a;have b:(List.range W.length).all (λi=>jg W i && hP (W.getD i hB))=true:=o4 _▸b;refine ⟨by omega,by omega,λp d=>?_,λp d=>?_,a,b⟩
 ·have:=gd.1 a p d;unfold hh at this;have:=of_decide_eq_true this;omega
 ·obtain ⟨i,e⟩:=List.getElem?_of_mem d;have c:=cz e;have:=gd.1 b i (dS.2 c);rw [nL e] at this;unfold hP at this;simp only [eH] at this;exact ⟨this.2.2,this.2.1⟩
theorem zr {W:List aR} (h:ff seq W lines=0):ff seq W 256=0:=by
 obtain ⟨e,f,b,_,g,c⟩:=jD h;have a:(W.all λp=>hh p.bm 256)=true:=gd.2 λp d=>by have:=b p d;unfold hh;exact decide_eq_true (by omega)
 unfold ff;rw [if_neg (by omega),if_neg (by omega),if_neg (by rw [a];simp),if_neg (by rw [c];simp)]
theorem CQ {l:List aO} (h:(List.range l.length).all (t8 n l)=true):l.length<=n:=by
 have key:∀ i,i<l.length->(i:Int)<=(l.getD i jn).Node/\(l.getD i jn).Node<n:=by
  intro i;induction i with
  |zero=>intro a;have:=gd.1 h 0 (dS.2 a);unfold t8 at this;simp at this ⊢;omega
  |succ i d=>intro a;have c:=d (by omega);have:=gd.1 h (i+1) (dS.2 a);unfold t8 at this;simp at this c ⊢;omega
 rcases wP l.length with b | b
 ·omega
 ·have:=key (l.length - 1) (by omega);omega
theorem Lt {j:b_} (h:j.valid=0):Dp j:=by
 unfold b_.valid at h;split at h
 ·omega
 rename_i k;split at h
 ·omega
 rename_i b;have b:j.v.valid 5=0:=by omega
 split at h
 ·omega
 rename_i i;split at h
 ·omega
 rename_i l;split at h
 ·omega
 rename_i w;split at h
 ·omega
 rename_i g;split at h
 ·omega
 rename_i x;have g:(j.reads.all λs=>hh s.bm j.lines)=true:=o4 _▸g;have hw:j.writes≠[]->ff j.seq j.writes j.lines=0:=λa=>by
  have:=r0.2 a;by_cases e:ff j.seq j.writes j.lines=0
  ·exact e
  ·exact absurd ⟨this,e⟩ l
 unfold iI.valid at b;split at b
 ·omega
 rename_i q;split at b
 ·omega
 rename_i r;split at b
 ·omega
 rename_i t;split at b
 ·omega
 rename_i d;split at b
 ·omega
 rename_i f;have f:j.v.mem.all l1=true:=by simpa using f
 have d:(List.range j.v.mem.length).all (t8 (5:Nat) j.v.mem)=true:=o4 _▸d;have u:=CQ d;have emp:∀ {P:aR->Prop},(j.writes≠[]->∀ p ∈ j.writes,P p)->∀ p ∈ j.writes,P p:=λn p c=>n (List.ne_nil_of_mem c) p c
 refine ⟨by omega,by omega,by omega,λm hm=>?_,?_,by omega,λa=>?_,emp λa p c=>?_,emp λa p c=>(jD (hw a)).2.2.2.1 p c,λs o=>?_⟩
 ·have:=gd.1 f m hm;unfold l1 at this;exact of_decide_eq_true this
 ·by_cases e:j.writes=[]
  ·rw [e];simp
  ·exact (jD (hw e)).2.1.2.2.2
 ·obtain ⟨_,b,_⟩:=jD (hw a);exact ⟨zr (hw a),b.1,b.2.1⟩
 ·obtain ⟨k,_,i,_⟩:=jD (hw a);have:=i p c;omega
 ·have:=gd.1 g s o;unfold hh at this;have:=of_decide_eq_true this;omega
abbrev lE:TypeId:=212
abbrev er:TypeId:=171
abbrev nx:TypeId:=30
def k_ (r:cU) (tb:Nat) (m:aO):aw:=r.cells++(ptr tb::m.cells)
structure eR (w0 u:al) (aT tb:Nat) (r:cU) (m:aO) (j:b_):Prop where
 ak:av u aT (k_ r tb m) lE
 bs:oW w0 r j
 ca:Dp j
 mem:j.v.mem[0]?=some m
 new:ai w0 u
 DQ:w0.heap.size<=aT
 ki:w0.heap.size<=tb
 ne:aT≠tb
theorem eR.bw {r:cU} {m:aO} {j:b_} (h:eR w0 u aT tb r m j) (a:ai u bo):eR w0 bo aT tb r m j:=
 ⟨ai.ak a h.ak,h.bs,h.ca,h.mem,h.new.new a,h.DQ,h.ki,h.ne⟩
theorem eR.ax {r:cU} {m:aO} {j:b_} (h:eR w0 u aT tb r m j) (b:ao M u bo) (a:∀ k,M k->w0.heap.size<=k/\k≠aT):eR w0 bo aT tb r m j:=
 ⟨b.ak h.ak λe=>(a _ e).2 rfl,h.bs,h.ca,h.mem,h.new.trans b λk c e=>by have:=(a k e).1;omega,h.DQ,h.ki,h.ne⟩
theorem eR.num {w0 u:al} {aT tb:Nat} {r:cU} {m:aO} {j:b_} (h:eR w0 u aT tb r m j):r.View.Number=j.v.number:=by obtain ⟨M,aj⟩:=h.bs.view;exact aj.num
theorem re {r:cU} {bJ:aO} {j:b_} (h:eR w0 w aT tb r bJ j) {m:aO} (G:dO m.ch) {v:aF} {x:aG} (aj:cA M w v x) :
  ba 212 [ptr aT,m.val,v.val] w λy w'=>∃ l:aF,y=l.val/\cA (λk=>k<w.heap.size) w' l (addr j.v.number m x)/\ai w w':=by
 refine bc Tryz.func212 ?_;rw [ptr,Qp];rintro b1 w1 D t;obtain ⟨g,o⟩:=bk D t;have g:av w1 b1 m.cells ed:=g;clear t;rintro az T E u;obtain ⟨i,f⟩:=bk E u;have i:av T az v.cells cr:=i;clear u;rintro L K F z;obtain ⟨d,c⟩:=bk F z;have d:av K L (aF.cells ⟨0,0,0,0,0,0,none,0,0,0,0⟩) cr:=d;clear z;rintro C A;have b:ai K C:=by rw [A];exact cL _
 clear A;have a:=((o.new f).new c).new b;have P:=o.size;have Q:=f.size;have R:=c.size;have S:=b.size;have N:=h.bw a;have q:=h.num;have V:=h.ca.num;refine ⟨λy=>ai C y,ao.refl _ _,cO.aS r.View ⟨λy B=>bI (ai.ak B N.ak) rfl,aO.aS m ⟨λy B=>bI (ai.ak (((f.new c).new b).new B) g) rfl,aF.aS v ⟨λy B=>bI (ai.ak ((c.new b).new B) i) rfl,?_⟩⟩⟩⟩;refine aD (Ge C (by omega) (by omega) G (aj.ax (ao.bZ a) λ_ _ e=>e)) ?_;rintro y W ⟨l,rfl,s,p⟩;refine aF.aS l ⟨rfl,dC (ai.ak (b.new p) d) rfl (aF.single _) λU I n=>?_⟩;have J:=d.lt;refine aF.aS l ⟨bI I rfl,rfl,l,rfl,?_,(a.new p).trans n λk O e=>by omega⟩;rw [q] at s;have H:cA (λk=>k<C.heap.size) U l (addr j.v.number m x):=s.ax (n.mono λk _ e=>by omega) λ_ _ e=>e
 exact H.ax (ao.refl _ _) λk _ e=>by omega
theorem cA.mono {M':a2} {v:aF} {x:aG} (h:cA M w v x) (a:∀ k,M' k->M k):cA M' w v x:=h.ax (ao.refl _ _) λk _ e=>a k e
theorem oP {k at_ nn old new:Int} {ws:a4} (i:bg w a (us ws)) (g:n=ws.length) (e:n<=c) (b:a=none->ws=[]) (hu:∀ x ∈ ws,b3 x) (f:ws.length<=1000000) (h:b3 old) (d:b3 new) :
  cA (λ_=>False) w ⟨k,0,at_,nn,old,new,a,n,c,0,0⟩ ⟨k,0,at_,nn,old,new,ws,0,0⟩:=by
 subst g;refine ⟨rfl,i,b,.inr ?_,hu,d,h,?_,?_,e,f⟩
 ·cases a with
  |none=>trivial
  |some a=>exact id
 ·have au:b3 0:=⟨by decide,by decide⟩;exact au
 ·have au:dO 0:=⟨by decide,by decide⟩;exact au
def kN (j:b_) (m:aO):aG:=addr j.v.number m ⟨2,0,32+j.aP,0,0,0,[j.seq],0,0⟩
def iZ (j:b_) (m:aO) (p:aR):aG:=addr j.v.number m ⟨2,0,p.bm * 8,0,0,0,hc p,0,0⟩
theorem gQ:b3 0:=⟨by decide,by decide⟩
theorem BF {r:cU} {bJ:aO} {j:b_} (h:eR w0 w aT tb r bJ j) (Us:1<=j.seq/\j.seq<1073741824) {m:aO} (G:dO m.ch) :
  ba 218 [ptr aT,m.val] w λy w'=>∃ a:aF,y=a.val/\cA (λk=>k<w.heap.size) w' a (kN j m)/\ai w w':=by
 refine bc Tryz.func218 ?_;rw [ptr,pp];rintro b1 w1 T K;obtain ⟨C,I⟩:=bk T K;have C:av w1 b1 m.cells ed:=C;clear K;rintro az Um U L;obtain ⟨q,B⟩:=bk U L;have q:av Um az (aF.cells ⟨0,0,0,0,0,0,none,0,0,0,0⟩) cr:=q;clear L;rintro S M;have o:ai Um S:=by rw [M];exact cL _
 clear M;have s:=(I.new B).new o;have Uo:=I.size;have Up:=B.size;have Uq:=o.size;have R:=h.bw s;have Uw:=h.ca.aP;have X:=h.bs.aP;have Y:=h.bs.seq;have Uk:=q.lt;refine ⟨λy=>ai S y,ao.refl _ _,aO.aS m ⟨λy P=>bI (ai.ak ((B.new o).new P) C) rfl,⟨_,λy P=>(ai.ak P R.ak).cell (i:=0) rfl,_,λy P=>(ai.ak P R.ak).cell (i:=1) rfl,?_⟩⟩⟩;dsimp only;rw [X,Y,jV (x:=j.seq) (by omega) (by omega)];have fin:∀ {n E:al} {a:aF},ai S n->ai n E->cA (λk=>k<n.heap.size) E a (kN j m)->
   (dR E ⟨az,0,none⟩ 0 a.cells/\∀ z,z=cl E ⟨az,0,none⟩ 0 a.cells->aF.ex λg=>b7 z ⟨az,0,none⟩ 0 g.cells/\z=z/\∃ a:aF,g.val=a.val/\cA (λk=>k<w.heap.size) z a (kN j m)/\ai w z):=by
  intro n E a A F l;have Ur:=A.size;refine dC (ai.ak ((o.new A).new F) q) rfl (aF.single _) λz Ui H=>?_
  refine aF.aS a ⟨bI Ui rfl,rfl,a,rfl,?_,((s.new A).new F).trans H λk Un e=>by omega⟩;have Z:cA (λk=>k<n.heap.size) z a (kN j m):=l.ax (H.mono λk _ e=>by omega) λ_ _ e=>e
  exact Z.mono λk e=>by omega
 have u:∀ {n:al} {Q:Nat},av n Q [.int .u64 j.seq] nx->cA (λ_=>False) n ⟨2,0,32+j.aP,0,0,0,some ⟨Q,0,none⟩,1,1,0,0⟩ ⟨2,0,32+j.aP,0,0,0,[j.seq],0,0⟩:=by intro n Q D;exact oP (e9 D rfl) rfl (by omega) (λe=>by cases e) (λx Ul=>by simp at Ul;subst Ul;unfold b3;omega) (by simp) gQ gQ
 refine ⟨?_,?_⟩
 ·refine aD (t' S (by omega)) ?_;rintro y Ux ⟨rfl,c⟩;refine ⟨_,rfl,c,?_⟩;rintro Q n V N;obtain ⟨D,p⟩:=bk V N;clear N;refine ⟨c.new p,?_⟩;have b:=re (R.bw (c.new p)) G (u D);refine aD b ?_;rintro y E ⟨a,rfl,l,J⟩;exact aF.aS a ⟨rfl,(c.new p).new J,fin (c.new p) J l⟩
 ·rintro Uv Uu W O;obtain ⟨Uj,d⟩:=bk W O;clear O;refine ⟨d,?_⟩;refine aD (t' Uu (by omega)) ?_;rintro y Uy ⟨rfl,f⟩;refine ⟨_,rfl,d.new f,?_⟩;have b:=re (R.bw (d.new f)) G (u (ai.ak f Uj));refine aD b ?_;rintro y Ut ⟨a,rfl,l,t⟩;exact aF.aS a ⟨rfl,(d.new f).new t,fin (d.new f) t l⟩
theorem CR {p:aR} (h:∀ x ∈ gZ p,b3 x):∀ x ∈ hc p,b3 x:=λx a=>by
 unfold hc at a;rcases dy.1 a with rfl | a
 ·exact Lq _
 ·exact h x a
theorem BG {r:cU} {bJ:aO} {j:b_} (h:eR w0 w aT tb r bJ j) (aA:∀ p ∈ j.writes,∀ x ∈ gZ p,b3 x) {m:aO} (Z:dO m.ch) :
  ba 217 [ptr aT,m.val] w λy w'=>∃ (a:an) (cap:Nat),y=.slice a j.writes.length cap/\bD w w' a j.writes.length cap (j.writes.map (iZ j m))/\ai w w':=by
 refine bc Tryz.func217 ?_;rw [ptr,Rd];rintro b1 w1 X T;obtain ⟨c,G⟩:=bk X T;have c:av w1 b1 m.cells ed:=c;clear T;have Us:=h.bw G;have hlen:=h.bs.fR.len;have UH:=h.ca.rK;have UJ:=G.size;refine ⟨_,_,_,Us.ak.cell (i:=6) rfl,?_⟩;refine c1 mix (λq env u=>∃ (i:Nat) (aX:an) (pc:Nat) (Ux:aw),q=j.writes.length - i/\i<=j.writes.length/\env=vi ⟨aT,0,none⟩ ⟨b1,0,none⟩ aX i pc r.ef r.dF r.gT r.dF i Ux/\ai w u/\bD w u aX i pc ((j.writes.take i).map (iZ j m))/\av u b1 m.cells ed/\eR w0 u aT tb r bJ j) j.writes.length
  ⟨0,none,0,_,rfl,by omega,rfl,G,bD.nil _ _,c,Us⟩ ?_
 rintro q env u ⟨i,aX,pc,Ux,rfl,UQ,rfl,I,l,c,E⟩;rw [Py,hlen];have N:ai w0 u:=h.new.new I;refine a9 (λUI=>?_) (λUG=>?_)
 ·obtain ⟨p,Um⟩:∃ p,j.writes[i]?=some p:=⟨_,bM (by omega)⟩;have z:=cj Um;have R:=h.ca.wl p z;have Un:=h.ca.FX p z;have Uo:=h.bs.fR.u64 p z;refine ew (cells:=aR.cells) aR.len (by omega) (h.bs.fR.rd.new N) Um rfl rfl λb o Ui _=>aR.aS p ⟨Ui,?_⟩
  refine dU (vs:=p.cells) rfl (aR.single _) λUA bY UE n K=>?_
  refine aR.aS p ⟨bI n rfl,?_⟩;refine aD (Ac bY p Uo Un.2) ?_;rintro y br ⟨aa,ac,rfl,L,B,UD⟩;refine ⟨_,_,_,_,rfl,?_⟩;rintro Uy U;have H:ai br Uy:=by rw [U];exact cL _
  clear U;have f:=L.new H;have d:=(K.new L).new H;refine ⟨λy=>av y UA p.cells eN/\av y b1 m.cells ed,⟨ai.ak f n,ai.ak d c⟩,aO.aS m ⟨λy Ur=>bI Ur.2 rfl,_,λy Ur=>Ur.1.cell (i:=0) rfl,?_⟩⟩;refine aD (p2 Uy R.1 R.2) ?_;rintro y UL ⟨rfl,rfl⟩;refine ⟨_,rfl,⟨ai.ak f n,ai.ak d c⟩,?_⟩;have Uq:cA (λ_=>False) UL ⟨2,0,p.bm * 8,0,0,0,aa,8,ac,0,0⟩ ⟨2,0,p.bm * 8,0,0,0,hc p,0,0⟩:=oP (aY.new H B).rd (by rfl) (aY.le B) (λe=>by
   obtain ⟨_,UC⟩:=B;rcases UC with ⟨UR,_,_⟩ | ⟨g,cur,UF,_⟩
   ·omega
   ·rw [UF] at e;cases e) (CR (aA p z)) (by simp [hc,gZ]) gQ gQ
  have C:=re (E.bw d) Z Uq;refine aD C ?_;rintro y UM ⟨UO,rfl,Up,t⟩;have s:=d.new t;refine aF.aS UO ⟨rfl,⟨ai.ak (f.new t) n,ai.ak s c⟩,?_⟩;have S:=l.new d;rintro UP UN Y V;have M:ai UM UN:=by rw [V];exact gY _ _
  refine ⟨⟨ai.ak ((f.new t).new M) n,ai.ak (s.new M) c⟩,?_⟩;have Uw:=n.lt;have Uv:=c.lt;have Q:∀ k,aL aX k->k<u.heap.size:=λk W=>by obtain ⟨A,O,_⟩:=l.ex;exact O.lt W
  have UK:=K.size;refine bD.lk S (I.new d) t Up (by omega) Y V λap J u8 Ut F Ul=>?_
  have P:¬ aL aX b1:=λe=>by have Uu:=l.ex;obtain ⟨A,O,_⟩:=Uu;obtain ⟨cs,D⟩:=fm O e;exact absurd (D.ne c (by decide)) (λUj=>Uj rfl)
  have Uz:av u8 b1 m.cells ed:=F.ak (ai.ak s c) P;refine ⟨⟨F.ak (ai.ak (f.new t) n) λe=>by have:=Q _ e;omega,Uz⟩,?_⟩;rw [bA (x:=(i:Int)+1) (by omega) (by omega)];have e:(j.writes.take i).map (iZ j m)++[addr j.v.number m ⟨2,0,p.bm * 8,0,0,0,hc p,0,0⟩]=(j.writes.take (i+1)).map (iZ j m):=by rw [eT,Um];simp [iZ]
  rw [e] at Ut;refine ⟨j.writes.length - (i+1),by omega,i+1,ap,J,_,rfl,by omega,by rw [<-hlen];rfl,Ul,Ut,Uz,(E.bw s).ax F λk W=>?_⟩;have Uu:=l.fO k W;have UB:=h.new.size;refine ⟨by omega,λe=>?_⟩
  obtain ⟨A,O,_⟩:=l.ex;obtain ⟨cs,D⟩:=fm O W;exact absurd (e▸D |>.ne E.ak (by decide)) (λUj=>Uj rfl)
 ·have Uk:i=j.writes.length:=by omega
  subst Uk;rw [PO];rw [hq] at l;exact ⟨aX,pc,rfl,l,I⟩
end
end Go.Proofs.YtmkljjbioomepaaGreat
