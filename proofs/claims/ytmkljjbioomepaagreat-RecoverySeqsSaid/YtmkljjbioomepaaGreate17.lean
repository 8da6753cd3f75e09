import Derived.Test.YtmkljjbioomepaaGreate16
import Derived.Test.YtmkljjbioomepaaGreatProg
import Derived.Test.YtmkljjbioomepaaGreate03
import Derived.Test.YtmkljjbioomepaaGreate15
set_option linter.all false
set_option maxHeartbeats 4000000
set_option maxRecDepth 100000
namespace Go.Proofs.YtmkljjbioomepaaGreat
open Go.Proofs.Tryz Go.bn
variable {A M:a2} {K:an->Nat->Nat->aE} {cap n sz:Nat} {s:an} {u w w':al}
section
def e5 (d:aC):Int:=d.words.headD 0
def sU (v:aG) (d:aC):Bool:=if d.code=0 then decide ((d.words.length:Int)=v.v.g7) else if d.code=4\/d.code=5 then decide (d.words.length=0) else false
def k' (vs:List aG) (ds:List aC):Bool:=decide (vs.length=ds.length) && (vs.zip ds).all λp=>sU p.1 p.2
structure GO where
 done:List aC
 ok:Bool
 a7:List (List aC)
 ask:Option (List aG)
 di:Bool
def batch (G:List (List aC)) (vs:List aG):GO:=
 if vs.length=0 then ⟨[],true,G,none,false⟩ else match G with
 | []=>⟨[],false,[],some vs,false⟩
 |d::G'=>if k' vs d then ⟨d,true,G',none,false⟩ else ⟨[],false,d::G',none,true⟩
abbrev og:TypeId:=244
theorem ul {d:bF} {x:aC} (h:kK M w d x):ba 196 [d.val] w λv w'=>v=.int .u64 (e5 x)/\ai w w':=by
 refine bc Tryz.func196 ?_;refine Eq.mpr (G0 d.Code d.Words d.cG d.cy w _) ?_;rintro b1 w1 c f;obtain ⟨au,e⟩:=bk c f;have i:=h.len;refine ⟨_,_,_,au.cell rfl,dJ (λj=>?_) (λj=>⟨_,_,_,au.cell rfl,?_⟩)⟩
 ·have:x.words=[]:=fb (by omega);refine ⟨by simp [e5,this],e⟩
 ·cases g:x.words with
  |nil=>rw [g] at i;simp at i <;> omega
  |cons y ys=>
   have a:=h.rd.new e;rw [g] at a;rcases a with a | ⟨b,o,he,k⟩
   ·cases a
   rw [he];refine dT (by omega) (by omega) ⟨y,?_,by simp [e5,g],e⟩;exact k 0 _ rfl
structure ee where
 gA:an
 dA:Nat
 gc:Nat
 aa:an
 cW:Nat
 ac:Nat
 di:Bool
def ee.cells (T:ee):aw:=[.slice T.gA T.dA T.gc,.slice T.aa T.cW T.ac,.bool T.di]
structure Row where
 a:an
 c:Nat
 raw:List bF
def kk (rows:List Row):aw:=rows.map λr=>.slice r.a r.raw.length r.c
def hj (A:a2) (w:al) (a:an) (G:List (List aC)):Prop:=
 ∃ rows:List Row,rows.length=G.length/\bg w a (kk rows)/\(kk rows=[]\/fM A a)/\
  ∀ (i:Nat) (r:Row) (ds:List aC),rows[i]?=some r->G[i]?=some ds->bg w r.a (fq r.raw).flatten/\((fq r.raw).flatten=[]\/fM A r.a)/\gi A w r.raw ds/\ds.length<=1024
theorem hj.nil (A:a2) (w:al) (a:an):hj A w a []:=⟨[],rfl,.inl rfl,.inl rfl,λi r ds h=>by simp at h⟩
theorem hj.head {a:an} {d:List aC} {G:List (List aC)} (h:hj A w a (d::G)) :
  ∃ (b o:Nat) (r:Row),a=some ⟨b,o,none⟩/\w.cell? ⟨b,o,none⟩=some (.slice r.a r.raw.length r.c)/\bg w r.a (fq r.raw).flatten/\gi A w r.raw d/\d.length<=1024/\hj A w (some ⟨b,o+1,none⟩) G:=by
 obtain ⟨rows,k,f,e,aA⟩:=h;cases rows with
 |nil=>simp at k
 |cons r rows=>
  rcases f with f | ⟨b,o,rfl,g⟩
  ·simp [kk] at f
  ·obtain ⟨l,x,n,p⟩:=aA 0 r d rfl rfl;refine ⟨b,o,r,rfl,g 0 _ rfl,l,n,p,rows,by simpa using k,?_,?_,λi t ds q s=>aA (i+1) t ds (by simpa using q) (by simpa using s)⟩
   ·refine .inr ⟨b,o+1,rfl,λj u hu=>?_⟩;rw [p7,Nat.add_comm 1 j];exact g (j+1) u (by simpa [kk] using hu)
   ·rcases e with e | e
    ·simp [kk] at e
    ·exact .inr e
theorem Lo {v:aF} {x:aG} {d:bF} {y:aC} (aj:cA M w v x) (h:kK A w' d y):fits v d=sU x y:=by unfold fits sU;rw [h.code,h.len,aj.eq];rfl
theorem Jk {a:List aF} {vs:List aG} {raw:List bF} {ds:List aC} (aj:dX M w a vs) (h:gi A w' raw ds):p1 a raw=k' vs ds:=by
 unfold p1 k';rw [h.1,aj.1];congr 1;obtain ⟨b,f⟩:=h;obtain ⟨e,g⟩:=aj;induction vs generalizing raw ds a with
 |nil=>
  cases a with
  |nil=>simp
  |cons=>simp at e
 |cons v vs j=>
  cases a with
  |nil=>simp at e
  |cons dn a=>
   cases raw with
   |nil=>cases ds with
    |nil=>simp
    |cons=>simp at b
   |cons r raw=>cases ds with
    |nil=>simp at b
    |cons d ds=>simp only [List.zip_cons_cons,List.all_cons];rw [Lo (g 0 dn v rfl rfl) (f 0 r d rfl rfl),j (by simpa using b) (λi v x aj c=>f (i+1) v x (by simpa using aj) (by simpa using c)) (by simpa using e) λi v x aj c=>g (i+1) v x (by simpa using aj) (by simpa using c)]
theorem wH {vs:List aG} {ds:List aC} (h:k' vs ds=true):vs.length=ds.length:=by unfold k' at h;simp at h;exact h.1
theorem pP {G:List (List aC)} {vs:List aG}:(batch G vs).done.length<=vs.length:=by
 unfold batch;split
 ·simp
 ·cases G with
  |nil=>simp
  |cons d G=>
   simp only;split
   ·rename_i h;rw [wH h];exact dd _
   ·simp
theorem Cb {w0:al} {tb:Nat} {T:ee} {G:List (List aC)} (L:ai w0 u) (Uj:w0.heap.size<=tb) (s:av u tb T.cells og) (K:hj A w0 T.gA G) (p:T.dA=G.length) (y:T.dA<=T.gc)
  {e:List aF} {vs:List aG} {aa:an} {ac:Nat} (Y:bg u aa (dz e).flatten) (D:dX M u e vs) (Ui:vs.length<=1000000) :
  ba 116 [ptr tb,.slice aa e.length ac] u λv bo=>∃ (f:ee) (dk:an) (dc:Nat) (raw:List bF),v=.tuple #[.slice dk raw.length dc,.bool (batch G vs).ok]/\av bo tb f.cells og/\ao (λk=>k=tb) u bo/\
   bg w0 dk (fq raw).flatten/\gi A w0 raw (batch G vs).done/\hj A w0 f.gA (batch G vs).a7/\f.dA=(batch G vs).a7.length/\f.dA<=f.gc/\f.di=(T.di || (batch G vs).di)/\
   (match (batch G vs).ask with | none=>f.aa=T.aa/\f.cW=T.cW/\f.ac=T.ac | some _=>f.aa=aa/\f.cW=vs.length/\f.ac=ac):=by
 refine bc Tryz.func116 ?_;rw [ptr,S0];rw [D.1];have n:gi A w0 [] []:=⟨rfl,λi v x aj=>by simp at aj⟩;unfold batch;refine dJ (λS=>?_) (λS=>⟨_,_,_,s.cell rfl,dJ (λP=>?_) (λP=>?_)⟩)
 ·have q:vs.length=0:=by omega
  rw [if_pos q];exact ⟨T,none,0,[],rfl,s,ao.refl _ _,.inl rfl,n,K,p,y,by simp,rfl,rfl,rfl⟩
 ·have q:¬ vs.length=0:=by omega
  have V:G=[]:=fb (by omega);subst V;rw [if_neg q];refine ⟨⟨_,s.cell rfl⟩,s.frozen,?_⟩;rintro bH rfl;exact ⟨{ T with aa:=aa,cW:=vs.length,ac:=ac },none,0,[],rfl,s.setCell _,eA _ _ _ _,.inl rfl,n,hj.nil _ _ _,p,y,by simp,rfl,rfl,rfl⟩
 ·have q:¬ vs.length=0:=by omega
  rw [if_neg q];cases G with
  |nil=>simp at p <;> omega
  |cons d G'=>
   simp only;obtain ⟨b,o,r,I,Q,H,w,W,N⟩:=K.head;have X:b≠tb:=by
    have P:b<w0.heap.size:=by
     have:=Q;unfold World.cell? at this;by_cases F:b<w0.heap.size
     ·exact F
     ·simp [wN (Nat.le_of_not_lt F)] at this
    omega
   have l:∀ z,ai w0 z->z.cell? ⟨b,o,none⟩=some (.slice r.a r.raw.length r.c):=by
    intro z au;have U:bg w0 (some ⟨b,o,none⟩) [.slice r.a r.raw.length r.c]:=.inr ⟨b,o,rfl,λj u hu=>by
     cases j with
     |zero=>simp at hu;subst hu;exact Q
     |succ j=>simp at hu⟩
    exact (U.new au).cell (j:=0) rfl
   refine ⟨_,_,_,s.cell rfl,?_⟩;rw [I];refine dT (by omega) (by omega) ?_;refine ⟨_,_,_,l u L,?_⟩;have E:p1 e r.raw=k' vs d:=Jk D w;have Z:=w.1;have hlen:e.length=vs.length:=D.1;rw [<-hlen];refine aD (NI Y (H.new L) (by omega) (by omega)) ?_;rintro v bY ⟨rfl,B⟩;rw [E];refine ⟨_,rfl,dZ (λJ=>?_) (λJ=>?_)⟩
   ·have t:=ai.ak B s;rw [J];refine ⟨⟨_,t.cell rfl⟩,t.frozen,?_⟩;rintro br rfl;exact ⟨{ T with di:=true },none,0,[],rfl,t.setCell _,(ao.bZ B).trans (eA _ _ _ _) (λ_ _ h=>h),.inl rfl,n,K,p,y,by simp,rfl,rfl,rfl⟩
   ·rw [J];rintro br O;have C:ai u br:=by rw [O];exact B.drew
    have g:=ai.ak C s;refine ⟨λz=>ai br z,ao.refl _ _,_,_,_,λz au=>(ai.ak au g).cell rfl,?_⟩;rw [I];refine dT (by omega) (by omega) ?_;refine ⟨_,_,_,λz au=>l z ((L.new C).new au),_,_,_,λz au=>(ai.ak au g).cell rfl,?_⟩;rw [I];refine ⟨by omega,by omega,by omega,by omega,by omega,⟨_,g.cell rfl⟩,g.frozen,?_⟩;rintro Uk rfl;have R:T.dA=G'.length+1:=by simpa using p
    refine ⟨{ T with gA:=if (T.gc:Int)=1 then some ⟨b,o,none⟩ else (some ⟨b,o,none⟩:an).map (·.add (Int.toNat 1 * 1)),dA:=Int.toNat T.dA - Int.toNat 1,gc:=Int.toNat T.gc - Int.toNat 1 },r.a,r.c,r.raw,rfl,g.setCell _,(ao.bZ C).trans (eA _ _ _ _) (λ_ _ h=>h),H,w,?_,?_,?_,by simp,rfl,rfl,rfl⟩
    ·show hj A w0 (if (T.gc:Int)=1 then _ else _) G';split
     ·have:G'=[]:=fb (by omega);rw [this];exact hj.nil _ _ _
     ·exact N
    ·show Int.toNat (T.dA:Int) - Int.toNat 1=G'.length;omega
    ·show Int.toNat (T.dA:Int) - Int.toNat 1<=Int.toNat (T.gc:Int) - Int.toNat 1;omega
abbrev fV:TypeId:=125
theorem Lp {a:an} {xs:aw} (j:aY u cr 9 a n cap xs) {v:aF} (h:n<=1000000000) {K:Nat->an->Nat->Nat->aE}
  (r:∀ b ap e g,b=u.heap.size->aY g cr 9 ap (n+1) e (xs++v.cells)->ao (aL a) u g->(∀ k,aL ap k->aL a k\/u.heap.size<=k)->K b ap (n+1) e g) :
  ∀ b1 l,b1=u.heap.size->l=u.alloc (.cells v.cells.toArray cr)->∃ (ap:an) (d c:Nat),∃ g,(Builtin.append_ #[fV,fV] fV #[(.slice a n cap),(.slice (some ⟨b1,0,none⟩) 1 1)]).run prog l=.ok (.slice ap d c) g/\K b1 ap d c g:=by
 obtain ⟨inf,q,au,f,p⟩:=fp (T:=cr) (z:=.agg #[.int .i64 0,.int .i64 0,.int .i64 0,.int .i64 0,.int .u64 0,.int .u64 0,.slice none 0 0,.int .u64 0,.int .i64 0]) (n:=9) (m:=88) (by kernel_rfl);rw [<-f] at j;refine nI Tryz.underlying125 q au (by rw [f];rfl) (by omega) j (by rw [f];rfl) (aF.single v) h (by omega) ?_;intro b ap e g o i;rw [f] at i;exact r b ap e g o i
theorem Ab {G:List (List aC)} {vs ws:List aG} (h:(batch G vs).ask=some ws):ws=vs:=by
 unfold batch at h;split at h
 ·cases h
 ·cases G with
  |nil=>simp at h;exact h.symm
  |cons d G'=>simp only at h;split at h<;>cases h
theorem BC {G:List (List aC)} {vs:List aG} (h:(batch G vs).ok=true):(batch G vs).ask=none/\(batch G vs).di=false:=by
 unfold batch at h ⊢;split
 ·exact ⟨rfl,rfl⟩
 ·rename_i aj;rw [if_neg aj] at h;cases G with
  |nil=>simp at h
  |cons d G'=>
   simp only at h ⊢;split
   ·exact ⟨rfl,rfl⟩
   ·rename_i a;rw [if_neg a] at h;simp at h
theorem CP (w:al) (gA:an) (dA gc:Nat):ba 115 [.slice gA dA gc] w λv w'=>∃ tb,v=ptr tb/\w.heap.size<=tb/\av w' tb (ee.cells ⟨gA,dA,gc,none,0,0,false⟩) og/\ai w w':=by refine bc Tryz.func115 ?_;rw [G6];rintro b1 w1 a b;obtain ⟨au,c⟩:=bk a b;exact ⟨b1,rfl,by omega,au,c⟩
end
section
open IntKind
variable (w:al) (R:cp) {s t:an} {a b c d:Nat} {i k:Int} {j:aq}
def vM (e:an) (a b:Nat) (c:an) (d f:Nat) (g h:Int) (j:aq):aq:=ag j 0 3 (ae e a b::ag j 3 14 (ae c d f::ab g::ab h::ag j 17 21 []))
def EN (c:an) (a b:Nat) (j:aq):aq:=ag j 0 3 (ae c a b::ag j 3 38 [])
theorem Fw (k:bN):bd prog f210 [k.val] R w=(aQ w k.cells.toArray 271 λe n=>hn n (af e 0) λr=>cm 167 #[r.val,ab 256] n λa j=>cond (a != 0) (R (a3) j) (bG j (af e 0) λb=>b0 j (af e 1) λc d f=>aQ j #[ah (u64.wrap b),ah (u64.wrap (d:Nat))] 30 λl m=>b0 m (af e 1) λg h i=>cx prog (cY f210 [1,1,1,0,1,0,0]) (vM (bj l) 2 2 g h i (h:Nat) 0 (k.val::jp (af e 0)::a3::bx 2 (r.val::ab a::ad ((a:Int) != 0)::jp (af e 0)::ab b::ah (u64.wrap b)::jp (af e 1)::ae c d f::du d::ah (u64.wrap (d:Nat))::ae (bj l) 2 2::jp (af e 1)::bx 21 []))) (aW 0 (aZ f210 [1,1,1,1] R)) m)):=by kernel_rfl
theorem Sd (u:aq->aE):W prog (sb f210 [1,1,1,0,1,0,0]) (vM s a b t c d i k j) (a1 u (aW 0 (aZ f210 [1,1,1,1] R))) w=(cond (k<i) (bB t c k 9 λx=>hG w x λr=>aQ w #[ab 0,ah 0,ah 0,ah 0,ah 0,ah 0,ah 0,ah 0,ah 0] 73 λf A=>a_ A (af f 0) 0 r.cells λq=>bG q (af f 0) λe=>dN q (af f 1) λh=>aQ q #[ah (u64.wrap e),ah h] 30 λv B=>cZ 94 (ae s a b) (ae (bj v) 2 2) B λg l m y=>cZ 94 (ae g l m) (ae (some (af f 2)) 7 7) y λn o p z=>u (vM n o p t c d i (i64.wrap (k+1)) (ag j 0 4 (jp (af f 0)::ag j 5 12 (ad (k<i)::jp x::r.val::ae s a b::jp (af f 0)::ab e::ah (u64.wrap e)::jp (af f 1)::ah h::ae (bj v) 2 2::ae g l m::ae g l m::jp (af f 2)::ae (some (af f 2)) 7 7::ae n o p::ab (i64.wrap (k+1))::ag j 33 5 [])))) z) (W prog (sb f210 [1,1,1,1]) (EN s a b (ag j 0 17 (ae t c d::ab i::ab k::ad (k<i)::ag j 18 20 []))) (bW f210 R) w)):=by kernel_rfl
theorem Ta:W prog (sb f210 [1,1,1,1]) (EN s a b j) (bW f210 R) w=(iV 239 #[ae s a b] w λc k=>aQ k #[ah c] 30 λe g=>cZ 94 (ae s a b) (ae (bj e) 1 1) g λh d f i=>R (ae h d f) i):=by kernel_rfl
theorem TN (d:aR):bd prog f211 [d.val,ab i] R w=(aQ w d.cells.toArray 73 λg e=>dN e (af g 1) λa=>g6 240 #[ah a,ab i] e λb c f=>R (.tuple #[ah b,ab c]) f):=by kernel_rfl
theorem TD (e:aR):bd prog f244 [e.val] R w=(aQ w e.cells.toArray 73 λg i=>dN i (af g 1) λa=>g6 206 #[ah a] i λb c h=>cond (c != 0) (R (.tuple #[a3,ab c]) h) (aQ h #[ah b] 30 λj m=>cZ 94 (ae (bj j) 1 1) (ae (some (af g 2)) 7 7) m λl d f k=>R (.tuple #[ae l d f,ab 0]) k)):=by kernel_rfl
end
section
open IntKind
variable (w:al) (R:cp) {a b c d:Nat} {s t:an} {i k:Int} {A B:aV} {j:aq}
theorem Qp (g:aO) (h:aF):bd prog f212 [a' a,g.val,h.val] R w=(aQ w g.cells.toArray 116 λl q=>aQ q h.cells.toArray 158 λk n=>aQ n #[ab 0,ab 0,ab 0,ab 0,ah 0,ah 0,a3,ah 0,ab 0] 158 λi o=>cu o λj f=>y_ f (af a 3) λd=>gO f (af l 0) λr=>EV f (af k 0) λm=>eh 241 #[d.val,r.val,ad true,m.val] j λb p=>a_ p (af i 0) 0 b.cells λe=>ln e (af i 0) λc=>e=e/\R c.val e):=by kernel_rfl
theorem Rz:bd prog f213 [a' a,ae s b c,ab i] R w=(aQ w #[ab 0,ab 0] 171 λj r=>l0 r (af a 7) λt=>iX 116 #[.pointer t,ae s b c] r λm d f g u=>cond (!g) (a_ u (af j 0) 0 [ab 0,ab 0] λp=>dH p (af j 0) λe=>p=p/\R (.tuple #[a3,e.val,ad false]) p) (cm 242 #[ae m d f] u λh q=>cond (h != 0) (a_ q (af j 0) 0 [ab h,ab i] λn=>dH n (af j 0) λk=>n=n/\R (.tuple #[a3,k.val,ad false]) n) (a_ q (af j 0) 0 [ab 0,ab 0] λo=>dH o (af j 0) λl=>o=o/\R (.tuple #[ae m d f,l.val,ad true]) o))):=by kernel_rfl
def vi (e i:aV) (k:an) (a b:Nat) (c:an) (d f:Nat) (g h:Int) (j:aq):aq:=.pointer (some e)::ag j 0 2 (.pointer (some i)::ag j 2 1 (ae k a b::ag j 3 8 (ae c d f::ab g::ab h::ag j 11 21 [])))
def Ee (c:an) (a b:Nat) (j:aq):aq:=ag j 0 5 (ae c a b::ag j 5 32 [])
theorem Rd (e:aO):bd prog f217 [a' a,e.val] R w=(aQ w e.cells.toArray 116 λg f=>b0 f (af a 6) λd b c=>cx prog (cY f217 [1,1,0,1,0,0]) (vi (af a 0) (af g 0) none 0 0 d b c (b:Nat) 0 (e.val::undef::a3::bx 4 (jp (af a 0)::jp (af a 0)::jp (af a 0)::jp (af a 6)::bx 21 []))) (aW 0 (aZ f217 [1,1,1] R)) f):=by kernel_rfl
theorem Py (C:aq->aE):W prog (sb f217 [1,1,0,1,0,0]) (vi A B s a b t c d i k j) (a1 C (aW 0 (aZ f217 [1,1,1] R))) w=(cond (k<i) (bB t c k 9 λH=>hG w H λr=>aQ w #[ab 0,ah 0,ah 0,ah 0,ah 0,ah 0,ah 0,ah 0,ah 0] 73 λu K=>a_ K (af u 0) 0 r.cells λF=>hG F (af u 0) λa5=>s_ 244 #[a5.val] F λf g l m L=>cu L λa8 h=>gO h B λD=>cP h (af u 0) λn=>cm 108 #[ab n] a8 λo y=>h y/\eh 212 #[.pointer (some A),D.val,.agg #[ab 2,ab 0,ab o,ab 0,ah 0,ah 0,ae f g l,ah 0,ab 0]] y λe G=>h G/\aQ G e.cells.toArray 158 λE z=>h z/\cZ 125 (ae s a b) (ae (bj E) 1 1) z λv p q x=>h x/\C (vi A B v p q t c d i (i64.wrap (k+1)) (ag j 0 4 (jp (af u 0)::ae f g l::ab m::ag j 7 4 [ad (k<i),jp H,r.val,.tuple #[ae f g l,ab m],a5.val,.tuple #[ae f g l,ab m],ae f g l,ab m,ae s a b,jp A,D.val,jp (af u 0),ab n,ab o,ae f g l,.agg #[ab 2,ab 0,ab o,ab 0,ah 0,ah 0,ae f g l,ah 0,ab 0],e.val,ae (bj E) 1 1,ae v p q,ab (i64.wrap (k+1)),aN j 31]))) x) (W prog (sb f217 [1,1,1]) (Ee s a b (jp A::aN j 0::aN j 1::jp B::ag j 2 9 (ae t c d::ab i::ab k::ad (k<i)::ag j 12 20 []))) (bW f217 R) w)):=by kernel_rfl
theorem PO:W prog (sb f217 [1,1,1]) (Ee s a b j) (bW f217 R) w=(R (ae s a b) w):=by kernel_rfl
theorem pp (t:aO):bd prog f218 [a' a,t.val] R w=(aQ w t.cells.toArray 116 λx z=>aQ z #[ab 0,ab 0,ab 0,ab 0,ah 0,ah 0,a3,ah 0,ab 0] 158 λn A=>cu A λv j=>gO j (af x 0) λr=>cP j (af a 0) λe=>cP j (af a 1) λb=>(cm 225 #[ab e] v λc p=>j p/\aQ p #[ah (u64.wrap b)] 30 λy q=>j q/\eh 212 #[a' a,r.val,.agg #[ab 2,ab 0,ab c,ab 0,ah 0,ah 0,ae (bj y) 1 1,ah 0,ab 0]] q λf u=>j u/\a_ u (af n 0) 0 f.cells λm=>ln m (af n 0) λg=>m=m/\R g.val m)/\aQ v #[ah (u64.wrap b)] 30 λB o=>j o/\cm 225 #[ab e] o λd s=>j s/\eh 212 #[a' a,r.val,.agg #[ab 2,ab 0,ab d,ab 0,ah 0,ah 0,ae (bj B) 1 1,ah 0,ab 0]] s λi h=>j h/\a_ h (af n 0) 0 i.cells λk=>ln k (af n 0) λl=>k=k/\R l.val k):=by kernel_rfl
def ve (e i:aV) (k:an) (a b:Nat) (c:an) (d f:Nat) (g h:Int) (j:aq):aq:=.pointer (some e)::ag j 0 2 (.pointer (some i)::ag j 2 1 (ae k a b::ag j 3 7 (ae c d f::ab g::ab h::ag j 10 12 [])))
def Ec (c:an) (a b:Nat) (j:aq):aq:=ag j 0 5 (ae c a b::ag j 5 22 [])
theorem Ro (e:aF):bd prog f237 [a' a,e.val] R w=(aQ w e.cells.toArray 158 λg f=>b0 f (af a 4) λd b c=>cx prog (cY f237 [1,1,0,1,0,0]) (ve (af a 0) (af g 0) none 0 0 d b c (b:Nat) 0 (e.val::undef::a3::bx 2 (jp (af a 0)::jp (af a 0)::jp (af a 0)::jp (af a 3)::jp (af a 4)::bx 12 []))) (aW 0 (aZ f237 [1,1,1] R)) f):=by kernel_rfl
theorem P4 (n:aq->aE):W prog (sb f237 [1,1,0,1,0,0]) (ve A B s a b t c d i k j) (a1 n (aW 0 (aZ f237 [1,1,1] R))) w=(cond (k<i) (bB t c k 3 λq=>hX w q λr=>aQ w #[ab 0,ab 0,ad false] 116 λg x=>a_ x (af g 0) 0 r.cells λh=>hX h (af g 0) λu=>ln h B λo=>eh 212 #[.pointer (some A),u.val,o.val] h λl y=>aQ y l.cells.toArray 158 λp v=>cZ 125 (ae s a b) (ae (bj p) 1 1) v λf e m z=>n (ve A B f e m t c d i (i64.wrap (k+1)) (ag j 0 4 (jp (af g 0)::ag j 5 5 [ad (k<i),jp q,r.val,ae s a b,jp A,u.val,o.val,l.val,ae (bj p) 1 1,ae f e m,ab (i64.wrap (k+1)),aN j 21]))) z) (W prog (sb f237 [1,1,1]) (Ec s a b (jp A::aN j 0::aN j 1::jp B::ag j 2 8 (ae t c d::ab i::ab k::ad (k<i)::ag j 11 11 []))) (bW f237 R) w)):=by kernel_rfl
theorem Qs:W prog (sb f237 [1,1,1]) (Ec s a b j) (bW f237 R) w=(R (ae s a b) w):=by kernel_rfl
end
section
theorem mM {k:Nat}:¬ aL none k:=λh=>by obtain ⟨o,a⟩:=h;cases a
theorem BD {α:Type} {cells:α->aw} (h:∀ x,(cells x).length=sz) (l:List α):(l.map cells).flatten.length=l.length * sz:=by rw [lN (sz:=sz),fc];intro r a;obtain ⟨x,_,rfl⟩:=cD.1 a;exact h x
theorem p4 {α:Type} {cells:α->aw} {S e:TypeId} {inf:TypeInfo} {z:a0} (B:∀ x,(cells x).length=sz) (E:∀ x,∀ v ∈ cells x,single v=true)
  (R:prog.underlying S=some (.slice e)) (M:prog.info? e=some inf) (au:inf.zero=some z) (G:z.cells.size=inf.size) (C:inf.size=sz) (J:0<sz) (A:inf.bytes<=1000)
  {a:an} {l:List α} (q:aY u e sz a n cap (l.map cells).flatten) {m c:Nat} {l2:List α} (Q:bg u s (l2.map cells).flatten) (hm:m=l2.length) (N:n+m<=1000000)
  (p:∀ ap b i,aY i e sz ap (n+m) b ((l++l2).map cells).flatten->ao (aL a) u i->(∀ k,aL ap k->aL a k\/u.heap.size<=k)->K ap (n+m) b i) :
  ∃ (ap:an) (f d:Nat),∃ i,(Builtin.append_ #[S,S] S #[(.slice a n cap),(.slice s m c)]).run prog u=.ok (.slice ap f d) i/\K ap f d i:=by
 subst C;have L:(n+m) * inf.bytes<=1000000 * 1000:=o1 N A;have h:∀ x ∈ (l2.map cells).flatten,single x=true:=by intro x F;obtain ⟨r,O,F⟩:=kZ.1 F;obtain ⟨y,_,rfl⟩:=cD.1 O;exact E y x F
 obtain ⟨ap,b,H,j,g,D,w⟩:=aY.append (P:=prog) (t:=S) (ty:=S) R M au G J q (s:=s) (m:=m) (c:=c) (news:=(l2.map cells).flatten) (by rw [BD B,hm]) Q h (by omega) (by omega);have I:(l.map cells).flatten++(l2.map cells).flatten=((l++l2).map cells).flatten:=by simp
 rw [I] at g;refine ⟨ap,n+m,b,H,j,p ap b H g D λk p=>?_⟩;rcases w with e | e
 ·exact .inl (e▸p)
 ·obtain ⟨o,q⟩:=p;rw [e] at q;simp at q;exact .inr (by omega)
def sn (x:Int):aw:=[.int .u64 x]
theorem t_ (l:a4):(l.map sn).flatten=us l:=by
 induction l with
 |nil=>rfl
 |cons x l a=>simp [sn,us] at a ⊢;exact a
theorem r5 {a:an} {l:a4} (q:aY u 30 1 a n cap (us l)) {m c:Nat} {l2:a4} (r:bg u s (us l2)) (hm:m=l2.length) (p:n+m<=1000000)
  (o:∀ ap e f,aY f 30 1 ap (n+m) e (us (l++l2))->ao (aL a) u f->(∀ k,aL ap k->aL a k\/u.heap.size<=k)->K ap (n+m) e f) :
  ∃ (ap:an) (d b:Nat),∃ f,(Builtin.append_ #[94,94] 94 #[(.slice a n cap),(.slice s m c)]).run prog u=.ok (.slice ap d b) f/\K ap d b f:=by
 obtain ⟨inf,j,au,g,h⟩:=fp (T:=30) (z:=.int .u64 0) (n:=1) (m:=8) (by kernel_rfl);refine p4 (cells:=sn) (sz:=1) (λ_=>rfl) (λx v aj=>by simp [sn] at aj;subst aj;rfl) Tryz.underlying94 j au (by rw [g];rfl) g (by decide) (by rw [h];decide) (l:=l) (by rw [t_];exact q) (l2:=l2) (by rw [t_];exact r) hm p λap e f i=>?_
 rw [t_] at i;exact o ap e f i
def eP (h c:Int):Int:=jh .u64 h (c+1)
def m6 (h:Int):Int:=hN .u64 (c5 .u64 h 8+1) 8
def eg (s:Int):Int:=jh .u64 (hN .u64 s 2) 2
def pK (n:Int):Int:=2 * n+1
theorem wI (x:Int):b3 (IntKind.u64.wrap x):=by unfold b3;simp only [IntKind.wrap,IntKind.bits,IntKind.signed];simp;omega
theorem Cc (h c:Int):b3 (eP h c):=wI _
theorem Lq (h:Int):b3 (m6 h):=wI _
theorem xB (s:Int):b3 (eg s):=wI _
theorem M_ (w:al) {h c:Int} (hu:l9 h=true) (b:0<=c/\c<6):ba 240 [.int .u64 h,.int .i64 c] w λv w'=>v=.tuple #[.int .u64 (eP h c),.int .i64 0]/\w'=w:=by
 refine bc Tryz.func240 ?_;rw [GD];refine aD (Il w c) ?_;rintro v w1 ⟨rfl,rfl⟩;refine ⟨_,rfl,dZ (λa=>absurd (of_decide_eq_false a) (by omega)) (λ_=>?_)⟩
 refine aD (uP w1 h) ?_;rintro v d ⟨rfl,rfl⟩;refine ⟨_,rfl,dZ (λa=>by rw [hu] at a;cases a) (λ_=>⟨?_,rfl⟩)⟩
 rw [bA (x:=c+1) (by omega) (by omega),jV (x:=c+1) (by omega) (by omega)];rfl
theorem xX (w:al) {s:Int} (h:1<=s/\s<1073741824):ba 214 [.int .i64 s] w λv w'=>v=.tuple #[.int .u64 (eg s),.int .i64 0]/\w'=w:=by
 refine bc Tryz.func214 ?_;rw [zi];refine aD (rz w s 1 1073741823) ?_;rintro v w1 ⟨rfl,rfl⟩;refine ⟨_,rfl,dZ (λa=>absurd (of_decide_eq_false a) (by omega)) (λ_=>⟨?_,rfl⟩)⟩
 rw [jV (x:=s) (by omega) (by omega)];rfl
theorem Lr (w:al) {h:Int} (hu:b3 h) (b:jI h=true):ba 206 [.int .u64 h] w λv w'=>v=.tuple #[.int .u64 (m6 h),.int .i64 0]/\w'=w:=by
 refine bc Tryz.func206 ?_;rw [FP];refine aD (BR w h) ?_;rintro v w1 ⟨rfl,rfl⟩;refine ⟨_,_,rfl,?_⟩;refine aD (zA w1 _ 1 281474976710654) ?_;rintro v d ⟨rfl,rfl⟩;have c:=LZ hu;unfold jI at b;refine ⟨_,rfl,dZ (λa=>by rw [b] at a;cases a) (λ_=>⟨?_,rfl⟩)⟩
 rw [jt (x:=c5 .u64 h 8+1) (by omega) (by omega)];rfl
theorem NL (w:al) {n:Int} (a:0<=n) (b:n<16):ba 103 [.int .i64 n,.bool true] w λv w'=>v=.tuple #[.int .u64 (pK n),.int .i64 0]/\w'=w:=by refine bc Tryz.func103 ?_;rw [F2];refine aD (rz w n 0 15) ?_;rintro v w1 ⟨rfl,rfl⟩;refine ⟨_,rfl,dw (by simp;omega) (fK rfl ⟨?_,rfl⟩)⟩;rw [jt (x:=n) (by omega) (by omega),jt (x:=n * 2) (by omega) (by omega),jt (by omega) (by omega)];unfold pK;rw [Int.mul_comm]
def eQ (c:Int):Int:=48+120 * c
theorem zN (w:al) {c i:Int} (a:0<=c/\c<6) (b:0<=i/\i<1000):ba 238 [.int .i64 c,.int .i64 i] w λv w'=>v=.int .i64 (eQ c+i)/\w'=w:=by
 refine bc Tryz.func238 ?_;rw [Tk];refine a9 (λh=>absurd h (by omega)) (λ_=>a9 (λh=>absurd h (by omega)) (λ_=>⟨?_,rfl⟩))
 unfold eQ;rw [bA (x:=c * 15) (by omega) (by omega),bA (x:=6+c * 15) (by omega) (by omega),bA (x:=(6+c * 15) * 8) (by omega) (by omega),bA (x:=(6+c * 15) * 8+i) (by omega) (by omega)];congr 1;omega
theorem Cd (w:al) {c:Int} (a:0<=c/\c<6):ba 209 [.int .i64 c] w λv w'=>v=.int .i64 (eQ c+8)/\w'=w:=by refine bc Tryz.func209 ?_;rw [T3];refine aD (zN w a (i:=8) (by omega)) ?_;rintro v w1 ⟨rfl,rfl⟩;exact ⟨_,rfl,rfl,rfl⟩
theorem xC (w:al) {c:Int} (a:0<=c/\c<6):ba 215 [.int .i64 c] w λv w'=>v=.int .i64 (eQ c)/\w'=w:=by refine bc Tryz.func215 ?_;rw [T4];refine aD (zN w a (i:=0) (by omega)) ?_;rintro v w1 ⟨rfl,rfl⟩;exact ⟨_,rfl,by rw [Int.add_zero],rfl⟩
section
attribute [local irreducible] hU ix mb
theorem t' (w:al) {i:Int} (f:0<=i/\i<6):ba 225 [.int .i64 i] w λv w'=>v=.int .i64 (32+i)/\ai w w':=by
 refine bc Tryz.func225 ?_;rw [TL];refine aD (wE _ _ _) ?_;rintro v w1 ⟨cg,b8,rfl,a,b,d⟩;have c:=wF;refine ⟨_,rfl,?_⟩;have e:(#[]++#[.int .i64 i]++#[ptr cg,ptr b8]:Array a0)=#[.int .i64 i,ptr cg,ptr b8]:=by simp
 refine pU c e ?_;refine aD (wq w1 a b (by omega) (by omega) i) ?_;rintro v g ⟨rfl,rfl⟩;refine ⟨_,rfl,?_,d⟩;unfold m5;rw [if_neg (by omega),show (4:Int) * 8+i=32+i by omega]
end
theorem w9 (w:al) (p:aR) {c:Int} (hu:l9 p.Head=true) (d:0<=c/\c<6):ba 211 [p.val,.int .i64 c] w λv w'=>v=.tuple #[.int .u64 (eP p.Head c),.int .i64 0]/\ai w w':=by refine bc Tryz.func211 ?_;rw [TN];rintro b1 w1 b a;obtain ⟨au,e⟩:=bk b a;have au:av w1 b1 p.cells eN:=au;clear a;refine ⟨_,au.cell (i:=1) rfl,?_⟩;refine aD (M_ w1 hu d) ?_;rintro v f ⟨rfl,rfl⟩;exact ⟨_,_,rfl,rfl,e⟩
def gZ (p:aR):a4:=[p.uw,p.A1,p.A2,p.A3,p.A4,p.A5,p.A6]
def hc (p:aR):a4:=m6 p.Head::gZ p
theorem Ac (w:al) (p:aR) (z:b3 p.Head) (B:jI p.Head=true):ba 244 [p.val] w λv w'=>∃ (a:an) (cap:Nat),v=.tuple #[.slice a 8 cap,.int .i64 0]/\ai w w'/\aY w' 30 1 a 8 cap (us (hc p))/\∀ k,aL a k->w.heap.size<=k:=by
 refine bc Tryz.func244 ?_;rw [TD];rintro b1 w1 n h;obtain ⟨au,g⟩:=bk n h;have au:av w1 b1 p.cells eN:=au;clear h;refine ⟨_,au.cell (i:=1) rfl,?_⟩;refine aD (Lr w1 z B) ?_;rintro v E ⟨rfl,rfl⟩;refine ⟨_,_,rfl,dt (λe=>absurd rfl e) (λ_=>?_)⟩
 rintro az x q j;obtain ⟨c,b⟩:=bk q j;have c:av x az (us [m6 p.Head]) 30:=c;clear j;have C:=g.size;have D:=b.size;have t:aY x 30 1 (some ⟨az,0,none⟩) 1 1 (us [m6 p.Head]):=⟨rfl,.inr ⟨az,_,rfl,c,by omega,by decide,rfl,rfl⟩⟩;refine r5 t (l2:=gZ p) (m:=7) (e9 (ai.ak b au) rfl) rfl (by omega) λap d F y s l=>?_
 have u:w.heap.size<=az:=by omega
 have f:∀ k,aL (some ⟨az,0,none⟩) k->w.heap.size<=k:=λk r=>by obtain ⟨o,t⟩:=r;simp at t <;> omega
 refine ⟨ap,d,rfl,(g.new b).trans s λk A e=>by have:=f k e;omega,y,λk r=>?_⟩;rcases l k r with e | e
 ·exact f k e
 ·omega
def nN (seq:Int) (cn:List aR):a4:=seq::(cn.length:Int)::(cn.map λp=>p.bm::p.Head::gZ p).flatten
def eD (seq:Int) (cn:List aR):a4:=nN seq cn++[qO (nN seq cn)]
theorem Is (cn:List aR):(cn.map λp=>p.bm::p.Head::gZ p).flatten.length=9 * cn.length:=by
 induction cn with
 |nil=>rfl
 |cons p cn a=>rw [g',hr,c8,a];simp [gZ];omega
theorem BE (seq:Int) (cn:List aR):(nN seq cn).length=2+9 * cn.length:=by unfold nN;simp only [fU,Is];omega
theorem kE (seq:Int) (cn:List aR):(eD seq cn).length=3+9 * cn.length:=by unfold eD;rw [c8,BE];simp;omega
def nM (seq:Int) (cn:List aR) (i:Nat):a4:=seq::(cn.length:Int)::((cn.take i).map λp=>p.bm::p.Head::gZ p).flatten
theorem w_ {r:bN} {W:List aR} (h:eY w r.ef r.dF W) (aj:ff r.Seq W 256=0) (UE:1<=r.Seq/\r.Seq<1073741824) (cB:W.length<=12) (Uy:∀ p ∈ W,96<=p.bm/\p.bm<256) :
  ba 210 [r.val] w λv w'=>∃ (a:an) (cap:Nat),v=.slice a (3+9 * W.length) cap/\ai w w'/\aY w' 30 1 a (3+9 * W.length) cap (us (eD r.Seq W))/\∀ k,aL a k->w.heap.size<=k:=by
 refine bc Tryz.func210 ?_;rw [Fw];rintro b1 w1 S M;obtain ⟨au,D⟩:=bk S M;have au:av w1 b1 r.cells 271:=au;clear M;refine bN.aS r ⟨bI au rfl,?_⟩;refine aD (wG (h.new D) 256) ?_;rintro v UG ⟨rfl,E⟩;rw [aj];have hlen:=h.len;have y:=ai.ak E au;refine ⟨_,rfl,dt (λe=>absurd rfl e) (λ_=>⟨_,y.cell (i:=0) rfl,_,_,_,y.cell (i:=1) rfl,?_⟩)⟩;dsimp only;rw [jV (x:=r.Seq) (by omega) (by omega),jV (x:=(r.dF:Int)) (by omega) (by omega)];rintro az Us T N;obtain ⟨G,F⟩:=bk T N;have G:av Us az (us (nM r.Seq W 0)) 30:=by simpa [nM,us,hlen] using G
 clear N;have K:=(D.new E).new F;have UA:=D.size;have UB:=E.size;have UC:=F.size;refine ⟨_,_,_,(ai.ak F y).cell (i:=1) rfl,?_⟩;have Ui:aY Us 30 1 (some ⟨az,0,none⟩) 2 2 (us (nM r.Seq W 0)):=⟨rfl,.inr ⟨az,_,rfl,G,by omega,by decide,rfl,rfl⟩⟩;have X:∀ k,aL (some ⟨az,0,none⟩) k->w.heap.size<=k:=λk n=>by obtain ⟨o,Ui⟩:=n;simp at Ui <;> omega
 refine c1 mix (λm env u=>∃ (i:Nat) (aX:an) (pc:Nat) (Ur:aw),m=W.length - i/\i<=W.length/\env=vM aX (2+9 * i) pc r.ef r.dF r.gT r.dF i Ur/\ai w u/\aY u 30 1 aX (2+9 * i) pc (us (nM r.Seq W i))/\∀ k,aL aX k->w.heap.size<=k) W.length
  ⟨0,_,_,_,rfl,by omega,rfl,K,Ui,X⟩ ?_
 rintro m env u ⟨i,aX,pc,Ur,rfl,UD,rfl,g,j,s⟩;rw [Sd,hlen];refine a9 (λC=>?_) (λUx=>?_)
 ·obtain ⟨p,Uj⟩:∃ p,W[i]?=some p:=⟨_,bM (by omega)⟩;have Uz:=Uy p (cj Uj);refine ew (cells:=aR.cells) aR.len (by omega) (h.rd.new g) Uj rfl rfl λb o V _=>aR.aS p ⟨V,?_⟩
  refine dU (vs:=p.cells) rfl (aR.single _) λP bY J t d=>⟨_,t.cell (i:=0) rfl,_,t.cell (i:=1) rfl,?_⟩
  rw [jV (x:=p.bm) (by omega) (by omega)];rintro Ut br U l;obtain ⟨f,c⟩:=bk U l;have f:av br Ut (us [p.bm,p.Head]) 30:=f;clear l;have Ul:=d.size;have Um:=c.size;have Un:=g.size;refine r5 (aY.new (d.new c) j) (l2:=[p.bm,p.Head]) (m:=2) (e9 f rfl) rfl (by omega) λap z Uo Q q B=>?_
  have A:∀ k,aL ap k->w.heap.size<=k:=λk n=>by
   rcases B k n with e | e
   ·exact s k e
   ·omega
  have Uq:=t.lt;have Uk:∀ k,aL aX k->k≠P:=λk n e=>by have:=j.lt n;omega
  have O:av Uo P p.cells eN:=q.ak (ai.ak c t) λe=>Uk _ e rfl
  have L:ai w Uo:=((g.new d).new c).trans q λk C e=>by have:=s k e;omega
  refine r5 Q (l2:=gZ p) (m:=7) (e9 O rfl) rfl (by omega) λR H UF Uw Z I=>?_
  rw [bA (x:=(i:Int)+1) (by omega) (by omega)];have Up:2+9 * i+2+7=2+9 * (i+1):=by omega
  refine ⟨W.length - (i+1),by omega,i+1,R,H,_,rfl,by omega,by rw [<-Up,<-hlen];rfl,L.trans Z λk C e=>by have:=A k e;omega,?_,λk n=>?_⟩
  ·have e:nM r.Seq W i++[p.bm,p.Head]++gZ p=nM r.Seq W (i+1):=by unfold nM;rw [eT,Uj];simp
   rw [<-e,<-Up];exact Uw
  ·rcases I k n with e | e
   ·exact A k e
   ·have:=L.size;omega
 ·have Y:i=W.length:=by omega
  subst Y;have Uv:nM r.Seq W W.length=nN r.Seq W:=by unfold nM nN;rw [hq]
  rw [Uv] at j;rw [Ta];refine aD (Iq j.rd (by rw [BE]) (by omega)) ?_;rintro v bH ⟨rfl,d⟩;refine ⟨_,rfl,?_⟩;rintro P bY J l;obtain ⟨f,c⟩:=bk J l;have f:av bY P (us [qO (nN r.Seq W)]) 30:=f;clear l;have Ul:=d.size;have Um:=c.size;have Un:=g.size;refine r5 (aY.new (d.new c) j) (l2:=[qO (nN r.Seq W)]) (m:=1) (e9 f rfl) rfl (by omega) λap z Uo Q q B=>?_
  have Uu:2+9 * W.length+1=3+9 * W.length:=by omega
  rw [Uu] at Q ⊢;refine ⟨ap,z,rfl,((g.new d).new c).trans q λk C e=>by have:=s k e;omega,Q,λk n=>?_⟩;rcases B k n with e | e
  ·exact s k e
  ·omega
end
end Go.Proofs.YtmkljjbioomepaaGreat
