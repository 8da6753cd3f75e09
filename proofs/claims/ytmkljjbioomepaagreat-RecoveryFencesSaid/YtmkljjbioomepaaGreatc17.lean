import Derived.Test.YtmkljjbioomepaaGreatc16
import Derived.Test.YtmkljjbioomepaaGreatProg
import Derived.Test.YtmkljjbioomepaaGreatc03
import Derived.Test.YtmkljjbioomepaaGreatc15
set_option linter.all false
set_option maxHeartbeats 4000000
set_option maxRecDepth 100000
namespace Go.Proofs.YtmkljjbioomepaaGreat
open Go.Proofs.Tryz Go.br
variable {A M:a5} {G:List (List aL)} {K:al->Nat->Nat->aE} {cap n sz:Nat} {d:bR} {ds:List aL} {cf:List aG} {s:al} {u w w':ak} {v:aG} {vs:List aP}
section
def dZ (d:aL):Int:=d.words.headD 0
def r2 (v:aP) (d:aL):Bool:=if d.code=0 then decide ((d.words.length:Int)=v.v.iE) else if d.code=4\/d.code=5 then decide (d.words.length=0) else false
def kk (vs:List aP) (ds:List aL):Bool:=decide (vs.length=ds.length) && (vs.zip ds).all λp=>r2 p.1 p.2
structure HH where
 done:List aL
 ok:Bool
 a7:List (List aL)
 ask:Option (List aP)
 dC:Bool
def batch (G:List (List aL)) (vs:List aP):HH:=
 if vs.length=0 then ⟨[],true,G,none,false⟩ else match G with
 | []=>⟨[],false,[],some vs,false⟩
 |d::a=>if kk vs d then ⟨d,true,a,none,false⟩ else ⟨[],false,d::a,none,true⟩
abbrev o8:TypeId:=244
theorem q1 {x:aL} (h:k1 M w d x):a_ 196 [d.val] w λv w'=>v=.int .u64 (dZ x)/\ai w w':=by
 refine bc Tryz.func196 ?_;refine Eq.mpr (HC d.Code d.Words d.cI d.cC w _) ?_;rintro b1 w1 c f;obtain ⟨au,e⟩:=bl c f;have i:=h.len;refine ⟨_,_,_,au.cell rfl,dJ (λj=>?_) (λj=>⟨_,_,_,au.cell rfl,?_⟩)⟩
 ·have:x.words=[]:=fB (by omega);refine ⟨by simp [dZ,this],e⟩
 ·cases g:x.words with
  |nil=>rw [g] at i;simp at i <;> omega
  |cons y ys=>
   have a:=h.rd.new e;rw [g] at a;rcases a with a | ⟨b,o,he,k⟩
   ·cases a
   rw [he];refine ed (by omega) (by omega) ⟨y,?_,by simp [dZ,g],e⟩;exact k 0 _ rfl
structure gg where
 gH:al
 dQ:Nat
 gc:Nat
 aa:al
 c5:Nat
 ac:Nat
 dC:Bool
def gg.cells (T:gg):ax:=[.slice T.gH T.dQ T.gc,.slice T.aa T.c5 T.ac,.bool T.dC]
structure Row where
 a:al
 c:Nat
 raw:List bR
def kE (rows:List Row):ax:=rows.map λr=>.slice r.a r.raw.length r.c
def hG (A:a5) (w:ak) (a:al) (G:List (List aL)):Prop:=
 ∃ rows:List Row,rows.length=G.length/\bh w a (kE rows)/\(kE rows=[]\/gd A a)/\
  ∀ (i:Nat) (r:Row) (ds:List aL),rows[i]?=some r->G[i]?=some ds->bh w r.a (fM r.raw).flatten/\((fM r.raw).flatten=[]\/gd A r.a)/\gS A w r.raw ds/\ds.length<=1024
theorem hG.nil (A:a5) (w:ak) (a:al):hG A w a []:=⟨[],rfl,.inl rfl,.inl rfl,λi r ds h=>by simp at h⟩
theorem hG.head {a:al} {d:List aL} (h:hG A w a (d::G)) :
  ∃ (b o:Nat) (r:Row),a=some ⟨b,o,none⟩/\w.cell? ⟨b,o,none⟩=some (.slice r.a r.raw.length r.c)/\bh w r.a (fM r.raw).flatten/\gS A w r.raw d/\d.length<=1024/\hG A w (some ⟨b,o+1,none⟩) G:=by
 obtain ⟨rows,k,f,e,ar⟩:=h;cases rows with
 |nil=>simp at k
 |cons r rows=>
  rcases f with f | ⟨b,o,rfl,g⟩
  ·simp [kE] at f
  ·obtain ⟨l,x,n,p⟩:=ar 0 r d rfl rfl;refine ⟨b,o,r,rfl,g 0 _ rfl,l,n,p,rows,by simpa using k,?_,?_,λi t ds q s=>ar (i+1) t ds (by simpa using q) (by simpa using s)⟩
   ·refine .inr ⟨b,o+1,rfl,λj u hu=>?_⟩;rw [uR,Nat.add_comm 1 j];exact g (j+1) u (by simpa [kE] using hu)
   ·rcases e with e | e
    ·simp [kE] at e
    ·exact .inr e
theorem LY {x:aP} {y:aL} (an:cE M w v x) (h:k1 A w' d y):fits v d=r2 x y:=by unfold fits r2;rw [h.code,h.len,an.eq];rfl
theorem JT {raw:List bR} (an:en M w cf vs) (h:gS A w' raw ds):q3 cf raw=kk vs ds:=by
 unfold q3 kk;rw [h.1,an.1];congr 1;obtain ⟨a,e⟩:=h;obtain ⟨c,f⟩:=an;induction vs generalizing raw ds cf with
 |nil=>
  cases cf with
  |nil=>simp
  |cons=>simp at c
 |cons v vs g=>
  cases cf with
  |nil=>simp at c
  |cons c_ cf=>
   cases raw with
   |nil=>cases ds with
    |nil=>simp
    |cons=>simp at a
   |cons r raw=>cases ds with
    |nil=>simp at a
    |cons d ds=>simp only [List.zip_cons_cons,List.all_cons];rw [LY (f 0 c_ v rfl rfl) (e 0 r d rfl rfl),g (by simpa using a) (λi v x an b=>e (i+1) v x (by simpa using an) (by simpa using b)) (by simpa using c) λi v x an b=>f (i+1) v x (by simpa using an) (by simpa using b)]
theorem xV (h:kk vs ds=true):vs.length=ds.length:=by unfold kk at h;simp at h;exact h.1
theorem qM {G:List (List aL)} {vs:List aP}:(batch G vs).done.length<=vs.length:=by
 unfold batch;split
 ·simp
 ·cases G with
  |nil=>simp
  |cons d G=>
   simp only;split
   ·rename_i h;rw [xV h];exact cO _
   ·simp
theorem Dj {w0:ak} {tb:Nat} {T:gg} (L:ai w0 u) (Vs:w0.heap.size<=tb) (q:av u tb T.cells o8) (K:hG A w0 T.gH G) (n:T.dQ=G.length) (w:T.dQ<=T.gc)
  {aa:al} {ac:Nat} (Y:bh u aa (dP cf).flatten) (C:en M u cf vs) (Vr:vs.length<=1000000) :
  a_ 116 [ptr tb,.slice aa cf.length ac] u λv bq=>∃ (e:gg) (dA:al) (dc:Nat) (raw:List bR),v=.tuple #[.slice dA raw.length dc,.bool (batch G vs).ok]/\av bq tb e.cells o8/\ao (λk=>k=tb) u bq/\
   bh w0 dA (fM raw).flatten/\gS A w0 raw (batch G vs).done/\hG A w0 e.gH (batch G vs).a7/\e.dQ=(batch G vs).a7.length/\e.dQ<=e.gc/\e.dC=(T.dC || (batch G vs).dC)/\
   (match (batch G vs).ask with | none=>e.aa=T.aa/\e.c5=T.c5/\e.ac=T.ac | some _=>e.aa=aa/\e.c5=vs.length/\e.ac=ac):=by
 refine bc Tryz.func116 ?_;rw [ptr,Uk];rw [C.1];have l:gS A w0 [] []:=⟨rfl,λi v x an=>by simp at an⟩;unfold batch;refine dJ (λS=>?_) (λS=>⟨_,_,_,q.cell rfl,dJ (λP=>?_) (λP=>?_)⟩)
 ·have p:vs.length=0:=by omega
  rw [if_pos p];exact ⟨T,none,0,[],rfl,q,ao.refl _ _,.inl rfl,l,K,n,w,by simp,rfl,rfl,rfl⟩
 ·have p:¬ vs.length=0:=by omega
  have V:G=[]:=fB (by omega);subst V;rw [if_neg p];refine ⟨⟨_,q.cell rfl⟩,q.frozen,?_⟩;rintro bE rfl;exact ⟨{ T with aa:=aa,c5:=vs.length,ac:=ac },none,0,[],rfl,q.setCell _,eV _ _ _ _,.inl rfl,l,hG.nil _ _ _,n,w,by simp,rfl,rfl,rfl⟩
 ·have p:¬ vs.length=0:=by omega
  rw [if_neg p];cases G with
  |nil=>simp at n <;> omega
  |cons d H=>
   simp only;obtain ⟨b,o,r,I,Q,F,t,W,N⟩:=K.head;have X:b≠tb:=by
    have P:b<w0.heap.size:=by
     have:=Q;unfold World.cell? at this;by_cases E:b<w0.heap.size
     ·exact E
     ·simp [x1 (x5 E)] at this
    omega
   have g:∀ z,ai w0 z->z.cell? ⟨b,o,none⟩=some (.slice r.a r.raw.length r.c):=by
    intro z au;have U:bh w0 (some ⟨b,o,none⟩) [.slice r.a r.raw.length r.c]:=.inr ⟨b,o,rfl,λj u hu=>by
     cases j with
     |zero=>simp at hu;subst hu;exact Q
     |succ j=>simp at hu⟩
    exact (U.new au).cell (j:=0) rfl
   refine ⟨_,_,_,q.cell rfl,?_⟩;rw [I];refine ed (by omega) (by omega) ?_;refine ⟨_,_,_,g u L,?_⟩;have D:q3 cf r.raw=kk vs d:=JT C t;have Z:=t.1;have hlen:cf.length=vs.length:=C.1;rw [<-hlen];refine aC (N5 Y (F.new L) (by omega) (by omega)) ?_;rintro v Vt ⟨rfl,y⟩;rw [D];refine ⟨_,rfl,er (λJ=>?_) (λJ=>?_)⟩
   ·have s:=ai.aj y q;rw [J];refine ⟨⟨_,s.cell rfl⟩,s.frozen,?_⟩;rintro bu rfl;exact ⟨{ T with dC:=true },none,0,[],rfl,s.setCell _,(ao.b3 y).trans (eV _ _ _ _) (λ_ _ h=>h),.inl rfl,l,K,n,w,by simp,rfl,rfl,rfl⟩
   ·rw [J];rintro bu O;have B:ai u bu:=by rw [O];exact y.drew
    have f:=ai.aj B q;refine ⟨λz=>ai bu z,ao.refl _ _,_,_,_,λz au=>(ai.aj au f).cell rfl,?_⟩;rw [I];refine ed (by omega) (by omega) ?_;refine ⟨_,_,_,λz au=>g z ((L.new B).new au),_,_,_,λz au=>(ai.aj au f).cell rfl,?_⟩;rw [I];refine ⟨by omega,by omega,by omega,by omega,by omega,⟨_,f.cell rfl⟩,f.frozen,?_⟩;rintro Vu rfl;have R:T.dQ=H.length+1:=by simpa using n
    refine ⟨{ T with gH:=if (T.gc:Int)=1 then some ⟨b,o,none⟩ else (some ⟨b,o,none⟩:al).map (·.add (Int.toNat 1 * 1)),dQ:=Int.toNat T.dQ - Int.toNat 1,gc:=Int.toNat T.gc - Int.toNat 1 },r.a,r.c,r.raw,rfl,f.setCell _,(ao.b3 B).trans (eV _ _ _ _) (λ_ _ h=>h),F,t,?_,?_,?_,by simp,rfl,rfl,rfl⟩
    ·show hG A w0 (if (T.gc:Int)=1 then _ else _) H;split
     ·have:H=[]:=fB (by omega);rw [this];exact hG.nil _ _ _
     ·exact N
    ·show Int.toNat (T.dQ:Int) - Int.toNat 1=H.length;omega
    ·show Int.toNat (T.dQ:Int) - Int.toNat 1<=Int.toNat (T.gc:Int) - Int.toNat 1;omega
abbrev gp:TypeId:=125
theorem LZ {a:al} {xs:ax} (j:a2 u cy 9 a n cap xs) (h:n<=1000000000) {K:Nat->al->Nat->Nat->aE}
  (r:∀ b ap e g,b=u.heap.size->a2 g cy 9 ap (n+1) e (xs++v.cells)->ao (aK a) u g->(∀ k,aK ap k->aK a k\/u.heap.size<=k)->K b ap (n+1) e g) :
  ∀ b1 l,b1=u.heap.size->l=u.alloc (.cells v.cells.toArray cy)->∃ (ap:al) (d c:Nat),∃ g,(Builtin.append_ #[gp,gp] gp #[(.slice a n cap),(.slice (some ⟨b1,0,none⟩) 1 1)]).run prog l=.ok (.slice ap d c) g/\K b1 ap d c g:=by
 obtain ⟨inf,q,au,f,p⟩:=fL (T:=cy) (z:=.agg #[.int .i64 0,.int .i64 0,.int .i64 0,.int .i64 0,.int .u64 0,.int .u64 0,.slice none 0 0,.int .u64 0,.int .i64 0]) (n:=9) (m:=88) (by kernel_rfl);rw [<-f] at j;refine ou Tryz.underlying125 q au (by rw [f];rfl) (by omega) j (by rw [f];rfl) (aG.single v) h (by omega) ?_;intro b ap e g o i;rw [f] at i;exact r b ap e g o i
theorem BQ {ws:List aP} (h:(batch G vs).ask=some ws):ws=vs:=by
 unfold batch at h;split at h
 ·cases h
 ·cases G with
  |nil=>simp at h;exact h.symm
  |cons d a=>simp only at h;split at h<;>cases h
theorem CT (h:(batch G vs).ok=true):(batch G vs).ask=none/\(batch G vs).dC=false:=by
 unfold batch at h ⊢;split
 ·exact ⟨rfl,rfl⟩
 ·rename_i an;rw [if_neg an] at h;cases G with
  |nil=>simp at h
  |cons d b=>
   simp only at h ⊢;split
   ·exact ⟨rfl,rfl⟩
   ·rename_i a;rw [if_neg a] at h;simp at h
theorem DP (w:ak) (gH:al) (dQ gc:Nat):a_ 115 [.slice gH dQ gc] w λv w'=>∃ tb,v=ptr tb/\w.heap.size<=tb/\av w' tb (gg.cells ⟨gH,dQ,gc,none,0,0,false⟩) o8/\ai w w':=by refine bc Tryz.func115 ?_;rw [Ig];rintro b1 w1 a b;obtain ⟨au,c⟩:=bl a b;exact ⟨b1,rfl,by omega,au,c⟩
end
section
open IntKind
variable (w:ak) (R:cA) {s t:al} {a b c d:Nat} {i k:Int} {j:aq}
def w2 (e:al) (a b:Nat) (c:al) (d f:Nat) (g h:Int) (j:aq):aq:=ag j 0 3 (ae e a b::ag j 3 14 (ae c d f::ab g::ab h::ag j 17 21 []))
def Gf (c:al) (a b:Nat) (j:aq):aq:=ag j 0 3 (ae c a b::ag j 3 38 [])
theorem GF (k:bX):bf prog f210 [k.val] R w=(aR w k.cells.toArray 271 λe m=>hK m (af e 0) λr=>cm 167 #[r.val,ab 256] m λa j=>cond (a != 0) (R (a6) j) (bt j (af e 0) λb=>b4 j (af e 1) λc d f=>aR j #[ah (u64.wrap b),ah (u64.wrap (d:Nat))] 30 λn l=>b4 l (af e 1) λg h i=>cu prog (c0 f210 [1,1,1,0,1,0,0]) (w2 (bm n) 2 2 g h i (h:Nat) 0 (k.val::jp (af e 0)::a6::bd 2 (r.val::ab a::ad ((a:Int) != 0)::jp (af e 0)::ab b::ah (u64.wrap b)::jp (af e 1)::ae c d f::c9 d::ah (u64.wrap (d:Nat))::ae (bm n) 2 2::jp (af e 1)::bd 21 []))) (aO 0 (aQ f210 [1,1,1,1] R)) l)):=by kernel_rfl
theorem SW (u:aq->aE):W prog (sb f210 [1,1,1,0,1,0,0]) (w2 s a b t c d i k j) (aV u (aO 0 (aQ f210 [1,1,1,1] R))) w=(cond (k<i) (bk t c k 9 λx=>ht w x λr=>aR w #[ab 0,ah 0,ah 0,ah 0,ah 0,ah 0,ah 0,ah 0,ah 0] 73 λf A=>a8 A (af f 0) 0 r.cells λq=>bt q (af f 0) λe=>dp q (af f 1) λh=>aR q #[ah (u64.wrap e),ah h] 30 λv y=>c6 94 (ae s a b) (ae (bm v) 2 2) y λg l m z=>c6 94 (ae g l m) (ae (some (af f 2)) 7 7) z λn o p B=>u (w2 n o p t c d i (i64.wrap (k+1)) (ag j 0 4 (jp (af f 0)::ag j 5 12 (ad (k<i)::jp x::r.val::ae s a b::jp (af f 0)::ab e::ah (u64.wrap e)::jp (af f 1)::ah h::ae (bm v) 2 2::ae g l m::ae g l m::jp (af f 2)::ae (some (af f 2)) 7 7::ae n o p::ab (i64.wrap (k+1))::ag j 33 5 [])))) B) (W prog (sb f210 [1,1,1,1]) (Gf s a b (ag j 0 17 (ae t c d::ab i::ab k::ad (k<i)::ag j 18 20 []))) (b0 f210 R) w)):=by kernel_rfl
theorem T1:W prog (sb f210 [1,1,1,1]) (Gf s a b j) (b0 f210 R) w=(jn 239 #[ae s a b] w λc i=>aR i #[ah c] 30 λg h=>c6 94 (ae s a b) (ae (bm g) 1 1) h λk d f e=>R (ae k d f) e):=by kernel_rfl
theorem UM (d:aJ):bf prog f211 [d.val,ab i] R w=(aR w d.cells.toArray 73 λf e=>dp e (af f 1) λa=>hs 240 #[ah a,ab i] e λb c g=>R (.tuple #[ah b,ab c]) g):=by kernel_rfl
theorem Uw (h:aJ):bf prog f244 [h.val] R w=(aR w h.cells.toArray 73 λg e=>dp e (af g 1) λa=>hs 206 #[ah a] e λb c i=>cond (c != 0) (R (.tuple #[a6,ab c]) i) (aR i #[ah b] 30 λl j=>c6 94 (ae (bm l) 1 1) (ae (some (af g 2)) 7 7) j λm d f k=>R (.tuple #[ae m d f,ab 0]) k)):=by kernel_rfl
end
section
open IntKind
variable (w:ak) (R:cA) {a b c d:Nat} {s t:al} {i k:Int} {A B:aU} {j:aq}
theorem Rj (h:aZ) (i:aG):bf prog f212 [a9 a,h.val,i.val] R w=(aR w h.cells.toArray 116 λm k=>aR k i.cells.toArray 158 λn p=>aR p #[ab 0,ab 0,ab 0,ab 0,ah 0,ah 0,a6,ah 0,ab 0] 158 λg j=>cq j λl f=>z8 f (af a 3) λd=>hb f (af m 0) λr=>F2 f (af n 0) λo=>eL 241 #[d.val,r.val,ad true,o.val] l λb q=>a8 q (af g 0) 0 b.cells λe=>lO e (af g 0) λc=>e=e/\R c.val e):=by kernel_rfl
theorem Sy:bf prog f213 [a9 a,ae s b c,ab i] R w=(aR w #[ab 0,ab 0] 171 λj u=>mz u (af a 7) λt=>jq 116 #[.pointer t,ae s b c] u λn d f g r=>cond (!g) (a8 r (af j 0) 0 [ab 0,ab 0] λm=>dT m (af j 0) λe=>m=m/\R (.tuple #[a6,e.val,ad false]) m) (cm 242 #[ae n d f] r λh q=>cond (h != 0) (a8 q (af j 0) 0 [ab h,ab i] λo=>dT o (af j 0) λk=>o=o/\R (.tuple #[a6,k.val,ad false]) o) (a8 q (af j 0) 0 [ab 0,ab 0] λp=>dT p (af j 0) λl=>p=p/\R (.tuple #[ae n d f,l.val,ad true]) p))):=by kernel_rfl
def wo (e i:aU) (k:al) (a b:Nat) (c:al) (d f:Nat) (g h:Int) (j:aq):aq:=.pointer (some e)::ag j 0 2 (.pointer (some i)::ag j 2 1 (ae k a b::ag j 3 8 (ae c d f::ab g::ab h::ag j 11 21 [])))
def Fg (c:al) (a b:Nat) (j:aq):aq:=ag j 0 5 (ae c a b::ag j 5 32 [])
theorem Se (e:aZ):bf prog f217 [a9 a,e.val] R w=(aR w e.cells.toArray 116 λg f=>b4 f (af a 6) λd b c=>cu prog (c0 f217 [1,1,0,1,0,0]) (wo (af a 0) (af g 0) none 0 0 d b c (b:Nat) 0 (e.val::undef::a6::bd 4 (jp (af a 0)::jp (af a 0)::jp (af a 0)::jp (af a 6)::bd 21 []))) (aO 0 (aQ f217 [1,1,1] R)) f):=by kernel_rfl
theorem P0 (x:aq->aE):W prog (sb f217 [1,1,0,1,0,0]) (wo A B s a b t c d i k j) (aV x (aO 0 (aQ f217 [1,1,1] R))) w=(cond (k<i) (bk t c k 9 λC=>ht w C λr=>aR w #[ab 0,ah 0,ah 0,ah 0,ah 0,ah 0,ah 0,ah 0,ah 0] 73 λu L=>a8 L (af u 0) 0 r.cells λz=>ht z (af u 0) λH=>si 244 #[H.val] z λf g l m a1=>cq a1 λK h=>hb h B λG=>cL h (af u 0) λn=>cm 108 #[ab n] K λo D=>h D/\eL 212 #[.pointer (some A),G.val,.agg #[ab 2,ab 0,ab o,ab 0,ah 0,ah 0,ae f g l,ah 0,ab 0]] D λe E=>h E/\aR E e.cells.toArray 158 λy F=>h F/\c6 125 (ae s a b) (ae (bm y) 1 1) F λv p q aW=>h aW/\x (wo A B v p q t c d i (i64.wrap (k+1)) (ag j 0 4 (jp (af u 0)::ae f g l::ab m::ag j 7 4 [ad (k<i),jp C,r.val,.tuple #[ae f g l,ab m],H.val,.tuple #[ae f g l,ab m],ae f g l,ab m,ae s a b,jp A,G.val,jp (af u 0),ab n,ab o,ae f g l,.agg #[ab 2,ab 0,ab o,ab 0,ah 0,ah 0,ae f g l,ah 0,ab 0],e.val,ae (bm y) 1 1,ae v p q,ab (i64.wrap (k+1)),aF j 31]))) aW) (W prog (sb f217 [1,1,1]) (Fg s a b (jp A::aF j 0::aF j 1::jp B::ag j 2 9 (ae t c d::ab i::ab k::ad (k<i)::ag j 12 20 []))) (b0 f217 R) w)):=by kernel_rfl
theorem QH:W prog (sb f217 [1,1,1]) (Fg s a b j) (b0 f217 R) w=(R (ae s a b) w):=by kernel_rfl
theorem Sf (s:aZ):bf prog f218 [a9 a,s.val] R w=(aR w s.cells.toArray 116 λy z=>aR z #[ab 0,ab 0,ab 0,ab 0,ah 0,ah 0,a6,ah 0,ab 0] 158 λm A=>cq A λo j=>hb j (af y 0) λr=>cL j (af a 0) λe=>cL j (af a 1) λb=>(cm 225 #[ab e] o λc q=>j q/\aR q #[ah (u64.wrap b)] 30 λx t=>j t/\eL 212 #[a9 a,r.val,.agg #[ab 2,ab 0,ab c,ab 0,ah 0,ah 0,ae (bm x) 1 1,ah 0,ab 0]] t λf u=>j u/\a8 u (af m 0) 0 f.cells λn=>lO n (af m 0) λg=>n=n/\R g.val n)/\aR o #[ah (u64.wrap b)] 30 λB v=>j v/\cm 225 #[ab e] v λd p=>j p/\eL 212 #[a9 a,r.val,.agg #[ab 2,ab 0,ab d,ab 0,ah 0,ah 0,ae (bm B) 1 1,ah 0,ab 0]] p λi h=>j h/\a8 h (af m 0) 0 i.cells λk=>lO k (af m 0) λl=>k=k/\R l.val k):=by kernel_rfl
def wq (e i:aU) (k:al) (a b:Nat) (c:al) (d f:Nat) (g h:Int) (j:aq):aq:=.pointer (some e)::ag j 0 2 (.pointer (some i)::ag j 2 1 (ae k a b::ag j 3 7 (ae c d f::ab g::ab h::ag j 10 12 [])))
def Fe (c:al) (a b:Nat) (j:aq):aq:=ag j 0 5 (ae c a b::ag j 5 22 [])
theorem Su (e:aG):bf prog f237 [a9 a,e.val] R w=(aR w e.cells.toArray 158 λg f=>b4 f (af a 4) λd b c=>cu prog (c0 f237 [1,1,0,1,0,0]) (wq (af a 0) (af g 0) none 0 0 d b c (b:Nat) 0 (e.val::undef::a6::bd 2 (jp (af a 0)::jp (af a 0)::jp (af a 0)::jp (af a 3)::jp (af a 4)::bd 12 []))) (aO 0 (aQ f237 [1,1,1] R)) f):=by kernel_rfl
theorem Qa (q:aq->aE):W prog (sb f237 [1,1,0,1,0,0]) (wq A B s a b t c d i k j) (aV q (aO 0 (aQ f237 [1,1,1] R))) w=(cond (k<i) (bk t c k 3 λu=>ig w u λr=>aR w #[ab 0,ab 0,ad false] 116 λh x=>a8 x (af h 0) 0 r.cells λm=>ig m (af h 0) λo=>lO m B λn=>eL 212 #[.pointer (some A),o.val,n.val] m λl v=>aR v l.cells.toArray 158 λp y=>c6 125 (ae s a b) (ae (bm p) 1 1) y λf e g z=>q (wq A B f e g t c d i (i64.wrap (k+1)) (ag j 0 4 (jp (af h 0)::ag j 5 5 [ad (k<i),jp u,r.val,ae s a b,jp A,o.val,n.val,l.val,ae (bm p) 1 1,ae f e g,ab (i64.wrap (k+1)),aF j 21]))) z) (W prog (sb f237 [1,1,1]) (Fe s a b (jp A::aF j 0::aF j 1::jp B::ag j 2 8 (ae t c d::ab i::ab k::ad (k<i)::ag j 11 11 []))) (b0 f237 R) w)):=by kernel_rfl
theorem Rp:W prog (sb f237 [1,1,1]) (Fe s a b j) (b0 f237 R) w=(R (ae s a b) w):=by kernel_rfl
end
section
theorem nr {k:Nat}:¬ aK none k:=λh=>by obtain ⟨o,a⟩:=h;cases a
theorem CU {α:Type} {cells:α->ax} (h:∀ x,(cells x).length=sz) (l:List α):(l.map cells).flatten.length=l.length * sz:=by rw [mf (sz:=sz),fC];intro r a;obtain ⟨x,_,rfl⟩:=cW.1 a;exact h x
theorem q5 {α:Type} {cells:α->ax} {S e:TypeId} {inf:TypeInfo} {z:a4} (B:∀ x,(cells x).length=sz) (E:∀ x,∀ v ∈ cells x,single v=true)
  (R:prog.underlying S=some (.slice e)) (M:prog.info? e=some inf) (au:inf.zero=some z) (G:z.cells.size=inf.size) (C:inf.size=sz) (J:0<sz) (A:inf.bytes<=1000)
  {a:al} {l:List α} (q:a2 u e sz a n cap (l.map cells).flatten) {m c:Nat} {l2:List α} (Q:bh u s (l2.map cells).flatten) (hm:m=l2.length) (N:n+m<=1000000)
  (p:∀ ap b i,a2 i e sz ap (n+m) b ((l++l2).map cells).flatten->ao (aK a) u i->(∀ k,aK ap k->aK a k\/u.heap.size<=k)->K ap (n+m) b i) :
  ∃ (ap:al) (f d:Nat),∃ i,(Builtin.append_ #[S,S] S #[(.slice a n cap),(.slice s m c)]).run prog u=.ok (.slice ap f d) i/\K ap f d i:=by
 subst C;have L:(n+m) * inf.bytes<=1000000 * 1000:=p1 N A;have h:∀ x ∈ (l2.map cells).flatten,single x=true:=by intro x F;obtain ⟨r,O,F⟩:=oO.1 F;obtain ⟨y,_,rfl⟩:=cW.1 O;exact E y x F
 obtain ⟨ap,b,H,j,g,D,w⟩:=a2.append (P:=prog) (t:=S) (ty:=S) R M au G J q (s:=s) (m:=m) (c:=c) (news:=(l2.map cells).flatten) (by rw [CU B,hm]) Q h (by omega) (by omega);have I:(l.map cells).flatten++(l2.map cells).flatten=((l++l2).map cells).flatten:=by simp
 rw [I] at g;refine ⟨ap,n+m,b,H,j,p ap b H g D λk p=>?_⟩;rcases w with e | e
 ·exact .inl (e▸p)
 ·obtain ⟨o,q⟩:=p;rw [e] at q;simp at q;exact .inr (by omega)
def tv (x:Int):ax:=[.int .u64 x]
theorem ve (l:bb):(l.map tv).flatten=us l:=by
 induction l with
 |nil=>rfl
 |cons x l a=>simp [tv,us] at a ⊢;exact a
theorem tm {a:al} {l:bb} (q:a2 u 30 1 a n cap (us l)) {m c:Nat} {l2:bb} (r:bh u s (us l2)) (hm:m=l2.length) (p:n+m<=1000000)
  (o:∀ ap e f,a2 f 30 1 ap (n+m) e (us (l++l2))->ao (aK a) u f->(∀ k,aK ap k->aK a k\/u.heap.size<=k)->K ap (n+m) e f) :
  ∃ (ap:al) (d b:Nat),∃ f,(Builtin.append_ #[94,94] 94 #[(.slice a n cap),(.slice s m c)]).run prog u=.ok (.slice ap d b) f/\K ap d b f:=by
 obtain ⟨inf,j,au,g,h⟩:=fL (T:=30) (z:=.int .u64 0) (n:=1) (m:=8) (by kernel_rfl);refine q5 (cells:=tv) (sz:=1) (λ_=>rfl) (λx v an=>by simp [tv] at an;subst an;rfl) Tryz.underlying94 j au (by rw [g];rfl) g (by decide) (by rw [h];decide) (l:=l) (by rw [ve];exact q) (l2:=l2) (by rw [ve];exact r) hm p λap e f i=>?_
 rw [ve] at i;exact o ap e f i
def eJ (h c:Int):Int:=je .u64 h (c+1)
def lf (h:Int):Int:=h_ .u64 (db .u64 h 8+1) 8
def fN (s:Int):Int:=je .u64 (h_ .u64 s 2) 2
def qG (n:Int):Int:=2 * n+1
theorem yh (x:Int):b8 (IntKind.u64.wrap x):=by unfold b8;simp only [IntKind.wrap,IntKind.bits,IntKind.signed];simp;omega
theorem Dk (h c:Int):b8 (eJ h c):=yh _
theorem L0 (h:Int):b8 (lf h):=yh _
theorem yx (s:Int):b8 (fN s):=yh _
theorem Nq (w:ak) {h c:Int} (hu:lS h=true) (b:0<=c/\c<6):a_ 240 [.int .u64 h,.int .i64 c] w λv w'=>v=.tuple #[.int .u64 (eJ h c),.int .i64 0]/\w'=w:=by
 refine bc Tryz.func240 ?_;rw [HE];refine aC (I1 w c) ?_;rintro v w1 ⟨rfl,rfl⟩;refine ⟨_,rfl,er (λa=>absurd (of_decide_eq_false a) (by omega)) (λ_=>?_)⟩
 refine aC (vG w1 h) ?_;rintro v d ⟨rfl,rfl⟩;refine ⟨_,rfl,er (λa=>by rw [hu] at a;cases a) (λ_=>⟨?_,rfl⟩)⟩
 rw [bC (x:=c+1) (by omega) (by omega),j8 (x:=c+1) (by omega) (by omega)];rfl
theorem y2 (w:ak) {s:Int} (h:1<=s/\s<1073741824):a_ 214 [.int .i64 s] w λv w'=>v=.tuple #[.int .u64 (fN s),.int .i64 0]/\w'=w:=by
 refine bc Tryz.func214 ?_;rw [Ag];refine aC (sE w s 1 1073741823) ?_;rintro v w1 ⟨rfl,rfl⟩;refine ⟨_,rfl,er (λa=>absurd (of_decide_eq_false a) (by omega)) (λ_=>⟨?_,rfl⟩)⟩
 rw [j8 (x:=s) (by omega) (by omega)];rfl
theorem L1 (w:ak) {h:Int} (hu:b8 h) (b:kr h=true):a_ 206 [.int .u64 h] w λv w'=>v=.tuple #[.int .u64 (lf h),.int .i64 0]/\w'=w:=by
 refine bc Tryz.func206 ?_;rw [GY];refine aC (C0 w h) ?_;rintro v w1 ⟨rfl,rfl⟩;refine ⟨_,_,rfl,?_⟩;refine aC (Ay w1 _ 1 281474976710654) ?_;rintro v d ⟨rfl,rfl⟩;have c:=Mu hu;unfold kr at b;refine ⟨_,rfl,er (λa=>by rw [b] at a;cases a) (λ_=>⟨?_,rfl⟩)⟩
 rw [jH (x:=db .u64 h 8+1) (by omega) (by omega)];rfl
theorem N9 (w:ak) {n:Int} (a:0<=n) (b:n<16):a_ 103 [.int .i64 n,.bool true] w λv w'=>v=.tuple #[.int .u64 (qG n),.int .i64 0]/\w'=w:=by refine bc Tryz.func103 ?_;rw [G_];refine aC (sE w n 0 15) ?_;rintro v w1 ⟨rfl,rfl⟩;refine ⟨_,rfl,cR (by simp;omega) (eB rfl ⟨?_,rfl⟩)⟩;rw [jH (x:=n) (by omega) (by omega),jH (x:=n * 2) (by omega) (by omega),jH (by omega) (by omega)];unfold qG;rw [Int.mul_comm]
def e4 (c:Int):Int:=48+120 * c
theorem Az (w:ak) {c i:Int} (a:0<=c/\c<6) (b:0<=i/\i<1000):a_ 238 [.int .i64 c,.int .i64 i] w λv w'=>v=.int .i64 (e4 c+i)/\w'=w:=by
 refine bc Tryz.func238 ?_;rw [Uq];refine a' (λh=>absurd h (by omega)) (λ_=>a' (λh=>absurd h (by omega)) (λ_=>⟨?_,rfl⟩))
 unfold e4;rw [bC (x:=c * 15) (by omega) (by omega),bC (x:=6+c * 15) (by omega) (by omega),bC (x:=(6+c * 15) * 8) (by omega) (by omega),bC (x:=(6+c * 15) * 8+i) (by omega) (by omega)];congr 1;omega
theorem Dl (w:ak) {c:Int} (a:0<=c/\c<6):a_ 209 [.int .i64 c] w λv w'=>v=.int .i64 (e4 c+8)/\w'=w:=by refine bc Tryz.func209 ?_;rw [U_];refine aC (Az w a (i:=8) (by omega)) ?_;rintro v w1 ⟨rfl,rfl⟩;exact ⟨_,rfl,rfl,rfl⟩
theorem yy (w:ak) {c:Int} (a:0<=c/\c<6):a_ 215 [.int .i64 c] w λv w'=>v=.int .i64 (e4 c)/\w'=w:=by refine bc Tryz.func215 ?_;rw [U'];refine aC (Az w a (i:=0) (by omega)) ?_;rintro v w1 ⟨rfl,rfl⟩;exact ⟨_,rfl,by rw [Int.add_zero],rfl⟩
section
attribute [local irreducible] ic iS mL
theorem vf (w:ak) {i:Int} (g:0<=i/\i<6):a_ 225 [.int .i64 i] w λv w'=>v=.int .i64 (32+i)/\ai w w':=by
 refine bc Tryz.func225 ?_;rw [U5];refine aC (xS _ _ _) ?_;rintro v w1 ⟨cz,d,rfl,a,b,e⟩;have c:=xT;refine ⟨_,rfl,?_⟩;have f:(#[]++#[.int .i64 i]++#[ptr cz,ptr d]:Array a4)=#[.int .i64 i,ptr cz,ptr d]:=by simp
 refine qU c f ?_;refine aC (xD w1 a b (by omega) (by omega) i) ?_;rintro v h ⟨rfl,rfl⟩;refine ⟨_,rfl,?_,e⟩;unfold nG;rw [if_neg (by omega),show (4:Int) * 8+i=32+i by omega]
end
theorem yi (w:ak) (p:aJ) {c:Int} (hu:lS p.Head=true) (d:0<=c/\c<6):a_ 211 [p.val,.int .i64 c] w λv w'=>v=.tuple #[.int .u64 (eJ p.Head c),.int .i64 0]/\ai w w':=by refine bc Tryz.func211 ?_;rw [UM];rintro b1 w1 b a;obtain ⟨au,e⟩:=bl b a;have au:av w1 b1 p.cells ep:=au;clear a;refine ⟨_,au.cell (i:=1) rfl,?_⟩;refine aC (Nq w1 hu d) ?_;rintro v f ⟨rfl,rfl⟩;exact ⟨_,_,rfl,rfl,e⟩
def hz (p:aJ):bb:=[p.vo,p.B2,p.B3,p.B4,p.B5,p.B6,p.B7]
def ir (p:aJ):bb:=lf p.Head::hz p
theorem BR (w:ak) (p:aJ) (z:b8 p.Head) (B:kr p.Head=true):a_ 244 [p.val] w λv w'=>∃ (a:al) (cap:Nat),v=.tuple #[.slice a 8 cap,.int .i64 0]/\ai w w'/\a2 w' 30 1 a 8 cap (us (ir p))/\∀ k,aK a k->w.heap.size<=k:=by
 refine bc Tryz.func244 ?_;rw [Uw];rintro b1 w1 n h;obtain ⟨au,g⟩:=bl n h;have au:av w1 b1 p.cells ep:=au;clear h;refine ⟨_,au.cell (i:=1) rfl,?_⟩;refine aC (L1 w1 z B) ?_;rintro v E ⟨rfl,rfl⟩;refine ⟨_,_,rfl,dw (λe=>absurd rfl e) (λ_=>?_)⟩
 rintro aA x q j;obtain ⟨c,b⟩:=bl q j;have c:av x aA (us [lf p.Head]) 30:=c;clear j;have C:=g.size;have D:=b.size;have t:a2 x 30 1 (some ⟨aA,0,none⟩) 1 1 (us [lf p.Head]):=⟨rfl,.inr ⟨aA,_,rfl,c,by omega,by decide,rfl,rfl⟩⟩;refine tm t (l2:=hz p) (m:=7) (fk (ai.aj b au) rfl) rfl (by omega) λap d F y s l=>?_
 have u:w.heap.size<=aA:=by omega
 have f:∀ k,aK (some ⟨aA,0,none⟩) k->w.heap.size<=k:=λk r=>by obtain ⟨o,t⟩:=r;simp at t <;> omega
 refine ⟨ap,d,rfl,(g.new b).trans s λk A e=>by have:=f k e;omega,y,λk r=>?_⟩;rcases l k r with e | e
 ·exact f k e
 ·omega
def nu (seq:Int) (b_:List aJ):bb:=seq::(b_.length:Int)::(b_.map λp=>p.bn::p.Head::hz p).flatten
def fc (seq:Int) (b_:List aJ):bb:=nu seq b_++[rV (nu seq b_)]
theorem Ix (b_:List aJ):(b_.map λp=>p.bn::p.Head::hz p).flatten.length=9 * b_.length:=by
 induction b_ with
 |nil=>rfl
 |cons p b_ a=>rw [gA,gR,dH,a];simp [hz];omega
theorem yj (seq:Int) (b_:List aJ):(nu seq b_).length=2+9 * b_.length:=by unfold nu;simp only [hh,Ix];omega
theorem ps (seq:Int) (b_:List aJ):(fc seq b_).length=3+9 * b_.length:=by unfold fc;rw [dH,yj];simp;omega
def oz (seq:Int) (b_:List aJ) (i:Nat):bb:=seq::(b_.length:Int)::((b_.take i).map λp=>p.bn::p.Head::hz p).flatten
theorem yk {r:bX} {W:List aJ} (h:i0 w r.ei r.dI W) (an:fr r.Seq W 256=0) (VO:1<=r.Seq/\r.Seq<1073741824) (eT:W.length<=12) (VI:∀ p ∈ W,96<=p.bn/\p.bn<256) :
  a_ 210 [r.val] w λv w'=>∃ (a:al) (cap:Nat),v=.slice a (3+9 * W.length) cap/\ai w w'/\a2 w' 30 1 a (3+9 * W.length) cap (us (fc r.Seq W))/\∀ k,aK a k->w.heap.size<=k:=by
 refine bc Tryz.func210 ?_;rw [GF];rintro b1 w1 S M;obtain ⟨au,D⟩:=bl S M;have au:av w1 b1 r.cells 271:=au;clear M;refine bX.aS r ⟨bK au rfl,?_⟩;refine aC (xU (h.new D) 256) ?_;rintro v VQ ⟨rfl,E⟩;rw [an];have hlen:=h.len;have y:=ai.aj E au;refine ⟨_,rfl,dw (λe=>absurd rfl e) (λ_=>⟨_,y.cell (i:=0) rfl,_,_,_,y.cell (i:=1) rfl,?_⟩)⟩;dsimp only;rw [j8 (x:=r.Seq) (by omega) (by omega),j8 (x:=(r.dI:Int)) (by omega) (by omega)];rintro aA VC T N;obtain ⟨G,F⟩:=bl T N;have G:av VC aA (us (oz r.Seq W 0)) 30:=by simpa [oz,us,hlen] using G
 clear N;have K:=(D.new E).new F;have VK:=D.size;have VL:=E.size;have VM:=F.size;refine ⟨_,_,_,(ai.aj F y).cell (i:=1) rfl,?_⟩;have Vr:a2 VC 30 1 (some ⟨aA,0,none⟩) 2 2 (us (oz r.Seq W 0)):=⟨rfl,.inr ⟨aA,_,rfl,G,by omega,by decide,rfl,rfl⟩⟩;have X:∀ k,aK (some ⟨aA,0,none⟩) k->w.heap.size<=k:=λk n=>by obtain ⟨o,Vr⟩:=n;simp at Vr <;> omega
 refine c2 mix (λm env u=>∃ (i:Nat) (pa:al) (pc:Nat) (VA:ax),m=W.length - i/\i<=W.length/\env=w2 pa (2+9 * i) pc r.ei r.dI r.gq r.dI i VA/\ai w u/\a2 u 30 1 pa (2+9 * i) pc (us (oz r.Seq W i))/\∀ k,aK pa k->w.heap.size<=k) W.length
  ⟨0,_,_,_,rfl,by omega,rfl,K,Vr,X⟩ ?_
 rintro m env u ⟨i,pa,pc,VA,rfl,VN,rfl,g,j,s⟩;rw [SW,hlen];refine a' (λC=>?_) (λVH=>?_)
 ·obtain ⟨p,Vs⟩:∃ p,W[i]?=some p:=⟨_,bF (by omega)⟩;have VJ:=VI p (cg Vs);refine eo (cells:=aJ.cells) aJ.len (by omega) (h.rd.new g) Vs rfl rfl λb o V _=>aJ.aS p ⟨V,?_⟩
  refine ea (vs:=p.cells) rfl (aJ.single _) λP VB J t d=>⟨_,t.cell (i:=0) rfl,_,t.cell (i:=1) rfl,?_⟩
  rw [j8 (x:=p.bn) (by omega) (by omega)];rintro VD bu U l;obtain ⟨f,c⟩:=bl U l;have f:av bu VD (us [p.bn,p.Head]) 30:=f;clear l;have Vu:=d.size;have Vv:=c.size;have Vw:=g.size;refine tm (a2.new (d.new c) j) (l2:=[p.bn,p.Head]) (m:=2) (fk f rfl) rfl (by omega) λap z Vx Q q B=>?_
  have A:∀ k,aK ap k->w.heap.size<=k:=λk n=>by
   rcases B k n with e | e
   ·exact s k e
   ·omega
  have Vz:=t.lt;have Vt:∀ k,aK pa k->k≠P:=λk n e=>by have:=j.lt n;omega
  have O:av Vx P p.cells ep:=q.aj (ai.aj c t) λe=>Vt _ e rfl
  have L:ai w Vx:=((g.new d).new c).trans q λk C e=>by have:=s k e;omega
  refine tm Q (l2:=hz p) (m:=7) (fk O rfl) rfl (by omega) λR H VP VG Z I=>?_
  rw [bC (x:=(i:Int)+1) (by omega) (by omega)];have Vy:2+9 * i+2+7=2+9 * (i+1):=by omega
  refine ⟨W.length - (i+1),by omega,i+1,R,H,_,rfl,by omega,by rw [<-Vy,<-hlen];rfl,L.trans Z λk C e=>by have:=A k e;omega,?_,λk n=>?_⟩
  ·have e:oz r.Seq W i++[p.bn,p.Head]++hz p=oz r.Seq W (i+1):=by unfold oz;rw [e7,Vs];simp
   rw [<-e,<-Vy];exact VG
  ·rcases I k n with e | e
   ·exact A k e
   ·have:=L.size;omega
 ·have Y:i=W.length:=by omega
  subst Y;have VF:oz r.Seq W W.length=nu r.Seq W:=by unfold oz nu;rw [hv]
  rw [VF] at j;rw [T1];refine aC (Iv j.rd (by rw [yj]) (by omega)) ?_;rintro v bE ⟨rfl,d⟩;refine ⟨_,rfl,?_⟩;rintro P VB J l;obtain ⟨f,c⟩:=bl J l;have f:av VB P (us [rV (nu r.Seq W)]) 30:=f;clear l;have Vu:=d.size;have Vv:=c.size;have Vw:=g.size;refine tm (a2.new (d.new c) j) (l2:=[rV (nu r.Seq W)]) (m:=1) (fk f rfl) rfl (by omega) λap z Vx Q q B=>?_
  have VE:2+9 * W.length+1=3+9 * W.length:=by omega
  rw [VE] at Q ⊢;refine ⟨ap,z,rfl,((g.new d).new c).trans q λk C e=>by have:=s k e;omega,Q,λk n=>?_⟩;rcases B k n with e | e
  ·exact s k e
  ·omega
end
end Go.Proofs.YtmkljjbioomepaaGreat
