import Derived.Test.YtmkljjbioomepaaGreate07
import Derived.Test.YtmkljjbioomepaaGreate04
set_option linter.all false
namespace Go.Proofs.YtmkljjbioomepaaGreat
open Go.Proofs.Tryz Go.bn
variable {i:Nat}
section
def aF.last (v:aF):Int:=if v.Kind=1 then 3 else 2
theorem zp (w:al) (v:aF):ba 133 [v.val] w λx w'=>x=.int .i64 v.last/\ai w w':=by refine bc Tryz.func133 ?_;refine Eq.mpr (Tu v.Kind v.Node v.bQ v.N v.Old v.ai v.Words v.cG v.cy v.Key v.ch w _) ?_;rintro b1 w1 rfl rfl;have c:=nQ w v;have b:=gY w (.cells v.cells.toArray cr);refine ⟨_,c.cell rfl,dJ (λa=>⟨?_,b⟩) (λa=>⟨?_,b⟩)⟩<;>simp [aF.last,a]
def aF.g7 (v:aF):Int:=if v.Kind=1 then v.N else if v.Kind=3\/v.Kind=4 then 1 else 0
theorem IA (w:al) (v:aF):ba 233 [v.val] w λx w'=>x=.int .i64 v.g7/\ai w w':=by
 refine bc Tryz.func233 ?_;refine Eq.mpr (TM v.Kind v.Node v.bQ v.N v.Old v.ai v.Words v.cG v.cy v.Key v.ch w _) ?_;rintro b1 w1 rfl rfl;have e:=nQ w v;have b:=gY w (.cells v.cells.toArray cr);refine ⟨_,e.cell rfl,dJ (λc=>⟨_,e.cell rfl,?_,b⟩) (λc=>dJ (λa=>dJ (λ_=>⟨?_,b⟩) (λh=>absurd a h)) (λa=>dJ (λd=>⟨?_,b⟩) (λd=>⟨?_,b⟩)))⟩
 ·simp [aF.g7,c]
 ·simp [aF.g7,a]
 ·simp [aF.g7,d]
 ·simp [aF.g7,c,a,d]
def aF.c3 (v:aF):Int:=v.bQ / 8
def aF.b6 (v:aF):Int:=(v.bQ+v.count - 1) / 8
theorem CK (w:al) (v:aF) (c:0<=v.bQ) (e:v.bQ<=1000000) (f:1<=v.count) (g:v.count<=1000000) :
  ba 132 [v.val] w λx w'=>x=.tuple #[.int .i64 v.c3,.int .i64 v.b6]/\ai w w':=by
 refine bc Tryz.func132 ?_;refine Eq.mpr (GY v.Kind v.Node v.bQ v.N v.Old v.ai v.Words v.cG v.cy v.Key v.ch w _) ?_;rintro b1 w1 rfl rfl h rfl;have a:av (w.alloc (.cells v.cells.toArray cr)).drew w.heap.size v.cells cr:=nQ w v;have d:Go.bn.ai w (w.alloc (.cells v.cells.toArray cr)).drew:=(gY w (.cells v.cells.toArray cr)).drew;refine ⟨λu=>Go.bn.ai (w.alloc (.cells v.cells.toArray cr)).drew u,ao.refl _ _,_,λu hu=>(ai.ak hu a).cell rfl,_,λu hu=>(ai.ak hu a).cell rfl,l3 (λu hu=>gF (ai.ak hu a)) ?_⟩;refine aD (uk _ v) ?_;rintro x i ⟨rfl,b⟩;refine ⟨_,rfl,b,?_,d.new b⟩;rw [bA (x:=v.bQ+v.count) (by omega) (by omega),bA (x:=v.bQ+v.count - 1) (by omega) (by omega),wQ c,wQ (by omega),bA (by omega) (by omega),bA (by omega) (by omega)];rfl
def aF.inside (v:aF) (nodes lines:Int):Bool:=
 decide (1<=nodes/\nodes<=5/\1<=lines/\lines<=256/\0<=v.Node/\v.Node<nodes/\0<=v.bQ/\v.bQ<lines * 8/\v.count<=1024/\v.b6<lines/\v.b6 - v.c3<128)
theorem Kx (w:al) (v:aF) (nodes lines:Int) (q:1<=v.count):ba 131 [v.val,.int .i64 nodes,.int .i64 lines] w λx w'=>x=.bool (v.inside nodes lines)/\ai w w':=by
 refine bc Tryz.func131 ?_;refine Eq.mpr (T2 v.Kind v.Node v.bQ v.N v.Old v.ai v.Words v.cG v.cy v.Key v.ch nodes lines w _) ?_;rintro b1 w1 rfl rfl;have b:=nQ w v;have a:=gY w (.cells v.cells.toArray cr);have no:∀ {w'},Go.bn.ai w w'->¬ (1<=nodes/\nodes<=5/\1<=lines/\lines<=256/\0<=v.Node/\v.Node<nodes/\0<=v.bQ/\v.bQ<lines * 8/\v.count<=1024/\v.b6<lines/\v.b6 - v.c3<128)->
   (Value.bool false=.bool (v.inside nodes lines)/\Go.bn.ai w w'):=λc h=>⟨by simp only [aF.inside,decide_eq_false h],c⟩
 refine a9 (λf=>no a (by omega)) (λf=>a9 (λg=>no a (by omega)) (λg=>a9 (λi=>no a (by omega)) (λi=>a9 (λj=>no a (by omega)) (λj=>
  ⟨_,b.cell rfl,a9 (λk=>no a (by omega)) (λk=>⟨_,b.cell rfl,a9 (λl=>no a (by omega)) (λl=>⟨_,b.cell rfl,a9 (λn=>no a (by omega)) (λn=>⟨_,b.cell rfl,?_⟩)⟩)⟩)⟩))))
 rw [bA (x:=lines * 8) (by omega) (by omega)];refine a9 (λo=>no a (by omega)) (λo=>iy (gF b) ?_);refine aD (uk _ v) ?_;rintro x t ⟨rfl,c⟩;refine ⟨_,rfl,a9 (λp=>no (a.new c) (by omega)) (λp=>iy (gF (ai.ak c b)) ?_)⟩;refine aD (CK _ v (by omega) (by omega) q (by omega)) ?_;rintro x u ⟨rfl,d⟩;have s:v.c3=v.bQ / 8:=rfl;have r:v.b6=(v.bQ+v.count - 1) / 8:=rfl;refine ⟨_,_,rfl,a9 (λe=>⟨?_,(a.new c).new d⟩) (λe=>no ((a.new c).new d) (by omega))⟩;rw [bA (x:=v.b6 - v.c3) (by omega) (by omega)];congr 1;unfold aF.inside;rw [decide_eq_decide];constructor
 ·intro h;exact ⟨by omega,by omega,by omega,by omega,by omega,by omega,by omega,by omega,by omega,e,h⟩
 ·intro h;exact h.2.2.2.2.2.2.2.2.2.2
def aF.valid (v:aF) (nodes lines:Int):Int:=
 if v.count<1 then 1 else if v.inside nodes lines=false then 2 else if v.c3<=v.last/\v.last<v.b6 then 2 else 0
theorem ox {v:aF} {nodes lines:Int} (h:v.inside nodes lines=true):1<=nodes/\nodes<=5/\1<=lines/\lines<=256/\0<=v.Node/\v.Node<nodes/\0<=v.bQ/\v.bQ<lines * 8/\v.count<=1024/\v.b6<lines/\v.b6 - v.c3<128:=of_decide_eq_true h
theorem xz (w:al) (v:aF) (nodes lines:Int):ba 94 [v.val,.int .i64 nodes,.int .i64 lines] w λx w'=>x=.int .i64 (v.valid nodes lines)/\ai w w':=by
 refine bc Tryz.func94 ?_;refine Eq.mpr (Gy v.Kind v.Node v.bQ v.N v.Old v.ai v.Words v.cG v.cy v.Key v.ch nodes lines w _) ?_;rintro b1 w1 rfl rfl;have r:=nQ w v;have t:=gY w (.cells v.cells.toArray cr);refine iy (gF r) ?_;refine aD (uk _ v) ?_;rintro x y ⟨rfl,s⟩;have d:=ai.ak s r;have k:=t.new s;refine ⟨_,rfl,a9 (λb=>⟨by simp [aF.valid,b],k⟩) (λb=>iy (gF d) ?_)⟩;refine aD (Kx _ v nodes lines (by omega)) ?_;rintro x z ⟨rfl,g⟩;have e:=ai.ak g d;have l:=k.new g;refine ⟨_,rfl,dZ (λc=>⟨by simp [aF.valid,b,c],l⟩) (λc=>iy (gF e) ?_)⟩;have u:=ox c;refine aD (CK _ v (by omega) (by omega) (by omega) (by omega)) ?_;rintro x A ⟨rfl,h⟩;have f:=ai.ak h e;have p:=l.new h;refine ⟨_,_,rfl,iy (gF f) ?_⟩;refine aD (zp _ v) ?_;rintro x B ⟨rfl,i⟩;have o:=ai.ak i f;have a:=p.new i;refine ⟨_,rfl,a9 (λn=>iy (gF o) ?_) (λn=>⟨?_,a⟩)⟩
 ·refine aD (zp _ v) ?_;rintro x C ⟨rfl,j⟩;refine ⟨_,rfl,a9 (λq=>⟨?_,a.new j⟩) (λq=>⟨?_,a.new j⟩)⟩
  ·simp [aF.valid,b,c,n,q]
  ·have:¬ v.last<v.b6:=by omega
   simp [aF.valid,b,c,n,this]
 ·simp [aF.valid,b,c,n]
def aF.cls (v:aF):Int:=if v.c3<=v.last then 1 else 2
theorem LM (w:al) (v:aF) (e:0<=v.bQ) (f:v.bQ<=1000000):ba 185 [v.val] w λx w'=>x=.int .i64 v.cls/\ai w w':=by
 refine bc Tryz.func185 ?_;refine Eq.mpr (GC v.Kind v.Node v.bQ v.N v.Old v.ai v.Words v.cG v.cy v.Key v.ch w _) ?_;rintro b1 w1 rfl rfl g rfl;have b:av (w.alloc (.cells v.cells.toArray cr)).drew w.heap.size v.cells cr:=nQ w v;have d:Go.bn.ai w (w.alloc (.cells v.cells.toArray cr)).drew:=(gY w (.cells v.cells.toArray cr)).drew;refine ⟨λu=>Go.bn.ai (w.alloc (.cells v.cells.toArray cr)).drew u,ao.refl _ _,_,λu hu=>(ai.ak hu b).cell rfl,l3 (λu hu=>gF (ai.ak hu b)) ?_⟩;refine aD (zp _ v) ?_;rintro x i ⟨rfl,a⟩;refine ⟨_,rfl,a,?_⟩;rw [wQ e,bA (by omega) (by omega)];have c:v.c3=v.bQ / 8:=rfl;refine a9 (λh=>⟨?_,d.new a⟩) (λh=>⟨?_,d.new a⟩)
 ·rw [aF.cls,c,if_pos h]
 ·rw [aF.cls,c,if_neg h]
def aF.check (v:aF) (inc dL key dQ:Int):Int:=
 if v.cls=1/\v.Kind=1 then 0 else if inc<0\/inc<dL then 5 else if v.cls=1 then 0 else if v.ch<0\/v.ch≠dQ\/v.Key≠key then 5 else 0
theorem LN (w:al) (v:aF) (inc dL key dQ:Int) (k:0<=v.bQ) (l:v.bQ<=1000000) (p:inc<=1000000) (n:v.ch<9223372036854775808) :
  ba 136 [v.val,.int .i64 inc,.int .u64 dL,.int .u64 key,.int .u64 dQ] w λx w'=>x=.int .i64 (v.check inc dL key dQ)/\ai w w':=by
 refine bc Tryz.func136 ?_;refine Eq.mpr (GA v.Kind v.Node v.bQ v.N v.Old v.ai v.Words v.cG v.cy v.Key v.ch inc dL key dQ w _) ?_;rintro b1 w1 rfl rfl;have i:=nQ w v;have o:=gY w (.cells v.cells.toArray cr);refine iy (gF i) ?_;refine aD (LM _ v k l) ?_;rintro x q ⟨rfl,j⟩;have f:=ai.ak j i;have a:=o.new j;refine ⟨_,rfl,dJ (λb=>?_) (λb=>?_)⟩
 ·refine ⟨_,f.cell rfl,dJ (λc=>⟨by simp [aF.check,b,c],a⟩) (λc=>a9 (λd=>⟨by simp [aF.check,c,d],a⟩) (λd=>?_))⟩
  rw [jV (x:=inc) (by omega) (by omega)];refine a9 (λe=>⟨by simp [aF.check,c,e],a⟩) (λe=>dJ (λ_=>⟨by simp [aF.check,c,d,e,b],a⟩) (λh=>absurd b h))
 ·refine a9 (λd=>⟨by simp [aF.check,b,d],a⟩) (λd=>?_)
  rw [jV (x:=inc) (by omega) (by omega)];refine a9 (λe=>⟨by simp [aF.check,b,e],a⟩) (λe=>dJ (λh=>absurd h b) (λ_=>⟨_,f.cell rfl,a9 (λau=>⟨by simp [aF.check,b,d,e,au],a⟩) (λau=>⟨_,f.cell rfl,?_⟩)⟩));dsimp only;rw [jV (x:=v.ch) (by omega) (by omega)];refine dt (λhu=>⟨by simp [aF.check,b,d,e,hu],a⟩) (λhu=>⟨_,f.cell rfl,dt (λg=>⟨by simp [aF.check,b,d,e,g],a⟩) (λg=>⟨?_,a⟩)⟩)
  have:¬ dQ<0:=by omega
  simp [aF.check,b,d,e,hu,g,this]
abbrev ij:TypeId:=131
def fits (v:aF) (d:bF):Bool:=
 if d.Code=0 then decide ((d.cG:Int)=v.g7) else if d.Code=4\/d.Code=5 then decide (d.cG=0) else false
theorem L5 (w:al) (v:aF) (d:bF):ba 192 [v.val,d.val] w λx w'=>x=.bool (fits v d)/\ai w w':=by
 refine bc Tryz.func192 ?_;refine Eq.mpr (GZ v.Kind v.Node v.bQ v.N v.Old v.ai v.Words v.cG v.cy v.Key v.ch d.Code d.Words d.cG d.cy w _) ?_;rintro b1 w1 rfl rfl az j rfl rfl;have i:=(nQ w v).alloc (.cells d.cells.toArray ij);have aA:=oz (w.alloc (.cells v.cells.toArray cr)) d.cells ij;have b:=(gY w (.cells v.cells.toArray cr)).alloc (.cells d.cells.toArray ij);have f:∀ x:Nat,(((x:Nat):Int) == 0)=decide (x=0):=λx=>by rw [Bool.eq_iff_iff];simp
 refine ⟨_,aA.cell rfl,dJ (λc=>?_) (λc=>dJ (λa=>dJ (λ_=>⟨_,_,_,aA.cell rfl,?_,b⟩) (λh=>absurd a h)) (λa=>dJ (λe=>⟨_,_,_,aA.cell rfl,?_,b⟩) (λe=>⟨?_,b⟩)))⟩
 ·rintro k rfl;refine ⟨λu=>Go.bn.ai ((w.alloc (.cells v.cells.toArray cr)).alloc (.cells d.cells.toArray ij)).drew u,ao.refl _ _,_,_,_,λu hu=>(ai.ak hu aA).cell rfl,l3 (λu hu=>gF (ai.ak hu i)) ?_⟩;refine aD (IA _ v) ?_;rintro x l ⟨rfl,g⟩;refine ⟨_,rfl,g,?_,b.drew.new g⟩;rw [fits,if_pos c];rfl
 ·rw [f];simp [fits,a]
 ·rw [f];simp [fits,e]
 ·simp [fits,c,a,e]
def dz (vs:List aF):List aw:=vs.map aF.cells
def fq (ds:List bF):List aw:=ds.map bF.cells
theorem tm (vs:List aF):∀ r ∈ dz vs,r.length=9:=by intro r a;simp only [dz,cD] at a;obtain ⟨v,_,rfl⟩:=a;rfl
theorem wi (ds:List bF):∀ r ∈ fq ds,r.length=2:=by intro r a;simp only [fq,cD] at a;obtain ⟨v,_,rfl⟩:=a;rfl
theorem zy {vs:List aF} {v:aF} (h:vs[i]?=some v):(dz vs)[i]?=some v.cells:=by simp [dz,h]
theorem Ad {ds:List bF} {d:bF} (h:ds[i]?=some d):(fq ds)[i]?=some d.cells:=by simp [fq,h]
def p1 (vs:List aF) (ds:List bF):Bool:=decide (vs.length=ds.length) && (vs.zip ds).all λp=>fits p.1 p.2
theorem NI {w:al} {a b:an} {G aT:Nat} {vs:List aF} {ds:List bF} (J:bg w a (dz vs).flatten) (H:bg w b (fq ds).flatten) (O:vs.length<=1000000) (L:ds.length<=1000000000) :
  ba 149 [.slice a vs.length G,.slice b ds.length aT] w λx w'=>x=.bool (p1 vs ds)/\ai w w':=by
 refine bc Tryz.func149 ?_;rw [Hs];refine dt (λh=>⟨?_,ao.refl _ _⟩) (λh=>?_)
 ·have:¬ vs.length=ds.length:=by omega
  simp [p1,this]
 have hlen:vs.length=ds.length:=by omega
 refine c1 mix (λm env u=>∃ (i:Nat) (j:aw),i<=vs.length/\m=vs.length - i/\env=vS b ds.length aT a vs.length G vs.length i j/\ai w u/\(∀ k,k<i->∀ v d,vs[k]?=some v->ds[k]?=some d->fits v d=true)) vs.length
  ⟨0,_,by omega,by omega,rfl,ao.refl _ _,λk n=>by omega⟩ ?_
 rintro m env u ⟨i,j,N,rfl,rfl,n,e⟩;rw [S_];refine a9 (λE=>?_) (λE=>?_)
 ·have f:i<vs.length:=by omega
  have aj:vs[i]?=some vs[i]:=by simp [f]
  have aA:ds[i]?=some ds[i]:=by simp [hlen▸f]
  obtain ⟨M,dg,rfl,A,B⟩:=(J.new n).row (tm vs) (by omega) (zy aj);obtain ⟨c9,fC,rfl,_,_⟩:=(H.new n).row (wi ds) (by omega) (Ad aA);refine dT (by omega) (by omega) ?_;refine iy (v:=vs[i]) (by simpa using A) ?_;rintro b1 w1 t r;obtain ⟨au,q⟩:=bk t r;refine ⟨fI (vs:=aF.cells vs[i]) au (by simp [aF.cells]) (aF.single vs[i]),?_⟩;rintro I s Q rfl;obtain ⟨o,F⟩:=nK (vs:=aF.cells vs[i]) au (by simp [aF.cells]) q (by omega) s;clear r s au q;have c:Go.bn.ai w I.drew:=(ao.new n F).drew;refine ⟨λz=>Go.bn.ai I.drew z,ao.refl _ _,l3 (v:=vs[i]) (λz au=>gF (ai.ak au o)) ?_⟩;refine dT (by omega) (by omega) ?_;refine ⟨ds[i].Code,ds[i].Words,ds[i].cG,ds[i].cy,λz au=>?_,?_⟩
  ·obtain ⟨b',P,he,y,_⟩:=(H.new (ao.new c au)).row (wi ds) (by omega) (Ad aA);simp only [e7,Addr.mk.injEq,and_true] at he;rw [he.1,he.2];exact y
  refine aD (L5 _ vs[i] ds[i]) ?_;rintro x R ⟨rfl,p⟩;refine ⟨_,rfl,dZ (λC=>?_) (λC=>?_)⟩
  ·refine ⟨?_,ao.new c p⟩;congr 1;symm;unfold p1;rw [Bool.and_eq_false_iff];refine .inr ?_;rw [wS];exact ⟨(vs[i],ds[i]),cj (i:=i) (by simp [List.zip,List.getElem?_zipWith,aj,aA]),by simp [C]⟩
  ·rw [show IntKind.i64.wrap ((i:Int)+1)=((i+1:Nat):Int) by rw [bA (by omega) (by omega)];rfl];refine ⟨vs.length - (i+1),by omega,i+1,_,by omega,rfl,rfl,ao.new c p,?_⟩
   ·intro k n v d l g;by_cases he:k=i
    ·subst he;rw [aj] at l;rw [aA] at g;cases l;cases g;exact C
    ·exact e k (by omega) v d l g
 ·have K:i=vs.length:=by omega
  rw [Tw];refine ⟨?_,n⟩;congr 1;symm;unfold p1;rw [eH];refine ⟨by simp [hlen],?_⟩;rw [gd];rintro ⟨v,d⟩ hm;obtain ⟨k,D,he⟩:=List.mem_iff_getElem.1 hm;simp only [List.length_zip] at D;simp only [List.getElem_zip,Prod.mk.injEq] at he;exact e k (by omega) v d (by rw [bM (by omega),he.1]) (by rw [bM (by omega),he.2])
end
end Go.Proofs.YtmkljjbioomepaaGreat
