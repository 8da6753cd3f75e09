import Derived.Test.YtmkljjbioomepaaGreatd06
import Derived.Test.YtmkljjbioomepaaGreatd04
set_option linter.all false
namespace Go.Proofs.YtmkljjbioomepaaGreat
open Go.Proofs.Tryz Go.bs
variable {ds:List bT} {i:Nat} {v:aG} {vs:List aG}
section
def aG.last (v:aG):Int:=if v.Kind=1 then 3 else 2
theorem A_ (w:ak) (v:aG):bb 133 [v.val] w λx w'=>x=.int .i64 v.last/\ai w w':=by refine bd Tryz.func133 ?_;refine Eq.mpr (WP v.Kind v.Node v.bZ v.N v.Old v.ai v.Words v.cQ v.cJ v.Key v.cq w _) ?_;rintro b1 w1 rfl rfl;have c:=oR w v;have b:=hy w (.cells v.cells.toArray cF);refine ⟨_,c.cell rfl,d' (λa=>⟨?_,b⟩) (λa=>⟨?_,b⟩)⟩<;>simp [aG.last,a]
def aG.iW (v:aG):Int:=if v.Kind=1 then v.N else if v.Kind=3\/v.Kind=4 then 1 else 0
theorem KK (w:ak) (v:aG):bb 233 [v.val] w λx w'=>x=.int .i64 v.iW/\ai w w':=by
 refine bd Tryz.func233 ?_;refine Eq.mpr (W7 v.Kind v.Node v.bZ v.N v.Old v.ai v.Words v.cQ v.cJ v.Key v.cq w _) ?_;rintro b1 w1 rfl rfl;have e:=oR w v;have b:=hy w (.cells v.cells.toArray cF);refine ⟨_,e.cell rfl,d' (λc=>⟨_,e.cell rfl,?_,b⟩) (λc=>d' (λa=>d' (λ_=>⟨?_,b⟩) (λh=>absurd a h)) (λa=>d' (λd=>⟨?_,b⟩) (λd=>⟨?_,b⟩)))⟩
 ·simp [aG.iW,c]
 ·simp [aG.iW,a]
 ·simp [aG.iW,d]
 ·simp [aG.iW,c,a,d]
def aG.cN (v:aG):Int:=v.bZ / 8
def aG.c9 (v:aG):Int:=(v.bZ+v.count - 1) / 8
theorem E3 (w:ak) (v:aG) (c:0<=v.bZ) (e:v.bZ<=1000000) (f:1<=v.count) (g:v.count<=1000000) :
  bb 132 [v.val] w λx w'=>x=.tuple #[.int .i64 v.cN,.int .i64 v.c9]/\ai w w':=by
 refine bd Tryz.func132 ?_;refine Eq.mpr (Ij v.Kind v.Node v.bZ v.N v.Old v.ai v.Words v.cQ v.cJ v.Key v.cq w _) ?_;rintro b1 w1 rfl rfl h rfl;have a:av (w.alloc (.cells v.cells.toArray cF)).drew w.heap.size v.cells cF:=oR w v;have d:Go.bs.ai w (w.alloc (.cells v.cells.toArray cF)).drew:=(hy w (.cells v.cells.toArray cF)).drew;refine ⟨λu=>Go.bs.ai (w.alloc (.cells v.cells.toArray cF)).drew u,ao.refl _ _,_,λu hu=>(ai.aj hu a).cell rfl,_,λu hu=>(ai.aj hu a).cell rfl,mQ (λu hu=>hf (ai.aj hu a)) ?_⟩;refine aD (vV _ v) ?_;rintro x i ⟨rfl,b⟩;refine ⟨_,rfl,b,?_,d.new b⟩;rw [bH (x:=v.bZ+v.count) (by omega) (by omega),bH (x:=v.bZ+v.count - 1) (by omega) (by omega),yH c,yH (by omega),bH (by omega) (by omega),bH (by omega) (by omega)];rfl
def aG.inside (v:aG) (nodes lines:Int):Bool:=
 decide (1<=nodes/\nodes<=5/\1<=lines/\lines<=256/\0<=v.Node/\v.Node<nodes/\0<=v.bZ/\v.bZ<lines * 8/\v.count<=1024/\v.c9<lines/\v.c9 - v.cN<128)
theorem Ls (w:ak) (v:aG) (nodes lines:Int) (q:1<=v.count):bb 131 [v.val,.int .i64 nodes,.int .i64 lines] w λx w'=>x=.bool (v.inside nodes lines)/\ai w w':=by
 refine bd Tryz.func131 ?_;refine Eq.mpr (Xi v.Kind v.Node v.bZ v.N v.Old v.ai v.Words v.cQ v.cJ v.Key v.cq nodes lines w _) ?_;rintro b1 w1 rfl rfl;have b:=oR w v;have a:=hy w (.cells v.cells.toArray cF);have no:∀ {w'},Go.bs.ai w w'->¬ (1<=nodes/\nodes<=5/\1<=lines/\lines<=256/\0<=v.Node/\v.Node<nodes/\0<=v.bZ/\v.bZ<lines * 8/\v.count<=1024/\v.c9<lines/\v.c9 - v.cN<128)->
   (Value.bool false=.bool (v.inside nodes lines)/\Go.bs.ai w w'):=λc h=>⟨by simp only [aG.inside,decide_eq_false h],c⟩
 refine bc (λf=>no a (by omega)) (λf=>bc (λg=>no a (by omega)) (λg=>bc (λi=>no a (by omega)) (λi=>bc (λj=>no a (by omega)) (λj=>
  ⟨_,b.cell rfl,bc (λk=>no a (by omega)) (λk=>⟨_,b.cell rfl,bc (λl=>no a (by omega)) (λl=>⟨_,b.cell rfl,bc (λn=>no a (by omega)) (λn=>⟨_,b.cell rfl,?_⟩)⟩)⟩)⟩))))
 rw [bH (x:=lines * 8) (by omega) (by omega)];refine bc (λo=>no a (by omega)) (λo=>jl (hf b) ?_);refine aD (vV _ v) ?_;rintro x t ⟨rfl,c⟩;refine ⟨_,rfl,bc (λp=>no (a.new c) (by omega)) (λp=>jl (hf (ai.aj c b)) ?_)⟩;refine aD (E3 _ v (by omega) (by omega) q (by omega)) ?_;rintro x u ⟨rfl,d⟩;have s:v.cN=v.bZ / 8:=rfl;have r:v.c9=(v.bZ+v.count - 1) / 8:=rfl;refine ⟨_,_,rfl,bc (λe=>⟨?_,(a.new c).new d⟩) (λe=>no ((a.new c).new d) (by omega))⟩;rw [bH (x:=v.c9 - v.cN) (by omega) (by omega)];congr 1;unfold aG.inside;rw [decide_eq_decide];constructor
 ·intro h;exact ⟨by omega,by omega,by omega,by omega,by omega,by omega,by omega,by omega,by omega,e,h⟩
 ·intro h;exact h.2.2.2.2.2.2.2.2.2.2
def aG.valid (v:aG) (nodes lines:Int):Int:=
 if v.count<1 then 1 else if v.inside nodes lines=false then 2 else if v.cN<=v.last/\v.last<v.c9 then 2 else 0
theorem i0 {nodes lines:Int} (h:v.inside nodes lines=true):1<=nodes/\nodes<=5/\1<=lines/\lines<=256/\0<=v.Node/\v.Node<nodes/\0<=v.bZ/\v.bZ<lines * 8/\v.count<=1024/\v.c9<lines/\v.c9 - v.cN<128:=of_decide_eq_true h
theorem y4 (w:ak) (v:aG) (nodes lines:Int):bb 94 [v.val,.int .i64 nodes,.int .i64 lines] w λx w'=>x=.int .i64 (v.valid nodes lines)/\ai w w':=by
 refine bd Tryz.func94 ?_;refine Eq.mpr (Ir v.Kind v.Node v.bZ v.N v.Old v.ai v.Words v.cQ v.cJ v.Key v.cq nodes lines w _) ?_;rintro b1 w1 rfl rfl;have r:=oR w v;have t:=hy w (.cells v.cells.toArray cF);refine jl (hf r) ?_;refine aD (vV _ v) ?_;rintro x y ⟨rfl,s⟩;have d:=ai.aj s r;have k:=t.new s;refine ⟨_,rfl,bc (λb=>⟨by simp [aG.valid,b],k⟩) (λb=>jl (hf d) ?_)⟩;refine aD (Ls _ v nodes lines (by omega)) ?_;rintro x z ⟨rfl,g⟩;have e:=ai.aj g d;have l:=k.new g;refine ⟨_,rfl,ev (λc=>⟨by simp [aG.valid,b,c],l⟩) (λc=>jl (hf e) ?_)⟩;have u:=i0 c;refine aD (E3 _ v (by omega) (by omega) (by omega) (by omega)) ?_;rintro x A ⟨rfl,h⟩;have f:=ai.aj h e;have p:=l.new h;refine ⟨_,_,rfl,jl (hf f) ?_⟩;refine aD (A_ _ v) ?_;rintro x B ⟨rfl,i⟩;have o:=ai.aj i f;have a:=p.new i;refine ⟨_,rfl,bc (λn=>jl (hf o) ?_) (λn=>⟨?_,a⟩)⟩
 ·refine aD (A_ _ v) ?_;rintro x C ⟨rfl,j⟩;refine ⟨_,rfl,bc (λq=>⟨?_,a.new j⟩) (λq=>⟨?_,a.new j⟩)⟩
  ·simp [aG.valid,b,c,n,q]
  ·have:¬ v.last<v.c9:=by omega
   simp [aG.valid,b,c,n,this]
 ·simp [aG.valid,b,c,n]
def aG.cls (v:aG):Int:=if v.cN<=v.last then 1 else 2
theorem Nz (w:ak) (v:aG) (e:0<=v.bZ) (f:v.bZ<=1000000):bb 185 [v.val] w λx w'=>x=.int .i64 v.cls/\ai w w':=by
 refine bd Tryz.func185 ?_;refine Eq.mpr (Iu v.Kind v.Node v.bZ v.N v.Old v.ai v.Words v.cQ v.cJ v.Key v.cq w _) ?_;rintro b1 w1 rfl rfl g rfl;have b:av (w.alloc (.cells v.cells.toArray cF)).drew w.heap.size v.cells cF:=oR w v;have d:Go.bs.ai w (w.alloc (.cells v.cells.toArray cF)).drew:=(hy w (.cells v.cells.toArray cF)).drew;refine ⟨λu=>Go.bs.ai (w.alloc (.cells v.cells.toArray cF)).drew u,ao.refl _ _,_,λu hu=>(ai.aj hu b).cell rfl,mQ (λu hu=>hf (ai.aj hu b)) ?_⟩;refine aD (A_ _ v) ?_;rintro x i ⟨rfl,a⟩;refine ⟨_,rfl,a,?_⟩;rw [yH e,bH (by omega) (by omega)];have c:v.cN=v.bZ / 8:=rfl;refine bc (λh=>⟨?_,d.new a⟩) (λh=>⟨?_,d.new a⟩)
 ·rw [aG.cls,c,if_pos h]
 ·rw [aG.cls,c,if_neg h]
def aG.check (v:aG) (inc dV key ee:Int):Int:=
 if v.cls=1/\v.Kind=1 then 0 else if inc<0\/inc<dV then 5 else if v.cls=1 then 0 else if v.cq<0\/v.cq≠ee\/v.Key≠key then 5 else 0
theorem NA (w:ak) (v:aG) (inc dV key ee:Int) (k:0<=v.bZ) (l:v.bZ<=1000000) (p:inc<=1000000) (n:v.cq<9223372036854775808) :
  bb 136 [v.val,.int .i64 inc,.int .u64 dV,.int .u64 key,.int .u64 ee] w λx w'=>x=.int .i64 (v.check inc dV key ee)/\ai w w':=by
 refine bd Tryz.func136 ?_;refine Eq.mpr (Is v.Kind v.Node v.bZ v.N v.Old v.ai v.Words v.cQ v.cJ v.Key v.cq inc dV key ee w _) ?_;rintro b1 w1 rfl rfl;have i:=oR w v;have o:=hy w (.cells v.cells.toArray cF);refine jl (hf i) ?_;refine aD (Nz _ v k l) ?_;rintro x q ⟨rfl,j⟩;have f:=ai.aj j i;have a:=o.new j;refine ⟨_,rfl,d' (λb=>?_) (λb=>?_)⟩
 ·refine ⟨_,f.cell rfl,d' (λc=>⟨by simp [aG.check,b,c],a⟩) (λc=>bc (λd=>⟨by simp [aG.check,c,d],a⟩) (λd=>?_))⟩
  rw [kt (x:=inc) (by omega) (by omega)];refine bc (λe=>⟨by simp [aG.check,c,e],a⟩) (λe=>d' (λ_=>⟨by simp [aG.check,c,d,e,b],a⟩) (λh=>absurd b h))
 ·refine bc (λd=>⟨by simp [aG.check,b,d],a⟩) (λd=>?_)
  rw [kt (x:=inc) (by omega) (by omega)];refine bc (λe=>⟨by simp [aG.check,b,e],a⟩) (λe=>d' (λh=>absurd h b) (λ_=>⟨_,f.cell rfl,bc (λau=>⟨by simp [aG.check,b,d,e,au],a⟩) (λau=>⟨_,f.cell rfl,?_⟩)⟩));dsimp only;rw [kt (x:=v.cq) (by omega) (by omega)];refine du (λhu=>⟨by simp [aG.check,b,d,e,hu],a⟩) (λhu=>⟨_,f.cell rfl,du (λg=>⟨by simp [aG.check,b,d,e,g],a⟩) (λg=>⟨?_,a⟩)⟩)
  have:¬ ee<0:=by omega
  simp [aG.check,b,d,e,hu,g,this]
abbrev jd:TypeId:=131
def fits (v:aG) (d:bT):Bool:=
 if d.Code=0 then decide ((d.cQ:Int)=v.iW) else if d.Code=4\/d.Code=5 then decide (d.cQ=0) else false
theorem Pf (w:ak) (v:aG) (d:bT):bb 192 [v.val,d.val] w λx w'=>x=.bool (fits v d)/\ai w w':=by
 refine bd Tryz.func192 ?_;refine Eq.mpr (IG v.Kind v.Node v.bZ v.N v.Old v.ai v.Words v.cQ v.cJ v.Key v.cq d.Code d.Words d.cQ d.cJ w _) ?_;rintro b1 w1 rfl rfl aB j rfl rfl;have i:=(oR w v).alloc (.cells d.cells.toArray jd);have aq:=pA (w.alloc (.cells v.cells.toArray cF)) d.cells jd;have b:=(hy w (.cells v.cells.toArray cF)).alloc (.cells d.cells.toArray jd);have f:∀ x:Nat,(((x:Nat):Int) == 0)=decide (x=0):=λx=>by rw [Bool.eq_iff_iff];simp
 refine ⟨_,aq.cell rfl,d' (λc=>?_) (λc=>d' (λa=>d' (λ_=>⟨_,_,_,aq.cell rfl,?_,b⟩) (λh=>absurd a h)) (λa=>d' (λe=>⟨_,_,_,aq.cell rfl,?_,b⟩) (λe=>⟨?_,b⟩)))⟩
 ·rintro k rfl;refine ⟨λu=>Go.bs.ai ((w.alloc (.cells v.cells.toArray cF)).alloc (.cells d.cells.toArray jd)).drew u,ao.refl _ _,_,_,_,λu hu=>(ai.aj hu aq).cell rfl,mQ (λu hu=>hf (ai.aj hu i)) ?_⟩;refine aD (KK _ v) ?_;rintro x l ⟨rfl,g⟩;refine ⟨_,rfl,g,?_,b.drew.new g⟩;rw [fits,if_pos c];rfl
 ·rw [f];simp [fits,a]
 ·rw [f];simp [fits,e]
 ·simp [fits,c,a,e]
def dP (vs:List aG):List ax:=vs.map aG.cells
def fW (ds:List bT):List ax:=ds.map bT.cells
theorem u2 (vs:List aG):∀ r ∈ dP vs,r.length=9:=by intro r a;simp only [dP,cZ] at a;obtain ⟨v,_,rfl⟩:=a;rfl
theorem yd (ds:List bT):∀ r ∈ fW ds,r.length=2:=by intro r a;simp only [fW,cZ] at a;obtain ⟨v,_,rfl⟩:=a;rfl
theorem Bo (h:vs[i]?=some v):(dP vs)[i]?=some v.cells:=by simp [dP,h]
theorem Cw {d:bT} (h:ds[i]?=some d):(fW ds)[i]?=some d.cells:=by simp [fW,h]
def ri (vs:List aG) (ds:List bT):Bool:=decide (vs.length=ds.length) && (vs.zip ds).all λp=>fits p.1 p.2
theorem QL {w:ak} {a b:an} {G aY:Nat} (J:bk w a (dP vs).flatten) (H:bk w b (fW ds).flatten) (O:vs.length<=1000000) (L:ds.length<=1000000000) :
  bb 149 [.slice a vs.length G,.slice b ds.length aY] w λx w'=>x=.bool (ri vs ds)/\ai w w':=by
 refine bd Tryz.func149 ?_;rw [Jb];refine du (λh=>⟨?_,ao.refl _ _⟩) (λh=>?_)
 ·have:¬ vs.length=ds.length:=by omega
  simp [ri,this]
 have hlen:vs.length=ds.length:=by omega
 refine c8 mix (λm env u=>∃ (i:Nat) (j:ax),i<=vs.length/\m=vs.length - i/\env=xT b ds.length aY a vs.length G vs.length i j/\ai w u/\(∀ k,k<i->∀ v d,vs[k]?=some v->ds[k]?=some d->fits v d=true)) vs.length
  ⟨0,_,by omega,by omega,rfl,ao.refl _ _,λk n=>by omega⟩ ?_
 rintro m env u ⟨i,j,N,rfl,rfl,n,e⟩;rw [VX];refine bc (λE=>?_) (λE=>?_)
 ·have f:i<vs.length:=by omega
  have al:vs[i]?=some vs[i]:=by simp [f]
  have aq:ds[i]?=some ds[i]:=by simp [hlen▸f]
  obtain ⟨M,dw,rfl,A,B⟩:=(J.new n).row (u2 vs) (by omega) (Bo al);obtain ⟨dm,gy,rfl,_,_⟩:=(H.new n).row (yd ds) (by omega) (Cw aq);refine ej (by omega) (by omega) ?_;refine jl (v:=vs[i]) (by simpa using A) ?_;rintro b1 w1 t r;obtain ⟨au,q⟩:=bl t r;refine ⟨gq (vs:=aG.cells vs[i]) au (by simp [aG.cells]) (aG.single vs[i]),?_⟩;rintro I s Q rfl;obtain ⟨o,F⟩:=oK (vs:=aG.cells vs[i]) au (by simp [aG.cells]) q (by omega) s;clear r s au q;have c:Go.bs.ai w I.drew:=(ao.new n F).drew;refine ⟨λz=>Go.bs.ai I.drew z,ao.refl _ _,mQ (v:=vs[i]) (λz au=>hf (ai.aj au o)) ?_⟩;refine ej (by omega) (by omega) ?_;refine ⟨ds[i].Code,ds[i].Words,ds[i].cQ,ds[i].cJ,λz au=>?_,?_⟩
  ·obtain ⟨b',P,he,y,_⟩:=(H.new (ao.new c au)).row (yd ds) (by omega) (Cw aq);simp only [fg,Addr.mk.injEq,and_true] at he;rw [he.1,he.2];exact y
  refine aD (Pf _ vs[i] ds[i]) ?_;rintro x R ⟨rfl,p⟩;refine ⟨_,rfl,ev (λC=>?_) (λC=>?_)⟩
  ·refine ⟨?_,ao.new c p⟩;congr 1;symm;unfold ri;rw [Bool.and_eq_false_iff];refine .inr ?_;rw [yJ];exact ⟨(vs[i],ds[i]),b5 (i:=i) (by simp [List.zip,List.getElem?_zipWith,al,aq]),by simp [C]⟩
  ·rw [show IntKind.i64.wrap ((i:Int)+1)=((i+1:Nat):Int) by rw [bH (by omega) (by omega)];rfl];refine ⟨vs.length - (i+1),by omega,i+1,_,by omega,rfl,rfl,ao.new c p,?_⟩
   ·intro k n v d l g;by_cases he:k=i
    ·subst he;rw [al] at l;rw [aq] at g;cases l;cases g;exact C
    ·exact e k (by omega) v d l g
 ·have K:i=vs.length:=by omega
  rw [WR];refine ⟨?_,n⟩;congr 1;symm;unfold ri;rw [ep];refine ⟨by simp [hlen],?_⟩;rw [fE];rintro ⟨v,d⟩ hm;obtain ⟨k,D,he⟩:=List.mem_iff_getElem.1 hm;simp only [List.length_zip] at D;simp only [List.getElem_zip,Prod.mk.injEq] at he;exact e k (by omega) v d (by rw [bE (by omega),he.1]) (by rw [bE (by omega),he.2])
end
end Go.Proofs.YtmkljjbioomepaaGreat
