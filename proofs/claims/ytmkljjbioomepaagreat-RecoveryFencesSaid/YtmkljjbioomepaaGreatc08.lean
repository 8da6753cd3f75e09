import Derived.Test.YtmkljjbioomepaaGreatc07
import Derived.Test.YtmkljjbioomepaaGreatc04
set_option linter.all false
namespace Go.Proofs.YtmkljjbioomepaaGreat
open Go.Proofs.Tryz Go.br
variable {ds:List bR} {i:Nat} {v:aG} {vs:List aG}
section
def aG.last (v:aG):Int:=if v.Kind=1 then 3 else 2
theorem Al (w:ak) (v:aG):a_ 133 [v.val] w λx w'=>x=.int .i64 v.last/\ai w w':=by refine bc Tryz.func133 ?_;refine Eq.mpr (UT v.Kind v.Node v.bW v.N v.Old v.ai v.Words v.cI v.cC v.Key v.ck w _) ?_;rintro b1 w1 rfl rfl;have c:=oJ w v;have b:=hk w (.cells v.cells.toArray cy);refine ⟨_,c.cell rfl,dJ (λa=>⟨?_,b⟩) (λa=>⟨?_,b⟩)⟩<;>simp [aG.last,a]
def aG.iE (v:aG):Int:=if v.Kind=1 then v.N else if v.Kind=3\/v.Kind=4 then 1 else 0
theorem I' (w:ak) (v:aG):a_ 233 [v.val] w λx w'=>x=.int .i64 v.iE/\ai w w':=by
 refine bc Tryz.func233 ?_;refine Eq.mpr (U6 v.Kind v.Node v.bW v.N v.Old v.ai v.Words v.cI v.cC v.Key v.ck w _) ?_;rintro b1 w1 rfl rfl;have e:=oJ w v;have b:=hk w (.cells v.cells.toArray cy);refine ⟨_,e.cell rfl,dJ (λc=>⟨_,e.cell rfl,?_,b⟩) (λc=>dJ (λa=>dJ (λ_=>⟨?_,b⟩) (λh=>absurd a h)) (λa=>dJ (λd=>⟨?_,b⟩) (λd=>⟨?_,b⟩)))⟩
 ·simp [aG.iE,c]
 ·simp [aG.iE,a]
 ·simp [aG.iE,d]
 ·simp [aG.iE,c,a,d]
def aG.cU (v:aG):Int:=v.bW / 8
def aG.dd (v:aG):Int:=(v.bW+v.count - 1) / 8
theorem DK (w:ak) (v:aG) (c:0<=v.bW) (e:v.bW<=1000000) (f:1<=v.count) (g:v.count<=1000000) :
  a_ 132 [v.val] w λx w'=>x=.tuple #[.int .i64 v.cU,.int .i64 v.dd]/\ai w w':=by
 refine bc Tryz.func132 ?_;refine Eq.mpr (HA v.Kind v.Node v.bW v.N v.Old v.ai v.Words v.cI v.cC v.Key v.ck w _) ?_;rintro b1 w1 rfl rfl h rfl;have a:av (w.alloc (.cells v.cells.toArray cy)).drew w.heap.size v.cells cy:=oJ w v;have d:Go.br.ai w (w.alloc (.cells v.cells.toArray cy)).drew:=(hk w (.cells v.cells.toArray cy)).drew;refine ⟨λu=>Go.br.ai (w.alloc (.cells v.cells.toArray cy)).drew u,ao.refl _ _,_,λu hu=>(ai.aj hu a).cell rfl,_,λu hu=>(ai.aj hu a).cell rfl,mF (λu hu=>g2 (ai.aj hu a)) ?_⟩;refine aC (vc _ v) ?_;rintro x i ⟨rfl,b⟩;refine ⟨_,rfl,b,?_,d.new b⟩;rw [bC (x:=v.bW+v.count) (by omega) (by omega),bC (x:=v.bW+v.count - 1) (by omega) (by omega),x6 c,x6 (by omega),bC (by omega) (by omega),bC (by omega) (by omega)];rfl
def aG.inside (v:aG) (nodes lines:Int):Bool:=
 decide (1<=nodes/\nodes<=5/\1<=lines/\lines<=256/\0<=v.Node/\v.Node<nodes/\0<=v.bW/\v.bW<lines * 8/\v.count<=1024/\v.dd<lines/\v.dd - v.cU<128)
theorem Kn (w:ak) (v:aG) (nodes lines:Int) (q:1<=v.count):a_ 131 [v.val,.int .i64 nodes,.int .i64 lines] w λx w'=>x=.bool (v.inside nodes lines)/\ai w w':=by
 refine bc Tryz.func131 ?_;refine Eq.mpr (U9 v.Kind v.Node v.bW v.N v.Old v.ai v.Words v.cI v.cC v.Key v.ck nodes lines w _) ?_;rintro b1 w1 rfl rfl;have b:=oJ w v;have a:=hk w (.cells v.cells.toArray cy);have no:∀ {w'},Go.br.ai w w'->¬ (1<=nodes/\nodes<=5/\1<=lines/\lines<=256/\0<=v.Node/\v.Node<nodes/\0<=v.bW/\v.bW<lines * 8/\v.count<=1024/\v.dd<lines/\v.dd - v.cU<128)->
   (Value.bool false=.bool (v.inside nodes lines)/\Go.br.ai w w'):=λc h=>⟨by simp only [aG.inside,decide_eq_false h],c⟩
 refine a' (λf=>no a (by omega)) (λf=>a' (λg=>no a (by omega)) (λg=>a' (λi=>no a (by omega)) (λi=>a' (λj=>no a (by omega)) (λj=>
  ⟨_,b.cell rfl,a' (λk=>no a (by omega)) (λk=>⟨_,b.cell rfl,a' (λl=>no a (by omega)) (λl=>⟨_,b.cell rfl,a' (λn=>no a (by omega)) (λn=>⟨_,b.cell rfl,?_⟩)⟩)⟩)⟩))))
 rw [bC (x:=lines * 8) (by omega) (by omega)];refine a' (λo=>no a (by omega)) (λo=>iT (g2 b) ?_);refine aC (vc _ v) ?_;rintro x t ⟨rfl,c⟩;refine ⟨_,rfl,a' (λp=>no (a.new c) (by omega)) (λp=>iT (g2 (ai.aj c b)) ?_)⟩;refine aC (DK _ v (by omega) (by omega) q (by omega)) ?_;rintro x u ⟨rfl,d⟩;have s:v.cU=v.bW / 8:=rfl;have r:v.dd=(v.bW+v.count - 1) / 8:=rfl;refine ⟨_,_,rfl,a' (λe=>⟨?_,(a.new c).new d⟩) (λe=>no ((a.new c).new d) (by omega))⟩;rw [bC (x:=v.dd - v.cU) (by omega) (by omega)];congr 1;unfold aG.inside;rw [decide_eq_decide];constructor
 ·intro h;exact ⟨by omega,by omega,by omega,by omega,by omega,by omega,by omega,by omega,by omega,e,h⟩
 ·intro h;exact h.2.2.2.2.2.2.2.2.2.2
def aG.valid (v:aG) (nodes lines:Int):Int:=
 if v.count<1 then 1 else if v.inside nodes lines=false then 2 else if v.cU<=v.last/\v.last<v.dd then 2 else 0
theorem pk {nodes lines:Int} (h:v.inside nodes lines=true):1<=nodes/\nodes<=5/\1<=lines/\lines<=256/\0<=v.Node/\v.Node<nodes/\0<=v.bW/\v.bW<lines * 8/\v.count<=1024/\v.dd<lines/\v.dd - v.cU<128:=of_decide_eq_true h
theorem yL (w:ak) (v:aG) (nodes lines:Int):a_ 94 [v.val,.int .i64 nodes,.int .i64 lines] w λx w'=>x=.int .i64 (v.valid nodes lines)/\ai w w':=by
 refine bc Tryz.func94 ?_;refine Eq.mpr (Hl v.Kind v.Node v.bW v.N v.Old v.ai v.Words v.cI v.cC v.Key v.ck nodes lines w _) ?_;rintro b1 w1 rfl rfl;have r:=oJ w v;have t:=hk w (.cells v.cells.toArray cy);refine iT (g2 r) ?_;refine aC (vc _ v) ?_;rintro x y ⟨rfl,s⟩;have d:=ai.aj s r;have k:=t.new s;refine ⟨_,rfl,a' (λb=>⟨by simp [aG.valid,b],k⟩) (λb=>iT (g2 d) ?_)⟩;refine aC (Kn _ v nodes lines (by omega)) ?_;rintro x z ⟨rfl,g⟩;have e:=ai.aj g d;have l:=k.new g;refine ⟨_,rfl,er (λc=>⟨by simp [aG.valid,b,c],l⟩) (λc=>iT (g2 e) ?_)⟩;have u:=pk c;refine aC (DK _ v (by omega) (by omega) (by omega) (by omega)) ?_;rintro x A ⟨rfl,h⟩;have f:=ai.aj h e;have p:=l.new h;refine ⟨_,_,rfl,iT (g2 f) ?_⟩;refine aC (Al _ v) ?_;rintro x B ⟨rfl,i⟩;have o:=ai.aj i f;have a:=p.new i;refine ⟨_,rfl,a' (λn=>iT (g2 o) ?_) (λn=>⟨?_,a⟩)⟩
 ·refine aC (Al _ v) ?_;rintro x C ⟨rfl,j⟩;refine ⟨_,rfl,a' (λq=>⟨?_,a.new j⟩) (λq=>⟨?_,a.new j⟩)⟩
  ·simp [aG.valid,b,c,n,q]
  ·have:¬ v.last<v.dd:=by omega
   simp [aG.valid,b,c,n,this]
 ·simp [aG.valid,b,c,n]
def aG.cls (v:aG):Int:=if v.cU<=v.last then 1 else 2
theorem Mi (w:ak) (v:aG) (e:0<=v.bW) (f:v.bW<=1000000):a_ 185 [v.val] w λx w'=>x=.int .i64 v.cls/\ai w w':=by
 refine bc Tryz.func185 ?_;refine Eq.mpr (Ho v.Kind v.Node v.bW v.N v.Old v.ai v.Words v.cI v.cC v.Key v.ck w _) ?_;rintro b1 w1 rfl rfl g rfl;have b:av (w.alloc (.cells v.cells.toArray cy)).drew w.heap.size v.cells cy:=oJ w v;have d:Go.br.ai w (w.alloc (.cells v.cells.toArray cy)).drew:=(hk w (.cells v.cells.toArray cy)).drew;refine ⟨λu=>Go.br.ai (w.alloc (.cells v.cells.toArray cy)).drew u,ao.refl _ _,_,λu hu=>(ai.aj hu b).cell rfl,mF (λu hu=>g2 (ai.aj hu b)) ?_⟩;refine aC (Al _ v) ?_;rintro x i ⟨rfl,a⟩;refine ⟨_,rfl,a,?_⟩;rw [x6 e,bC (by omega) (by omega)];have c:v.cU=v.bW / 8:=rfl;refine a' (λh=>⟨?_,d.new a⟩) (λh=>⟨?_,d.new a⟩)
 ·rw [aG.cls,c,if_pos h]
 ·rw [aG.cls,c,if_neg h]
def aG.check (v:aG) (inc dR key ee:Int):Int:=
 if v.cls=1/\v.Kind=1 then 0 else if inc<0\/inc<dR then 5 else if v.cls=1 then 0 else if v.ck<0\/v.ck≠ee\/v.Key≠key then 5 else 0
theorem Mj (w:ak) (v:aG) (inc dR key ee:Int) (k:0<=v.bW) (l:v.bW<=1000000) (p:inc<=1000000) (n:v.ck<9223372036854775808) :
  a_ 136 [v.val,.int .i64 inc,.int .u64 dR,.int .u64 key,.int .u64 ee] w λx w'=>x=.int .i64 (v.check inc dR key ee)/\ai w w':=by
 refine bc Tryz.func136 ?_;refine Eq.mpr (Hm v.Kind v.Node v.bW v.N v.Old v.ai v.Words v.cI v.cC v.Key v.ck inc dR key ee w _) ?_;rintro b1 w1 rfl rfl;have i:=oJ w v;have o:=hk w (.cells v.cells.toArray cy);refine iT (g2 i) ?_;refine aC (Mi _ v k l) ?_;rintro x q ⟨rfl,j⟩;have f:=ai.aj j i;have a:=o.new j;refine ⟨_,rfl,dJ (λb=>?_) (λb=>?_)⟩
 ·refine ⟨_,f.cell rfl,dJ (λc=>⟨by simp [aG.check,b,c],a⟩) (λc=>a' (λd=>⟨by simp [aG.check,c,d],a⟩) (λd=>?_))⟩
  rw [j8 (x:=inc) (by omega) (by omega)];refine a' (λe=>⟨by simp [aG.check,c,e],a⟩) (λe=>dJ (λ_=>⟨by simp [aG.check,c,d,e,b],a⟩) (λh=>absurd b h))
 ·refine a' (λd=>⟨by simp [aG.check,b,d],a⟩) (λd=>?_)
  rw [j8 (x:=inc) (by omega) (by omega)];refine a' (λe=>⟨by simp [aG.check,b,e],a⟩) (λe=>dJ (λh=>absurd h b) (λ_=>⟨_,f.cell rfl,a' (λau=>⟨by simp [aG.check,b,d,e,au],a⟩) (λau=>⟨_,f.cell rfl,?_⟩)⟩));dsimp only;rw [j8 (x:=v.ck) (by omega) (by omega)];refine dw (λhu=>⟨by simp [aG.check,b,d,e,hu],a⟩) (λhu=>⟨_,f.cell rfl,dw (λg=>⟨by simp [aG.check,b,d,e,g],a⟩) (λg=>⟨?_,a⟩)⟩)
  have:¬ ee<0:=by omega
  simp [aG.check,b,d,e,hu,g,this]
abbrev iM:TypeId:=131
def fits (v:aG) (d:bR):Bool:=
 if d.Code=0 then decide ((d.cI:Int)=v.iE) else if d.Code=4\/d.Code=5 then decide (d.cI=0) else false
theorem NR (w:ak) (v:aG) (d:bR):a_ 192 [v.val,d.val] w λx w'=>x=.bool (fits v d)/\ai w w':=by
 refine bc Tryz.func192 ?_;refine Eq.mpr (HB v.Kind v.Node v.bW v.N v.Old v.ai v.Words v.cI v.cC v.Key v.ck d.Code d.Words d.cI d.cC w _) ?_;rintro b1 w1 rfl rfl aA j rfl rfl;have i:=(oJ w v).alloc (.cells d.cells.toArray iM);have ar:=pv (w.alloc (.cells v.cells.toArray cy)) d.cells iM;have b:=(hk w (.cells v.cells.toArray cy)).alloc (.cells d.cells.toArray iM);have f:∀ x:Nat,(((x:Nat):Int) == 0)=decide (x=0):=λx=>by rw [Bool.eq_iff_iff];simp
 refine ⟨_,ar.cell rfl,dJ (λc=>?_) (λc=>dJ (λa=>dJ (λ_=>⟨_,_,_,ar.cell rfl,?_,b⟩) (λh=>absurd a h)) (λa=>dJ (λe=>⟨_,_,_,ar.cell rfl,?_,b⟩) (λe=>⟨?_,b⟩)))⟩
 ·rintro k rfl;refine ⟨λu=>Go.br.ai ((w.alloc (.cells v.cells.toArray cy)).alloc (.cells d.cells.toArray iM)).drew u,ao.refl _ _,_,_,_,λu hu=>(ai.aj hu ar).cell rfl,mF (λu hu=>g2 (ai.aj hu i)) ?_⟩;refine aC (I' _ v) ?_;rintro x l ⟨rfl,g⟩;refine ⟨_,rfl,g,?_,b.drew.new g⟩;rw [fits,if_pos c];rfl
 ·rw [f];simp [fits,a]
 ·rw [f];simp [fits,e]
 ·simp [fits,c,a,e]
def dP (vs:List aG):List ax:=vs.map aG.cells
def fM (ds:List bR):List ax:=ds.map bR.cells
theorem uA (vs:List aG):∀ r ∈ dP vs,r.length=9:=by intro r a;simp only [dP,cW] at a;obtain ⟨v,_,rfl⟩:=a;rfl
theorem xz (ds:List bR):∀ r ∈ fM ds,r.length=2:=by intro r a;simp only [fM,cW] at a;obtain ⟨v,_,rfl⟩:=a;rfl
theorem AK (h:vs[i]?=some v):(dP vs)[i]?=some v.cells:=by simp [dP,h]
theorem Bj {d:bR} (h:ds[i]?=some d):(fM ds)[i]?=some d.cells:=by simp [fM,h]
def q3 (vs:List aG) (ds:List bR):Bool:=decide (vs.length=ds.length) && (vs.zip ds).all λp=>fits p.1 p.2
theorem N5 {w:ak} {a b:al} {G aY:Nat} (J:bh w a (dP vs).flatten) (H:bh w b (fM ds).flatten) (O:vs.length<=1000000) (L:ds.length<=1000000000) :
  a_ 149 [.slice a vs.length G,.slice b ds.length aY] w λx w'=>x=.bool (q3 vs ds)/\ai w w':=by
 refine bc Tryz.func149 ?_;rw [Ii];refine dw (λh=>⟨?_,ao.refl _ _⟩) (λh=>?_)
 ·have:¬ vs.length=ds.length:=by omega
  simp [q3,this]
 have hlen:vs.length=ds.length:=by omega
 refine c2 mix (λm env u=>∃ (i:Nat) (j:ax),i<=vs.length/\m=vs.length - i/\env=xe b ds.length aY a vs.length G vs.length i j/\ai w u/\(∀ k,k<i->∀ v d,vs[k]?=some v->ds[k]?=some d->fits v d=true)) vs.length
  ⟨0,_,by omega,by omega,rfl,ao.refl _ _,λk n=>by omega⟩ ?_
 rintro m env u ⟨i,j,N,rfl,rfl,n,e⟩;rw [TZ];refine a' (λE=>?_) (λE=>?_)
 ·have f:i<vs.length:=by omega
  have an:vs[i]?=some vs[i]:=by simp [f]
  have ar:ds[i]?=some ds[i]:=by simp [hlen▸f]
  obtain ⟨M,dy,rfl,A,B⟩:=(J.new n).row (uA vs) (by omega) (AK an);obtain ⟨di,ga,rfl,_,_⟩:=(H.new n).row (xz ds) (by omega) (Bj ar);refine ed (by omega) (by omega) ?_;refine iT (v:=vs[i]) (by simpa using A) ?_;rintro b1 w1 t r;obtain ⟨au,q⟩:=bl t r;refine ⟨f7 (vs:=aG.cells vs[i]) au (by simp [aG.cells]) (aG.single vs[i]),?_⟩;rintro I s Q rfl;obtain ⟨o,F⟩:=ow (vs:=aG.cells vs[i]) au (by simp [aG.cells]) q (by omega) s;clear r s au q;have c:Go.br.ai w I.drew:=(ao.new n F).drew;refine ⟨λz=>Go.br.ai I.drew z,ao.refl _ _,mF (v:=vs[i]) (λz au=>g2 (ai.aj au o)) ?_⟩;refine ed (by omega) (by omega) ?_;refine ⟨ds[i].Code,ds[i].Words,ds[i].cI,ds[i].cC,λz au=>?_,?_⟩
  ·obtain ⟨b',P,he,y,_⟩:=(H.new (ao.new c au)).row (xz ds) (by omega) (Bj ar);simp only [e8,Addr.mk.injEq,and_true] at he;rw [he.1,he.2];exact y
  refine aC (NR _ vs[i] ds[i]) ?_;rintro x R ⟨rfl,p⟩;refine ⟨_,rfl,er (λC=>?_) (λC=>?_)⟩
  ·refine ⟨?_,ao.new c p⟩;congr 1;symm;unfold q3;rw [Bool.and_eq_false_iff];refine .inr ?_;rw [x8];exact ⟨(vs[i],ds[i]),cg (i:=i) (by simp [List.zip,List.getElem?_zipWith,an,ar]),by simp [C]⟩
  ·rw [show IntKind.i64.wrap ((i:Int)+1)=((i+1:Nat):Int) by rw [bC (by omega) (by omega)];rfl];refine ⟨vs.length - (i+1),by omega,i+1,_,by omega,rfl,rfl,ao.new c p,?_⟩
   ·intro k n v d l g;by_cases he:k=i
    ·subst he;rw [an] at l;rw [ar] at g;cases l;cases g;exact C
    ·exact e k (by omega) v d l g
 ·have K:i=vs.length:=by omega
  rw [UI];refine ⟨?_,n⟩;congr 1;symm;unfold q3;rw [eY];refine ⟨by simp [hlen],?_⟩;rw [gQ];rintro ⟨v,d⟩ hm;obtain ⟨k,D,he⟩:=List.mem_iff_getElem.1 hm;simp only [List.length_zip] at D;simp only [List.getElem_zip,Prod.mk.injEq] at he;exact e k (by omega) v d (by rw [bF (by omega),he.1]) (by rw [bF (by omega),he.2])
end
end Go.Proofs.YtmkljjbioomepaaGreat
