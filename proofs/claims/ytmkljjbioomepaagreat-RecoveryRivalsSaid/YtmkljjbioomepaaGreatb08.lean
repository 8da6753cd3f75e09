import Derived.Test.YtmkljjbioomepaaGreatb07
import Derived.Test.YtmkljjbioomepaaGreatb04
set_option linter.all false
namespace Go.Proofs.YtmkljjbioomepaaGreat
open Go.Proofs.Tryz Go.bu
variable {ds:List bO} {i:Nat} {v:aG} {vs:List aG}
section
def aG.last (v:aG):Int:=if v.Kind=1 then 3 else 2
theorem AK (w:ak) (v:aG):a9 133 [v.val] w λx w'=>x=.int .i64 v.last/\ai w w':=by refine bc Tryz.func133 ?_;refine Eq.mpr (Vh v.Kind v.Node v.bX v.N v.Old v.ai v.Words v.cK v.cD v.Key v.cn w _) ?_;rintro b1 w1 rfl rfl;have c:=oP w v;have b:=hk w (.cells v.cells.toArray cz);refine ⟨_,c.cell rfl,dY (λa=>⟨?_,b⟩) (λa=>⟨?_,b⟩)⟩<;>simp [aG.last,a]
def aG.iq (v:aG):Int:=if v.Kind=1 then v.N else if v.Kind=3\/v.Kind=4 then 1 else 0
theorem Jf (w:ak) (v:aG):a9 233 [v.val] w λx w'=>x=.int .i64 v.iq/\ai w w':=by
 refine bc Tryz.func233 ?_;refine Eq.mpr (Vx v.Kind v.Node v.bX v.N v.Old v.ai v.Words v.cK v.cD v.Key v.cn w _) ?_;rintro b1 w1 rfl rfl;have e:=oP w v;have b:=hk w (.cells v.cells.toArray cz);refine ⟨_,e.cell rfl,dY (λc=>⟨_,e.cell rfl,?_,b⟩) (λc=>dY (λa=>dY (λ_=>⟨?_,b⟩) (λh=>absurd a h)) (λa=>dY (λd=>⟨?_,b⟩) (λd=>⟨?_,b⟩)))⟩
 ·simp [aG.iq,c]
 ·simp [aG.iq,a]
 ·simp [aG.iq,d]
 ·simp [aG.iq,c,a,d]
def aG.cY (v:aG):Int:=v.bX / 8
def aG.dd (v:aG):Int:=(v.bX+v.count - 1) / 8
theorem Eb (w:ak) (v:aG) (c:0<=v.bX) (e:v.bX<=1000000) (f:1<=v.count) (g:v.count<=1000000) :
  a9 132 [v.val] w λx w'=>x=.tuple #[.int .i64 v.cY,.int .i64 v.dd]/\ai w w':=by
 refine bc Tryz.func132 ?_;refine Eq.mpr (HO v.Kind v.Node v.bX v.N v.Old v.ai v.Words v.cK v.cD v.Key v.cn w _) ?_;rintro b1 w1 rfl rfl h rfl;have a:av (w.alloc (.cells v.cells.toArray cz)).drew w.heap.size v.cells cz:=oP w v;have d:Go.bu.ai w (w.alloc (.cells v.cells.toArray cz)).drew:=(hk w (.cells v.cells.toArray cz)).drew;refine ⟨λu=>Go.bu.ai (w.alloc (.cells v.cells.toArray cz)).drew u,ao.refl _ _,_,λu hu=>(ai.aj hu a).cell rfl,_,λu hu=>(ai.aj hu a).cell rfl,mG (λu hu=>g4 (ai.aj hu a)) ?_⟩;refine aC (vq _ v) ?_;rintro x i ⟨rfl,b⟩;refine ⟨_,rfl,b,?_,d.new b⟩;rw [bC (x:=v.bX+v.count) (by omega) (by omega),bC (x:=v.bX+v.count - 1) (by omega) (by omega),yp c,yp (by omega),bC (by omega) (by omega),bC (by omega) (by omega)];rfl
def aG.inside (v:aG) (nodes lines:Int):Bool:=
 decide (1<=nodes/\nodes<=5/\1<=lines/\lines<=256/\0<=v.Node/\v.Node<nodes/\0<=v.bX/\v.bX<lines * 8/\v.count<=1024/\v.dd<lines/\v.dd - v.cY<128)
theorem Lo (w:ak) (v:aG) (nodes lines:Int) (q:1<=v.count):a9 131 [v.val,.int .i64 nodes,.int .i64 lines] w λx w'=>x=.bool (v.inside nodes lines)/\ai w w':=by
 refine bc Tryz.func131 ?_;refine Eq.mpr (VK v.Kind v.Node v.bX v.N v.Old v.ai v.Words v.cK v.cD v.Key v.cn nodes lines w _) ?_;rintro b1 w1 rfl rfl;have b:=oP w v;have a:=hk w (.cells v.cells.toArray cz);have no:∀ {w'},Go.bu.ai w w'->¬ (1<=nodes/\nodes<=5/\1<=lines/\lines<=256/\0<=v.Node/\v.Node<nodes/\0<=v.bX/\v.bX<lines * 8/\v.count<=1024/\v.dd<lines/\v.dd - v.cY<128)->
   (Value.bool false=.bool (v.inside nodes lines)/\Go.bu.ai w w'):=λc h=>⟨by simp only [aG.inside,decide_eq_false h],c⟩
 refine a8 (λf=>no a (by omega)) (λf=>a8 (λg=>no a (by omega)) (λg=>a8 (λi=>no a (by omega)) (λi=>a8 (λj=>no a (by omega)) (λj=>
  ⟨_,b.cell rfl,a8 (λk=>no a (by omega)) (λk=>⟨_,b.cell rfl,a8 (λl=>no a (by omega)) (λl=>⟨_,b.cell rfl,a8 (λn=>no a (by omega)) (λn=>⟨_,b.cell rfl,?_⟩)⟩)⟩)⟩))))
 rw [bC (x:=lines * 8) (by omega) (by omega)];refine a8 (λo=>no a (by omega)) (λo=>iY (g4 b) ?_);refine aC (vq _ v) ?_;rintro x t ⟨rfl,c⟩;refine ⟨_,rfl,a8 (λp=>no (a.new c) (by omega)) (λp=>iY (g4 (ai.aj c b)) ?_)⟩;refine aC (Eb _ v (by omega) (by omega) q (by omega)) ?_;rintro x u ⟨rfl,d⟩;have s:v.cY=v.bX / 8:=rfl;have r:v.dd=(v.bX+v.count - 1) / 8:=rfl;refine ⟨_,_,rfl,a8 (λe=>⟨?_,(a.new c).new d⟩) (λe=>no ((a.new c).new d) (by omega))⟩;rw [bC (x:=v.dd - v.cY) (by omega) (by omega)];congr 1;unfold aG.inside;rw [decide_eq_decide];constructor
 ·intro h;exact ⟨by omega,by omega,by omega,by omega,by omega,by omega,by omega,by omega,by omega,e,h⟩
 ·intro h;exact h.2.2.2.2.2.2.2.2.2.2
def aG.valid (v:aG) (nodes lines:Int):Int:=
 if v.count<1 then 1 else if v.inside nodes lines=false then 2 else if v.cY<=v.last/\v.last<v.dd then 2 else 0
theorem pr {nodes lines:Int} (h:v.inside nodes lines=true):1<=nodes/\nodes<=5/\1<=lines/\lines<=256/\0<=v.Node/\v.Node<nodes/\0<=v.bX/\v.bX<lines * 8/\v.count<=1024/\v.dd<lines/\v.dd - v.cY<128:=of_decide_eq_true h
theorem yT (w:ak) (v:aG) (nodes lines:Int):a9 94 [v.val,.int .i64 nodes,.int .i64 lines] w λx w'=>x=.int .i64 (v.valid nodes lines)/\ai w w':=by
 refine bc Tryz.func94 ?_;refine Eq.mpr (HC v.Kind v.Node v.bX v.N v.Old v.ai v.Words v.cK v.cD v.Key v.cn nodes lines w _) ?_;rintro b1 w1 rfl rfl;have r:=oP w v;have t:=hk w (.cells v.cells.toArray cz);refine iY (g4 r) ?_;refine aC (vq _ v) ?_;rintro x y ⟨rfl,s⟩;have d:=ai.aj s r;have k:=t.new s;refine ⟨_,rfl,a8 (λb=>⟨by simp [aG.valid,b],k⟩) (λb=>iY (g4 d) ?_)⟩;refine aC (Lo _ v nodes lines (by omega)) ?_;rintro x z ⟨rfl,g⟩;have e:=ai.aj g d;have l:=k.new g;refine ⟨_,rfl,ev (λc=>⟨by simp [aG.valid,b,c],l⟩) (λc=>iY (g4 e) ?_)⟩;have u:=pr c;refine aC (Eb _ v (by omega) (by omega) (by omega) (by omega)) ?_;rintro x A ⟨rfl,h⟩;have f:=ai.aj h e;have p:=l.new h;refine ⟨_,_,rfl,iY (g4 f) ?_⟩;refine aC (AK _ v) ?_;rintro x B ⟨rfl,i⟩;have o:=ai.aj i f;have a:=p.new i;refine ⟨_,rfl,a8 (λn=>iY (g4 o) ?_) (λn=>⟨?_,a⟩)⟩
 ·refine aC (AK _ v) ?_;rintro x C ⟨rfl,j⟩;refine ⟨_,rfl,a8 (λq=>⟨?_,a.new j⟩) (λq=>⟨?_,a.new j⟩)⟩
  ·simp [aG.valid,b,c,n,q]
  ·have:¬ v.last<v.dd:=by omega
   simp [aG.valid,b,c,n,this]
 ·simp [aG.valid,b,c,n]
def aG.cls (v:aG):Int:=if v.cY<=v.last then 1 else 2
theorem Mm (w:ak) (v:aG) (e:0<=v.bX) (f:v.bX<=1000000):a9 185 [v.val] w λx w'=>x=.int .i64 v.cls/\ai w w':=by
 refine bc Tryz.func185 ?_;refine Eq.mpr (HU v.Kind v.Node v.bX v.N v.Old v.ai v.Words v.cK v.cD v.Key v.cn w _) ?_;rintro b1 w1 rfl rfl g rfl;have b:av (w.alloc (.cells v.cells.toArray cz)).drew w.heap.size v.cells cz:=oP w v;have d:Go.bu.ai w (w.alloc (.cells v.cells.toArray cz)).drew:=(hk w (.cells v.cells.toArray cz)).drew;refine ⟨λu=>Go.bu.ai (w.alloc (.cells v.cells.toArray cz)).drew u,ao.refl _ _,_,λu hu=>(ai.aj hu b).cell rfl,mG (λu hu=>g4 (ai.aj hu b)) ?_⟩;refine aC (AK _ v) ?_;rintro x i ⟨rfl,a⟩;refine ⟨_,rfl,a,?_⟩;rw [yp e,bC (by omega) (by omega)];have c:v.cY=v.bX / 8:=rfl;refine a8 (λh=>⟨?_,d.new a⟩) (λh=>⟨?_,d.new a⟩)
 ·rw [aG.cls,c,if_pos h]
 ·rw [aG.cls,c,if_neg h]
def aG.check (v:aG) (inc dS key ef:Int):Int:=
 if v.cls=1/\v.Kind=1 then 0 else if inc<0\/inc<dS then 5 else if v.cls=1 then 0 else if v.cn<0\/v.cn≠ef\/v.Key≠key then 5 else 0
theorem Mn (w:ak) (v:aG) (inc dS key ef:Int) (k:0<=v.bX) (l:v.bX<=1000000) (p:inc<=1000000) (n:v.cn<9223372036854775808) :
  a9 136 [v.val,.int .i64 inc,.int .u64 dS,.int .u64 key,.int .u64 ef] w λx w'=>x=.int .i64 (v.check inc dS key ef)/\ai w w':=by
 refine bc Tryz.func136 ?_;refine Eq.mpr (HS v.Kind v.Node v.bX v.N v.Old v.ai v.Words v.cK v.cD v.Key v.cn inc dS key ef w _) ?_;rintro b1 w1 rfl rfl;have i:=oP w v;have o:=hk w (.cells v.cells.toArray cz);refine iY (g4 i) ?_;refine aC (Mm _ v k l) ?_;rintro x q ⟨rfl,j⟩;have f:=ai.aj j i;have a:=o.new j;refine ⟨_,rfl,dY (λb=>?_) (λb=>?_)⟩
 ·refine ⟨_,f.cell rfl,dY (λc=>⟨by simp [aG.check,b,c],a⟩) (λc=>a8 (λd=>⟨by simp [aG.check,c,d],a⟩) (λd=>?_))⟩
  rw [kh (x:=inc) (by omega) (by omega)];refine a8 (λe=>⟨by simp [aG.check,c,e],a⟩) (λe=>dY (λ_=>⟨by simp [aG.check,c,d,e,b],a⟩) (λh=>absurd b h))
 ·refine a8 (λd=>⟨by simp [aG.check,b,d],a⟩) (λd=>?_)
  rw [kh (x:=inc) (by omega) (by omega)];refine a8 (λe=>⟨by simp [aG.check,b,e],a⟩) (λe=>dY (λh=>absurd h b) (λ_=>⟨_,f.cell rfl,a8 (λau=>⟨by simp [aG.check,b,d,e,au],a⟩) (λau=>⟨_,f.cell rfl,?_⟩)⟩));dsimp only;rw [kh (x:=v.cn) (by omega) (by omega)];refine dw (λhu=>⟨by simp [aG.check,b,d,e,hu],a⟩) (λhu=>⟨_,f.cell rfl,dw (λg=>⟨by simp [aG.check,b,d,e,g],a⟩) (λg=>⟨?_,a⟩)⟩)
  have:¬ ef<0:=by omega
  simp [aG.check,b,d,e,hu,g,this]
abbrev iR:TypeId:=131
def fits (v:aG) (d:bO):Bool:=
 if d.Code=0 then decide ((d.cK:Int)=v.iq) else if d.Code=4\/d.Code=5 then decide (d.cK=0) else false
theorem ND (w:ak) (v:aG) (d:bO):a9 192 [v.val,d.val] w λx w'=>x=.bool (fits v d)/\ai w w':=by
 refine bc Tryz.func192 ?_;refine Eq.mpr (HP v.Kind v.Node v.bX v.N v.Old v.ai v.Words v.cK v.cD v.Key v.cn d.Code d.Words d.cK d.cD w _) ?_;rintro b1 w1 rfl rfl aA j rfl rfl;have i:=(oP w v).alloc (.cells d.cells.toArray iR);have ar:=px (w.alloc (.cells v.cells.toArray cz)) d.cells iR;have b:=(hk w (.cells v.cells.toArray cz)).alloc (.cells d.cells.toArray iR);have f:∀ x:Nat,(((x:Nat):Int) == 0)=decide (x=0):=λx=>by rw [Bool.eq_iff_iff];simp
 refine ⟨_,ar.cell rfl,dY (λc=>?_) (λc=>dY (λa=>dY (λ_=>⟨_,_,_,ar.cell rfl,?_,b⟩) (λh=>absurd a h)) (λa=>dY (λe=>⟨_,_,_,ar.cell rfl,?_,b⟩) (λe=>⟨?_,b⟩)))⟩
 ·rintro k rfl;refine ⟨λu=>Go.bu.ai ((w.alloc (.cells v.cells.toArray cz)).alloc (.cells d.cells.toArray iR)).drew u,ao.refl _ _,_,_,_,λu hu=>(ai.aj hu ar).cell rfl,mG (λu hu=>g4 (ai.aj hu i)) ?_⟩;refine aC (Jf _ v) ?_;rintro x l ⟨rfl,g⟩;refine ⟨_,rfl,g,?_,b.drew.new g⟩;rw [fits,if_pos c];rfl
 ·rw [f];simp [fits,a]
 ·rw [f];simp [fits,e]
 ·simp [fits,c,a,e]
def dP (vs:List aG):List ax:=vs.map aG.cells
def fP (ds:List bO):List ax:=ds.map bO.cells
theorem uT (vs:List aG):∀ r ∈ dP vs,r.length=9:=by intro r a;simp only [dP,cT] at a;obtain ⟨v,_,rfl⟩:=a;rfl
theorem xW (ds:List bO):∀ r ∈ fP ds,r.length=2:=by intro r a;simp only [fP,cT] at a;obtain ⟨v,_,rfl⟩:=a;rfl
theorem AW (h:vs[i]?=some v):(dP vs)[i]?=some v.cells:=by simp [dP,h]
theorem BF {d:bO} (h:ds[i]?=some d):(fP ds)[i]?=some d.cells:=by simp [fP,h]
def q' (vs:List aG) (ds:List bO):Bool:=decide (vs.length=ds.length) && (vs.zip ds).all λp=>fits p.1 p.2
theorem PD {w:ak} {a b:an} {G aX:Nat} (J:bh w a (dP vs).flatten) (H:bh w b (fP ds).flatten) (O:vs.length<=1000000) (L:ds.length<=1000000000) :
  a9 149 [.slice a vs.length G,.slice b ds.length aX] w λx w'=>x=.bool (q' vs ds)/\ai w w':=by
 refine bc Tryz.func149 ?_;rw [It];refine dw (λh=>⟨?_,ao.refl _ _⟩) (λh=>?_)
 ·have:¬ vs.length=ds.length:=by omega
  simp [q',this]
 have hlen:vs.length=ds.length:=by omega
 refine c2 mix (λm env u=>∃ (i:Nat) (j:ax),i<=vs.length/\m=vs.length - i/\env=xA b ds.length aX a vs.length G vs.length i j/\ai w u/\(∀ k,k<i->∀ v d,vs[k]?=some v->ds[k]?=some d->fits v d=true)) vs.length
  ⟨0,_,by omega,by omega,rfl,ao.refl _ _,λk n=>by omega⟩ ?_
 rintro m env u ⟨i,j,N,rfl,rfl,n,e⟩;rw [Uv];refine a8 (λE=>?_) (λE=>?_)
 ·have f:i<vs.length:=by omega
  have al:vs[i]?=some vs[i]:=by simp [f]
  have ar:ds[i]?=some ds[i]:=by simp [hlen▸f]
  obtain ⟨M,dy,rfl,A,B⟩:=(J.new n).row (uT vs) (by omega) (AW al);obtain ⟨dk,gk,rfl,_,_⟩:=(H.new n).row (xW ds) (by omega) (BF ar);refine ee (by omega) (by omega) ?_;refine iY (v:=vs[i]) (by simpa using A) ?_;rintro b1 w1 t r;obtain ⟨au,q⟩:=bl t r;refine ⟨gg (vs:=aG.cells vs[i]) au (by simp [aG.cells]) (aG.single vs[i]),?_⟩;rintro I s Q rfl;obtain ⟨o,F⟩:=oF (vs:=aG.cells vs[i]) au (by simp [aG.cells]) q (by omega) s;clear r s au q;have c:Go.bu.ai w I.drew:=(ao.new n F).drew;refine ⟨λz=>Go.bu.ai I.drew z,ao.refl _ _,mG (v:=vs[i]) (λz au=>g4 (ai.aj au o)) ?_⟩;refine ee (by omega) (by omega) ?_;refine ⟨ds[i].Code,ds[i].Words,ds[i].cK,ds[i].cD,λz au=>?_,?_⟩
  ·obtain ⟨b',P,he,y,_⟩:=(H.new (ao.new c au)).row (xW ds) (by omega) (BF ar);simp only [fe,Addr.mk.injEq,and_true] at he;rw [he.1,he.2];exact y
  refine aC (ND _ vs[i] ds[i]) ?_;rintro x R ⟨rfl,p⟩;refine ⟨_,rfl,ev (λC=>?_) (λC=>?_)⟩
  ·refine ⟨?_,ao.new c p⟩;congr 1;symm;unfold q';rw [Bool.and_eq_false_iff];refine .inr ?_;rw [yr];exact ⟨(vs[i],ds[i]),b7 (i:=i) (by simp [List.zip,List.getElem?_zipWith,al,ar]),by simp [C]⟩
  ·rw [show IntKind.i64.wrap ((i:Int)+1)=((i+1:Nat):Int) by rw [bC (by omega) (by omega)];rfl];refine ⟨vs.length - (i+1),by omega,i+1,_,by omega,rfl,rfl,ao.new c p,?_⟩
   ·intro k n v d l g;by_cases he:k=i
    ·subst he;rw [al] at l;rw [ar] at g;cases l;cases g;exact C
    ·exact e k (by omega) v d l g
 ·have K:i=vs.length:=by omega
  rw [Vj];refine ⟨?_,n⟩;congr 1;symm;unfold q';rw [e1];refine ⟨by simp [hlen],?_⟩;rw [gU];rintro ⟨v,d⟩ hm;obtain ⟨k,D,he⟩:=List.mem_iff_getElem.1 hm;simp only [List.length_zip] at D;simp only [List.getElem_zip,Prod.mk.injEq] at he;exact e k (by omega) v d (by rw [bD (by omega),he.1]) (by rw [bD (by omega),he.2])
end
end Go.Proofs.YtmkljjbioomepaaGreat
