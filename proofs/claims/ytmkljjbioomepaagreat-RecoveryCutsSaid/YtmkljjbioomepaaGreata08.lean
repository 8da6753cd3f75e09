import Derived.Test.YtmkljjbioomepaaGreata07
import Derived.Test.YtmkljjbioomepaaGreata04
set_option linter.all false
namespace Go.Proofs.YtmkljjbioomepaaGreat
open Go.Proofs.Tryz Go.b8
variable {ds:List cL} {i:Nat} {v:a0} {vs:List a0}
section
def a0.last (v:a0):Int:=if v.Kind=1 then 3 else 2
theorem V1 (w:av) (v:a0):bK 133 [v.val] w λx w'=>x=.int .i64 v.last/\ai w w':=by refine bO Tryz.func133 ?_;refine Eq.mpr (aBz v.Kind v.Node v.cY v.N v.Old v.ai v.Words v.ey v.eg v.Key v.dJ w _) ?_;rintro b1 w1 rfl rfl;have ak:=AM w v;have aj:=mE w (.cells v.cells.toArray d8);refine ⟨_,ak.cell rfl,gX (λaf=>⟨?_,aj⟩) (λaf=>⟨?_,aj⟩)⟩<;>simp [a0.last,af]
def a0.ow (v:a0):Int:=if v.Kind=1 then v.N else if v.Kind=3\/v.Kind=4 then 1 else 0
theorem ail (w:av) (v:a0):bK 233 [v.val] w λx w'=>x=.int .i64 v.ow/\ai w w':=by
 refine bO Tryz.func233 ?_;refine Eq.mpr (aCr v.Kind v.Node v.cY v.N v.Old v.ai v.Words v.ey v.eg v.Key v.dJ w _) ?_;rintro b1 w1 rfl rfl;have ak:=AM w v;have aj:=mE w (.cells v.cells.toArray d8);refine ⟨_,ak.cell rfl,gX (λaf=>⟨_,ak.cell rfl,?_,aj⟩) (λaf=>gX (λaL=>gX (λ_=>⟨?_,aj⟩) (λh=>absurd aL h)) (λaL=>gX (λca=>⟨?_,aj⟩) (λca=>⟨?_,aj⟩)))⟩
 ·simp [a0.ow,af]
 ·simp [a0.ow,aL]
 ·simp [a0.ow,ca]
 ·simp [a0.ow,af,aL,ca]
def a0.eU (v:a0):Int:=v.cY / 8
def a0.ft (v:a0):Int:=(v.cY+v.count - 1) / 8
theorem ZO (w:av) (v:a0) (aN:0<=v.cY) (af:v.cY<=1000000) (al:1<=v.count) (aL:v.count<=1000000) :
  bK 132 [v.val] w λx w'=>x=.tuple #[.int .i64 v.eU,.int .i64 v.ft]/\ai w w':=by
 refine bO Tryz.func132 ?_;refine Eq.mpr (agY v.Kind v.Node v.cY v.N v.Old v.ai v.Words v.ey v.eg v.Key v.dJ w _) ?_;rintro b1 w1 rfl rfl aS rfl;have ak:aF (w.alloc (.cells v.cells.toArray d8)).drew w.heap.size v.cells d8:=AM w v;have aj:Go.b8.ai w (w.alloc (.cells v.cells.toArray d8)).drew:=(mE w (.cells v.cells.toArray d8)).drew;refine ⟨λu=>Go.b8.ai (w.alloc (.cells v.cells.toArray d8)).drew u,ay.refl _ _,_,λu hu=>(ai.an hu ak).cell rfl,_,λu hu=>(ai.an hu ak).cell rfl,wU (λu hu=>l4 (ai.an hu ak)) ?_⟩;refine aR (My _ v) ?_;rintro x aY ⟨rfl,J⟩;refine ⟨_,rfl,J,?_,aj.new J⟩;rw [cn (x:=v.cY+v.count) (by omega) (by omega),cn (x:=v.cY+v.count - 1) (by omega) (by omega),Q3 aN,Q3 (by omega),cn (by omega) (by omega),cn (by omega) (by omega)];rfl
def a0.inside (v:a0) (nodes lines:Int):Bool:=
 decide (1<=nodes/\nodes<=5/\1<=lines/\lines<=256/\0<=v.Node/\v.Node<nodes/\0<=v.cY/\v.cY<lines * 8/\v.count<=1024/\v.ft<lines/\v.ft - v.eU<128)
theorem aku (w:av) (v:a0) (nodes lines:Int) (ab:1<=v.count):bK 131 [v.val,.int .i64 nodes,.int .i64 lines] w λx w'=>x=.bool (v.inside nodes lines)/\ai w w':=by
 refine bO Tryz.func131 ?_;refine Eq.mpr (aCJ v.Kind v.Node v.cY v.N v.Old v.ai v.Words v.ey v.eg v.Key v.dJ nodes lines w _) ?_;rintro b1 w1 rfl rfl;have ak:=AM w v;have aj:=mE w (.cells v.cells.toArray d8);have no:∀ {w'},Go.b8.ai w w'->¬ (1<=nodes/\nodes<=5/\1<=lines/\lines<=256/\0<=v.Node/\v.Node<nodes/\0<=v.cY/\v.cY<lines * 8/\v.count<=1024/\v.ft<lines/\v.ft - v.eU<128)->
   (Value.bool false=.bool (v.inside nodes lines)/\Go.b8.ai w w'):=λJ h=>⟨by simp only [a0.inside,decide_eq_false h],J⟩
 refine bL (λaf=>no aj (by omega)) (λaf=>bL (λal=>no aj (by omega)) (λal=>bL (λaL=>no aj (by omega)) (λaL=>bL (λca=>no aj (by omega)) (λca=>
  ⟨_,ak.cell rfl,bL (λc9=>no aj (by omega)) (λc9=>⟨_,ak.cell rfl,bL (λe8=>no aj (by omega)) (λe8=>⟨_,ak.cell rfl,bL (λi'=>no aj (by omega)) (λi'=>⟨_,ak.cell rfl,?_⟩)⟩)⟩)⟩))))
 rw [cn (x:=lines * 8) (by omega) (by omega)];refine bL (λhj=>no aj (by omega)) (λhj=>py (l4 ak) ?_);refine aR (My _ v) ?_;rintro x aS ⟨rfl,J⟩;refine ⟨_,rfl,bL (λh4=>no (aj.new J) (by omega)) (λh4=>py (l4 (ai.an J ak)) ?_)⟩;refine aR (ZO _ v (by omega) (by omega) ab (by omega)) ?_;rintro x aY ⟨rfl,eN⟩;have au:v.eU=v.cY / 8:=rfl;have g3:v.ft=(v.cY+v.count - 1) / 8:=rfl;refine ⟨_,_,rfl,bL (λbc=>⟨?_,(aj.new J).new eN⟩) (λbc=>no ((aj.new J).new eN) (by omega))⟩;rw [cn (x:=v.ft - v.eU) (by omega) (by omega)];congr 1;unfold a0.inside;rw [decide_eq_decide];constructor
 ·intro h;exact ⟨by omega,by omega,by omega,by omega,by omega,by omega,by omega,by omega,by omega,bc,h⟩
 ·intro h;exact h.2.2.2.2.2.2.2.2.2.2
def a0.valid (v:a0) (nodes lines:Int):Int:=
 if v.count<1 then 1 else if v.inside nodes lines=false then 2 else if v.eU<=v.last/\v.last<v.ft then 2 else 0
theorem Ce {nodes lines:Int} (h:v.inside nodes lines=true):1<=nodes/\nodes<=5/\1<=lines/\lines<=256/\0<=v.Node/\v.Node<nodes/\0<=v.cY/\v.cY<lines * 8/\v.count<=1024/\v.ft<lines/\v.ft - v.eU<128:=of_decide_eq_true h
theorem Rt (w:av) (v:a0) (nodes lines:Int):bK 94 [v.val,.int .i64 nodes,.int .i64 lines] w λx w'=>x=.int .i64 (v.valid nodes lines)/\ai w w':=by
 refine bO Tryz.func94 ?_;refine Eq.mpr (agK v.Kind v.Node v.cY v.N v.Old v.ai v.Words v.ey v.eg v.Key v.dJ nodes lines w _) ?_;rintro b1 w1 rfl rfl;have ak:=AM w v;have aj:=mE w (.cells v.cells.toArray d8);refine py (l4 ak) ?_;refine aR (My _ v) ?_;rintro x aS ⟨rfl,J⟩;have cv:=ai.an J ak;have a5:=aj.new J;refine ⟨_,rfl,bL (λaf=>⟨by simp [a0.valid,af],a5⟩) (λaf=>py (l4 cv) ?_)⟩;refine aR (aku _ v nodes lines (by omega)) ?_;rintro x aY ⟨rfl,ek⟩;have ej:=ai.an ek cv;have bf:=a5.new ek;refine ⟨_,rfl,ht (λal=>⟨by simp [a0.valid,af,al],bf⟩) (λal=>py (l4 ej) ?_)⟩;have aD:=Ce al;refine aR (ZO _ v (by omega) (by omega) (by omega) (by omega)) ?_;rintro x bZ ⟨rfl,dv⟩;have iO:=ai.an dv ej;have bz:=bf.new dv;refine ⟨_,_,rfl,py (l4 iO) ?_⟩;refine aR (V1 _ v) ?_;rintro x cK ⟨rfl,g_⟩;have ih:=ai.an g_ iO;have bH:=bz.new g_;refine ⟨_,rfl,bL (λaL=>py (l4 ih) ?_) (λaL=>⟨?_,bH⟩)⟩
 ·refine aR (V1 _ v) ?_;rintro x dh ⟨rfl,eu⟩;refine ⟨_,rfl,bL (λca=>⟨?_,bH.new eu⟩) (λca=>⟨?_,bH.new eu⟩)⟩
  ·simp [a0.valid,af,al,aL,ca]
  ·have:¬ v.last<v.ft:=by omega
   simp [a0.valid,af,al,aL,this]
 ·simp [a0.valid,af,al,aL]
def a0.cls (v:a0):Int:=if v.eU<=v.last then 1 else 2
theorem als (w:av) (v:a0) (aN:0<=v.cY) (af:v.cY<=1000000):bK 185 [v.val] w λx w'=>x=.int .i64 v.cls/\ai w w':=by
 refine bO Tryz.func185 ?_;refine Eq.mpr (ag4 v.Kind v.Node v.cY v.N v.Old v.ai v.Words v.ey v.eg v.Key v.dJ w _) ?_;rintro b1 w1 rfl rfl aS rfl;have ak:aF (w.alloc (.cells v.cells.toArray d8)).drew w.heap.size v.cells d8:=AM w v;have aj:Go.b8.ai w (w.alloc (.cells v.cells.toArray d8)).drew:=(mE w (.cells v.cells.toArray d8)).drew;refine ⟨λu=>Go.b8.ai (w.alloc (.cells v.cells.toArray d8)).drew u,ay.refl _ _,_,λu hu=>(ai.an hu ak).cell rfl,wU (λu hu=>l4 (ai.an hu ak)) ?_⟩;refine aR (V1 _ v) ?_;rintro x aY ⟨rfl,J⟩;refine ⟨_,rfl,J,?_⟩;rw [Q3 aN,cn (by omega) (by omega)];have au:v.eU=v.cY / 8:=rfl;refine bL (λh=>⟨?_,aj.new J⟩) (λh=>⟨?_,aj.new J⟩)
 ·rw [a0.cls,au,if_pos h]
 ·rw [a0.cls,au,if_neg h]
def a0.check (v:a0) (inc gP key hd:Int):Int:=
 if v.cls=1/\v.Kind=1 then 0 else if inc<0\/inc<gP then 5 else if v.cls=1 then 0 else if v.dJ<0\/v.dJ≠hd\/v.Key≠key then 5 else 0
theorem alu (w:av) (v:a0) (inc gP key hd:Int) (aN:0<=v.cY) (af:v.cY<=1000000) (aD:inc<=1000000) (bA:v.dJ<9223372036854775808) :
  bK 136 [v.val,.int .i64 inc,.int .u64 gP,.int .u64 key,.int .u64 hd] w λx w'=>x=.int .i64 (v.check inc gP key hd)/\ai w w':=by
 refine bO Tryz.func136 ?_;refine Eq.mpr (agM v.Kind v.Node v.cY v.N v.Old v.ai v.Words v.ey v.eg v.Key v.dJ inc gP key hd w _) ?_;rintro b1 w1 rfl rfl;have ak:=AM w v;have aj:=mE w (.cells v.cells.toArray d8);refine py (l4 ak) ?_;refine aR (als _ v aN af) ?_;rintro x aS ⟨rfl,J⟩;have cv:=ai.an J ak;have a5:=aj.new J;refine ⟨_,rfl,gX (λab=>?_) (λab=>?_)⟩
 ·refine ⟨_,cv.cell rfl,gX (λhk=>⟨by simp [a0.check,ab,hk],a5⟩) (λhk=>bL (λao=>⟨by simp [a0.check,hk,ao],a5⟩) (λao=>?_))⟩
  rw [rJ (x:=inc) (by omega) (by omega)];refine bL (λaz=>⟨by simp [a0.check,hk,az],a5⟩) (λaz=>gX (λ_=>⟨by simp [a0.check,hk,ao,az,ab],a5⟩) (λh=>absurd ab h))
 ·refine bL (λao=>⟨by simp [a0.check,ab,ao],a5⟩) (λao=>?_)
  rw [rJ (x:=inc) (by omega) (by omega)];refine bL (λaz=>⟨by simp [a0.check,ab,az],a5⟩) (λaz=>gX (λh=>absurd h ab) (λ_=>⟨_,cv.cell rfl,bL (λaE=>⟨by simp [a0.check,ab,ao,az,aE],a5⟩) (λaE=>⟨_,cv.cell rfl,?_⟩)⟩));dsimp only;rw [rJ (x:=v.dJ) (by omega) (by omega)];refine fX (λhu=>⟨by simp [a0.check,ab,ao,az,hu],a5⟩) (λhu=>⟨_,cv.cell rfl,fX (λaZ=>⟨by simp [a0.check,ab,ao,az,aZ],a5⟩) (λaZ=>⟨?_,a5⟩)⟩)
  have:¬ hd<0:=by omega
  simp [a0.check,ab,ao,az,hu,aZ,this]
abbrev o9:TypeId:=131
def fits (v:a0) (d:cL):Bool:=
 if d.Code=0 then decide ((d.ey:Int)=v.ow) else if d.Code=4\/d.Code=5 then decide (d.ey=0) else false
theorem amH (w:av) (v:a0) (d:cL):bK 192 [v.val,d.val] w λx w'=>x=.bool (fits v d)/\ai w w':=by
 refine bO Tryz.func192 ?_;refine Eq.mpr (agZ v.Kind v.Node v.cY v.N v.Old v.ai v.Words v.ey v.eg v.Key v.dJ d.Code d.Words d.ey d.eg w _) ?_;rintro b1 w1 rfl rfl aP aS rfl rfl;have ak:=(AM w v).alloc (.cells d.cells.toArray o9);have aC:=Cj (w.alloc (.cells v.cells.toArray d8)) d.cells o9;have aj:=(mE w (.cells v.cells.toArray d8)).alloc (.cells d.cells.toArray o9);have iN:∀ x:Nat,(((x:Nat):Int) == 0)=decide (x=0):=λx=>by rw [Bool.eq_iff_iff];simp
 refine ⟨_,aC.cell rfl,gX (λaN=>?_) (λaN=>gX (λca=>gX (λ_=>⟨_,_,_,aC.cell rfl,?_,aj⟩) (λh=>absurd ca h)) (λca=>gX (λc9=>⟨_,_,_,aC.cell rfl,?_,aj⟩) (λc9=>⟨?_,aj⟩)))⟩
 ·rintro aY rfl;refine ⟨λu=>Go.b8.ai ((w.alloc (.cells v.cells.toArray d8)).alloc (.cells d.cells.toArray o9)).drew u,ay.refl _ _,_,_,_,λu hu=>(ai.an hu aC).cell rfl,wU (λu hu=>l4 (ai.an hu ak)) ?_⟩;refine aR (ail _ v) ?_;rintro x bZ ⟨rfl,J⟩;refine ⟨_,rfl,J,?_,aj.drew.new J⟩;rw [fits,if_pos aN];rfl
 ·rw [iN];simp [fits,ca]
 ·rw [iN];simp [fits,c9]
 ·simp [fits,aN,ca,c9]
def gG (vs:List a0):List aH:=vs.map a0.cells
def j6 (ds:List cL):List aH:=ds.map cL.cells
theorem Lx (vs:List a0):∀ r ∈ gG vs,r.length=9:=by intro r aA;simp only [gG,eQ] at aA;obtain ⟨v,_,rfl⟩:=aA;rfl
theorem Qr (ds:List cL):∀ r ∈ j6 ds,r.length=2:=by intro r aA;simp only [j6,eQ] at aA;obtain ⟨v,_,rfl⟩:=aA;rfl
theorem Wy (h:vs[i]?=some v):(gG vs)[i]?=some v.cells:=by simp [gG,h]
theorem Xm {d:cL} (h:ds[i]?=some d):(j6 ds)[i]?=some d.cells:=by simp [j6,h]
def Fm (vs:List a0) (ds:List cL):Bool:=decide (vs.length=ds.length) && (vs.zip ds).all λp=>fits p.1 p.2
theorem aoD {w:av} {a b:ax} {mX bo:Nat} (bc:bW w a (gG vs).flatten) (ak:bW w b (j6 ds).flatten) (au:vs.length<=1000000) (nM:ds.length<=1000000000) :
  bK 149 [.slice a vs.length mX,.slice b ds.length bo] w λx w'=>x=.bool (Fm vs ds)/\ai w w':=by
 refine bO Tryz.func149 ?_;rw [ahw];refine fX (λh=>⟨?_,ay.refl _ _⟩) (λh=>?_)
 ·have:¬ vs.length=ds.length:=by omega
  simp [Fm,this]
 have hlen:vs.length=ds.length:=by omega
 refine e2 mix (λm env u=>∃ (i:Nat) (j:aH),i<=vs.length/\m=vs.length - i/\env=P6 b ds.length bo a vs.length mX vs.length i j/\ai w u/\(∀ k,k<i->∀ v d,vs[k]?=some v->ds[k]?=some d->fits v d=true)) vs.length
  ⟨0,_,by omega,by omega,rfl,ay.refl _ _,λk J=>by omega⟩ ?_
 rintro m env u ⟨i,j,aD,rfl,rfl,J,k_⟩;rw [ay0];refine bL (λaK=>?_) (λaK=>?_)
 ·have hR:i<vs.length:=by omega
  have aw:vs[i]?=some vs[i]:=by simp [hR]
  have aC:ds[i]?=some ds[i]:=by simp [hlen▸hR]
  obtain ⟨lP,fZ,rfl,m5,jl⟩:=(bc.new J).row (Lx vs) (by omega) (Wy aw);obtain ⟨fD,kM,rfl,_,_⟩:=(ak.new J).row (Qr ds) (by omega) (Xm aC);refine hc (by omega) (by omega) ?_;refine py (v:=vs[i]) (by simpa using m5) ?_;rintro b1 w1 bA br;obtain ⟨aE,a1⟩:=b4 bA br;refine ⟨kA (vs:=a0.cells vs[i]) aE (by simp [a0.cells]) (a0.single vs[i]),?_⟩;rintro aS cG aY rfl;obtain ⟨BI,a5⟩:=Av (vs:=a0.cells vs[i]) aE (by simp [a0.cells]) a1 (by omega) cG;clear br cG aE a1;have Up:Go.b8.ai w aS.drew:=(ay.new J a5).drew;refine ⟨λz=>Go.b8.ai aS.drew z,ay.refl _ _,wU (v:=vs[i]) (λz aE=>l4 (ai.an aE BI)) ?_⟩;refine hc (by omega) (by omega) ?_;refine ⟨ds[i].Code,ds[i].Words,ds[i].ey,ds[i].eg,λz aE=>?_,?_⟩
  ·obtain ⟨b',gk,he,kd,_⟩:=(ak.new (ay.new Up aE)).row (Qr ds) (by omega) (Xm aC);simp only [iX,Addr.mk.injEq,and_true] at he;rw [he.1,he.2];exact kd
  refine aR (amH _ vs[i] ds[i]) ?_;rintro x bZ ⟨rfl,dv⟩;refine ⟨_,rfl,ht (λaJ=>?_) (λaJ=>?_)⟩
  ·refine ⟨?_,ay.new Up dv⟩;congr 1;symm;unfold Fm;rw [Bool.and_eq_false_iff];refine .inr ?_;rw [Q5];exact ⟨(vs[i],ds[i]),dn (i:=i) (by simp [List.zip,List.getElem?_zipWith,aw,aC]),by simp [aJ]⟩
  ·rw [show IntKind.i64.wrap ((i:Int)+1)=((i+1:Nat):Int) by rw [cn (by omega) (by omega)];rfl];refine ⟨vs.length - (i+1),by omega,i+1,_,by omega,rfl,rfl,ay.new Up dv,?_⟩
   ·intro k J v d d_ pj;by_cases he:k=i
    ·subst he;rw [aw] at d_;rw [aC] at pj;cases d_;cases pj;exact aJ
    ·exact k_ k (by omega) v d d_ pj
 ·have pR:i=vs.length:=by omega
  rw [aBC];refine ⟨?_,J⟩;congr 1;symm;unfold Fm;rw [iz];refine ⟨by simp [hlen],?_⟩;rw [lM];rintro ⟨v,d⟩ hm;obtain ⟨k,dQ,he⟩:=List.mem_iff_getElem.1 hm;simp only [List.length_zip] at dQ;simp only [List.getElem_zip,Prod.mk.injEq] at he;exact k_ k (by omega) v d (by rw [cp (by omega),he.1]) (by rw [cp (by omega),he.2])
end
end Go.Proofs.YtmkljjbioomepaaGreat
