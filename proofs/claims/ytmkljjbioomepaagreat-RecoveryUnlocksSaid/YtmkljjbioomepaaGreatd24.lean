import Derived.Test.YtmkljjbioomepaaGreatProg
import Derived.Test.YtmkljjbioomepaaGreatd03
import Derived.Test.YtmkljjbioomepaaGreatd23
import Derived.Test.YtmkljjbioomepaaGreatd17
set_option linter.all false
set_option maxHeartbeats 4000000
set_option maxRecDepth 100000
namespace Go.Proofs.YtmkljjbioomepaaGreat
open Go.Proofs.Tryz Go.bs
variable {a:an} {b1 aB c cap n:Nat} {aH l ws:a8} {lines:Int} {w:ak}
section
open IntKind
variable (w:ak) (R:cz) {s:an} {a b:Nat} {i k:Int} {A B:aX} {X Y Z:a4} {j:ar} {F:Bool}
theorem Xm:bf prog f228 [ae s a b,ab i] R w=(aS w #[ab 0,a5] 271 λj l=>cond ((a:Int) != 120) (a_ l (af j 0) 0 [ab 0,a5] λh=>hW h (af j 0) λd=>h=h/\R (.tuple #[d.val,ad false]) h) (hY s a b 8 (a:Nat) (b:Nat) 1 λo u q=>Calls prog 251 #[ae o u q,ab i] l λe t=>b0.ex λf=>∃ c,e=.returned (.tuple #[f.val,ab c])/\aS t #[ab 0,a5] 271 λn p=>a_ p (af n 0) 0 f.cells λm=>hW m (af n 0) λr=>a_ m (af j 0) 0 r.cells λk=>hW k (af j 0) λg=>k=k/\R (.tuple #[g.val,ad ((c:Int) == 0)]) k)):=by kernel_rfl
theorem Wh:bf prog f246 [ae s a b,ab i] R w=(aS w #[ab 0,a5] 271 λm y=>Calls prog 228 #[ae s a b,ab i] y λe v=>b0.ex λh=>∃ c,e=.returned (.tuple #[h.val,ad c])/\aS v #[ab 0,a5] 271 λu A=>a_ A (af u 0) 0 h.cells λt=>cond (!c) (a_ t (af m 0) 0 [ab 0,a5] λn=>hW n (af m 0) λj=>n=n/\R (.tuple #[j.val,ad false]) n) (bX t (af u 0) λd=>hH 214 #[ab d] t λf g q=>bA s a 0 1 λz=>dX q z λx=>cond (f != x) (a_ q (af m 0) 0 [ab 0,a5] λp=>hW p (af m 0) λk=>p=p/\R (.tuple #[k.val,ad false]) p) (hW q (af u 0) λr=>a_ q (af m 0) 0 r.cells λo=>hW o (af m 0) λl=>o=o/\R (.tuple #[l.val,ad true]) o))):=by kernel_rfl
noncomputable def d_:Code:=ni (bn f251) [1,1,1,1,1,1,0,1,0]
def GM (e:an) (a b:Nat) (s1:Int) (c:aX) (s8 d:a4) (j:ar):ar:=ae e a b::ab s1::ag j 0 2 (.pointer (some c)::ag j 2 3 (s8::ag j 5 42 (d::ag j 47 22 [])))
def uI (e:an) (a b:Nat) (s1:Int) (c:aX) (s8:a4) (d:Bool) (f:a4) (j:ar):ar:=ae e a b::ab s1::ag j 0 2 (.pointer (some c)::ag j 2 3 (s8::ag j 5 18 (ad d::ag j 23 23 (f::ag j 46 22 []))))
def GN (e:an) (a b:Nat) (s1:Int) (c:aX) (s8 d:a4) (j:ar):ar:=ae e a b::ab s1::ag j 0 2 (.pointer (some c)::ag j 2 3 (s8::ag j 5 42 (d::ag j 47 22 [])))
def qJ (e:an) (a b:Nat) (s1:Int) (f g:aX) (h:Int) (s8 c d:a4) (j:ar):ar:=ae e a b::ab s1::ag j 0 2 (.pointer (some f)::ag j 2 1 (.pointer (some g)::ab h::s8::ag j 3 41 (c::d::ag j 44 22 [])))
def AE (e:an) (a b:Nat) (s1:Int) (c d:aX) (f:Int) (j:ar):ar:=ae e a b::ab s1::ag j 0 2 (.pointer (some c)::ag j 2 1 (.pointer (some d)::ab f::ag j 3 66 []))
def xD (a b:aX) (c:Bool) (j:ar):ar:=ag j 0 4 (.pointer (some a)::ag j 4 1 (.pointer (some b)::ag j 5 64 (ad c::ag j 69 2 [])))
def GO (a b:aX) (j:ar):ar:=ag j 0 4 (.pointer (some a)::ag j 4 1 (.pointer (some b)::ag j 5 67 []))
theorem Xn (h:Exit->ar->aF):W prog d_ ((ae s a b)::(ab i)::(bD 72 [])) (bI prog f251 R h) w=(aS w #[ab 0,a5] 271 λf j=>dn 203 #[ab i] j λc g=>cond (!c) (a_ g (af f 0) 0 [ab 0,a5] λe=>hW e (af f 0) λd=>e=e/\R (.tuple #[d.val,ab 18]) e) (W prog (sub d_ [1,1]) (GM s a b i (af f 0) undef undef (bD 2 (ab 0::bD 2 (ab i::ad c::ad (!c)::bD 61 [])))) (bI prog f251 R h) g)):=by kernel_rfl
theorem U_ (env:ar) (w:ak) (Q:Exit->ar->aF):W prog (sub d_ [1,1]) env Q w=W prog (sub d_ [1,1,0]) env (aZ (λenv w=>W prog (sub d_ [1,1,1]) env Q w) Q) w:=by rw [show sub d_ [1,1]=.seq (sub d_ [1,1,0]) (sub d_ [1,1,1]) by kernel_rfl];generalize sub d_ [1,1,0]=a;generalize sub d_ [1,1,1]=b;kernel_rfl
theorem Uk (env:ar) (w:ak) (Q:Exit->ar->aF):W prog (sub d_ [1,1,0]) env Q w=W prog (sub d_ [1,1,0,0]) env (aZ (λenv w=>W prog (sub d_ [1,1,0,1]) env Q w) Q) w:=by rw [show sub d_ [1,1,0]=.seq (sub d_ [1,1,0,0]) (sub d_ [1,1,0,1]) by kernel_rfl];generalize sub d_ [1,1,0,0]=a;generalize sub d_ [1,1,0,1]=b;kernel_rfl
theorem t8 (c:Exit->ar->aF):W prog (sub d_ [1,1,0,0]) (GM s a b i A X Y j) (bI prog f251 R c) w=(cond ((a:Int)<2) (c .normal (uI s a b i A X true Y (ag j 0 9 (ae s a b::eo a::ad ((a:Int)<2)::ad true::bD 4 (ad true::ad true::bD 4 (ag j 24 45 []))))) w) (bA s a 0 1 λe=>dX w e λx=>cond (x>=1073741824) (c .normal (uI s a b i A X true Y (ag j 0 9 (ae s a b::eo a::ad ((a:Int)<2)::ad false::ae s a b::jp e::ah x::ad (x>=1073741824)::ad (x>=1073741824)::ad true::bD 4 (ag j 24 45 [])))) w) (bA s a 1 1 λf=>dX w f λd=>c .normal (uI s a b i A X (decide ((d:Int)>12)) Y (ag j 0 9 (ae s a b::eo a::ad ((a:Int)<2)::ad false::ae s a b::jp e::ah x::ad (x>=1073741824)::ad (x>=1073741824)::ad false::ae s a b::jp f::ah d::ad (d>12)::ag j 24 45 []))) w))):=by kernel_rfl
theorem Gv (d:Exit->ar->aF):W prog (sub d_ [1,1,0,1]) (uI s a b i A X F Y j) (bI prog f251 R d) w=(cond F (a_ w A 0 [ab 0,a5] λc=>hW c A λg=>c=c/\R (.tuple #[g.val,ab 14]) c) (d .normal (GN s a b i A X Y (ag j 0 23 (ad F::ag j 23 45 []))) w)):=by kernel_rfl
theorem t9 (n:Exit->ar->aF):W prog (sub d_ [1,1,1]) (GN s a b i A X Y j) (bI prog f251 R n) w=(bA s a 0 1 λp=>dX w p λx=>aS w #[ab 0,a5] 271 λo q=>a_ q (af o 0) 0 [ab (i64.wrap x),a5] λe=>bA s a 1 1 λg=>dX e g λc=>cond ((a:Int)<(i64.wrap ((i64.wrap (2+(i64.wrap (9 * (i64.wrap c)))))+1))) (a_ e A 0 [ab 0,a5] λd=>hW d A λh=>d=d/\R (.tuple #[h.val,ab 14]) d) (hY s a b 2 (i64.wrap ((i64.wrap ((i64.wrap (2+(i64.wrap (9 * (i64.wrap c)))))+1)) - 1)) (b:Nat) 1 λm l k=>UG 253 #[ae m l k,ab 9] e λf r=>n (.exit 77) (qJ s a b i A (af o 0) (i64.wrap ((i64.wrap (2+(i64.wrap (9 * (i64.wrap c)))))+1)) X f Y (aO j 0::aO j 1::aO j 2::ag j 5 20 (ae s a b::jp p::ah x::ab (i64.wrap x)::.agg #[ab (i64.wrap x),a5]::ae s a b::jp g::ah c::ab (i64.wrap c)::ab (i64.wrap (9 * (i64.wrap c)))::ab (i64.wrap (2+(i64.wrap (9 * (i64.wrap c)))))::ab (i64.wrap ((i64.wrap (2+(i64.wrap (9 * (i64.wrap c)))))+1))::ae s a b::eo a::ab (i64.wrap ((i64.wrap (2+(i64.wrap (9 * (i64.wrap c)))))+1))::ad ((a:Int)<(i64.wrap ((i64.wrap (2+(i64.wrap (9 * (i64.wrap c)))))+1)))::aO j 41::ae s a b::ab (i64.wrap ((i64.wrap (2+(i64.wrap (9 * (i64.wrap c)))))+1))::ab (i64.wrap ((i64.wrap ((i64.wrap (2+(i64.wrap (9 * (i64.wrap c)))))+1)) - 1))::ae m l k::ag j 47 22 []))) r)):=by kernel_rfl
theorem U' (h:an) (a b:Nat) (s1:Int) (i k:aX) (l:Int) (s8 c d:a4) (y:an) (f g:Nat) (j:ar) (w:ak) (e:ar->aF):W prog (sb f251 [1,1,1,1,1,1,0,1,0,0]) (qJ h a b s1 i k l s8 c (ae y f g) (ag j 0 66 [])) (aZ e λ_ _ _=>False) w=(e (qJ h a b s1 i k l (ae y f g) c (ae y f g) (ag j 0 66 [])) w):=by kernel_rfl
theorem Ul (q:an) (a b:Nat) (s1:Int) (r e:aX) (s:Int) (s8 c d:a4) (y:an) (f g:Nat) (j:ar) (w:ak) (p:ar->aF):W prog (sb f251 [1,1,1,1,1,1,0,1,0,1,0]) (qJ q a b s1 r e s (ae y f g) c (ae y f g) (ag j 0 66 [])) (aZ p λ_ _ _=>False) w=(cw w λw1 o=>e6 o (bY e 1) λh i k=>UH 254 #[ae y f g] w1 λn t=>o t/\aS t n.cells.toArray 73 λb1 u=>o u/\db 37 (ae h i k) (ae (bo b1) 1 1) u λap l m x=>cP x (bY e 1) (ae ap l m) λz=>p (qJ q a b s1 r e s (ae y f g) c (ae y f g) (ag j 0 44 (bL e 1::ae h i k::ae y f g::n.val::ae (bo b1) 1 1::ae ap l m::bL e 1::ag j 51 15 []))) z):=by kernel_rfl
theorem Um:(qJ s a b i A B k X Y Z j)=(AE s a b i A B k (aO j 0::aO j 1::aO j 2::X::ag j 3 41 (Y::Z::ag j 44 22 []))):=by kernel_rfl
theorem rt (env:ar) (w:ak) (Q:Exit->ar->aF):W prog (sub d_ [1,1,1,1,1,1,1]) env Q w=W prog (sub d_ [1,1,1,1,1,1,1,0]) env (aZ (λenv w=>W prog (sub d_ [1,1,1,1,1,1,1,1]) env Q w) Q) w:=by rw [show sub d_ [1,1,1,1,1,1,1]=.seq (sub d_ [1,1,1,1,1,1,1,0]) (sub d_ [1,1,1,1,1,1,1,1]) by kernel_rfl];generalize sub d_ [1,1,1,1,1,1,1,0]=a;generalize sub d_ [1,1,1,1,1,1,1,1]=b;kernel_rfl
theorem Un (env:ar) (w:ak) (Q:Exit->ar->aF):W prog (sub d_ [1,1,1,1,1,1,1,0]) env Q w=W prog (sub d_ [1,1,1,1,1,1,1,0,0]) env (aZ (λenv w=>W prog (sub d_ [1,1,1,1,1,1,1,0,1]) env Q w) Q) w:=by rw [show sub d_ [1,1,1,1,1,1,1,0]=.seq (sub d_ [1,1,1,1,1,1,1,0,0]) (sub d_ [1,1,1,1,1,1,1,0,1]) by kernel_rfl];generalize sub d_ [1,1,1,1,1,1,1,0,0]=a;generalize sub d_ [1,1,1,1,1,1,1,0,1]=b;kernel_rfl
theorem V0 (m:Exit->ar->aF):W prog (sub d_ [1,1,1,1,1,1,1,0,0]) (AE s a b i A B k j) (bI prog f251 R m) w=(cw w λv d=>sP d B λr=>ct 167 #[r.val,ab i] v λf l=>d l/\cond (f != 0) (m .normal (xD A B true (ae s a b::ab i::aO j 0::aO j 1::aO j 2::ab k::ag j 3 51 (r.val::ab i::ab f::ad ((f:Int) != 0)::ad true::bD 7 [aO j 67,aO j 68]))) l) (sP d B λn=>hY s a b 0 k (b:Nat) 1 λq t o=>eZ 210 #[n.val] l λg h c p=>d p/\dn 255 #[ae g h c,ae q t o] p λe u=>d u/\m .normal (xD A B (!e) (ae s a b::ab i::aO j 0::aO j 1::aO j 2::ab k::ag j 3 51 [r.val,ab i,ab f,ad ((f:Int) != 0),ad false,n.val,ae g h c,ae s a b,ab k,ae q t o,ad e,ad (!e),aO j 67,aO j 68])) u)):=by kernel_rfl
theorem V1 (b:Exit->ar->aF):W prog (sub d_ [1,1,1,1,1,1,1,0,1]) (xD A B F j) (bI prog f251 R b) w=(cond F (a_ w A 0 [ab 0,a5] λa=>hW a A λd=>a=a/\R (.tuple #[d.val,ab 14]) a) (b .normal (GO A B (ag j 0 69 [ad F,aO j 69,aO j 70])) w)):=by kernel_rfl
theorem V2 (b:Exit->ar->aF):W prog (sub d_ [1,1,1,1,1,1,1,1]) (GO A B j) (bI prog f251 R b) w=(hW w B λr=>a_ w A 0 r.cells λa=>hW a A λc=>a=a/\R (.tuple #[c.val,ab 0]) a):=by kernel_rfl
theorem Ie (j:b0) (l:b0):bf prog f252 [j.val,l.val] R w=(aS w j.cells.toArray 271 λm p=>aS p l.cells.toArray 271 λn e=>bX e (af m 0) λa=>bX e (af n 0) λb=>cond (a == b) (b_ e (af m 1) λc d f=>b_ e (af n 1) λg h i=>dn 256 #[ae c d f,ae g h i] e λk o=>R (ad k) o) (R (ad false) e)):=by kernel_rfl
theorem Ig:bf prog f254 [ae s a b] R w=(aS w #[ab 0,ah 0,ah 0,ah 0,ah 0,ah 0,ah 0,ah 0,ah 0] 73 λj o=>cw o λn f=>bA s a 0 1 λt=>j1 f t λx=>bA s a 1 1 λc=>j1 f c λm=>aS n #[ab 0,ah 0,ah 0,ah 0,ah 0,ah 0,ah 0,ah 0,ah 0] 73 λh k=>f k/\a_ k (af h 0) 0 [ab (i64.wrap (if (256:Int)<x then (256:Int) else x)),ah m,ah 0,ah 0,ah 0,ah 0,ah 0,ah 0,ah 0] λq=>∀ i,i=q.drew->hY s a b 2 (a:Nat) (b:Nat) 1 λp v u=>∃ r,∃ g,(Builtin.copy_ #[94,94] 3 #[ae (some (af h 2)) 7 7,ae p v u]).run prog i=.ok (ab r) g/\hI g (af h 0) λl=>a_ g (af j 0) 0 l.cells λe=>hI e (af j 0) λd=>e=e/\R d.val e):=by kernel_rfl
end
section
open IntKind
variable (w:ak) (R:cz) {s:an} {a b:Nat} {i:Int} {X:a4} {A B:aX} {j:ar}
theorem SU:bf prog f253 [ae s a b,ab i] R w=(aS w #[ae s a b] 94 λe f=>aS f #[ab i] 3 λd c=>bX c (af d 0) λx=>cond (x<1) (W prog (sb f253 [1,0,1,0]) [ae s a b,ab i,ba e,ba d,.nilFunc,ab x,ad (x<1),undef,undef] (aU f253 [1,1] R) c) (R (.func (.func 257) #[] #[ba e,ba d]) c)):=by kernel_rfl
def wU (a:a4) (s1 s2:aX) (b:Int) (j:ar):ar:=a::.pointer (some s1)::.pointer (some s2)::ag j 0 1 (ab b::ag j 1 26 [])
theorem St:bf prog f257 [X,ba a,ba b] R w=(cG prog (c7 f257 [1,0,0]) (wU X (af a 0) (af b 0) 0 (bD 27 [])) (aP 0 (b7 f257 R)) w):=by kernel_rfl
theorem RE (t:ar->aF):W prog (sb f257 [1,0,0]) (wU X A B i j) (aZ t (aP 0 (b7 f257 R))) w=(b_ w A λx a b=>cond (i<(a:Nat)) (cw w λr s=>cV s B λo=>e6 s A λu c d=>hY u c d i (c:Nat) (d:Nat) 1 λy n z=>b_ r A λv f g=>hY v f g i (i64.wrap (i+(if (n:Int)<o then (n:Int) else o))) (i64.wrap (i+(if (n:Int)<o then (n:Int) else o))) 1 λm k l=>jk prog X #[ae m k l] r λe p=>∃ h,e=.returned (ad h)/\cond (!h) (R (.tuple #[]) p) (bX p B λq=>t (wU X A B (i64.wrap (i+q)) [aO j 0,ab (if (n:Int)<o then (n:Int) else o),ab i,ae x a b,eo a,ad (i<(a:Nat)),ab i,ab q,ab (i64.wrap (i+q)),ab o,ae u c d,ab i,ae y n z,eo n,ab (if (n:Int)<o then (n:Int) else o),X,ae v f g,ab i,ab i,ab (if (n:Int)<o then (n:Int) else o),ab (i64.wrap (i+(if (n:Int)<o then (n:Int) else o))),ab i,ab (if (n:Int)<o then (n:Int) else o),ab (i64.wrap (i+(if (n:Int)<o then (n:Int) else o))),ae m k l,ad h,ad (!h)]) p)) (R (.tuple #[]) w)):=by kernel_rfl
end
section
open Go.RowKit Go.Shelf
theorem Q0 {b sb so k c:Nat} {news:ax} (l:news.length=7) (i:k=7) (a:∀ j u,news[j]?=some u->w.cell? ⟨sb,so+j,none⟩=some u) (e:eh w ⟨b,2,none⟩ 0 news) :
  (Builtin.copy_ #[94,94] 3 #[.slice (some ⟨b,2,none⟩) 7 7,.slice (some ⟨sb,so,none⟩) k c]).run prog w=.ok (.int .i64 7) (cu w ⟨b,2,none⟩ 0 news):=by
 subst i;obtain ⟨inf,g,au,o,p⟩:=fV (T:=30) (z:=.int .u64 0) (n:=1) (m:=8) (by kernel_rfl);have f:=run_firstCells_some (P:=prog) w inf.size 7 ⟨sb,so,none⟩ 7 c news (by rw [o];exact l) (λj v h=>by rw [show (⟨sb,so,none⟩:aX).add j=⟨sb,so+j,none⟩ from ll _ _ _];exact a j v h);have d:=bs.sT (P:=prog) e;have hu:prog.underlying 94=some (.slice 30):=Tryz.underlying94;simp [Builtin.copy_,run_underlying hu,sizeOf,typeInfo,g,Builtin.lenOf,f,d,goInt]
def q2 (ws:a8):aK:=⟨if 256<ws.getD 0 0 then 256 else ws.getD 0 0,ws.getD 1 0,ws.getD 2 0,ws.getD 3 0,ws.getD 4 0,ws.getD 5 0,ws.getD 6 0,ws.getD 7 0,ws.getD 8 0⟩
theorem nj (h:bk w a (us ws)) {i:Nat} (c:i<ws.length) (g:n=ws.length) {z:Int} (au:z=i) {K:aX->Prop} (f:∀ b o,(∀ y,ai w y->y.cell? ⟨b,o,none⟩=some (.int .u64 (ws.getD i 0)))->K ⟨b,o,none⟩):bA a n z 1 K:=by
 have e:ws[i]?=some (ws.getD i 0):=by rw [bE c,dq,bE c];rfl
 refine jj (cells:=tQ) (sz:=1) (λ_=>rfl) (by decide) (by rw [vY];exact h) e au g λb o d=>f b o λy j=>d y j 0 _ rfl
theorem M2 (h:l.length=9):∃ a b c d e f g i j,l=[a,b,c,d,e,f,g,i,j]:=by
 rcases l with _ | ⟨a,_ | ⟨b,_ | ⟨c,_ | ⟨d,_ | ⟨e,_ | ⟨f,_ | ⟨g,_ | ⟨i,_ | ⟨j,_ | ⟨y,l⟩⟩⟩⟩⟩⟩⟩⟩⟩⟩;case cons.cons.cons.cons.cons.cons.cons.cons.cons.nil=>exact ⟨_,_,_,_,_,_,_,_,_,rfl⟩
 all_goals simp at h
theorem Q1 (U:bk w a (us ws)) (B:ws.length=9) (hu:∀ x ∈ ws,cj x) (XH:9<=c):bb 254 [.slice a 9 c] w λv w'=>v=(q2 ws).val/\ai w w':=by
 refine bd Tryz.func254 ?_;rw [Ig];rintro b1 w1 R D;obtain ⟨f,C⟩:=bl R D;have f:av w1 b1 hR.cells eu:=f;clear D;rintro Xw E;have q:ai w1 Xw:=by rw [E];exact cK _
 clear E;have d:=C.new q;refine ⟨λu=>ai Xw u,ao.refl _ _,?_⟩;have V:cj (ws.getD 0 0):=by
  match ws,B,hu with
  |x::_,_,hu=>exact hu x (by simp)
 refine nj (U.new d) (i:=0) (by omega) (by omega) rfl λb o XD=>⟨_,XD,nj (U.new d) (i:=1) (by omega) (by omega) rfl λb' XI XE=>⟨_,XE,?_⟩⟩
 have XC:IntKind.i64.wrap (if (256:Int)<ws.getD 0 0 then (256:Int) else ws.getD 0 0)=(q2 ws).bm:=by
  rw [bH]
  ·rfl
  ·split<;>have:=V.1<;>omega
  ·split<;>omega
 rw [XC];rintro aB XF S F;obtain ⟨t,r⟩:=bl S F;have t:av XF aB hR.cells eu:=t;clear F;refine ⟨r,?_⟩;refine dQ (vs:=[.int .i64 (q2 ws).bm,.int .u64 (ws.getD 1 0),.int .u64 0,.int .u64 0,.int .u64 0,.int .u64 0,.int .u64 0,.int .u64 0,.int .u64 0]) t rfl (by intro v al;simp at al;rcases al with rfl | rfl | rfl<;>rfl) λXG X z=>?_
 rintro y G;have s:ai XG y:=by rw [G];exact cK _
 clear G;have J:=ai.aj s X;have g:b1≠aB:=λe=>by have:=f.lt;have:=q.size;omega
 have l:ai w y:=((d.new r).trans z λk Xv e=>by have:=d.size;omega).new s;have H:av y b1 hR.cells eu:=ai.aj s (z.aj (ai.aj (q.new r) f) g);obtain ⟨b,o,rfl,n⟩:∃ b o,a=some ⟨b,o,none⟩/\∀ j u,(us ws)[j]?=some u->y.cell? ⟨b,o+j,none⟩=some u:=by
  rcases U.new l with e | h
  ·exact absurd (congrArg List.length e) (by rw [hO,B];decide)
  ·exact h
 refine kM (by omega) (by omega) (by omega) (by omega) (by omega) λXK W=>?_
 rcases W with rfl | ⟨e,_⟩;case inr=>omega
 have p:=Q0 (w:=y) (b:=aB) (sb:=b) (so:=o+2) (k:=7) (c:=c - 2) (news:=us (ws.drop 2)) (by rw [hO,lH,B]) rfl (λj u h=>by have:=n (2+j) u (by simp only [us,dS,kv] at h ⊢;exact h);rw [show o+2+j=o+(2+j) by omega];exact this) (gq J (by rw [hO,lH,B];simp) (pC _))
 have Xz:((9:Nat):Int).toNat - (2:Int).toNat=7:=rfl;have XA:((c:Nat):Int).toNat - (2:Int).toNat=c - 2:=by simp
 have XB:o+(2:Int).toNat * 1=o+2:=rfl;rw [Xz,XA,XB];refine ⟨_,_,p,?_⟩;obtain ⟨Xx,Xy,K,L,M,N,O,P,Q,rfl⟩:=M2 B;have Y:av (cu y ⟨aB,2,none⟩ 0 (us [K,L,M,N,O,P,Q])) aB (q2 [Xx,Xy,K,L,M,N,O,P,Q]).cells eu:=J.cu (vs:=us [K,L,M,N,O,P,Q]) (o:=2) (i:=0);have A:=h7 y aB 2 0 (us [K,L,M,N,O,P,Q]);refine aK.aT _ ⟨bO Y rfl,?_⟩;have I:=A.aj H g;refine dQ (vs:=(q2 [Xx,Xy,K,L,M,N,O,P,Q]).cells) I rfl (aK.single _) λXJ Z T=>?_
 refine aK.aT _ ⟨bO Z rfl,rfl,rfl,?_⟩;have:=C.size;refine (l.trans A λk Xv e=>?_).trans T λk Xv e=>?_
 ·have:=d.size;omega
 ·omega
theorem Q2 {b:an} {m d:Nat} {l2:a8} (B:bk w a (us l)) (F:n=l.length) (C:bk w b (us l2)) (hm:m=l2.length) (G:n<=1000000):bb 255 [.slice a n c,.slice b m d] w λv w'=>v=.bool (decide (l=l2))/\ai w w':=by
 refine bd Tryz.func255 ?_;rw [SS];refine du (λe=>⟨?_,ao.refl _ _⟩) (λe=>?_)
 ·rw [decide_eq_false];intro j;subst j;omega
 have hlen:l.length=l2.length:=by omega
 refine c8 mix (λq env u=>∃ (i:Nat) (t:ax),q=l.length - i/\i<=l.length/\env=wV a n c b m d n i t/\ai w u/\l.take i=l2.take i) l.length
  ⟨0,_,by omega,by omega,rfl,ao.refl _ _,rfl⟩ ?_
 rintro q env u ⟨i,t,rfl,H,rfl,g,s⟩;rw [RT];refine bc (λE=>?_) (λD=>?_)
 ·rintro w1 h;have p:ai u w1:=by rw [h];exact cK _
  clear h;have f:=g.new p;refine ⟨λy=>ai w1 y,ao.refl _ _,?_⟩;refine nj (B.new f) (i:=i) (by omega) F rfl λb1 I k=>⟨_,k,nj (C.new f) (i:=i) (by omega) hm rfl λaB J o=>⟨_,o,?_⟩⟩
  have z:l[i]?=some (l.getD i 0):=by rw [dq,bE (by omega)];rfl
  have A:l2[i]?=some (l2.getD i 0):=by rw [dq,bE (by omega)];rfl
  refine du (λr=>⟨?_,f⟩) (λhe=>?_)
  ·rw [decide_eq_false];intro j;subst j;exact r rfl
  ·rw [bH (x:=(i:Int)+1) (by omega) (by omega)];refine ⟨l.length - (i+1),by omega,i+1,_,rfl,by omega,rfl,f,?_⟩;rw [ff,ff,s,z,A,he]
 ·rw [R7];refine ⟨?_,g⟩;rw [h1 (by omega),h1 (by omega)] at s;rw [decide_eq_true s]
theorem M6 (w:ak) (a:an) (n c:Nat):bb 253 [.slice a n c,.int .i64 9] w λr w'=>r=.func (.func 257) #[] #[.pointer (some ⟨w.heap.size,0,none⟩),.pointer (some ⟨w.heap.size+1,0,none⟩)]/\
  av w' w.heap.size [.slice a n c] 94/\av w' (w.heap.size+1) [.int .i64 9] 3/\ai w w'/\w'.heap.size=w.heap.size+2:=by
 refine bd Tryz.func253 ?_;rw [SU];rintro b1 w1 e b;obtain ⟨l,k⟩:=bl e b;have i:w1.heap.size=w.heap.size+1:=by rw [b];simp
 clear b;rintro aB p f d;obtain ⟨j,g⟩:=bl f d;have o:p.heap.size=w1.heap.size+1:=by rw [d];simp
 clear d;subst e f;refine ⟨9,j.cell rfl,bc (λh=>absurd h (by decide)) (λ_=>⟨by rw [i],ai.aj g l,by rw [<-i];exact j,k.new g,by omega⟩)⟩
def j_ (a:an) (i:Nat):an:=a.map (·.add (9 * i))
def i_ (b1 aB:Nat) (a:an) (n cap:Nat) (w:ak):Prop:=w.cell? ⟨b1,0,none⟩=some (.slice a n cap)/\w.cell? ⟨aB,0,none⟩=some (.int .i64 9)
theorem Ld (l b1 aB:Nat) (a:an) (cap n:Nat) (a9 s:List (Fin n)->aF) (Y:n<=1000) (g:9 * n<=cap) (W:ak) (O:i_ b1 aB a (9 * n) cap W)
  (L:AbidesFrom W.heap.size a9) (N:∀ pre x y,a9 pre y->pre.length<n->YieldAt Fence.wide 1 prog l #[.slice (j_ a x.val) 9 9] y λe W'=>
   (e=.returned (.bool true)/\a9 (pre++[x]) W'/\(i_ b1 aB a (9 * n) cap y->i_ b1 aB a (9 * n) cap W'))\/(e=.returned (.bool false)/\s (pre++[x]) W'))
  (J:a9 [] W) :
  CallsIn Fence.wide 2 prog 257 #[.func (.yield l) #[] #[],.pointer (some ⟨b1,0,none⟩),.pointer (some ⟨aB,0,none⟩)] W λe W'=>(∃ v,e=.returned v)/\
   ((∃ ys:List (Fin n),ys.map Fin.val=List.range n/\a9 ys W')\/(∃ pre,True/\s pre W')):=by
 refine callsIn_wide.2 (Calls.mono (R:=λe w'=>∃ x,e=.returned x/\((∃ ys:List (Fin n),ys.map Fin.val=List.range n/\a9 ys w')\/(∃ pre,True/\s pre w'))) ?_ λe w' ⟨x,T,w⟩=>⟨⟨x,T⟩,w⟩);refine bd Tryz.func257 (args:=[.func (.yield l) #[] #[],.pointer (some ⟨b1,0,none⟩),.pointer (some ⟨aB,0,none⟩)]) (R:=λ_ w'=>(∃ ys:List (Fin n),ys.map Fin.val=List.range n/\a9 ys w')\/(∃ pre,True/\s pre w')) ?_;rw [St];refine c8 mix (λm env u=>∃ (i:Nat) (H:ax) (pre:List (Fin n)),m=n - i/\i<=n/\env=wU (.func (.yield l) #[] #[]) ⟨b1,0,none⟩ ⟨aB,0,none⟩ ((9 * i:Nat):Int) H/\pre.map Fin.val=List.range i/\a9 pre u/\i_ b1 aB a (9 * n) cap u) n
  ⟨0,_,[],by omega,by omega,rfl,rfl,J,O⟩ ?_
 rintro m env u ⟨i,H,pre,rfl,X,rfl,d,j,r,E⟩;rw [RE];refine ⟨a,9 * n,cap,r,bc (λQ=>?_) (λQ=>?_)⟩
 ·rintro w1 f;have b:Go.bs.ai u w1:=by rw [f];exact cK _
  have A:w1.cell? ⟨b1,0,none⟩=some (.slice a (9 * n) cap):=by rw [f];exact r
  have F:w1.cell? ⟨aB,0,none⟩=some (.int .i64 9):=by rw [f];exact E
  clear f;refine ⟨λz=>i_ b1 aB a (9 * n) cap z,⟨A,F⟩,9,λz au=>au.2,a,9 * n,cap,λz au=>au.1,?_⟩;refine ⟨by omega,by omega,by omega,by omega,g,?_⟩;refine ⟨a,9 * n,cap,A,?_⟩;have q:(if (((((9 * n:Nat):Int)).toNat - ((9 * i:Nat):Int).toNat:Nat):Int)<9 then (((((9 * n:Nat):Int)).toNat - ((9 * i:Nat):Int).toNat:Nat):Int) else 9)=9:=by split<;>omega
  rw [q,bH (x:=((9 * i:Nat):Int)+9) (by omega) (by omega)];refine ⟨by omega,by omega,by omega,by omega,g,?_⟩;have I:(if ((9 * i:Nat):Int)+9=((9 * i:Nat):Int) then a else a.map (·.add ((((9 * i:Nat):Int)).toNat * 1)))=j_ a i:=by
   have t:(((9 * i:Nat):Int)).toNat * 1=9 * i:=by omega
   rw [if_neg (by omega),t];rfl
  have el:(((9 * i:Nat):Int)+9).toNat - (((9 * i:Nat):Int)).toNat=9:=by omega
  rw [I,el];have B:a9 pre w1:=L _ _ _ none j ⟨b.os,b.tape,b.output,b.size,λk P _=>b.block k P id⟩ (λ_ h=>by cases h);have D:=congrArg List.length d;rw [fZ,lJ] at D;have p:i<n:=by omega
  obtain ⟨fn,tmps,assign,body,U,w⟩:=N pre ⟨i,p⟩ w1 B (by omega);refine ⟨fn,tmps,assign,body,U,w.1,λc cs _=>?_⟩;obtain ⟨e,V,K,S⟩:=w.2 c cs (room_wide _);refine ⟨e,V,?_,S⟩;rcases K with ⟨rfl,C,M⟩ | ⟨rfl,o⟩
  ·have G:=M ⟨A,F⟩;refine ⟨true,rfl,di rfl ⟨9,G.2,?_⟩⟩;dsimp only;rw [bH (x:=((9 * i:Nat):Int)+9) (by omega) (by omega),show ((9 * i:Nat):Int)+9=((9 * (i+1):Nat):Int) by omega];exact ⟨n - (i+1),by omega,i+1,_,pre++[⟨i,p⟩],rfl,by omega,rfl,by rw [jn,d,ku];rfl,C,G⟩
  ·exact ⟨false,rfl,gB rfl (.inr ⟨_,trivial,o⟩)⟩
 ·have:i=n:=by omega
  subst this;exact .inl ⟨_,d,j⟩
end
section
open Go.RowKit Go.Shelf
def oH (aH:a8) (i:Nat):aK:=q2 ((aH.drop (2+9 * i)).take 9)
def hA (aH:a8) (n:Nat):List aK:=(List.range n).map (oH aH)
abbrev er:TypeId:=271
structure ua (HG:ak) (nw:Nat) (seq:Int) (aH:a8) (pre:cT) (u:ak):Prop where
 ex:∃ a cap,av u nw [.int .i64 seq,.slice a pre.length cap] er/\a1 u eu 9 a pre.length cap (ia (pre.map (oH aH))).flatten/\∀ k,aL a k->HG.heap.size<=k
 aA:ao (λk=>k=nw) HG u
theorem M7 {l:ak} {o:Nat} {seq:Int}:OwnFrom l.heap.size (λ(ys:List (Fin n)) u=>ua l o seq aH (ys.map Fin.val) u):=by
 rintro ys W W' row ⟨⟨a,cap,i,j,p⟩,d⟩ q f;have c:=sx q;refine ⟨⟨a,cap,c.aj i (tu (W':=W') f i),?_,p⟩,d.trans c λk r e=>?_⟩
 ·refine ⟨j.1,?_⟩;rcases j.2 with h | ⟨g,cur,he,b,rest⟩
  ·exact .inl h
  ·exact .inr ⟨g,cur,he,c.aj b (tu (W':=W') f b),rest⟩
 ·have:=(f k e.symm).1;omega
theorem Jg (aH:a8) (pre:cT) (i:Nat):(ia ((pre++[i]).map (oH aH))).flatten=(ia (pre.map (oH aH))).flatten++(oH aH i).cells:=by simp [ia]
theorem i_.put {W:ak} {l:Nat} {o g:Obj} (i:W.heap[l]?=some o) (j:o.isCells=false) (h:i_ b1 aB a n cap W):i_ b1 aB a n cap (W.putObj l g):=by
 have same:∀ {b:Nat} {v:a4},W.cell? ⟨b,0,none⟩=some v->(W.putObj l g).cell? ⟨b,0,none⟩=some v:=by
  intro b v h;obtain ⟨k,c,f⟩:=cells_of_cell h;have d:b≠l:=by intro e;have c:W.heap[b]?=some k:=c;rw [e,i] at c;cases c;rw [j] at f;cases f
  rw [World.cell?_of_block (w:=W)]
  ·exact h
  ·exact World.putObj_heap_other d
 exact ⟨same h.1,same h.2⟩
theorem i_.aA {W W':ak} {M:a6} (b:ao M W W') (c:¬ M b1) (d:¬ M aB) (h:i_ b1 aB a n cap W):i_ b1 aB a n cap W':=⟨jQ b h.1 c,jQ b h.2 d⟩
abbrev o9 (h:an) (g cB:Nat) (lines:Int) (d e:Nat) (i:Int) (j:a4) (a b:Nat) (c:a4) (f:ax):ax:=
 qJ h g cB lines ⟨d,0,none⟩ ⟨e,0,none⟩ i j (.func (.func 257) #[] #[.pointer (some ⟨a,0,none⟩),.pointer (some ⟨b,0,none⟩)]) c f
theorem JM (r:ak) (XA q f j:Nat) (seq XV lines:Int) (aH:a8) (n XT cB p:Nat) (XU b2:an) (XS:ax) (Yu:n<=12)
  (XC:av r q [.int .i64 seq,.slice none 0 0] er) (Xx:av r f [.slice b2 (9 * n) p] 94) (Xy:av r j [.int .i64 9] 3) (X3:q≠f) (X4:q≠j) (XE:9 * n<=p)
  (X7:∀ i,i<n->bk r (j_ b2 i) (us ((aH.drop (2+9 * i)).take 9))/\∀ k,aL (j_ b2 i) k->k≠q) (Yp:2+9 * n<=aH.length) (hu:∀ x ∈ aH,cj x) (Q:Exit->Act->aF)
  (dH:∀ D W (ys:List (Fin n)),r.heap.size<=D->ys.map Fin.val=List.range n->ua r q seq aH (ys.map Fin.val) W->W.heap[D]?=some (.deferred (some []))->
   Q .normal { tmps:=(o9 XU XT cB lines XA q XV undef f j undef XS).toArray,defers:=[{ target:=.collected D,args:=#[] }] } W) :
  (Code.rangeFunc (.tmp 50) #[51] (sub (bn f251) [1,1,1,1,1,1,0,1,0,0]) (.block 1 (sub (bn f251) [1,1,1,1,1,1,0,1,0,1,0]))).wpIn Fence.wide 3 prog Q
   (act (o9 XU XT cB lines XA q XV undef f j undef XS)) r:=by
 obtain ⟨inf,Yr,au,L,X2⟩:=fV (T:=eu) (z:=hR.val) (n:=9) (m:=72) (by kernel_rfl);have XD:i_ f j b2 (9 * n) p r:=⟨Xx.cell rfl,Xy.cell rfl⟩;have Yd:=XC.lt;refine wpIn_rangeFunc_ownH rfl (by omega) (gf:=257) (lb:=#[.pointer (some ⟨f,0,none⟩),.pointer (some ⟨j,0,none⟩)]) rfl trivial (enters_of Tryz.func257 (by kernel_rfl) rfl)
  (encs:=λx:Fin n=>#[.slice (j_ b2 x.val) 9 9]) (Kp:=λA B=>i_ f j b2 (9 * n) p A->i_ f j b2 (9 * n) p B) (S:=λys=>ys.map Fin.val=List.range n) (Sp:=λ_=>True) (N:=n) (w0:=r)
  (λl a9 Yg W eJ Ym Yn Yo Yh=>Ld l f j b2 p n a9 Yg (by omega) XE W ?XX Ym Yo Yh)
  (λYi Yj h=>Yj (Yi h)) (λW l o Yv _ Ye C _ h=>h.put Ye C) (Below.refl _ _) (λ_=>rfl) (λys u=>ua r q seq aH (ys.map Fin.val) u) (λ_ _ _=>False) M7 (λ_ _ _ _ _ XN _ _=>XN)
  ⟨⟨none,0,XC,a1.nil _ _ _,λk E=>by obtain ⟨o,C⟩:=E;cases C⟩,ao.refl _ _⟩
  (λx Yb W=>Yb=act (o9 XU XT cB lines XA q XV (.slice (j_ b2 x.val) 9 9) f j (.slice (j_ b2 x.val) 9 9) XS)) ?own ?assign ?body ?done ?stop
 case XX=>
  have cell:∀ {b:Nat} {v:a4},b<r.heap.size->r.cell? ⟨b,0,none⟩=some v->W.cell? ⟨b,0,none⟩=some v:=λXI h=>(World.cell?_of_block (eJ.block _ XI)).trans h
  exact ⟨cell Xx.lt XD.1,cell Xy.lt XD.2⟩
 case own=>exact λ_ _ _ _ _ _ h _ _=>h
 case assign=>
  intro l pre x W K XB XY;suffices XN:∀ a:Act,a=act (o9 XU XT cB lines XA q XV undef f j (.slice (j_ b2 x.val) 9 9) (ag XS 0 66 []))->Code.wpIn (Fence.wide.inRound l) (3 - 1 - 1) prog (sub (bn f251) [1,1,1,1,1,1,0,1,0,0]) (Exit.then K (λ_ _ _=>False)) a W from XN _ (by kernel_rfl)
  rintro _ rfl;refine wpIn_mono (nv mix (H' l) (ds:=[]) _ _ (aZ (λenv u=>K (act env) u) λ_ _ _=>False) W (by kernel_rfl) ?_) (λe a w h=>?_)
  ·rw [U' (d:=undef)];exact XY _ _ (KeepsFrom.refl _ _) (λh=>h) XB rfl
  ·obtain ⟨XR,env,rfl,XK⟩:=mA h;cases e with
   |normal=>exact XK
   |panic c=>exact absurd rfl (XR.1 c)
   |outgrown=>exact absurd rfl XR.2
   | _=>exact XK.elim
 case body=>
  rintro l pre x Yb W Ye _ XB rfl XI;refine wpIn_block ?_;suffices XN:∀ a:Act,a=act (o9 XU XT cB lines XA q XV (.slice (j_ b2 x.val) 9 9) f j (.slice (j_ b2 x.val) 9 9) (ag XS 0 66 []))->Code.wpIn (Fence.wide.inRound l) (3 - 1 - 1) prog (sub (bn f251) [1,1,1,1,1,1,0,1,0,1,0]) (Exit.inBlock 1 (ownPostG r.heap.size (λA B=>i_ f j b2 (9 * n) p A->i_ f j b2 (9 * n) p B) (λ(ys:List (Fin n)) u=>ua r q seq aH (ys.map Fin.val) u) (λ_ _ _=>False) (pre++[x]) W)) a W from XN _ (by kernel_rfl)
  rintro _ rfl;refine wpIn_mono (nv mix (H' l) (ds:=[]) _ _ (aZ (λenv u=>KeepsFrom r.heap.size W u/\(i_ f j b2 (9 * n) p W->i_ f j b2 (9 * n) p u)/\ua r q seq aH ((pre++[x]).map Fin.val) u) λ_ _ _=>False) W (by kernel_rfl) ?_) (λe a w h=>?_)
  ·rw [Ul (s8:=undef) (d:=undef)];obtain ⟨⟨a,cap,V,Xw,G⟩,X⟩:=XB;rw [fZ] at V Xw;rintro XW XO;have Z:Go.bs.ai W XW:=by rw [XO];exact cK _
   clear XO;have O:=ai.aj Z V;refine ⟨λy=>Go.bs.ai XW y,ao.refl _ _,a,pre.length,cap,λy X9=>(ai.aj X9 O).cell (i:=1) rfl,?_⟩;obtain ⟨XL,X6⟩:=X7 x.val x.isLt;have XH:ao (λk=>k=q) r XW:=X.new Z;have X8:bk XW (j_ b2 x.val) (us ((aH.drop (2+9 * x.val)).take 9)):=XL.aA XH (hk XL X6);have Ys:=x.isLt;refine aD (Q1 X8 (by rw [iG,lH];omega) (λy X9=>hu y (o3 (tq X9))) (cY 9)) ?_;rintro v Yw ⟨rfl,Xv⟩;refine aK.aT _ ⟨rfl,Xv,?_⟩;rintro Yc Yt X0 XP;obtain ⟨Xz,XJ⟩:=bl X0 XP;have Xz:av Yt Yc (oH aH x.val).cells eu:=Xz;clear XP;refine ⟨Xv.new XJ,?_⟩;have R:=Xv.new XJ;have I:=Z.new R;have U:=a1.new I Xw;rw [<-L] at U;obtain ⟨ap,F,X',XM,J,XF,XZ⟩:=a1.append (P:=prog) (t:=37) (ty:=37) Tryz.underlying37 Yr au (by rw [L];rfl) (by omega) U
    (s:=some ⟨Yc,0,none⟩) (m:=1) (c:=1) (news:=(oH aH x.val).cells) (by rw [L];rfl) (fu Xz rfl) (λu hu=>by have:=aK.single _ u hu;cases u<;>first | rfl | exact this) (by omega) (by rw [X2];omega)
   rw [L] at J;have Yf:=X.size;have X5:¬ aL a q:=λh=>by have:=G q h;omega
   have H:av X' q [.int .i64 seq,.slice a pre.length cap] er:=XF.aj (ai.aj R O) X5;refine ⟨ap,pre.length+1,F,X',XM,⟨_,H.cell (i:=1) rfl⟩,H.frozen,?_⟩;rintro Ya XQ;have XG:ao (λk=>k=q) X' Ya:=by rw [XQ];exact eX _ _ _ _
   have X1:av Ya q [.int .i64 seq,.slice ap (pre.length+1) F] er:=by rw [XQ];exact H.setCell (i:=1) _
   have M:∀ k,aL ap k->r.heap.size<=k:=by
    intro k E;rcases XZ with e | e
    ·exact G k (e▸E)
    ·obtain ⟨o,C⟩:=E;rw [e] at C;simp at C;have:=I.size;omega
   have Y:ao (λk=>aL a k\/k=q) W Ya:=((ao.b9 I).trans XF (λ_ _ h=>.inl h)).trans XG (λ_ _ h=>.inr h);refine ⟨A0 Y (λk E=>?_),λYk=>Yk.aA Y ?_ ?_,⟨ap,F,?_,?_,M⟩,?_⟩
   ·rcases E with E | rfl
    ·rcases Xw.2 with ⟨he,_⟩ | ⟨g,cur,he,Yq,_⟩
     ·obtain ⟨o,C⟩:=E;rw [he] at C;cases C
     ·obtain ⟨o,C⟩:=E;rw [he] at C;simp at C;exact ⟨cur,_,C.1▸Yq⟩
    ·exact ⟨_,_,V⟩
   ·rintro (hm | hm)
    ·have:=G _ hm;have:=Xx.lt;omega
    ·exact X3 hm.symm
   ·rintro (hm | hm)
    ·have:=G _ hm;have:=Xy.lt;omega
    ·exact X4 hm.symm
   ·simpa using X1
   ·rw [jn,List.map_singleton,Jg];have:=a1.aA XG J (λk E e=>by have:=M k E;omega);simpa using this
   ·refine (X.trans Y λk E hm=>?_);rcases hm with hm | rfl
    ·have:=G k hm;omega
    ·rfl
  ·obtain ⟨XR,env,rfl,XK⟩:=mA h;cases e with
   |normal=>exact XK
   |panic c=>exact absurd rfl (XR.1 c)
   |outgrown=>exact absurd rfl XR.2
   | _=>exact XK.elim
 case done=>rintro D ys W Yl X_ XB XY;exact dH D W ys Yl X_ XB XY
 case stop=>rintro D c pre W _ _ h _;exact h.elim
end
section
open Go.RowKit Go.Shelf
def ek (aH:a8) (lines:Int):Int:=
 if ¬ (98<=lines/\lines<=256) then 18 else if aH.length<2\/1073741824<=aH.getD 0 0\/12<aH.getD 1 0 then 14
 else if (aH.length:Int)<3+9 * aH.getD 1 0 then 14
 else if fH (aH.getD 0 0) (hA aH (aH.getD 1 0).toNat) lines≠0 then 14
 else if fo (aH.getD 0 0) (hA aH (aH.getD 1 0).toNat)≠aH.take (3+9 * (aH.getD 1 0).toNat) then 14 else 0
def ew (aH:a8) (lines:Int):Int×List aK:=if ek aH lines=0 then (aH.getD 0 0,hA aH (aH.getD 1 0).toNat) else (0,[])
def eY (w:ak) (R:Int×List aK) (last:a4) (v:a4) (w':ak):Prop:=∃ a cap,v=.tuple #[b0.val ⟨R.1,a,R.2.length,cap⟩,last]/\ai w w'/\fm w' a R.2.length R.2/\∀ k,aL a k->w.heap.size<=k
theorem zo (w:ak):fm w none 0 []:=⟨.inl rfl,rfl,by simp,λp a=>by cases a⟩
theorem MK (h:ek aH lines≠0):ew aH lines=(0,[]):=if_neg h
theorem eY.no {w':ak} {e:Int} (he:ek aH lines=e) (a:e≠0) (c:ai w w'):eY w (ew aH lines) (.int .i64 (ek aH lines)) (.tuple #[b0.val ⟨0,none,0,0⟩,.int .i64 e]) w':=by rw [MK (by rw [he];exact a),he];exact ⟨none,0,rfl,c,zo _,λk b=>absurd b nO⟩
abbrev iZ:b0:=⟨0,none,0,0⟩
theorem o_ {u:ak} {b:Nat} {zs:ax} (au:av u b zs er) (g:zs.length=2) (r:b0) {K:b0->aF} (f:∀ e,ao (λk=>k=b) u e->av e b r.cells er->K r e) :
  eh u ⟨b,0,none⟩ 0 r.cells/\∀ a,a=cu u ⟨b,0,none⟩ 0 r.cells->b0.ex λres=>cf a ⟨b,0,none⟩ 0 res.cells/\a=a/\K res a:=
 dQ au (by rw [g];rfl) (b0.single _) λa c d=>b0.aT r ⟨bO c rfl,rfl,f a d c⟩
theorem hj {P:Program} {fn:Func} {R:cz} {Q:Exit->ax->aF} {c:Code} {env:ax} (a:∀ env w,Q .ret env w=dC P fn R .ret env w) (h:Go.bs.W P c env (bI P fn R Q) w):Go.bs.W P c env Q w:=(z9 a).mp h
theorem Le (w:ak) (lines:Int):bb 203 [.int .i64 lines] w λv w'=>v=.bool (decide (98<=lines/\lines<=256))/\w'=w:=by
 refine bd Tryz.func203 ?_;rw [G5];refine bc (λh=>⟨?_,rfl⟩) (λh=>⟨?_,rfl⟩)
 ·have h:98<=lines:=h;congr 1;simp [h]
 ·have h:¬ 98<=lines:=h;congr 1;simp [h]
structure sd (w:ak) (a:an) (S3 cB:Nat) (aH:a8) (lines:Int) (n:Nat) (wQ:Nat) (env:ax) (u:ak):Prop where
 ex:∃ (nw Aa Ab FL:Nat) (b2:an) (RQ:ax),env=o9 a S3 cB lines wQ nw ((3+9 * n:Nat):Int) undef Aa Ab undef RQ/\av u nw [.int .i64 (aH.getD 0 0),.slice none 0 0] er/\av u Aa [.slice b2 (9 * n) FL] 94/\av u Ab [.int .i64 9] 3/\nw≠Aa/\nw≠Ab/\wQ≠nw/\w.heap.size<=nw/\9 * n<=FL/\
  ∀ i,i<n->bk u (j_ b2 i) (us ((aH.drop (2+9 * i)).take 9))/\∀ k,aL (j_ b2 i) k->k≠nw
 res:av u wQ [.int .i64 0,.slice none 0 0] er
 new:ai w u
 old:w.heap.size<=wQ
theorem Lf {j cB:Nat} (lines:Int) (J:bk w a (us aH)) (d:j=aH.length) (X1:j<=cB) (hu:∀ x ∈ aH,cj x) (XN:j<=1000) :
  Go.bs.W prog d_ ((.slice a j cB)::(.int .i64 lines)::(bD 72 [])) (bI prog f251 (eY w (ew aH lines) (.int .i64 (ek aH lines))) (o8 λenv u=>sd w a j cB aH lines (aH.getD 1 0).toNat w.heap.size env u/\(98<=lines/\lines<=256)/\3+9 * (aH.getD 1 0).toNat<=aH.length/\0<=aH.getD 0 0/\aH.getD 0 0<1073741824/\0<=aH.getD 1 0/\aH.getD 1 0<=12)) w:=by
 rw [Xn];rintro b1 w1 E L;obtain ⟨g,y⟩:=bl E L;have g:av w1 b1 iZ.cells er:=g;clear L;subst E;have no:∀ {u:ak} {e:Int},ai w1 u->ek aH lines=e->e≠0->eh u ⟨w.heap.size,0,none⟩ 0 iZ.cells/\∀ l,l=cu u ⟨w.heap.size,0,none⟩ 0 iZ.cells->b0.ex λres=>cf l ⟨w.heap.size,0,none⟩ 0 res.cells/\l=l/\eY w (ew aH lines) (.int .i64 (ek aH lines)) (.tuple #[res.val,.int .i64 e]) l:=by intro u e I he XR;refine o_ (ai.aj I g) rfl iZ (K:=λres l=>eY w (ew aH lines) (.int .i64 (ek aH lines)) (.tuple #[res.val,.int .i64 e]) l) λX4 P _=>eY.no he XR ((y.new I).trans P λk XU e=>by omega)
 refine aD (Le w1 lines) ?_;rintro v l ⟨rfl,rfl⟩;refine ⟨_,rfl,ev (λXN=>no (ao.refl _ _) (if_pos (of_decide_eq_false XN)) (by decide)) (λXZ=>?_)⟩
 have Xw:=of_decide_eq_true XZ;rw [U_,Uk];refine hj (fn:=f251) (R:=eY w (ew aH lines) (.int .i64 (ek aH lines))) (λ_ _=>rfl) ?_;rw [t8];have q:=y;have r:aH.length<2\/1073741824<=aH.getD 0 0\/12<aH.getD 1 0->ek aH lines=14:=λh=>by unfold ek;rw [if_neg (λe=>e Xw),if_pos h]
 have bad:ek aH lines=14->∀ (s8 O:a4) (XO:ax),aZ (λenv C=>Go.bs.W prog (sub d_ [1,1,0,1]) env (aZ (λenv XI=>Go.bs.W prog (sub d_ [1,1,1]) env (bI prog f251 (eY w (ew aH lines) (.int .i64 (ek aH lines))) (o8 λenv u=>sd w a j cB aH lines (aH.getD 1 0).toNat w.heap.size env u/\(98<=lines/\lines<=256)/\3+9 * (aH.getD 1 0).toNat<=aH.length/\0<=aH.getD 0 0/\aH.getD 0 0<1073741824/\0<=aH.getD 1 0/\aH.getD 1 0<=12)) XI) (bI prog f251 (eY w (ew aH lines) (.int .i64 (ek aH lines))) (o8 λenv u=>sd w a j cB aH lines (aH.getD 1 0).toNat w.heap.size env u/\(98<=lines/\lines<=256)/\3+9 * (aH.getD 1 0).toNat<=aH.length/\0<=aH.getD 0 0/\aH.getD 0 0<1073741824/\0<=aH.getD 1 0/\aH.getD 1 0<=12))) C) (aZ (λenv C=>Go.bs.W prog (sub d_ [1,1,1]) env (bI prog f251 (eY w (ew aH lines) (.int .i64 (ek aH lines))) (o8 λenv u=>sd w a j cB aH lines (aH.getD 1 0).toNat w.heap.size env u/\(98<=lines/\lines<=256)/\3+9 * (aH.getD 1 0).toNat<=aH.length/\0<=aH.getD 0 0/\aH.getD 0 0<1073741824/\0<=aH.getD 1 0/\aH.getD 1 0<=12)) C) (bI prog f251 (eY w (ew aH lines) (.int .i64 (ek aH lines))) (o8 λenv u=>sd w a j cB aH lines (aH.getD 1 0).toNat w.heap.size env u/\(98<=lines/\lines<=256)/\3+9 * (aH.getD 1 0).toNat<=aH.length/\0<=aH.getD 0 0/\aH.getD 0 0<1073741824/\0<=aH.getD 1 0/\aH.getD 1 0<=12))) .normal (uI a j cB lines ⟨w.heap.size,0,none⟩ s8 true O XO) l:=by intro he s8 O XO;refine eT (hj (fn:=f251) (R:=eY w (ew aH lines) (.int .i64 (ek aH lines))) (λ_ _=>rfl) ?_);rw [Gv];exact gB rfl (no (ao.refl _ _) he (by decide))
 refine bc (λD=>bad (r (.inl (by omega))) _ _ _) (λD=>?_)
 have z:=J.new q;refine nj z (i:=0) (by omega) d rfl λXP dw s=>⟨_,s _ (ao.refl _ _),bc (λXK=>bad (r (.inr (.inl XK))) _ _ _) (λXK=>?_)⟩
 refine nj z (i:=1) (by omega) d rfl λdm gy t=>⟨_,t _ (ao.refl _ _),?_⟩
 by_cases V:aH.getD 1 0>12
 ·dsimp only;rw [decide_eq_true V];exact bad (r (.inr (.inr V))) _ _ _
 dsimp only;rw [decide_eq_false V];refine eT (hj (fn:=f251) (R:=eY w (ew aH lines) (.int .i64 (ek aH lines))) (λ_ _=>rfl) ?_);rw [Gv];refine di rfl (eT ?_);rw [t9];have XC:cj (aH.getD 0 0):=by
  match aH,D,hu,d with
  | [],D,_,d=>simp at d <;> omega
  |x::_,_,hu,_=>exact hu x (by simp)
 have XD:cj (aH.getD 1 0):=by
  match aH,D,hu,d with
  | [],D,_,d=>simp at d <;> omega
  | [_],D,_,d=>simp at d <;> omega
  | _::x::_,_,hu,_=>exact hu x (by simp)
 have XA:=XC.1;have XB:=XD.1;refine nj z (i:=0) (by omega) d rfl λXP dw s=>⟨_,s _ (ao.refl _ _),?_⟩
 dsimp only;rw [bH (x:=aH.getD 0 0) (by omega) (by omega)];rintro XJ X0 X M;obtain ⟨B,G⟩:=bl X M;have B:av X0 XJ iZ.cells er:=B;clear M;refine dQ (vs:=b0.cells ⟨aH.getD 0 0,none,0,0⟩) B rfl (b0.single _) λQ A Xv=>?_
 have XV:=y.size;have XW:=G.size;have XM:=g.lt;have c:ai l Q:=G.trans Xv λk P e=>by omega
 have f:=q.new c;refine nj (J.new f) (i:=1) (by omega) d rfl λdm gy t=>⟨_,t _ (ao.refl _ _),?_⟩
 obtain ⟨n,Xx⟩:=p8 XB;have Xy:(aH.getD 1 0).toNat=n:=by omega
 rw [Xy];have XQ:IntKind.i64.wrap (IntKind.i64.wrap (2+IntKind.i64.wrap (9 * IntKind.i64.wrap (aH.getD 1 0)))+1)=((3+9 * n:Nat):Int):=by rw [Xx];rw [bH (x:=(n:Int)) (by omega) (by omega),bH (x:=9 * (n:Int)) (by omega) (by omega),bH (x:=2+9 * (n:Int)) (by omega) (by omega),bH (by omega) (by omega)];omega
 rw [XQ];refine bc (λXS=>no c ?_ (by decide)) (λXS=>?_)
 ·unfold ek;rw [if_neg (λe=>e Xw),if_neg (by omega),if_pos (by omega)]
 rw [bH (x:=((3+9 * n:Nat):Int) - 1) (by omega) (by omega)];have H:us aH≠[]:=λe=>by have:=congrArg List.length e;rw [hO,qd] at this;omega
 obtain ⟨b,o,rfl,Y⟩:∃ b o,a=some ⟨b,o,none⟩/\True:=by
  rcases J with e | ⟨b,o,e,_⟩
  ·exact absurd e H
  ·exact ⟨b,o,e,trivial⟩
 refine kM (by omega) (by omega) (by omega) (by omega) (by omega) λS XG=>?_
 have U:(((3+9 * n:Nat):Int) - 1).toNat - (2:Int).toNat=9 * n:=by omega
 have T:((cB:Nat):Int).toNat - (2:Int).toNat=cB - 2:=by simp
 rw [U,T];refine aD (M6 Q S (9 * n) (cB - 2)) ?_;rintro v X5 ⟨rfl,XE,XF,p,XY⟩;refine ⟨_,rfl,?_⟩;show _/\_;have XX:=c.size;have N:=ai.aj p A;have F:=J.lt H;refine ⟨⟨⟨XJ,Q.heap.size,Q.heap.size+1,cB - 2,S,_,rfl,N,XE,XF,?_,?_,?_,?_,by omega,λi X2=>?_⟩,ai.aj (c.new p) g,f.new p,cY _⟩,Xw,by omega,XA,by omega,by omega,by omega⟩
 ·have:=A.lt;omega
 ·have:=A.lt;omega
 ·omega
 ·omega
 ·have XH:S=some ⟨b,o+2,none⟩:=by
   rcases XG with h | ⟨h,_⟩
   ·exact h
   ·omega
  have Z:j_ S i=some ⟨b,o+(2+9 * i),none⟩:=by rw [XH];simp only [j_,mc,ll];congr 2;omega
  rw [Z];refine ⟨?_,λk P=>?_⟩
  ·have XT:=(J.new (f.new p)).drop (2+9 * i);have XL:=XT.take 9;have e:((us aH).drop (2+9 * i)).take 9=us ((aH.drop (2+9 * i)).take 9):=by simp [us]
   rw [e] at XL;exact XL
  ·obtain ⟨X3,Xz⟩:=P;simp at Xz;have F:b<w.heap.size:=F;omega
end
end Go.Proofs.YtmkljjbioomepaaGreat
