import Derived.Test.YtmkljjbioomepaaGreatProg
import Derived.Test.YtmkljjbioomepaaGreatg02
import Derived.Test.YtmkljjbioomepaaGreatg14
import Derived.Test.YtmkljjbioomepaaGreatg11
import Derived.Test.YtmkljjbioomepaaGreatg01
import Derived.Laws.StructEq
set_option linter.all false
set_option maxHeartbeats 4000000
set_option maxRecDepth 100000
namespace Go.Proofs.YtmkljjbioomepaaGreat
open Go.Proofs.Tryz Go.bJ
section
open IntKind
variable (w:an)(R:cM){s:ak}{a b:Nat}{i k:Int}{A B:aU}{X Y Z:bf}{j:ar}{F:Bool}
theorem KR:bd prog f228 [ad s a b,ab i] R w=(aR w #[ab 0,a0] 271 λk m=>cond ((a:Int) != 120) (a8 m (af k 0) 0 [ab 0,a0] λj=>ig j (af k 0) λd=>j=j/\R (.tuple #[d.val,ae false]) j) (ij s a b 8 (a:Nat) (b:Nat) 1 λo u q=>Calls prog 251 #[ad o u q,ab i] m λe t=>b7.ex λf=>∃ c,e=.returned (.tuple #[f.val,ab c])/\aR t #[ab 0,a0] 271 λl p=>a8 p (af l 0) 0 f.cells λn=>ig n (af l 0) λr=>a8 n (af k 0) 0 r.cells λh=>ig h (af k 0) λg=>h=h/\R (.tuple #[g.val,ae ((c:Int) == 0)]) h)):=by kernel_rfl
theorem YZ:bd prog f246 [ad s a b,ab i] R w=(aR w #[ab 0,a0] 271 λm z=>Calls prog 228 #[ad s a b,ab i] z λe y=>b7.ex λh=>∃ c,e=.returned (.tuple #[h.val,ae c])/\aR y #[ab 0,a0] 271 λt A=>a8 A (af t 0) 0 h.cells λu=>cond (!c) (a8 u (af m 0) 0 [ab 0,a0] λq=>ig q (af m 0) λj=>q=q/\R (.tuple #[j.val,ae false]) q) (b0 u (af t 0) λd=>h1 214 #[ab d] u λf g n=>bx s a 0 1 λv=>d' n v λx=>cond (f != x) (a8 n (af m 0) 0 [ab 0,a0] λo=>ig o (af m 0) λk=>o=o/\R (.tuple #[k.val,ae false]) o) (ig n (af t 0) λr=>a8 n (af m 0) 0 r.cells λp=>ig p (af m 0) λl=>p=p/\R (.tuple #[l.val,ae true]) p))):=by kernel_rfl
noncomputable def ec:Code:=nZ (bu f251) [1,1,1,1,1,1,0,1,0]
def Jx (e:ak)(a b:Nat)(s1:Int)(c:aU)(s8 d:bf)(j:ar):ar:=ad e a b::ab s1::ag j 0 2 (.pointer (some c)::ag j 2 3 (s8::ag j 5 42 (d::ag j 47 22 [])))
def vD (e:ak)(a b:Nat)(s1:Int)(c:aU)(s8:bf)(d:Bool)(f:bf)(j:ar):ar:=ad e a b::ab s1::ag j 0 2 (.pointer (some c)::ag j 2 3 (s8::ag j 5 18 (ae d::ag j 23 23 (f::ag j 46 22 []))))
def Jy (e:ak)(a b:Nat)(s1:Int)(c:aU)(s8 d:bf)(j:ar):ar:=ad e a b::ab s1::ag j 0 2 (.pointer (some c)::ag j 2 3 (s8::ag j 5 42 (d::ag j 47 22 [])))
def rB (e:ak)(a b:Nat)(s1:Int)(f g:aU)(h:Int)(s8 c d:bf)(j:ar):ar:=ad e a b::ab s1::ag j 0 2 (.pointer (some f)::ag j 2 1 (.pointer (some g)::ab h::s8::ag j 3 41 (c::d::ag j 44 22 [])))
def BN (e:ak)(a b:Nat)(s1:Int)(c d:aU)(f:Int)(j:ar):ar:=ad e a b::ab s1::ag j 0 2 (.pointer (some c)::ag j 2 1 (.pointer (some d)::ab f::ag j 3 66 []))
def yz (a b:aU)(c:Bool)(j:ar):ar:=ag j 0 4 (.pointer (some a)::ag j 4 1 (.pointer (some b)::ag j 5 64 (ae c::ag j 69 2 [])))
def Jl (a b:aU)(j:ar):ar:=ag j 0 4 (.pointer (some a)::ag j 4 1 (.pointer (some b)::ag j 5 67 []))
theorem KS (h:dy):W prog ec ((ad s a b)::(ab i)::(bm 72 [])) (bO prog f251 R h) w=(aR w #[ab 0,a0] 271 λf j=>dx 203 #[ab i] j λc g=>cond (!c) (a8 g (af f 0) 0 [ab 0,a0] λe=>ig e (af f 0) λd=>e=e/\R (.tuple #[d.val,ab 18]) e) (W prog (sub ec [1,1]) (Jx s a b i (af f 0) undef undef (bm 2 (ab 0::bm 2 (ab i::ae c::ae (!c)::bm 61 [])))) (bO prog f251 R h) g)):=by kernel_rfl
theorem XL (env:ar)(w:an)(Q:dy):W prog (sub ec [1,1]) env Q w=W prog (sub ec [1,1,0]) env (aZ (λenv w=>W prog (sub ec [1,1,1]) env Q w) Q) w:=by rw[show sub ec [1,1]=.seq (sub ec [1,1,0]) (sub ec [1,1,1]) by kernel_rfl];generalize sub ec [1,1,0]=a;generalize sub ec [1,1,1]=b;kernel_rfl
theorem Xa (env:ar)(w:an)(Q:dy):W prog (sub ec [1,1,0]) env Q w=W prog (sub ec [1,1,0,0]) env (aZ (λenv w=>W prog (sub ec [1,1,0,1]) env Q w) Q) w:=by rw[show sub ec [1,1,0]=.seq (sub ec [1,1,0,0]) (sub ec [1,1,0,1]) by kernel_rfl];generalize sub ec [1,1,0,0]=a;generalize sub ec [1,1,0,1]=b;kernel_rfl
theorem Yz (c:dy):W prog (sub ec [1,1,0,0]) (Jx s a b i A X Y j) (bO prog f251 R c) w=(cond ((a:Int)<2) (c .normal (vD s a b i A X true Y (ag j 0 9 (ad s a b::dA a::ae ((a:Int)<2)::ae true::bm 4 (ae true::ae true::bm 4 (ag j 24 45 []))))) w) (bx s a 0 1 λe=>d' w e λx=>cond (x>=1073741824) (c .normal (vD s a b i A X true Y (ag j 0 9 (ad s a b::dA a::ae ((a:Int)<2)::ae false::ad s a b::jp e::ah x::ae (x>=1073741824)::ae (x>=1073741824)::ae true::bm 4 (ag j 24 45 [])))) w) (bx s a 1 1 λf=>d' w f λd=>c .normal (vD s a b i A X (decide ((d:Int)>12)) Y (ag j 0 9 (ad s a b::dA a::ae ((a:Int)<2)::ae false::ad s a b::jp e::ah x::ae (x>=1073741824)::ae (x>=1073741824)::ae false::ad s a b::jp f::ah d::ae (d>12)::ag j 24 45 []))) w))):=by kernel_rfl
theorem IM (d:dy):W prog (sub ec [1,1,0,1]) (vD s a b i A X F Y j) (bO prog f251 R d) w=(cond F (a8 w A 0 [ab 0,a0] λc=>ig c A λg=>c=c/\R (.tuple #[g.val,ab 14]) c) (d .normal (Jy s a b i A X Y (ag j 0 23 (ae F::ag j 23 45 []))) w)):=by kernel_rfl
theorem YB (l:dy):W prog (sub ec [1,1,1]) (Jy s a b i A X Y j) (bO prog f251 R l) w=(bx s a 0 1 λm=>d' w m λx=>aR w #[ab 0,a0] 271 λp q=>a8 q (af p 0) 0 [ab (i64.wrap x),a0] λe=>bx s a 1 1 λg=>d' e g λc=>cond ((a:Int)<(i64.wrap ((i64.wrap (2+(i64.wrap (9*(i64.wrap c)))))+1))) (a8 e A 0 [ab 0,a0] λd=>ig d A λh=>d=d/\R (.tuple #[h.val,ab 14]) d) (ij s a b 2 (i64.wrap ((i64.wrap ((i64.wrap (2+(i64.wrap (9*(i64.wrap c)))))+1))-1)) (b:Nat) 1 λk o n=>WI 253 #[ad k o n,ab 9] e λf r=>l (.exit 77) (rB s a b i A (af p 0) (i64.wrap ((i64.wrap (2+(i64.wrap (9*(i64.wrap c)))))+1)) X f Y (aH j 0::aH j 1::aH j 2::ag j 5 20 (ad s a b::jp m::ah x::ab (i64.wrap x)::.agg #[ab (i64.wrap x),a0]::ad s a b::jp g::ah c::ab (i64.wrap c)::ab (i64.wrap (9*(i64.wrap c)))::ab (i64.wrap (2+(i64.wrap (9*(i64.wrap c)))))::ab (i64.wrap ((i64.wrap (2+(i64.wrap (9*(i64.wrap c)))))+1))::ad s a b::dA a::ab (i64.wrap ((i64.wrap (2+(i64.wrap (9*(i64.wrap c)))))+1))::ae ((a:Int)<(i64.wrap ((i64.wrap (2+(i64.wrap (9*(i64.wrap c)))))+1)))::aH j 41::ad s a b::ab (i64.wrap ((i64.wrap (2+(i64.wrap (9*(i64.wrap c)))))+1))::ab (i64.wrap ((i64.wrap ((i64.wrap (2+(i64.wrap (9*(i64.wrap c)))))+1))-1))::ad k o n::ag j 47 22 []))) r)):=by kernel_rfl
theorem XM (h:ak)(a b:Nat)(s1:Int)(i k:aU)(l:Int)(s8 c d:bf)(y:ak)(f g:Nat)(j:ar)(w:an)(e:ar->aJ):W prog (sb f251 [1,1,1,1,1,1,0,1,0,0]) (rB h a b s1 i k l s8 c (ad y f g) (ag j 0 66 [])) (aZ e λ_ _ _=>False) w=(e (rB h a b s1 i k l (ad y f g) c (ad y f g) (ag j 0 66 [])) w):=by kernel_rfl
theorem Xb (q:ak)(a b:Nat)(s1:Int)(r e:aU)(s:Int)(s8 c d:bf)(y:ak)(f g:Nat)(j:ar)(w:an)(p:ar->aJ):W prog (sb f251 [1,1,1,1,1,1,0,1,0,1,0]) (rB q a b s1 r e s (ad y f g) c (ad y f g) (ag j 0 66 [])) (aZ p λ_ _ _=>False) w=(cF w λw1 o=>eD o (b5 e 1) λh i k=>WJ 254 #[ad y f g] w1 λn t=>o t/\aR t n.cells.toArray 73 λb1 u=>o u/\de 37 (ad h i k) (ad (bk b1) 1 1) u λap l m x=>cV x (b5 e 1) (ad ap l m) λz=>p (rB q a b s1 r e s (ad y f g) c (ad y f g) (ag j 0 44 (bM e 1::ad h i k::ad y f g::n.val::ad (bk b1) 1 1::ad ap l m::bM e 1::ag j 51 15 []))) z):=by kernel_rfl
theorem Xc:(rB s a b i A B k X Y Z j)=(BN s a b i A B k (aH j 0::aH j 1::aH j 2::X::ag j 3 41 (Y::Z::ag j 44 22 []))):=by kernel_rfl
theorem XN (env:ar)(w:an)(Q:dy):W prog (sub ec [1,1,1,1,1,1,1]) env Q w=W prog (sub ec [1,1,1,1,1,1,1,0]) env (aZ (λenv w=>W prog (sub ec [1,1,1,1,1,1,1,1]) env Q w) Q) w:=by rw[show sub ec [1,1,1,1,1,1,1]=.seq (sub ec [1,1,1,1,1,1,1,0]) (sub ec [1,1,1,1,1,1,1,1]) by kernel_rfl];generalize sub ec [1,1,1,1,1,1,1,0]=a;generalize sub ec [1,1,1,1,1,1,1,1]=b;kernel_rfl
theorem Xd (env:ar)(w:an)(Q:dy):W prog (sub ec [1,1,1,1,1,1,1,0]) env Q w=W prog (sub ec [1,1,1,1,1,1,1,0,0]) env (aZ (λenv w=>W prog (sub ec [1,1,1,1,1,1,1,0,1]) env Q w) Q) w:=by rw[show sub ec [1,1,1,1,1,1,1,0]=.seq (sub ec [1,1,1,1,1,1,1,0,0]) (sub ec [1,1,1,1,1,1,1,0,1]) by kernel_rfl];generalize sub ec [1,1,1,1,1,1,1,0,0]=a;generalize sub ec [1,1,1,1,1,1,1,0,1]=b;kernel_rfl
theorem YC (l:dy):W prog (sub ec [1,1,1,1,1,1,1,0,0]) (BN s a b i A B k j) (bO prog f251 R l) w=(cF w λv e=>tA e B λr=>cG 167 #[r.val,ab i] v λf m=>e m/\cond (f != 0) (l .normal (yz A B true (ad s a b::ab i::aH j 0::aH j 1::aH j 2::ab k::ag j 3 51 (r.val::ab i::ab f::ae ((f:Int) != 0)::ae true::bm 7 [aH j 67,aH j 68]))) m) (tA e B λt=>ij s a b 0 k (b:Nat) 1 λn q o=>dm 210 #[t.val] m λg h c p=>e p/\dx 255 #[ad g h c,ad n q o] p λd u=>e u/\l .normal (yz A B (!d) (ad s a b::ab i::aH j 0::aH j 1::aH j 2::ab k::ag j 3 51 [r.val,ab i,ab f,ae ((f:Int) != 0),ae false,t.val,ad g h c,ad s a b,ab k,ad n q o,ae d,ae (!d),aH j 67,aH j 68])) u)):=by kernel_rfl
theorem YD (b:dy):W prog (sub ec [1,1,1,1,1,1,1,0,1]) (yz A B F j) (bO prog f251 R b) w=(cond F (a8 w A 0 [ab 0,a0] λa=>ig a A λd=>a=a/\R (.tuple #[d.val,ab 14]) a) (b .normal (Jl A B (ag j 0 69 [ae F,aH j 69,aH j 70])) w)):=by kernel_rfl
theorem wn (b:dy):W prog (sub ec [1,1,1,1,1,1,1,1]) (Jl A B j) (bO prog f251 R b) w=(ig w B λr=>a8 w A 0 r.cells λa=>ig a A λc=>a=a/\R (.tuple #[c.val,ab 0]) a):=by kernel_rfl
theorem KP (n:b7)(j:b7):bd prog f252 [n.val,j.val] R w=(aR w n.cells.toArray 271 λl p=>aR p j.cells.toArray 271 λm e=>b0 e (af l 0) λa=>b0 e (af m 0) λb=>cond (a == b) (b_ e (af l 1) λc d f=>b_ e (af m 1) λg h i=>dx 256 #[ad c d f,ad g h i] e λk o=>R (ae k) o) (R (ae false) e)):=by kernel_rfl
theorem KQ:bd prog f254 [ad s a b] R w=(aR w #[ab 0,ah 0,ah 0,ah 0,ah 0,ah 0,ah 0,ah 0,ah 0] 73 λj o=>cF o λn f=>bx s a 0 1 λm=>kn f m λx=>bx s a 1 1 λc=>kn f c λt=>aR n #[ab 0,ah 0,ah 0,ah 0,ah 0,ah 0,ah 0,ah 0,ah 0] 73 λh i=>f i/\a8 i (af h 0) 0 [ab (i64.wrap (if(256:Int)<x then(256:Int)else x)),ah t,ah 0,ah 0,ah 0,ah 0,ah 0,ah 0,ah 0] λp=>∀ k,k=p.drew->ij s a b 2 (a:Nat) (b:Nat) 1 λl u q=>∃ r,∃ g,(Builtin.copy_ #[94,94] 3 #[ad (some (af h 2)) 7 7,ad l u q]).run prog k=.ok (ab r) g/\iC g (af h 0) λv=>a8 g (af j 0) 0 v.cells λe=>iC e (af j 0) λd=>e=e/\R d.val e):=by kernel_rfl
end
section
open IntKind
variable (w:an)(R:cM){s:ak}{a b:Nat}{i:Int}{X:bf}{A B:aU}{j:ar}
theorem Va:bd prog f253 [ad s a b,ab i] R w=(aR w #[ad s a b] 94 λe f=>aR f #[ab i] 3 λd c=>b0 c (af d 0) λx=>cond (x<1) (W prog (sb f253 [1,0,1,0]) [ad s a b,ab i,a' e,a' d,.nilFunc,ab x,ae (x<1),undef,undef] (aT f253 [1,1] R) c) (R (.func (.func 257) #[] #[a' e,a' d]) c)):=by kernel_rfl
def xN (a:bf)(s1 s2:aU)(b:Int)(j:ar):ar:=a::.pointer (some s1)::.pointer (some s2)::ag j 0 1 (ab b::ag j 1 26 [])
theorem Uw:bd prog f257 [X,a' a,a' b] R w=(cz prog (cU f257 [1,0,0]) (xN X (af a 0) (af b 0) 0 (bm 27 [])) (aO 0 (bT f257 R)) w):=by kernel_rfl
theorem TN (s:ar->aJ):W prog (sb f257 [1,0,0]) (xN X A B i j) (aZ s (aO 0 (bT f257 R))) w=(b_ w A λx a b=>cond (i<(a:Nat)) (cF w λt r=>cY r B λo=>eD r A λv c d=>ij v c d i (c:Nat) (d:Nat) 1 λy n z=>b_ t A λu f g=>ij u f g i (i64.wrap (i+(if(n:Int)<o then(n:Int)else o))) (i64.wrap (i+(if(n:Int)<o then(n:Int)else o))) 1 λm k l=>jK prog X #[ad m k l] t λe p=>∃ h,e=.returned (ae h)/\cond (!h) (R (.tuple #[]) p) (b0 p B λq=>s (xN X A B (i64.wrap (i+q)) [aH j 0,ab (if(n:Int)<o then(n:Int)else o),ab i,ad x a b,dA a,ae (i<(a:Nat)),ab i,ab q,ab (i64.wrap (i+q)),ab o,ad v c d,ab i,ad y n z,dA n,ab (if(n:Int)<o then(n:Int)else o),X,ad u f g,ab i,ab i,ab (if(n:Int)<o then(n:Int)else o),ab (i64.wrap (i+(if(n:Int)<o then(n:Int)else o))),ab i,ab (if(n:Int)<o then(n:Int)else o),ab (i64.wrap (i+(if(n:Int)<o then(n:Int)else o))),ad m k l,ae h,ae (!h)]) p)) (R (.tuple #[]) w)):=by kernel_rfl
end
section
open Go.RowKit Go.Shelf
theorem Tc {w:an}{b sb so k c:Nat}{news:ax}(o:news.length=7)(i:k=7)(a:∀ j u,news[j]?=some u->w.cell? ⟨sb,so+j,none⟩=some u)(e:ej w ⟨b,2,none⟩ 0 news) :
  (Builtin.copy_ #[94,94] 3 #[.slice (some ⟨b,2,none⟩) 7 7,.slice (some ⟨sb,so,none⟩) k c]).run prog w=.ok (.int .i64 7) (cI w ⟨b,2,none⟩ 0 news):=by
 subst i;obtain⟨inf,g,aq,p,l⟩:=fV (T:=30) (z:=.int .u64 0) (n:=1) (m:=8) (by kernel_rfl);have f:=run_firstCells_some (P:=prog) w inf.size 7 ⟨sb,so,none⟩ 7 c news (by grind) (λj v h=>by rw[show(⟨sb,so,none⟩:aU).add j=⟨sb,so+j,none⟩ from kJ _ _ _];grind);have d:=bJ.tI (P:=prog) e;have hu:prog.underlying 94=some (.slice 30):=Tryz.underlying94;simp[Builtin.copy_,run_underlying hu,sizeOf,typeInfo,g,Builtin.lenOf,f,d,goInt]
def rS (ws:a7):aN:=⟨if 256<ws.getD 0 0 then 256 else ws.getD 0 0,ws.getD 1 0,ws.getD 2 0,ws.getD 3 0,ws.getD 4 0,ws.getD 5 0,ws.getD 6 0,ws.getD 7 0,ws.getD 8 0⟩
theorem nQ {w:an}{a:ak}{ws:a7}(j:bl w a (us ws)){i:Nat}(h:i<ws.length){n:Nat}(f:n=ws.length){z:Int}(aq:z=i){K:aU->Prop}(e:∀ b o,(∀ y,ai w y->y.cell? ⟨b,o,none⟩=some (.int .u64 (ws.getD i 0)))->K ⟨b,o,none⟩):bx a n z 1 K:=by
 have d:ws[i]?=some (ws.getD i 0):=by grind
 refine lg (cells:=u2) (sz:=1) (λ_=>rfl) (by decide) (by grind[wY]) d aq f λb o c=>e b o λy g=>c y g 0 _ rfl
theorem Q9 {l:a7}(h:l.length=9):∃ a b c d e f g i j,l=[a,b,c,d,e,f,g,i,j]:=by
 rcases l with _ | ⟨a,_ | ⟨b,_ | ⟨c,_ | ⟨d,_ | ⟨e,_ | ⟨f,_ | ⟨g,_ | ⟨i,_ | ⟨j,_ | ⟨y,l⟩⟩⟩⟩⟩⟩⟩⟩⟩⟩;case cons.cons.cons.cons.cons.cons.cons.cons.cons.nil=>grind
 all_goals simp at h
theorem Td {w:an}{a:ak}{c:Nat}{ws:a7}(V:bl w a (us ws))(U:ws.length=9)(hu:∀ x ∈ ws,cy x)(aX:9<=c):a5 254 [.slice a 9 c] w λv w'=>v=(rS ws).val/\ai w w':=by
 refine ba Tryz.func254 ?_;rw[KQ];rintro b1 w1 R D;obtain⟨f,C⟩:=bo R D;have f:av w1 b1 iA.cells fr:=f;clear D;rintro ae E;have q:ai w1 ae:=by rw[E];exact cR _
 clear E;have d:=C.new q;refine⟨λu=>ai ae u,ao.refl _ _,?_⟩;have W:cy (ws.getD 0 0):=by
  grind
 refine nQ (V.new d) (i:=0) (by omega) (by omega) rfl λb o aO=>⟨_,aO,nQ (V.new d) (i:=1) (by omega) (by omega) rfl λb' aZ aP=>⟨_,aP,?_⟩⟩
 have aH:IntKind.i64.wrap (if(256:Int)<ws.getD 0 0 then(256:Int)else ws.getD 0 0)=(rS ws).bt:=by
  rw[bI]
  ·rfl
  ·split<;>have:=W.1<;>omega
  grind
 rw[aH];rintro z aQ S F;obtain⟨t,r⟩:=bo S F;have t:av aQ z iA.cells fr:=t;clear F;refine⟨r,?_⟩;refine dY (vs:=[.int .i64 (rS ws).bt,.int .u64 (ws.getD 1 0),.int .u64 0,.int .u64 0,.int .u64 0,.int .u64 0,.int .u64 0,.int .u64 0,.int .u64 0]) t rfl (by intro v al;simp at al;rcases al with rfl | rfl | rfl<;>rfl) λaR Y A=>?_
 rintro y G;have s:ai aR y:=by rw[G];exact cR _
 clear G;have J:=ai.aj s Y;have g:b1≠z:=λe=>by have:=f.lt;have:=q.size;omega
 have l:ai w y:=((d.new r).trans A λk ad e=>by have:=d.size;omega).new s;have H:av y b1 iA.cells fr:=ai.aj s (A.aj (ai.aj (q.new r) f) g);obtain⟨b,o,rfl,n⟩:∃ b o,a=some ⟨b,o,none⟩/\∀ j u,(us ws)[j]?=some u->y.cell? ⟨b,o+j,none⟩=some u:=by
  rcases V.new l with e | h
  ·exact cp (ey List.length e) (by grind[iS])
  grind
 refine ll (by omega) (by omega) (by omega) (by omega) (by omega) λa8 X=>?_
 rcases X with rfl | ⟨e,_⟩;case inr=>omega
 have p:=Tc (w:=y) (b:=z) (sb:=b) (so:=o+2) (k:=7) (c:=c-2) (news:=us (ws.drop 2)) (by rw[iS,pM,U]) rfl (λj u h=>by
  have:=n (2+j) u (by grind[us])
  grind) (gq J (by rw[iS,pM,U];simp) (qm _))
 have ah:((9:Nat):Int).toNat-(2:Int).toNat=7:=rfl;have aB:((c:Nat):Int).toNat-(2:Int).toNat=c-2:=by simp
 have aG:o+(2:Int).toNat*1=o+2:=rfl;rw[ah,aB,aG];refine⟨_,_,p,?_⟩;obtain⟨af,ag,K,L,M,N,O,P,Q,rfl⟩:=Q9 U;have Z:av (cI y ⟨z,2,none⟩ 0 (us [K,L,M,N,O,P,Q])) z (rS [af,ag,K,L,M,N,O,P,Q]).cells fr:=J.cI (vs:=us [K,L,M,N,O,P,Q]) (o:=2) (i:=0);have B:=ir y z 2 0 (us [K,L,M,N,O,P,Q]);refine aN.aV _ ⟨bX Z rfl,?_⟩;have I:=B.aj H g;refine dY (vs:=(rS [af,ag,K,L,M,N,O,P,Q]).cells) I rfl (aN.single _) λa0 ab T=>?_
 refine aN.aV _ ⟨bX ab rfl,rfl,rfl,?_⟩;have:=C.size;refine(l.trans B λk ad e=>?_).trans T λk ad e=>?_
 ·have:=d.size;omega
 ·omega
theorem Te {w:an}{a b:ak}{n m c d:Nat}{l l2:a7}(p:bl w a (us l))(z:n=l.length)(r:bl w b (us l2))(hm:m=l2.length)(E:n<=1000000):a5 255 [.slice a n c,.slice b m d] w λv w'=>v=.bool (decide (l=l2))/\ai w w':=by
 refine ba Tryz.func255 ?_;rw[U_];refine d8 (λe=>⟨?_,ao.refl _ _⟩) (λe=>?_)
 ·rw[decide_eq_false];grind
 have hlen:l.length=l2.length:=by omega
 refine cZ mix (λq env u=>∃ (i:Nat) (aC:ax),q=l.length-i/\i<=l.length/\env=xO a n c b m d n i aC/\ai w u/\l.take i=l2.take i) l.length
  ⟨0,_,by omega,by omega,rfl,ao.refl _ _,rfl⟩ ?_
 rintro q env u ⟨i,aC,rfl,F,rfl,o,G⟩;rw[T4];refine bb (λt=>?_) (λs=>?_)
 ·rintro w1 g;have k:ai u w1:=by rw[g];exact cR _
  clear g;have f:=o.new k;refine⟨λy=>ai w1 y,ao.refl _ _,?_⟩;refine nQ (p.new f) (i:=i) (by omega) z rfl λb1 H h=>⟨_,h,nQ (r.new f) (i:=i) (by omega) hm rfl λB I j=>⟨_,j,?_⟩⟩
  have C:l[i]?=some (l.getD i 0):=by grind
  have D:l2[i]?=some (l2.getD i 0):=by grind
  refine d8 (λA=>⟨?_,f⟩) (λhe=>?_)
  ·rw[decide_eq_false]
   grind
  ·rw[bI (x:=(i:Int)+1) (by omega) (by omega)];refine⟨l.length-(i+1),by omega,i+1,_,rfl,by omega,rfl,f,?_⟩
   grind[List.take_add_one]
 grind[T1,List.take_of_length_le,decide_eq_true]
theorem Q_ (w:an)(a:ak)(n c:Nat):a5 253 [.slice a n c,.int .i64 9] w λr w'=>r=.func (.func 257) #[] #[.pointer (some ⟨w.heap.size,0,none⟩),.pointer (some ⟨w.heap.size+1,0,none⟩)]/\
  av w' w.heap.size [.slice a n c] 94/\av w' (w.heap.size+1) [.int .i64 9] 3/\ai w w'/\w'.heap.size=w.heap.size+2:=by
 refine ba Tryz.func253 ?_;rw[Va];rintro b1 w1 b f;obtain⟨k,i⟩:=bo b f;have j:w1.heap.size=w.heap.size+1:=by simp_all
 clear f;rintro q p d g;obtain⟨l,e⟩:=bo d g;have o:p.heap.size=w1.heap.size+1:=by simp_all
 clear g;subst b d;refine⟨9,l.cell rfl,bb (λh=>cp h (by decide)) (λ_=>⟨by rw[j],ai.aj e k,by grind,i.new e,by omega⟩)⟩
def ky (a:ak)(i:Nat):ak:=a.map (·.add (9*i))
def ju (b1 b:Nat)(a:ak)(n cap:Nat)(w:an):Prop:=w.cell? ⟨b1,0,none⟩=some (.slice a n cap)/\w.cell? ⟨b,0,none⟩=some (.int .i64 9)
theorem NL (l b1 f:Nat)(a:ak)(cap n:Nat)(d r:List (Fin n)->aJ)(Z:n<=1000)(g:9 * n<=cap)(W:an)(O:ju b1 f a (9 * n) cap W)
  (L:AbidesFrom W.heap.size d) (N:∀ pre x w,d pre w->pre.length<n->YieldAt Fence.wide 1 prog l #[.slice (ky a x.val) 9 9] w λe W'=>
   (e=.returned (.bool true)/\d (pre++[x]) W'/\(ju b1 f a (9*n) cap w->ju b1 f a (9*n) cap W'))\/(e=.returned (.bool false)/\r (pre++[x]) W'))
  (J:d [] W) :
  CallsIn Fence.wide 2 prog 257 #[.func (.yield l) #[] #[],.pointer (some ⟨b1,0,none⟩),.pointer (some ⟨f,0,none⟩)] W λe W'=>(∃ v,e=.returned v)/\
   ((∃ ys:List (Fin n),ys.map Fin.val=List.range n/\d ys W')\/(∃ pre,True/\r pre W')):=by
 refine callsIn_wide.2 (Calls.mono (R:=λe w'=>∃ x,e=.returned x/\((∃ ys:List (Fin n),ys.map Fin.val=List.range n/\d ys w')\/(∃ pre,True/\r pre w'))) ?_ λe w' ⟨x,U,s⟩=>⟨⟨x,U⟩,s⟩);refine ba Tryz.func257 (args:=[.func (.yield l) #[] #[],.pointer (some ⟨b1,0,none⟩),.pointer (some ⟨f,0,none⟩)]) (R:=λ_ w'=>(∃ ys:List (Fin n),ys.map Fin.val=List.range n/\d ys w')\/(∃ pre,True/\r pre w')) ?_;rw[Uw];refine cZ mix (λm env u=>∃ (i:Nat) (aC:ax) (pre:List (Fin n)),m=n-i/\i<=n/\env=xN (.func (.yield l) #[] #[]) ⟨b1,0,none⟩ ⟨f,0,none⟩ ((9*i:Nat):Int) aC/\pre.map Fin.val=List.range i/\d pre u/\ju b1 f a (9*n) cap u) n
  ⟨0,_,[],by omega,by omega,rfl,rfl,J,O⟩ ?_
 rintro m env u ⟨i,aC,pre,rfl,Y,rfl,p,C,E,T⟩;rw[TN];refine⟨a,9*n,cap,E,bb (λQ=>?_) (λQ=>?_)⟩
 ·rintro w1 q;have b:Go.bJ.ai u w1:=by rw[q];exact cR _
  have y:w1.cell? ⟨b1,0,none⟩=some (.slice a (9*n) cap):=by simp_all
  have F:w1.cell? ⟨f,0,none⟩=some (.int .i64 9):=by simp_all
  clear q;refine⟨λz=>ju b1 f a (9*n) cap z,⟨y,F⟩,9,λz aq=>aq.2,a,9*n,cap,λz aq=>aq.1,?_⟩;refine⟨by omega,by omega,by omega,by omega,g,?_⟩;refine⟨a,9*n,cap,y,?_⟩;have o:(if(((((9*n:Nat):Int)).toNat-((9*i:Nat):Int).toNat:Nat):Int)<9 then(((((9*n:Nat):Int)).toNat-((9*i:Nat):Int).toNat:Nat):Int)else 9)=9:=by grind
  rw[o,bI (x:=((9*i:Nat):Int)+9) (by omega) (by omega)];refine⟨by omega,by omega,by omega,by omega,g,?_⟩;have I:(if((9*i:Nat):Int)+9=((9*i:Nat):Int)then a else a.map (·.add ((((9*i:Nat):Int)).toNat*1)))=ky a i:=by
   have t:(((9*i:Nat):Int)).toNat*1=9*i:=by omega
   rw[aQ (by omega),t];rfl
  have el:(((9*i:Nat):Int)+9).toNat-(((9*i:Nat):Int)).toNat=9:=by omega
  rw[I,el];have A:d pre w1:=L _ _ _ none C ⟨b.os,b.tape,b.output,b.size,λk P _=>b.block k P id⟩ (λ_ h=>by cases h);have D:=ey List.length p;rw[gR,nO]at D;have j:i<n:=by omega
  obtain⟨fn,tmps,assign,body,V,s⟩:=N pre ⟨i,j⟩ w1 A (by omega);refine⟨fn,tmps,assign,body,V,s.1,λc cs _=>?_⟩;obtain⟨e,X,K,S⟩:=s.2 c cs (room_wide _);refine⟨e,X,?_,S⟩;rcases K with⟨rfl,B,M⟩ | ⟨rfl,H⟩
  ·have G:=M ⟨y,F⟩;refine⟨true,rfl,dG rfl ⟨9,G.2,?_⟩⟩;dsimp only;rw[bI (x:=((9*i:Nat):Int)+9) (by omega) (by omega),show((9*i:Nat):Int)+9=((9*(i+1):Nat):Int) by omega];exact⟨n-(i+1),by omega,i+1,_,pre++[⟨i,j⟩],rfl,by omega,rfl,by grind[List.range_succ],B,G⟩
  grind
 grind
end
section
open Go.RowKit Go.Shelf
def ps (aK:a7)(i:Nat):aN:=rS ((aK.drop (2+9*i)).take 9)
def hV (aK:a7)(n:Nat):List aN:=(List.range n).map (ps aK)
abbrev er:bY:=271
structure u' (JJ:an)(n8:Nat)(seq:Int)(aK:a7)(pre:c6)(u:an):Prop where
 ex:∃ a cap,av u n8 [.int .i64 seq,.slice a pre.length cap] er/\aX u fr 9 a pre.length cap (iw (pre.map (ps aK))).flatten/\∀ k,aP a k->JJ.heap.size<=k
 aA:ao (λk=>k=n8) JJ u
theorem Q' {l:an}{o:Nat}{seq:Int}{aK:a7}{n:Nat}:OwnFrom l.heap.size (λ(ys:List (Fin n)) u=>u' l o seq aK (ys.map Fin.val) u):=by
 rintro ys W W' row ⟨⟨a,cap,f,i,p⟩,d⟩ q j;have c:=tp q;refine⟨⟨a,cap,c.aj f (uK (W':=W') j f),?_,p⟩,d.trans c λk r e=>?_⟩
 ·refine⟨i.1,?_⟩;rcases i.2 with h | ⟨g,cur,he,b,rest⟩
  ·grind
  ·exact .inr ⟨g,cur,he,c.aj b (uK (W':=W') j b),rest⟩
 grind
theorem LY (aK:a7)(pre:c6)(i:Nat):(iw ((pre++[i]).map (ps aK))).flatten=(iw (pre.map (ps aK))).flatten++(ps aK i).cells:=by simp[iw]
theorem ju.put {b1 d:Nat}{a:ak}{n cap:Nat}{W:an}{l:Nat}{o e:Obj}(i:W.heap[l]?=some o)(j:o.isCells=false)(h:ju b1 d a n cap W):ju b1 d a n cap (W.putObj l e):=by
 have same:∀ {b:Nat} {v:bf},W.cell? ⟨b,0,none⟩=some v->(W.putObj l e).cell? ⟨b,0,none⟩=some v:=by
  intro b v h;obtain⟨k,f,g⟩:=cells_of_cell h;have c:b≠l:=by
   grind
  rw[World.cell?_of_block (w:=W)]
  ·exact h
  ·exact World.putObj_heap_other c
 exact⟨same h.1,same h.2⟩
theorem ju.aA {b1 b:Nat}{a:ak}{n cap:Nat}{W W':an}{M:a4}(c:ao M W W')(d:¬ M b1)(e:¬ M b)(h:ju b1 b a n cap W):ju b1 b a n cap W':=⟨kh c h.1 d,kh c h.2 e⟩
abbrev pV (g:ak)(f cD:Nat)(lines:Int)(d e:Nat)(h:Int)(i:bf)(a b:Nat)(c:bf)(aC:ax):ax:=
 rB g f cD lines ⟨d,0,none⟩ ⟨e,0,none⟩ h i (.func (.func 257) #[] #[.pointer (some ⟨a,0,none⟩),.pointer (some ⟨b,0,none⟩)]) c aC
theorem Mt (r:an)(ae q f j:Nat)(seq bA lines:Int)(aK:a7)(n bx cD p:Nat)(bz bW:ak)(aC:ax)(cT:n<=12)
  (aH:av r q [.int .i64 seq,.slice none 0 0] er) (Z:av r f [.slice bW (9*n) p] 94) (ab:av r j [.int .i64 9] 3) (cF:q≠f) (cG:q≠j) (aR:9*n<=p)
  (bO:∀ i,i<n->bl r (ky bW i) (us ((aK.drop (2+9*i)).take 9))/\∀ k,aP (ky bW i) k->k≠q) (cz:2+9*n<=aK.length) (hu:∀ x ∈ aK,cy x) (Q:Exit->Act->aJ)
  (dQ:∀ D W (ys:List (Fin n)),r.heap.size<=D->ys.map Fin.val=List.range n->u' r q seq aK (ys.map Fin.val) W->W.heap[D]?=some (.deferred (some []))->
   Q .normal {tmps:=(pV bz bx cD lines ae q bA undef f j undef aC).toArray,defers:=[{target:=.collected D,args:=#[]}]} W) :
  (Code.rangeFunc (.tmp 50) #[51] (sub (bu f251) [1,1,1,1,1,1,0,1,0,0]) (.block 1 (sub (bu f251) [1,1,1,1,1,1,0,1,0,1,0]))).wpIn Fence.wide 3 prog Q
   (act (pV bz bx cD lines ae q bA undef f j undef aC)) r:=by
 obtain⟨inf,cB,aq,I,cA⟩:=fV (T:=fr) (z:=iA.val) (n:=9) (m:=72) (by kernel_rfl);have aQ:ju f j bW (9*n) p r:=⟨Z.cell rfl,ab.cell rfl⟩;have b5:=aH.lt;refine wpIn_rangeFunc_ownH rfl (by omega) (gf:=257) (lb:=#[.pointer (some ⟨f,0,none⟩),.pointer (some ⟨j,0,none⟩)]) rfl trivial (enters_of Tryz.func257 (by kernel_rfl) rfl)
  (encs:=λx:Fin n=>#[.slice (ky bW x.val) 9 9]) (Kp:=λA B=>ju f j bW (9*n) p A->ju f j bW (9*n) p B) (S:=λys=>ys.map Fin.val=List.range n) (Sp:=λ_=>True) (N:=n) (w0:=r)
  (λl b9 b_ W fu cp cr ct ca=>NL l f j bW p n b9 b_ (by omega) aR W ?bD cp ct ca)
  (λcb cd h=>cd (cb h)) (λW l o cU _ b7 M _ h=>h.put b7 M) (Below.refl _ _) (λ_=>rfl) (λys u=>u' r q seq aK (ys.map Fin.val) u) (λ_ _ _=>False) Q' (λ_ _ _ _ _ bk _ _=>bk)
  ⟨⟨none,0,aH,aX.nil _ _ _,λk H=>by obtain⟨o,M⟩:=H;cases M⟩,ao.refl _ _⟩
  (λx b2 W=>b2=act (pV bz bx cD lines ae q bA (.slice (ky bW x.val) 9 9) f j (.slice (ky bW x.val) 9 9) aC)) ?own ?assign ?body ?done ?stop
 case bD=>
  have cell:∀ {b:Nat} {v:bf},b<r.heap.size->r.cell? ⟨b,0,none⟩=some v->W.cell? ⟨b,0,none⟩=some v:=λa' h=>(World.cell?_of_block (fu.block _ a')).trans h
  exact⟨cell Z.lt aQ.1,cell ab.lt aQ.2⟩
 case own=>exactλ_ _ _ _ _ _ h _ _=>h
 case assign=>
  intro l pre x W K af bH;suffices bk:∀ a:Act,a=act (pV bz bx cD lines ae q bA undef f j (.slice (ky bW x.val) 9 9) (ag aC 0 66 []))->Code.wpIn (Fence.wide.inRound l) (3-1-1) prog (sub (bu f251) [1,1,1,1,1,1,0,1,0,0]) (Exit.then K (λ_ _ _=>False)) a W from bk _ (by kernel_rfl)
  rintro _ rfl;refine wpIn_mono (n7 mix (CH l) (ds:=[]) _ _ (aZ (λenv u=>K (act env) u) λ_ _ _=>False) W (by kernel_rfl) ?_) (λe a w h=>?_)
  ·rw[XM (d:=undef)];exact bH _ _ (KeepsFrom.refl _ _) (λh=>h) af rfl
  ·obtain⟨cI,env,rfl,bb⟩:=ni h;cases e with
   |normal=>exact bb
   |panic c=>grind
   |outgrown=>grind
   | _=>exact bb.elim
 case body=>
  rintro l pre x b2 W b7 _ af rfl a';refine wpIn_block ?_;suffices bk:∀ a:Act,a=act (pV bz bx cD lines ae q bA (.slice (ky bW x.val) 9 9) f j (.slice (ky bW x.val) 9 9) (ag aC 0 66 []))->Code.wpIn (Fence.wide.inRound l) (3-1-1) prog (sub (bu f251) [1,1,1,1,1,1,0,1,0,1,0]) (Exit.inBlock 1 (ownPostG r.heap.size (λA B=>ju f j bW (9*n) p A->ju f j bW (9*n) p B) (λ(ys:List (Fin n)) u=>u' r q seq aK (ys.map Fin.val) u) (λ_ _ _=>False) (pre++[x]) W)) a W from bk _ (by kernel_rfl)
  rintro _ rfl;refine wpIn_mono (n7 mix (CH l) (ds:=[]) _ _ (aZ (λenv u=>KeepsFrom r.heap.size W u/\(ju f j bW (9*n) p W->ju f j bW (9*n) p u)/\u' r q seq aK ((pre++[x]).map Fin.val) u) λ_ _ _=>False) W (by kernel_rfl) ?_) (λe a w h=>?_)
  ·rw[Xb (s8:=undef) (d:=undef)];obtain⟨⟨a,cap,aO,Y,ah⟩,R⟩:=af;rw[gR]at aO Y;rintro bC bm;have V:Go.bJ.ai W bC:=by rw[bm];exact cR _
   clear bm;have J:=ai.aj V aO;refine⟨λy=>Go.bJ.ai bC y,ao.refl _ _,a,pre.length,cap,λy bT=>(ai.aj bT J).cell (i:=1) rfl,?_⟩;obtain⟨bh,bN⟩:=bO x.val x.isLt;have a8:ao (λk=>k=q) r bC:=R.new V;have bP:bl bC (ky bW x.val) (us ((aK.drop (2+9*x.val)).take 9)):=bh.aA a8 (hv bh bN);have cP:=x.isLt;refine aB (Td bP (by grind) (λy bT=>hu y (qM (qN bT))) (db 9)) ?_;rintro v cV ⟨rfl,X⟩;refine aN.aV _ ⟨rfl,X,?_⟩;rintro b3 cQ bK bq;obtain⟨ad,ba⟩:=bo bK bq;have ad:av cQ b3 (ps aK x.val).cells fr:=ad;clear bq;refine⟨X.new ba,?_⟩;have L:=X.new ba;have F:=V.new L;have O:=aX.new F Y;rw[<-I]at O;obtain⟨ap,C,bX,bj,G,a0,bI⟩:=aX.append (P:=prog) (t:=37) (ty:=37) Tryz.underlying37 cB aq (by rw[I];rfl) (by omega) O
    (s:=some ⟨b3,0,none⟩) (m:=1) (c:=1) (news:=(ps aK x.val).cells) (by rw[I];rfl) (fj ad rfl) (λu hu=>by grind[aN.single]) (by omega) (by grind)
   rw[I]at G;have b8:=R.size;have bM:¬ aP a q:=λh=>by grind
   have E:av bX q [.int .i64 seq,.slice a pre.length cap] er:=a0.aj (ai.aj L J) bM;refine⟨ap,pre.length+1,C,bX,bj,⟨_,E.cell (i:=1) rfl⟩,E.frozen,?_⟩;rintro b0 br;have a5:ao (λk=>k=q) bX b0:=by rw[br];exact e4 _ _ _ _
   have cu:av b0 q [.int .i64 seq,.slice ap (pre.length+1) C] er:=by rw[br];exact E.setCell (i:=1) _
   have aG:∀ k,aP ap k->r.heap.size<=k:=by
    intro k H;rcases bI with e | e
    ·grind
    ·obtain⟨o,M⟩:=H;rw[e]at M;simp at M;have:=F.size;omega
   have U:ao (λk=>aP a k\/k=q) W b0:=((ao.cm F).trans a0 (λ_ _ h=>.inl h)).trans a5 (λ_ _ h=>.inr h);refine⟨B8 U (λk H=>?_),λcj=>cj.aA U ?_ ?_,⟨ap,C,?_,?_,aG⟩,?_⟩
   ·rcases H with H | rfl
    ·rcases Y.2 with⟨he,_⟩ | ⟨g,cur,he,cS,_⟩
     ·obtain⟨o,M⟩:=H;grind
     ·obtain⟨o,M⟩:=H
      grind
    grind
   ·rintro(hm | hm)
    ·have:=ah _ hm;have:=Z.lt;omega
    grind
   ·rintro(hm | hm)
    ·have:=ah _ hm;have:=ab.lt;omega
    grind
   ·grind
   ·rw[kY,List.map_singleton,LY];have:=aX.aA a5 G (λk H e=>by grind)
    grind
   ·refine(R.trans U λk H hm=>?_)
    grind
  ·obtain⟨cI,env,rfl,bb⟩:=ni h;cases e with
   |normal=>exact bb
   |panic c=>grind
   |outgrown=>grind
   | _=>exact bb.elim
 case done=>rintro D ys W cn bV af bH;exact dQ D W ys cn bV af bH
 grind
end
section
open Go.RowKit Go.Shelf
def eh (aK:a7)(lines:Int):Int:=
 if¬ (98<=lines/\lines<=256)then 18 else if aK.length<2\/1073741824<=aK.getD 0 0\/12<aK.getD 1 0 then 14
 else if(aK.length:Int)<3+9*aK.getD 1 0 then 14
 else if gk (aK.getD 0 0) (hV aK (aK.getD 1 0).toNat) lines≠0 then 14
 else if fW (aK.getD 0 0) (hV aK (aK.getD 1 0).toNat)≠aK.take (3+9*(aK.getD 1 0).toNat)then 14 else 0
def eu (aK:a7)(lines:Int):Int×List aN:=if eh aK lines=0 then(aK.getD 0 0,hV aK (aK.getD 1 0).toNat)else(0,[])
def e' (w:an)(R:Int×List aN)(last:bf)(v:bf)(w':an):Prop:=∃ a cap,v=.tuple #[b7.val ⟨R.1,a,R.2.length,cap⟩,last]/\ai w w'/\fM w' a R.2.length R.2/\∀ k,aP a k->w.heap.size<=k
theorem Ak (w:an):fM w none 0 []:=⟨.inl rfl,rfl,by simp,λp a=>by cases a⟩
theorem Py {aK:a7}{lines:Int}(h:eh aK lines≠0):eu aK lines=(0,[]):=aQ h
theorem e'.no {w w':an}{aK:a7}{lines:Int}{e:Int}(he:eh aK lines=e)(c:e≠0)(b:ai w w'):e' w (eu aK lines) (.int .i64 (eh aK lines)) (.tuple #[b7.val ⟨0,none,0,0⟩,.int .i64 e]) w':=by rw[Py (by grind),he];exact⟨none,0,rfl,b,Ak _,λk a=>cp a ou⟩
abbrev js:b7:=⟨0,none,0,0⟩
theorem pW {u:an}{b:Nat}{zs:ax}(aq:av u b zs er)(f:zs.length=2)(r:b7){K:b7->aJ}(e:∀ cq,ao (λk=>k=b) u cq->av cq b r.cells er->K r cq) :
  ej u ⟨b,0,none⟩ 0 r.cells/\∀ a,a=cI u ⟨b,0,none⟩ 0 r.cells->b7.ex λres=>cn a ⟨b,0,none⟩ 0 res.cells/\a=a/\K res a:=
 dY aq (by rw[f];rfl) (b7.single _) λa c d=>b7.aV r ⟨bX c rfl,rfl,e a d c⟩
theorem hG {P:df}{fn:Func}{R:cM}{Q:Exit->ax->aJ}{c:Code}{env:ax}{w:an}(a:∀ env w,Q .ret env w=dE P fn R .ret env w)(h:Go.bJ.W P c env (bO P fn R Q) w):Go.bJ.W P c env Q w:=(Bj a).mp h
theorem NM (w:an)(lines:Int):a5 203 [.int .i64 lines] w λv w'=>v=.bool (decide (98<=lines/\lines<=256))/\w'=w:=by
 refine ba Tryz.func203 ?_
 grind[Jh]
structure s0 (w:an)(a:ak)(UV cD:Nat)(aK:a7)(lines:Int)(n:Nat)(xI:Nat)(env:ax)(u:an):Prop where
 ex:∃ (n8 Bn Bo HM:Nat) (bW:ak) (aC:ax),env=pV a UV cD lines xI n8 ((3+9*n:Nat):Int) undef Bn Bo undef aC/\av u n8 [.int .i64 (aK.getD 0 0),.slice none 0 0] er/\av u Bn [.slice bW (9*n) HM] 94/\av u Bo [.int .i64 9] 3/\n8≠Bn/\n8≠Bo/\xI≠n8/\w.heap.size<=n8/\9*n<=HM/\
  ∀ i,i<n->bl u (ky bW i) (us ((aK.drop (2+9*i)).take 9))/\∀ k,aP (ky bW i) k->k≠n8
 res:av u xI [.int .i64 0,.slice none 0 0] er
 new:ai w u
 old:w.heap.size<=xI
theorem NN {w:an}{a:ak}{g cD:Nat}{aK:a7}(lines:Int)(E:bl w a (us aK))(M:g=aK.length)(bV:g<=cD)(hu:∀ x ∈ aK,cy x)(aR:g<=1000) :
  Go.bJ.W prog ec ((.slice a g cD)::(.int .i64 lines)::(bm 72 [])) (bO prog f251 (e' w (eu aK lines) (.int .i64 (eh aK lines))) (pU λenv u=>s0 w a g cD aK lines (aK.getD 1 0).toNat w.heap.size env u/\(98<=lines/\lines<=256)/\3+9*(aK.getD 1 0).toNat<=aK.length/\0<=aK.getD 0 0/\aK.getD 0 0<1073741824/\0<=aK.getD 1 0/\aK.getD 1 0<=12)) w:=by
 rw[KS];rintro b1 w1 B F;obtain⟨f,s⟩:=bo B F;have f:av w1 b1 js.cells er:=f;clear F;subst B;have no:∀ {u:an} {e:Int},ai w1 u->eh aK lines=e->e≠0->ej u ⟨w.heap.size,0,none⟩ 0 js.cells/\∀ j,j=cI u ⟨w.heap.size,0,none⟩ 0 js.cells->b7.ex λres=>cn j ⟨w.heap.size,0,none⟩ 0 res.cells/\j=j/\e' w (eu aK lines) (.int .i64 (eh aK lines)) (.tuple #[res.val,.int .i64 e]) j:=by intro u e D he a5;refine pW (ai.aj D f) rfl js (K:=λres j=>e' w (eu aK lines) (.int .i64 (eh aK lines)) (.tuple #[res.val,.int .i64 e]) j) λcq L _=>e'.no he a5 ((s.new D).trans L λk br e=>by omega)
 refine aB (NM w1 lines) ?_;rintro v j ⟨rfl,rfl⟩;refine⟨_,rfl,eF (λaR=>no (ao.refl _ _) (bh (of_decide_eq_false aR)) (by decide)) (λbH=>?_)⟩
 have bq:=qK bH;rw[XL,Xa];refine hG (fn:=f251) (R:=e' w (eu aK lines) (.int .i64 (eh aK lines))) (λ_ _=>rfl) ?_;rw[Yz];have p:=s;have A:aK.length<2\/1073741824<=aK.getD 0 0\/12<aK.getD 1 0->eh aK lines=14:=λh=>by unfold eh;grind
 have bad:eh aK lines=14->∀ (s8 J:bf) (aC:ax),aZ (λenv z=>Go.bJ.W prog (sub ec [1,1,0,1]) env (aZ (λenv aH=>Go.bJ.W prog (sub ec [1,1,1]) env (bO prog f251 (e' w (eu aK lines) (.int .i64 (eh aK lines))) (pU λenv u=>s0 w a g cD aK lines (aK.getD 1 0).toNat w.heap.size env u/\(98<=lines/\lines<=256)/\3+9*(aK.getD 1 0).toNat<=aK.length/\0<=aK.getD 0 0/\aK.getD 0 0<1073741824/\0<=aK.getD 1 0/\aK.getD 1 0<=12)) aH) (bO prog f251 (e' w (eu aK lines) (.int .i64 (eh aK lines))) (pU λenv u=>s0 w a g cD aK lines (aK.getD 1 0).toNat w.heap.size env u/\(98<=lines/\lines<=256)/\3+9*(aK.getD 1 0).toNat<=aK.length/\0<=aK.getD 0 0/\aK.getD 0 0<1073741824/\0<=aK.getD 1 0/\aK.getD 1 0<=12))) z) (aZ (λenv z=>Go.bJ.W prog (sub ec [1,1,1]) env (bO prog f251 (e' w (eu aK lines) (.int .i64 (eh aK lines))) (pU λenv u=>s0 w a g cD aK lines (aK.getD 1 0).toNat w.heap.size env u/\(98<=lines/\lines<=256)/\3+9*(aK.getD 1 0).toNat<=aK.length/\0<=aK.getD 0 0/\aK.getD 0 0<1073741824/\0<=aK.getD 1 0/\aK.getD 1 0<=12)) z) (bO prog f251 (e' w (eu aK lines) (.int .i64 (eh aK lines))) (pU λenv u=>s0 w a g cD aK lines (aK.getD 1 0).toNat w.heap.size env u/\(98<=lines/\lines<=256)/\3+9*(aK.getD 1 0).toNat<=aK.length/\0<=aK.getD 0 0/\aK.getD 0 0<1073741824/\0<=aK.getD 1 0/\aK.getD 1 0<=12))) .normal (vD a g cD lines ⟨w.heap.size,0,none⟩ s8 true J aC) j:=by intro he s8 J aC;refine fa (hG (fn:=f251) (R:=e' w (eu aK lines) (.int .i64 (eh aK lines))) (λ_ _=>rfl) ?_);rw[IM];exact hc rfl (no (ao.refl _ _) he (by decide))
 refine bb (λa8=>bad (A (.inl (by omega))) _ _ _) (λa8=>?_)
 have t:=E.new p;refine nQ t (i:=0) (by omega) M rfl λaV bM q=>⟨_,q _ (ao.refl _ _),bb (λaP=>bad (A (.inr (.inl aP))) _ _ _) (λaP=>?_)⟩
 refine nQ t (i:=1) (by omega) M rfl λaX bN r=>⟨_,r _ (ao.refl _ _),?_⟩
 by_cases a':aK.getD 1 0>12
 ·grind
 dsimp only;rw[decide_eq_false a'];refine fa (hG (fn:=f251) (R:=e' w (eu aK lines) (.int .i64 (eh aK lines))) (λ_ _=>rfl) ?_);rw[IM];refine dG rfl (fa ?_);rw[YB];have ae:cy (aK.getD 0 0):=by
  grind
 have af:cy (aK.getD 1 0):=by
  grind
 have ab:=ae.1;have ad:=af.1;refine nQ t (i:=0) (by omega) M rfl λaV bM q=>⟨_,q _ (ao.refl _ _),?_⟩
 dsimp only;rw[bI (x:=aK.getD 0 0) (by omega) (by omega)];rintro aO bP S G;obtain⟨y,C⟩:=bo S G;have y:av bP aO js.cells er:=y;clear G;refine dY (vs:=b7.cells ⟨aK.getD 0 0,none,0,0⟩) y rfl (b7.single _) λN H V=>?_
 have bz:=s.size;have bA:=C.size;have aQ:=f.lt;have c:ai j N:=C.trans V λk L e=>by omega
 have d:=p.new c;refine nQ (E.new d) (i:=1) (by omega) M rfl λaX bN r=>⟨_,r _ (ao.refl _ _),?_⟩
 obtain⟨n,Y⟩:=oN ad;have Z:(aK.getD 1 0).toNat=n:=by omega
 rw[Z];have a0:IntKind.i64.wrap (IntKind.i64.wrap (2+IntKind.i64.wrap (9*IntKind.i64.wrap (aK.getD 1 0)))+1)=((3+9*n:Nat):Int):=by rw[Y];rw[bI (x:=(n:Int)) (by omega) (by omega),bI (x:=9*(n:Int)) (by omega) (by omega),bI (x:=2+9*(n:Int)) (by omega) (by omega),bI (by omega) (by omega)];omega
 rw[a0];refine bb (λba=>no c ?_ (by decide)) (λba=>?_)
 ·unfold eh
  grind
 rw[bI (x:=((3+9*n:Nat):Int)-1) (by omega) (by omega)];have X:us aK≠[]:=λe=>by have:=ey List.length e;grind[iS,List.length_nil]
 obtain⟨b,o,rfl,T⟩:∃ b o,a=some ⟨b,o,none⟩/\True:=by
  rcases E with e | ⟨b,o,e,_⟩
  ·grind
  grind
 refine ll (by omega) (by omega) (by omega) (by omega) (by omega) λO bK=>?_
 have Q:(((3+9*n:Nat):Int)-1).toNat-(2:Int).toNat=9*n:=by omega
 have P:((cD:Nat):Int).toNat-(2:Int).toNat=cD-2:=by simp
 rw[Q,P];refine aB (Q_ N O (9*n) (cD-2)) ?_;rintro v b2 ⟨rfl,ag,ah,l,bD⟩;refine⟨_,rfl,?_⟩;show _/\_;have bC:=c.size;have I:=ai.aj l H;have bk:=E.lt X;refine⟨⟨⟨aO,N.heap.size,N.heap.size+1,cD-2,O,_,rfl,I,ag,ah,?_,?_,?_,?_,by omega,λi bX=>?_⟩,ai.aj (c.new l) f,d.new l,db _⟩,bq,by omega,ab,by omega,by omega,by omega⟩
 ·have:=H.lt;omega
 ·grind
 ·omega
 ·omega
 ·have aG:O=some ⟨b,o+2,none⟩:=by
   grind
  have U:ky O i=some ⟨b,o+(2+9*i),none⟩:=by
   rw[aG];simp only[ky,se,kJ]
   grind
  rw[U];refine⟨?_,λk L=>?_⟩
  ·have bj:=(E.new (d.new l)).drop (2+9*i);have bT:=bj.take 9;have e:((us aK).drop (2+9*i)).take 9=us ((aK.drop (2+9*i)).take 9):=by simp[us]
   grind
  ·obtain⟨b0,bx⟩:=L
   grind
end
section
open Go.RowKit Go.Shelf
theorem Tf {P:df}{fn:Func}{R:cM}{ds:List Deferred}{e:Exit}{a:Act}{w:an}(h:mT ds (bO P fn R λ_ _ _=>False) e a w):mT ds (dE P fn R) e a w:=by
 obtain⟨d,env,rfl,b⟩:=ni h;cases e with
 |normal=>exact b.elim
 |ret=>exact hq b d
 |panic c=>grind
 |outgrown=>grind
 |exit i=>exact b.elim
 |goto i=>exact b.elim
theorem Fq {aK:a7}(hu:∀ x ∈ aK,cy x)(n:Nat):∀ p ∈ hV aK n,cy p.Head:=by
 intro p a;obtain⟨i,_,rfl⟩:=cW.1 a;show cy (((aK.drop (2+9*i)).take 9).getD 1 0)
 grind[hL,List.mem_of_mem_drop,List.mem_of_mem_take,List.mem_of_getElem?]
theorem tu (aK:a7)(n:Nat):(hV aK n).length=n:=by simp[hV]
theorem NO {w W:an}{a:ak}{I cD n:Nat}{aK:a7}{lines:Int}(ae:bl w a (us aK))(bC:I=aK.length)(bz:I<=cD)(hu:∀ x ∈ aK,cy x)(L:I<=1000)(a0:(aK.getD 1 0)=n)(ad:n<=12)(bA:98<=lines/\lines<=256)(hlen:3+9 * n<=aK.length)(ba:0<=aK.getD 0 0)(bb:aK.getD 0 0<1073741824)
  {f H D cap:Nat} {aW:ak} (G:av W f js.cells er) (B:av W H [.int .i64 (aK.getD 0 0),.slice aW n cap] er) (aQ:f≠H) (d:aX W fr 9 aW n cap (iw (hV aK n)).flatten) (O:∀ k,aP aW k->k≠f/\w.heap.size<=k) (hw:ai w W) (br:w.heap.size<=f) (bx:w.heap.size<=D) (q:W.heap[D]?=some (.deferred (some []))) (aC:ax) :
  Go.bJ.W prog (sub ec [1,1,1,1,1,1,1]) (BN a I cD lines ⟨f,0,none⟩ ⟨H,0,none⟩ ((3+9*n:Nat):Int) aC) (bO prog f251 (λv u=>u.heap[D]?=some (.deferred (some []))/\e' w (eu aK lines) (.int .i64 (eh aK lines)) v (u.putObj D (.deferred none))) λ_ _ _=>False) W:=by
 have J:D≠f:=λe=>by
  rw[e,show W.heap[f]?=_ from G]at q
  grind
 have a8:∀ k,aP aW k->k≠D:=by
  intro k i e;obtain⟨o,N⟩:=i;rcases d.2 with⟨he,_⟩ | ⟨g,cur,he,aR,_⟩
  ·grind
  ·rw[he]at N;simp at N;rw[<-e,<-N.1,show W.heap[g]?=_ from aR]at q
   grind
 have ag:∀ {u:an},ao (λk=>k=f) W u->u.heap[D]?=some (.deferred (some []))/\ao (λk=>k=f\/k=D) W (u.putObj D (.deferred none))/\ai w (u.putObj D (.deferred none)):=by intro u i;have aO:u.heap[D]?=some (.deferred (some [])):=(i.block D (Cn.1 q).1 J).trans q;have Z:ao (λk=>k=f\/k=D) W (u.putObj D (.deferred none)):=(ao.mono i (λ_ _ h=>Or.inl h)).trans (tp (grownBy_putObj' u D (.deferred none))) (λk M e=>.inr (by grind));exact⟨aO,Z,hw.trans Z λk M e=>by grind⟩
 have a5:(aK.getD 1 0).toNat=n:=by omega
 have bq:eh aK lines=if gk (aK.getD 0 0) (hV aK n) lines≠0 then 14 else if fW (aK.getD 0 0) (hV aK n)≠aK.take (3+9*n)then 14 else 0:=by
  unfold eh
  grind
 have aH:eh aK lines=0->eu aK lines=(aK.getD 0 0,hV aK n):=λh=>by
  unfold eu
  grind
 rw[XN,Xd];refine hG (fn:=f251) (R:=λv u=>u.heap[D]?=some (.deferred (some []))/\e' w (eu aK lines) (.int .i64 (eh aK lines)) v (u.putObj D (.deferred none))) (λ_ _=>rfl) ?_;rw[YC];rintro w1 F;have j:ai W w1:=by rw[F];exact cR _
 clear F;have l:fM w1 aW n (hV aK n):=⟨(bl.new j d.rd),(tu aK n).symm,by grind [tu],Fq hu n⟩;have ab:=ai.aj j B;have last:∀ (t:Bool) (u:an),ai W u->(t=true->eh aK lines=14)->(t=false->eh aK lines=0)->∀ aC,Go.bJ.W prog (sub ec [1,1,1,1,1,1,1,0,1]) (yz ⟨f,0,none⟩ ⟨H,0,none⟩ t aC)
   (aZ (λenv T=>Go.bJ.W prog (sub ec [1,1,1,1,1,1,1,1]) env (bO prog f251 (λv u=>u.heap[D]?=some (.deferred (some []))/\e' w (eu aK lines) (.int .i64 (eh aK lines)) v (u.putObj D (.deferred none))) λ_ _ _=>False) T) (bO prog f251 (λv u=>u.heap[D]?=some (.deferred (some []))/\e' w (eu aK lines) (.int .i64 (eh aK lines)) v (u.putObj D (.deferred none))) λ_ _ _=>False)) u:=by
  intro t u z bH L aC;refine hG (fn:=f251) (R:=λv u=>u.heap[D]?=some (.deferred (some []))/\e' w (eu aK lines) (.int .i64 (eh aK lines)) v (u.putObj D (.deferred none))) (λ_ _=>rfl) ?_;rw[YD];have aq:=ai.aj z G;cases t with
  |true=>
   refine hc rfl (pW aq rfl js (K:=λres A=>A.heap[D]?=some (.deferred (some []))/\e' w (eu aK lines) (.int .i64 (eh aK lines)) (.tuple #[res.val,.int .i64 14]) (A.putObj D (.deferred none))) λcq i _=>?_);obtain⟨V,X,Y⟩:=ag ((ao.cm z).trans i λ_ _ e=>e)
   grind[e'.no]
  |false=>
   refine dG rfl (fa ?_);rw[wn];refine b7.aV ⟨aK.getD 0 0,aW,n,cap⟩ ⟨bX (ai.aj z B) rfl,?_⟩;refine pW aq rfl ⟨aK.getD 0 0,aW,n,cap⟩ (K:=λres A=>A.heap[D]?=some (.deferred (some []))/\e' w (eu aK lines) (.int .i64 (eh aK lines)) (.tuple #[res.val,.int .i64 0]) (A.putObj D (.deferred none))) λcq i _=>?_
   obtain⟨V,X,Y⟩:=ag ((ao.cm z).trans i λ_ _ e=>e);rw[aH (L rfl),L rfl];refine⟨V,aW,cap,by rw[tu],Y,?_⟩;rw[tu];exact⟨⟨d.rd.aA X (hv d.rd λk i e=>by grind),l.len,l.ei,l.u64⟩,λk i=>(O k i).2⟩
 refine⟨λy=>ai w1 y,ao.refl _ _,b7.aV ⟨aK.getD 0 0,aW,n,cap⟩ ⟨λu hu=>bX (ai.aj hu ab) rfl,?_⟩⟩;refine aB (wB (r:=⟨aK.getD 0 0,aW,n,cap⟩) l lines) ?_;rintro v A ⟨rfl,c⟩;refine⟨_,rfl,c,d8 (λhe=>?_) (λhe=>b7.aV ⟨aK.getD 0 0,aW,n,cap⟩ ⟨λu hu=>bX (ai.aj hu ab) rfl,?_⟩)⟩
 ·exact fa (last true A (j.new c) (λ_=>by grind) (λh=>by cases h) _)
 have al:gk (aK.getD 0 0) (hV aK n) lines=0:=he;obtain⟨_,af,a',_⟩:=jA al;have P:=ae.new (hw.new (j.new c));obtain⟨b,o,rfl⟩:∃ b o,a=some ⟨b,o,none⟩:=by
  rcases ae with e | ⟨b,o,e,_⟩
  ·have:=ey List.length e;grind[iS,List.length_nil]
  grind
 refine ll (by omega) (by omega) (by omega) (by omega) (by omega) λbm bh=>?_
 have S:bm=some ⟨b,o,none⟩:=by
  grind
 subst S;refine aB (z2 (r:=⟨aK.getD 0 0,aW,n,cap⟩) (l.new c) (Cf al) ⟨af.1,af.2.1⟩ (by grind) (λp bD=>by grind)) ?_;rintro v bj ⟨bo,U,rfl,s,E,_⟩;rw[tu]at E ⊢;refine⟨_,_,_,rfl,c.new s,?_⟩;have ah:((3+9*n:Nat):Int).toNat-(0:Int).toNat=3+9*n:=by omega
 have aG:((cD:Nat):Int).toNat-(0:Int).toNat=cD:=by simp
 rw[ah,aG];have Q:bl bj (some ⟨b,o,none⟩) (us (aK.take (3+9*n))):=by have:=(P.new s).take (3+9*n);rwa [show(us aK).take (3+9*n)=us (aK.take (3+9*n)) by simp[us]]at this
 refine aB (Te E.rd (by rw[pq,tu]) Q (by grind) (by omega)) ?_;rintro v bk ⟨rfl,C⟩;refine⟨_,rfl,(c.new s).new C,fa (last _ bk (((j.new c).new s).new C) (λh=>?_) (λh=>?_) _)⟩
 ·grind
 grind
theorem Ra {w:an}{a:ak}{d cD:Nat}{aK:a7}(lines:Int)(Z:bl w a (us aK))(X:d=aK.length)(S:d<=cD)(hu:∀ x ∈ aK,cy x)(U:d<=1000) :
  a5 251 [.slice a d cD,.int .i64 lines] w (e' w (eu aK lines) (.int .i64 (eh aK lines))):=by
 refine(callsIn_wide (n:=3)).1 ?_;refine callsIn_of_wp_marks (c:=bu f251) Tryz.func251 (by kernel_rfl) trivial ?_ rfl;suffices ae:∀ x:Act,x=act ((.slice a d cD)::(.int .i64 lines)::(bm 72 []))->Code.wpIn Fence.wide 3 prog (bu f251) (bodyPostM Fence.wide 3 prog f251 λe w'=>∃ v,e=.returned v/\e' w (eu aK lines) (.int .i64 (eh aK lines)) v w') x w from ae _ (by kernel_rfl)
 rintro _ rfl;refine Rr mix C7 (ds:=[]) [1,1,1,1,1,1,0,1,0] _ _ _ _ _ (by kernel_rfl) (NN lines Z X S hu U) ?_ (λe x u h=>Pw (λv al=>⟨v,rfl,al⟩) (Px h));intro env u B;have B:s0 w a d cD aK lines (aK.getD 1 0).toNat w.heap.size env u/\(98<=lines/\lines<=256)/\3+9*(aK.getD 1 0).toNat<=aK.length/\0<=aK.getD 0 0/\aK.getD 0 0<1073741824/\0<=aK.getD 1 0/\aK.getD 1 0<=12:=B;obtain⟨⟨⟨P,f,g,i,bW,aC,rfl,C,s,N,F,G,j,ag,b,r⟩,t,hw,ab⟩,ad,hlen,K,L,H,Y⟩:=B;obtain⟨n,I⟩:=oN H;have o:(aK.getD 1 0).toNat=n:=by omega
 rw[o]at s b hlen r;rw[show sub (bu f251) [1,1,1,1,1,1,0,1,0]=.rangeFunc (.tmp 50) #[51] (sub (bu f251) [1,1,1,1,1,1,0,1,0,0]) (.block 1 (sub (bu f251) [1,1,1,1,1,1,0,1,0,1,0])) by kernel_rfl];have E:∀ z,sF Fence.wide 3 prog (bu f251) [1,1,1,1,1,1,0,1,0] z=Exit.inBlock 0 (Exit.then (λa w=>(sub (bu f251) [1,1,1,1,1,1,1]).wpIn Fence.wide 3 prog z a w) z):=λz=>by kernel_rfl
 rw[E,o];refine Mt u w.heap.size P f g (aK.getD 0 0) ((3+9*n:Nat):Int) lines aK n d cD i a bW aC (by omega) C s N F G b r (by omega) hu _ ?_;intro D W ys ah O Q A;rw[O]at Q;obtain⟨⟨aW,cap,p,q,J⟩,l⟩:=Q;rw[nO]at p q;have y:=l.aj t (λe=>j e);have M:ai w W:=hw.trans l λk V e=>by omega
 have af:=hw.size;have T:=NO (lines:=lines) Z X S hu U I (by omega) ad hlen K L y p j q (λk V=>by have:=J k V;have:=t.lt;omega) M ab (by omega) A;show Code.wpIn Fence.wide 3 prog (sub (bu f251) [1,1,1,1,1,1,1]) (bodyPostM Fence.wide 3 prog f251 λe w'=>∃ v,e=.returned v/\e' w (eu aK lines) (.int .i64 (eh aK lines)) v w') (m6 [{target:=.collected D,args:=#[]}] (pV a d cD lines w.heap.size P ((3+9*n:Nat):Int) undef f g undef aC)) W;refine wpIn_mono (n7 mix C7 (ds:=[{target:=.collected D,args:=#[]}]) _ _ _ W (by kernel_rfl) ?_) (λe x u h=>Q8 (R:=λv u=>u.heap[D]?=some (.deferred (some []))/\e' w (eu aK lines) (.int .i64 (eh aK lines)) v (u.putObj D (.deferred none))) (λv al=>⟨al.1,v,rfl,al.2⟩) (Tf h));rw[show sub (bu f251) [1,1,1,1,1,1,1]=sub ec [1,1,1,1,1,1,1] by kernel_rfl];rw[pV,Xc]
 grind
end
end Go.Proofs.YtmkljjbioomepaaGreat
namespace Go.m0
open Go.bJ
def xh (sz:bY->Nat)(f:bY->Option (List Bool)):List Field->Nat->Option (List Bool)
 | [],off=>some []
 |fd::b,off=>match f fd.type with
  |some a=>match fd.name != "_" && (Nat.beq fd.offset off && Nat.beq (sz fd.type) a.length) with
   |true=>match xh sz f b (off+a.length)with
    |some r=>some (a++r)
    |none=>none
   |false=>none
  |none=>none
def mb (P:df):Nat->bY->Option (List Bool)
 | 0,_=>none
 |d+1,t=>match P.underlying t with
  |some (.int _)=>some [false]
  |some .bool=>some [true]
  |some (.struct b)=>match P.stoodInHeld t with
   |true=>none
   |false=>xh (q9 P) (mb P d) b.toList 0
  |some (.array len e)=>match mb P d e with
   |some a=>match Nat.beq (q9 P e) a.length with
    |true=>some (List.replicate len a).flatten
    |false=>none
   |none=>none
  | _=>none
def HO:Bool->bf->bf->Prop
 |false,.int k _,.int j _=>k=j
 |true,.bool _,.bool _=>True
 | _,_,_=>False
def kU:List Bool->ax->ax->Prop
 | [],[],[]=>True
 |k::a,x::xs,y::ys=>HO k x y/\kU a xs ys
 | _,_,_=>False
def te:bf->bf->Bool
 |.int _ a,.int _ b=>a == b
 |.bool a,.bool b=>a == b
 | _,_=>true
def h9:ax->ax->Bool
 |x::xs,y::ys=>te x y && h9 xs ys
 | _,_=>true
theorem kU.len:∀ {a:List Bool} {xs ys:ax},kU a xs ys->xs.length=a.length/\ys.length=a.length
 | [],[],[],_=>⟨rfl,rfl⟩
 | _::_,_::_,_::_,⟨_,h⟩=>by simp[kU.len h]
theorem kU.split:∀ {b ls:List Bool} {xs ys:ax},kU (b++ls) xs ys->kU b (xs.take b.length) (ys.take b.length)/\kU ls (xs.drop b.length) (ys.drop b.length)/\
  h9 xs ys=(h9 (xs.take b.length) (ys.take b.length) && h9 (xs.drop b.length) (ys.drop b.length))
 | [],ls,xs,ys,h=>⟨trivial,h,rfl⟩
 |k::b,ls,x::xs,y::ys,⟨a,h⟩=>by
  obtain⟨c,d,e⟩:=kU.split h;refine⟨⟨a,c⟩,d,?_⟩;show(te x y && h9 xs ys)=((te x y && h9 (xs.take b.length) (ys.take b.length)) && h9 (xs.drop b.length) (ys.drop b.length))
  grind
theorem Fs {k:Bool}:∀ {xs ys:ax},kU [k] xs ys->∃ x y,xs=[x]/\ys=[y]/\HO k x y
 | [],[],h=>h.elim
 | [],_::_,h=>h.elim
 | _::_,[],h=>h.elim
 | [x],[y],h=>⟨x,y,rfl,rfl,h.1⟩
 | _::_::_,[_],h=>h.2.elim
 | [_],_::_::_,h=>h.2.elim
 | _::_::_,_::_::_,h=>h.2.elim
section
variable {P:df}
def mS (P:df)(t:bY)(xs:ax):bf:=if ht P t=true then .agg xs.toArray else xs.headD undef
theorem E1 {t:bY}{i:TypeInfo}{a:TypeDesc}(d:P.info? t=some i)(dR:P.underlying t=some a){cs:ax}{off n:Nat}(f:i.size=n)(h:off+n<=cs.length)(c:ht P t=false->n=1)(w:an) :
  (part t cs.toArray off).run P w=.ok (mS P t ((cs.drop off).take n)) w:=by
 unfold part mS;rw[Sem.run_bind,qk dR];simp only[Result.andThen_ok];split
 ·simp only[Sem.run_bind,bJ.run_sizeOf d,Result.andThen_ok,Sem.run_pure,f]
  grind
 ·rename_i g;have b:=c (by grind);subst b;have e:off<cs.length:=by omega
  have j:(cs.drop off).take 1=[cs[off]]:=by
   grind[List.drop_eq_getElem_cons]
  simp_all
theorem DH {d:Nat}{t:bY}{n:List Bool}(h:mb P d t=some n):∃ i a,P.info? t=some i/\P.underlying t=some a:=by
 cases d with
 |zero=>cases h
 |succ d=>
  unfold mb at h;cases hu:P.underlying t with
  |none=>grind
  |some a=>
   cases b:P.info? t with
   |some i=>grind
   |none=>simp[Program.underlying,b]at hu
theorem CI {d:Nat}{t:bY}{n:List Bool}(h:mb P d t=some n)(a:ht P t=false):n.length=1:=by
 cases d with
 |zero=>cases h
 |succ d=>
  unfold mb at h;unfold ht at a
  grind
def w8 (P:df)(D:Nat)(t:bY)(a:List Bool):Prop:=∀ xs ys:ax,kU a xs ys->∀ w,(Op.equalIn D t (mS P t xs) (mS P t ys)).run P w=.ok (h9 xs ys) w
theorem Ft {t:bY}{a:List Bool}{D off:Nat}{xs ys:ax}(au:w8 P D t a){i:TypeInfo}{d:TypeDesc}(e:P.info? t=some i)(dR:P.underlying t=some d)(h:i.size=a.length)(f:ht P t=false->a.length=1)
  (c:kU a ((xs.drop off).take a.length) ((ys.drop off).take a.length)) (w:an) {α:Type} (K:Bool->Sem α) :
  ((do K (<- Op.equalIn D t (<- part t xs.toArray off) (<- part t ys.toArray off))):Sem α).run P w=(K (h9 ((xs.drop off).take a.length) ((ys.drop off).take a.length))).run P w:=by
 obtain⟨hI,l2⟩:=c.len;rw[lE,pM]at hI l2;cases g:a.length with
 |zero=>
  have:i.size=0:=by omega
  cases j:ht P t with
  |false=>grind
  |true=>
   have b:∀ cs:ax,(part t cs.toArray off).run P w=.ok (mS P t []) w:=by
    intro cs;unfold part mS;rw[Sem.run_bind,qk dR,j];simp only[Result.andThen_ok,if_true,Sem.run_bind,bJ.run_sizeOf e,Sem.run_pure,this]
    grind
   rw[g]at c;simp only[Sem.run_bind,b,Result.andThen_ok];rw[au [] [] c];rfl
 |succ n=>rw[<-g];simp only[Sem.run_bind,E1 (cs:=xs) (off:=off) e dR h (by omega) f w,E1 (cs:=ys) (off:=off) e dR h (by omega) f w,Result.andThen_ok];rw[au _ _ c];rfl
theorem DI {d D:Nat}(au:∀ t b,mb P d t=some b->w8 P D t b){xs ys:ax}:∀ (c:List Field) (off:Nat) (b:List Bool),xh (q9 P) (mb P d) c off=some b->kU b (xs.drop off) (ys.drop off)->
  ∀ w,(Op.eqFields D xs.toArray ys.toArray c).run P w=.ok (h9 (xs.drop off) (ys.drop off)) w
 | [],off,b,h,e=>by cases h;intro w;have q:=e.len;rw[hN q.1];simp[Op.eqFields,h9]
 |fd::c,off,b,h,e=>by
  unfold xh at h;split at h
  rotate_left
  ·cases h
  rename_i a hm;split at h
  rotate_left
  ·cases h
  rename_i n;split at h
  rotate_left
  ·cases h
  rename_i k x;cases h;simp only[gL,bne_iff_ne,ne_eq]at n;obtain⟨u,f,g⟩:=n;have f:fd.offset=off:=pL f;have g:q9 P fd.type=a.length:=pL g;obtain⟨o,gj,l⟩:=e.split;rw[wu,wu]at gj l;have z:=DI au c (off+a.length) k x gj;intro w;obtain⟨i,p,s,dR⟩:=DH hm;have j:i.size=a.length:=by unfold q9 at g;grind
  unfold Op.eqFields;rw[bh (by grind),f];have:=Ft (K:=λr=>if(!r)=true then pure false else Op.eqFields D xs.toArray ys.toArray c) (au _ _ hm) s dR j (CI hm) o w;refine Eq.trans this ?_;rw[l];cases y:h9 ((xs.drop off).take a.length) ((ys.drop off).take a.length)with
  |false=>rfl
  |true=>
   grind
theorem E2 {D:Nat}{e:bY}{b:List Bool}(au:w8 P D e b){i:TypeInfo}{f:TypeDesc}(k:P.info? e=some i)(dR:P.underlying e=some f)(n:i.size=b.length)(h:ht P e=false->b.length=1){xs ys:ax}(w:an) :
  ∀ (l:c6) (a:Nat),l=List.range' a l.length->kU (List.replicate l.length b).flatten (xs.drop (a*b.length)) (ys.drop (a*b.length))->
   (forIn l ((none,()):Option Bool×Unit) (λi _=>do
    let r <- Op.equalIn D e (<- part e xs.toArray (i*b.length)) (<- part e ys.toArray (i*b.length))
    if(!r)=true then pure (ForInStep.done (some false,()))else pure (ForInStep.yield (none,()))):Sem (Option Bool×Unit)).run P w=.ok ((if h9 (xs.drop (a*b.length)) (ys.drop (a*b.length))=true then none else some false),()) w
 | [],a,_,d=>by have p:=d.len;rw[hN p.1];simp[h9]
 |j::l,a,c,d=>by
  rw[h3,List.range'_succ]at c;simp only[List.cons.injEq]at c;obtain⟨rfl,c⟩:=c;rw[h3,ux,lD]at d;obtain⟨o,gj,g⟩:=d.split;rw[wu,wu,<-uk]at gj g;rw[List.forIn_cons,Sem.run_bind];have:=Ft (K:=λr=>if(!r)=true then(pure (ForInStep.done (some false,())):Sem (ForInStep (Option Bool×Unit)))else pure (ForInStep.yield (none,()))) au k dR n h o w;rw[this,g];have q:=E2 au k dR n h w l (j+1) c gj;cases s:h9 ((xs.drop (j*b.length)).take b.length) ((ys.drop (j*b.length)).take b.length)with
  |false=>rfl
  |true=>simp only[Bool.not_true,Bool.false_eq_true,if_false,zw];exact q
theorem AF:∀ (d:Nat) (t:bY) (f:List Bool),mb P d t=some f->∀ D,d<=D->w8 P D t f
 | 0,_,_,h=>by cases h
 |d+1,t,f,h=>by
  intro D A xs ys l w;obtain⟨D,rfl⟩:∃ r,D=r+1:=⟨D-1,by omega⟩;have g:d<=D:=by omega
  unfold mb at h;split at h
  ·rename_i k hu;cases h;have a:ht P t=false:=by unfold ht;rw[hu]
   obtain⟨x,y,rfl,rfl,b⟩:=Fs l;unfold mS;rw[a];cases x<;>cases y<;>first | exact b.elim | skip
   have z:_=_:=b;subst z;refine(run_equalIn_int w D t _ k _ _ hu).trans ?_;simp[h9,te]
  ·rename_i hu;cases h;have a:ht P t=false:=by unfold ht;rw[hu]
   obtain⟨x,y,rfl,rfl,b⟩:=Fs l;unfold mS;rw[a];cases x<;>cases y<;>first | exact b.elim | skip
   refine(run_equalIn_bool' w D t _ _ hu).trans ?_;simp[h9,te]
  ·rename_i p hu;split at h
   ·cases h
   rename_i o;have a:ht P t=true:=by unfold ht;rw[hu]
   have u:P.fieldsOf t=p:=by unfold Program.fieldsOf;rw[hu]
   have:=DI (λt f h=>AF d t f h D g) p.toList 0 f h l w;unfold mS;rw[bh a,bh a,run_equalIn_struct w D t _ _ (by grind) o,u]
   grind
  ·rename_i len e hu;split at h
   rotate_left
   ·cases h
   rename_i c hm;split at h
   rotate_left
   ·cases h
   rename_i n;cases h;have n:q9 P e=c.length:=pL n;obtain⟨i,s,q,dR⟩:=DH hm;have j:i.size=c.length:=by unfold q9 at n;grind
   have a:ht P t=true:=by unfold ht;rw[hu]
   have:=E2 (AF d e c hm D g) q dR j (CI hm) (xs:=xs) (ys:=ys) w (List.range' 0 len) 0 (by simp) (by grind);unfold mS;rw[bh a,bh a];simp only[Op.equalIn,Sem.run_bind,run_underlying hu,Result.andThen_ok,bJ.run_sizeOf q,j];simp only[Nat.zero_mul,List.drop_zero]at this;rw[Std.Legacy.Range.forIn_eq_forIn_range'];simp only[Std.Legacy.Range.size,Nat.sub_zero,Nat.add_one_sub_one,Nat.div_one];rw[this];cases h9 xs ys<;>rfl
  grind
end
end Go.m0
