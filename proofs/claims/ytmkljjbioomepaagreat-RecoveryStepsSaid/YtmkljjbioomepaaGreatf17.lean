import Derived.Test.YtmkljjbioomepaaGreatProg
import Derived.Test.YtmkljjbioomepaaGreatf02
import Derived.Test.YtmkljjbioomepaaGreatf16
import Derived.Test.YtmkljjbioomepaaGreatf11
import Derived.Test.YtmkljjbioomepaaGreatf03
set_option linter.all false
set_option maxHeartbeats 4000000
set_option maxRecDepth 100000
namespace Go.Proofs.YtmkljjbioomepaaGreat
open Go.Proofs.Tryz Go.bd
variable {L aQ l ws:ba}{P:c7}{R:bg}{a b:an}{b1 az c cz d m n fA:Nat}{fn:Func}{lines:Int}{w w':aj}
section
open IntKind
variable (w:aj)(R:bg){s:an}{a b:Nat}{i k:Int}{A B:aw}{X Y Z:bl}{j:al}{F:Bool}
theorem J':bc prog f228 [af s a b,ab i] R w=(aR w #[ab 0,a4] 271 λh n=>cond ((a:Int) != 120) (a8 n (ah h 0) 0 [ab 0,a4] λk=>hK k (ah h 0) λd=>k=k/\R (.tuple #[d.val,ad false]) k) (g7 s a b 8 (a:Nat) (b:Nat) 1 λq t p=>Calls prog 251 #[af q t p,ab i] n λe u=>bX.ex λf=>∃ c,e=.returned (.tuple #[f.val,ab c])/\aR u #[ab 0,a4] 271 λl o=>a8 o (ah l 0) 0 f.cells λm=>hK m (ah l 0) λr=>a8 m (ah h 0) 0 r.cells λj=>hK j (ah h 0) λg=>j=j/\R (.tuple #[g.val,ad ((c:Int) == 0)]) j)):=by kernel_rfl
theorem Z7:bc prog f246 [af s a b,ab i] R w=(aR w #[ab 0,a4] 271 λm A=>Calls prog 228 #[af s a b,ab i] A λe v=>bX.ex λh=>∃ c,e=.returned (.tuple #[h.val,ad c])/\aR v #[ab 0,a4] 271 λu y=>a8 y (ah u 0) 0 h.cells λt=>cond (!c) (a8 t (ah m 0) 0 [ab 0,a4] λp=>hK p (ah m 0) λj=>p=p/\R (.tuple #[j.val,ad false]) p) (bN t (ah u 0) λd=>g6 214 #[ab d] t λf g n=>bk s a 0 1 λz=>dp n z λx=>cond (f != x) (a8 n (ah m 0) 0 [ab 0,a4] λo=>hK o (ah m 0) λk=>o=o/\R (.tuple #[k.val,ad false]) o) (hK n (ah u 0) λr=>a8 n (ah m 0) 0 r.cells λq=>hK q (ah m 0) λl=>q=q/\R (.tuple #[l.val,ad true]) q))):=by kernel_rfl
noncomputable def d8:Code:=m7 (ay f251) [1,1,1,1,1,1,0,1,0]
def IT (e:an)(a b:Nat)(s1:Int)(c:aw)(s8 d:bl)(j:al):al:=af e a b::ab s1::ae j 0 2 (.pointer (some c)::ae j 2 3 (s8::ae j 5 42 (d::ae j 47 22 [])))
def vi (e:an)(a b:Nat)(s1:Int)(c:aw)(s8:bl)(d:Bool)(f:bl)(j:al):al:=af e a b::ab s1::ae j 0 2 (.pointer (some c)::ae j 2 3 (s8::ae j 5 18 (ad d::ae j 23 23 (f::ae j 46 22 []))))
def IU (e:an)(a b:Nat)(s1:Int)(c:aw)(s8 d:bl)(j:al):al:=af e a b::ab s1::ae j 0 2 (.pointer (some c)::ae j 2 3 (s8::ae j 5 42 (d::ae j 47 22 [])))
def qZ (e:an)(a b:Nat)(s1:Int)(f g:aw)(h:Int)(s8 c d:bl)(j:al):al:=af e a b::ab s1::ae j 0 2 (.pointer (some f)::ae j 2 1 (.pointer (some g)::ab h::s8::ae j 3 41 (c::d::ae j 44 22 [])))
def BW (e:an)(a b:Nat)(s1:Int)(c d:aw)(f:Int)(j:al):al:=af e a b::ab s1::ae j 0 2 (.pointer (some c)::ae j 2 1 (.pointer (some d)::ab f::ae j 3 66 []))
def yC (a b:aw)(c:Bool)(j:al):al:=ae j 0 4 (.pointer (some a)::ae j 4 1 (.pointer (some b)::ae j 5 64 (ad c::ae j 69 2 [])))
def IV (a b:aw)(j:al):al:=ae j 0 4 (.pointer (some a)::ae j 4 1 (.pointer (some b)::ae j 5 67 []))
theorem Ka (g:bH):W prog d8 ((af s a b)::(ab i)::(a1 72 [])) (aV prog f251 R g) w=(aR w #[ab 0,a4] 271 λf j=>c6 203 #[ab i] j λc h=>cond (!c) (a8 h (ah f 0) 0 [ab 0,a4] λe=>hK e (ah f 0) λd=>e=e/\R (.tuple #[d.val,ab 18]) e) (W prog (sub d8 [1,1]) (IT s a b i (ah f 0) undef undef (a1 2 (ab 0::a1 2 (ab i::ad c::ad (!c)::a1 61 [])))) (aV prog f251 R g) h)):=by kernel_rfl
theorem Yx (env:al)(w:aj)(Q:bH):W prog (sub d8 [1,1]) env Q w=W prog (sub d8 [1,1,0]) env (aM (λenv w=>W prog (sub d8 [1,1,1]) env Q w) Q) w:=by rw[show sub d8 [1,1]=.seq (sub d8 [1,1,0]) (sub d8 [1,1,1]) by kernel_rfl];generalize sub d8 [1,1,0]=a;generalize sub d8 [1,1,1]=b;kernel_rfl
theorem Yk (env:al)(w:aj)(Q:bH):W prog (sub d8 [1,1,0]) env Q w=W prog (sub d8 [1,1,0,0]) env (aM (λenv w=>W prog (sub d8 [1,1,0,1]) env Q w) Q) w:=by rw[show sub d8 [1,1,0]=.seq (sub d8 [1,1,0,0]) (sub d8 [1,1,0,1]) by kernel_rfl];generalize sub d8 [1,1,0,0]=a;generalize sub d8 [1,1,0,1]=b;kernel_rfl
theorem ZN (c:bH):W prog (sub d8 [1,1,0,0]) (IT s a b i A X Y j) (aV prog f251 R c) w=(cond ((a:Int)<2) (c .normal (vi s a b i A X true Y (ae j 0 9 (af s a b::cd a::ad ((a:Int)<2)::ad true::a1 4 (ad true::ad true::a1 4 (ae j 24 45 []))))) w) (bk s a 0 1 λd=>dp w d λx=>cond (x>=1073741824) (c .normal (vi s a b i A X true Y (ae j 0 9 (af s a b::cd a::ad ((a:Int)<2)::ad false::af s a b::jp d::ag x::ad (x>=1073741824)::ad (x>=1073741824)::ad true::a1 4 (ae j 24 45 [])))) w) (bk s a 1 1 λf=>dp w f λe=>c .normal (vi s a b i A X (decide ((e:Int)>12)) Y (ae j 0 9 (af s a b::cd a::ad ((a:Int)<2)::ad false::af s a b::jp d::ag x::ad (x>=1073741824)::ad (x>=1073741824)::ad false::af s a b::jp f::ag e::ad (e>12)::ae j 24 45 []))) w))):=by kernel_rfl
theorem Ig (d:bH):W prog (sub d8 [1,1,0,1]) (vi s a b i A X F Y j) (aV prog f251 R d) w=(cond F (a8 w A 0 [ab 0,a4] λc=>hK c A λg=>c=c/\R (.tuple #[g.val,ab 14]) c) (d .normal (IU s a b i A X Y (ae j 0 23 (ad F::ae j 23 45 []))) w)):=by kernel_rfl
theorem ZO (o:bH):W prog (sub d8 [1,1,1]) (IU s a b i A X Y j) (aV prog f251 R o) w=(bk s a 0 1 λp=>dp w p λx=>aR w #[ab 0,a4] 271 λm r=>a8 r (ah m 0) 0 [ab (i64.wrap x),a4] λe=>bk s a 1 1 λg=>dp e g λc=>cond ((a:Int)<(i64.wrap ((i64.wrap (2+(i64.wrap (9*(i64.wrap c)))))+1))) (a8 e A 0 [ab 0,a4] λd=>hK d A λh=>d=d/\R (.tuple #[h.val,ab 14]) d) (g7 s a b 2 (i64.wrap ((i64.wrap ((i64.wrap (2+(i64.wrap (9*(i64.wrap c)))))+1))-1)) (b:Nat) 1 λl n k=>WH 253 #[af l n k,ab 9] e λf q=>o (.exit 77) (qZ s a b i A (ah m 0) (i64.wrap ((i64.wrap (2+(i64.wrap (9*(i64.wrap c)))))+1)) X f Y (aB j 0::aB j 1::aB j 2::ae j 5 20 (af s a b::jp p::ag x::ab (i64.wrap x)::.agg #[ab (i64.wrap x),a4]::af s a b::jp g::ag c::ab (i64.wrap c)::ab (i64.wrap (9*(i64.wrap c)))::ab (i64.wrap (2+(i64.wrap (9*(i64.wrap c)))))::ab (i64.wrap ((i64.wrap (2+(i64.wrap (9*(i64.wrap c)))))+1))::af s a b::cd a::ab (i64.wrap ((i64.wrap (2+(i64.wrap (9*(i64.wrap c)))))+1))::ad ((a:Int)<(i64.wrap ((i64.wrap (2+(i64.wrap (9*(i64.wrap c)))))+1)))::aB j 41::af s a b::ab (i64.wrap ((i64.wrap (2+(i64.wrap (9*(i64.wrap c)))))+1))::ab (i64.wrap ((i64.wrap ((i64.wrap (2+(i64.wrap (9*(i64.wrap c)))))+1))-1))::af l n k::ae j 47 22 []))) q)):=by kernel_rfl
theorem Yy (h:an)(a b:Nat)(s1:Int)(i k:aw)(l:Int)(s8 c d:bl)(y:an)(f g:Nat)(j:al)(w:aj)(e:al->aK):W prog (sb f251 [1,1,1,1,1,1,0,1,0,0]) (qZ h a b s1 i k l s8 c (af y f g) (ae j 0 66 [])) (aM e λ_ _ _=>False) w=(e (qZ h a b s1 i k l (af y f g) c (af y f g) (ae j 0 66 [])) w):=by kernel_rfl
theorem Yl (q:an)(a b:Nat)(s1:Int)(r e:aw)(s:Int)(s8 c d:bl)(y:an)(f g:Nat)(j:al)(w:aj)(p:al->aK):W prog (sb f251 [1,1,1,1,1,1,0,1,0,1,0]) (qZ q a b s1 r e s (af y f g) c (af y f g) (ae j 0 66 [])) (aM p λ_ _ _=>False) w=(ck w λw1 o=>dS o (br e 1) λh i k=>WI 254 #[af y f g] w1 λn t=>o t/\aR t n.cells.toArray 73 λb1 u=>o u/\da 37 (af h i k) (af (bs b1) 1 1) u λap l m x=>cM x (br e 1) (af ap l m) λz=>p (qZ q a b s1 r e s (af y f g) c (af y f g) (ae j 0 44 (a7 e 1::af h i k::af y f g::n.val::af (bs b1) 1 1::af ap l m::a7 e 1::ae j 51 15 []))) z):=by kernel_rfl
theorem Ym:(qZ s a b i A B k X Y Z j)=(BW s a b i A B k (aB j 0::aB j 1::aB j 2::X::ae j 3 41 (Y::Z::ae j 44 22 []))):=by kernel_rfl
theorem Yz (env:al)(w:aj)(Q:bH):W prog (sub d8 [1,1,1,1,1,1,1]) env Q w=W prog (sub d8 [1,1,1,1,1,1,1,0]) env (aM (λenv w=>W prog (sub d8 [1,1,1,1,1,1,1,1]) env Q w) Q) w:=by rw[show sub d8 [1,1,1,1,1,1,1]=.seq (sub d8 [1,1,1,1,1,1,1,0]) (sub d8 [1,1,1,1,1,1,1,1]) by kernel_rfl];generalize sub d8 [1,1,1,1,1,1,1,0]=a;generalize sub d8 [1,1,1,1,1,1,1,1]=b;kernel_rfl
theorem Yn (env:al)(w:aj)(Q:bH):W prog (sub d8 [1,1,1,1,1,1,1,0]) env Q w=W prog (sub d8 [1,1,1,1,1,1,1,0,0]) env (aM (λenv w=>W prog (sub d8 [1,1,1,1,1,1,1,0,1]) env Q w) Q) w:=by rw[show sub d8 [1,1,1,1,1,1,1,0]=.seq (sub d8 [1,1,1,1,1,1,1,0,0]) (sub d8 [1,1,1,1,1,1,1,0,1]) by kernel_rfl];generalize sub d8 [1,1,1,1,1,1,1,0,0]=a;generalize sub d8 [1,1,1,1,1,1,1,0,1]=b;kernel_rfl
theorem ZP (l:bH):W prog (sub d8 [1,1,1,1,1,1,1,0,0]) (BW s a b i A B k j) (aV prog f251 R l) w=(ck w λv e=>s_ e B λr=>cx 167 #[r.val,ab i] v λf m=>e m/\cond (f != 0) (l .normal (yC A B true (af s a b::ab i::aB j 0::aB j 1::aB j 2::ab k::ae j 3 51 (r.val::ab i::ab f::ad ((f:Int) != 0)::ad true::a1 7 [aB j 67,aB j 68]))) m) (s_ e B λt=>g7 s a b 0 k (b:Nat) 1 λp q o=>eV 210 #[t.val] m λg h c u=>e u/\c6 255 #[af g h c,af p q o] u λd n=>e n/\l .normal (yC A B (!d) (af s a b::ab i::aB j 0::aB j 1::aB j 2::ab k::ae j 3 51 [r.val,ab i,ab f,ad ((f:Int) != 0),ad false,t.val,af g h c,af s a b,ab k,af p q o,ad d,ad (!d),aB j 67,aB j 68])) n)):=by kernel_rfl
theorem ZQ (b:bH):W prog (sub d8 [1,1,1,1,1,1,1,0,1]) (yC A B F j) (aV prog f251 R b) w=(cond F (a8 w A 0 [ab 0,a4] λa=>hK a A λd=>a=a/\R (.tuple #[d.val,ab 14]) a) (b .normal (IV A B (ae j 0 69 [ad F,aB j 69,aB j 70])) w)):=by kernel_rfl
theorem ZR (b:bH):W prog (sub d8 [1,1,1,1,1,1,1,1]) (IV A B j) (aV prog f251 R b) w=(hK w B λr=>a8 w A 0 r.cells λa=>hK a A λc=>a=a/\R (.tuple #[c.val,ab 0]) a):=by kernel_rfl
theorem Kl (n:bX)(j:bX):bc prog f252 [n.val,j.val] R w=(aR w n.cells.toArray 271 λm p=>aR p j.cells.toArray 271 λl e=>bN e (ah m 0) λa=>bN e (ah l 0) λb=>cond (a == b) (bY e (ah m 1) λc d f=>bY e (ah l 1) λg h i=>c6 256 #[af c d f,af g h i] e λk o=>R (ad k) o) (R (ad false) e)):=by kernel_rfl
theorem Km:bc prog f254 [af s a b] R w=(aR w #[ab 0,ag 0,ag 0,ag 0,ag 0,ag 0,ag 0,ag 0,ag 0] 73 λi v=>ck v λn h=>bk s a 0 1 λu=>hd h u λx=>bk s a 1 1 λc=>hd h c λo=>aR n #[ab 0,ag 0,ag 0,ag 0,ag 0,ag 0,ag 0,ag 0,ag 0] 73 λf k=>h k/\a8 k (ah f 0) 0 [ab (i64.wrap (if(256:Int)<x then(256:Int)else x)),ag o,ag 0,ag 0,ag 0,ag 0,ag 0,ag 0,ag 0] λl=>∀ j,j=l.drew->g7 s a b 2 (a:Nat) (b:Nat) 1 λq t p=>∃ r,∃ g,(Builtin.copy_ #[94,94] 3 #[af (some (ah f 2)) 7 7,af q t p]).run prog j=.ok (ab r) g/\hJ g (ah f 0) λm=>a8 g (ah i 0) 0 m.cells λe=>hJ e (ah i 0) λd=>e=e/\R d.val e):=by kernel_rfl
end
section
open IntKind
variable (w:aj)(R:bg){s:an}{a b:Nat}{i:Int}{X:bl}{A B:aw}{j:al}
theorem VU:bc prog f253 [af s a b,ab i] R w=(aR w #[af s a b] 94 λe f=>aR f #[ab i] 3 λc d=>bN d (ah c 0) λx=>cond (x<1) (W prog (sb f253 [1,0,1,0]) [af s a b,ab i,bb e,bb c,.nilFunc,ab x,ad (x<1),undef,undef] (aS f253 [1,1] R) d) (R (.func (.func 257) #[] #[bb e,bb c]) d)):=by kernel_rfl
def xD (a:bl)(s1 s2:aw)(b:Int)(j:al):al:=a::.pointer (some s1)::.pointer (some s2)::ae j 0 1 (ab b::ae j 1 26 [])
theorem UT:bc prog f257 [X,bb a,bb b] R w=(cj prog (cN f257 [1,0,0]) (xD X (ah a 0) (ah b 0) 0 (a1 27 [])) (aL 0 (bV f257 R)) w):=by kernel_rfl
theorem TW (r:al->aK):W prog (sb f257 [1,0,0]) (xD X A B i j) (aM r (aL 0 (bV f257 R))) w=(bY w A λx a b=>cond (i<(a:Nat)) (ck w λv t=>cA t B λo=>dS t A λs c d=>g7 s c d i (c:Nat) (d:Nat) 1 λz n y=>bY v A λu f g=>g7 u f g i (i64.wrap (i+(if(n:Int)<o then(n:Int)else o))) (i64.wrap (i+(if(n:Int)<o then(n:Int)else o))) 1 λm k l=>i_ prog X #[af m k l] v λe p=>∃ h,e=.returned (ad h)/\cond (!h) (R (.tuple #[]) p) (bN p B λq=>r (xD X A B (i64.wrap (i+q)) [aB j 0,ab (if(n:Int)<o then(n:Int)else o),ab i,af x a b,cd a,ad (i<(a:Nat)),ab i,ab q,ab (i64.wrap (i+q)),ab o,af s c d,ab i,af z n y,cd n,ab (if(n:Int)<o then(n:Int)else o),X,af u f g,ab i,ab i,ab (if(n:Int)<o then(n:Int)else o),ab (i64.wrap (i+(if(n:Int)<o then(n:Int)else o))),ab i,ab (if(n:Int)<o then(n:Int)else o),ab (i64.wrap (i+(if(n:Int)<o then(n:Int)else o))),af m k l,ad h,ad (!h)]) p)) (R (.tuple #[]) w)):=by kernel_rfl
end
section
open Go.RowKit Go.Shelf
theorem SK {b sb so k c:Nat}{news:au}(o:news.length=7)(i:k=7)(a:∀ j u,news[j]?=some u->w.cell? ⟨sb,so+j,none⟩=some u)(e:dT w ⟨b,2,none⟩ 0 news) :
  (Builtin.copy_ #[94,94] 3 #[.slice (some ⟨b,2,none⟩) 7 7,.slice (some ⟨sb,so,none⟩) k c]).run prog w=.ok (.int .i64 7) (cv w ⟨b,2,none⟩ 0 news):=by
 subst i;obtain⟨inf,g,ax,p,l⟩:=ft (T:=30) (z:=.int .u64 0) (n:=1) (m:=8) (by kernel_rfl);have f:=run_firstCells_some (P:=prog) w inf.size 7 ⟨sb,so,none⟩ 7 c news (by grind) (λj v h=>by rw[show(⟨sb,so,none⟩:aw).add j=⟨sb,so+j,none⟩ from lq _ _ _];grind);have d:=bd.td (P:=prog) e;have hu:prog.underlying 94=some (.slice 30):=Tryz.underlying94;simp[Builtin.copy_,run_underlying hu,sizeOf,typeInfo,g,Builtin.lenOf,f,d,goInt]
def ra (ws:ba):aD:=⟨if 256<ws.getD 0 0 then 256 else ws.getD 0 0,ws.getD 1 0,ws.getD 2 0,ws.getD 3 0,ws.getD 4 0,ws.getD 5 0,ws.getD 6 0,ws.getD 7 0,ws.getD 8 0⟩
theorem m8 (j:bh w a (us ws)){i:Nat}(h:i<ws.length)(f:n=ws.length){z:Int}(ax:z=i){K:aw->Prop}(e:∀ b o,(∀ y,ai w y->y.cell? ⟨b,o,none⟩=some (.int .u64 (ws.getD i 0)))->K ⟨b,o,none⟩):bk a n z 1 K:=by
 have d:ws[i]?=some (ws.getD i 0):=by grind
 refine io (cells:=uz) (sz:=1) (λ_=>rfl) (by decide) (by grind[wG]) d ax f λb o c=>e b o λy g=>c y g 0 _ rfl
theorem Qd (h:l.length=9):∃ a b c d e f g i j,l=[a,b,c,d,e,f,g,i,j]:=by
 rcases l with _ | ⟨a,_ | ⟨b,_ | ⟨c,_ | ⟨d,_ | ⟨e,_ | ⟨f,_ | ⟨g,_ | ⟨i,_ | ⟨j,_ | ⟨y,l⟩⟩⟩⟩⟩⟩⟩⟩⟩⟩;case cons.cons.cons.cons.cons.cons.cons.cons.cons.nil=>grind
 all_goals simp at h
theorem SL (U:bh w a (us ws))(T:ws.length=9)(hu:∀ x ∈ ws,ch x)(aR:9<=c):a9 254 [.slice a 9 c] w λv w'=>v=(ra ws).val/\ai w w':=by
 refine a' Tryz.func254 ?_;rw[Km];rintro b1 w1 Q C;obtain⟨f,B⟩:=bo Q C;have f:aq w1 b1 il.cells eo:=f;clear C;rintro ad D;have q:ai w1 ad:=by rw[D];exact cC _
 clear D;have d:=B.new q;refine⟨λu=>ai ad u,ao.refl _ _,?_⟩;have V:ch (ws.getD 0 0):=by
  grind
 refine m8 (U.new d) (i:=0) (by omega) (by omega) rfl λb o aI=>⟨_,aI,m8 (U.new d) (i:=1) (by omega) (by omega) rfl λb' aV aL=>⟨_,aL,?_⟩⟩
 have aE:IntKind.i64.wrap (if(256:Int)<ws.getD 0 0 then(256:Int)else ws.getD 0 0)=(ra ws).bw:=by
  rw[bq]
  ·rfl
  ·split<;>have:=V.1<;>omega
  grind
 rw[aE];rintro az aM R E;obtain⟨t,r⟩:=bo R E;have t:aq aM az il.cells eo:=t;clear E;refine⟨r,?_⟩;refine dI (vs:=[.int .i64 (ra ws).bw,.int .u64 (ws.getD 1 0),.int .u64 0,.int .u64 0,.int .u64 0,.int .u64 0,.int .u64 0,.int .u64 0,.int .u64 0]) t rfl (by intro v ar;simp at ar;rcases ar with rfl | rfl | rfl<;>rfl) λaP X z=>?_
 rintro y F;have s:ai aP y:=by rw[F];exact cC _
 clear F;have I:=ai.ak s X;have g:b1≠az:=λe=>by have:=f.lt;have:=q.size;omega
 have l:ai w y:=((d.new r).trans z λk ab e=>by have:=d.size;omega).new s;have G:aq y b1 il.cells eo:=ai.ak s (z.ak (ai.ak (q.new r) f) g);obtain⟨b,o,rfl,n⟩:∃ b o,a=some ⟨b,o,none⟩/\∀ j u,(us ws)[j]?=some u->y.cell? ⟨b,o+j,none⟩=some u:=by
  rcases U.new l with e | h
  ·exact b_ (eh List.length e) (by grind[ht])
  grind
 refine jq (by omega) (by omega) (by omega) (by omega) (by omega) λaZ W=>?_
 rcases W with rfl | ⟨e,_⟩;case inr=>omega
 have p:=SK (w:=y) (b:=az) (sb:=b) (so:=o+2) (k:=7) (c:=c-2) (news:=us (ws.drop 2)) (by rw[ht,zt,T]) rfl (λj u h=>by
  have:=n (2+j) u (by grind[us])
  grind) (fU I (by rw[ht,zt,T];simp) (oJ _))
 have ag:((9:Nat):Int).toNat-(2:Int).toNat=7:=rfl;have ah:((c:Nat):Int).toNat-(2:Int).toNat=c-2:=by simp
 have aB:o+(2:Int).toNat*1=o+2:=rfl;rw[ag,ah,aB];refine⟨_,_,p,?_⟩;obtain⟨ae,af,J,K,L,M,N,O,P,rfl⟩:=Qd T;have Y:aq (cv y ⟨az,2,none⟩ 0 (us [J,K,L,M,N,O,P])) az (ra [ae,af,J,K,L,M,N,O,P]).cells eo:=I.cv (vs:=us [J,K,L,M,N,O,P]) (o:=2) (i:=0);have A:=hD y az 2 0 (us [J,K,L,M,N,O,P]);refine aD.aT _ ⟨bJ Y rfl,?_⟩;have H:=A.ak G g;refine dI (vs:=(ra [ae,af,J,K,L,M,N,O,P]).cells) H rfl (aD.single _) λaW Z S=>?_
 refine aD.aT _ ⟨bJ Z rfl,rfl,rfl,?_⟩;have:=B.size;refine(l.trans A λk ab e=>?_).trans S λk ab e=>?_
 ·have:=d.size;omega
 ·omega
theorem SM {l2:ba}(r:bh w a (us l))(A:n=l.length)(s:bh w b (us l2))(hm:m=l2.length)(E:n<=1000000):a9 255 [.slice a n c,.slice b m d] w λv w'=>v=.bool (decide (l=l2))/\ai w w':=by
 refine a' Tryz.func255 ?_;rw[U9];refine dw (λe=>⟨?_,ao.refl _ _⟩) (λe=>?_)
 ·rw[decide_eq_false];grind
 have hlen:l.length=l2.length:=by omega
 refine cP mix (λq env u=>∃ (i:Nat) (p:au),q=l.length-i/\i<=l.length/\env=xE a n c b m d n i p/\ai w u/\l.take i=l2.take i) l.length
  ⟨0,_,by omega,by omega,rfl,ao.refl _ _,rfl⟩ ?_
 rintro q env u ⟨i,p,rfl,F,rfl,o,G⟩;rw[TQ];refine a5 (λz=>?_) (λt=>?_)
 ·rintro w1 g;have k:ai u w1:=by rw[g];exact cC _
  clear g;have f:=o.new k;refine⟨λy=>ai w1 y,ao.refl _ _,?_⟩;refine m8 (r.new f) (i:=i) (by omega) A rfl λb1 H h=>⟨_,h,m8 (s.new f) (i:=i) (by omega) hm rfl λaz I j=>⟨_,j,?_⟩⟩
  have C:l[i]?=some (l.getD i 0):=by grind
  have D:l2[i]?=some (l2.getD i 0):=by grind
  refine dw (λB=>⟨?_,f⟩) (λhe=>?_)
  ·rw[decide_eq_false]
   grind
  ·rw[bq (x:=(i:Int)+1) (by omega) (by omega)];refine⟨l.length-(i+1),by omega,i+1,_,rfl,by omega,rfl,f,?_⟩
   grind[List.take_add_one]
 grind[T4,List.take_of_length_le,decide_eq_true]
theorem Qe (w:aj)(a:an)(n c:Nat):a9 253 [.slice a n c,.int .i64 9] w λr w'=>r=.func (.func 257) #[] #[.pointer (some ⟨w.heap.size,0,none⟩),.pointer (some ⟨w.heap.size+1,0,none⟩)]/\
  aq w' w.heap.size [.slice a n c] 94/\aq w' (w.heap.size+1) [.int .i64 9] 3/\ai w w'/\w'.heap.size=w.heap.size+2:=by
 refine a' Tryz.func253 ?_;rw[VU];rintro b1 w1 b f;obtain⟨k,i⟩:=bo b f;have j:w1.heap.size=w.heap.size+1:=by simp_all
 clear f;rintro az p d g;obtain⟨l,e⟩:=bo d g;have o:p.heap.size=w1.heap.size+1:=by simp_all
 clear g;subst b d;refine⟨9,l.cell rfl,a5 (λh=>b_ h (by decide)) (λ_=>⟨by rw[j],ai.ak e k,by grind,i.new e,by omega⟩)⟩
def jW (a:an)(i:Nat):an:=a.map (·.add (9*i))
def iP (b1 az:Nat)(a:an)(n cap:Nat)(w:aj):Prop:=w.cell? ⟨b1,0,none⟩=some (.slice a n cap)/\w.cell? ⟨az,0,none⟩=some (.int .i64 9)
theorem Nk (l b1 az:Nat)(a:an)(cap n:Nat)(d q:List (Fin n)->aK)(Z:n<=1000)(f:9 * n<=cap)(W:aj)(O:iP b1 az a (9 * n) cap W)
  (L:AbidesFrom W.heap.size d) (N:∀ pre x s,d pre s->pre.length<n->YieldAt Fence.wide 1 prog l #[.slice (jW a x.val) 9 9] s λe W'=>
   (e=.returned (.bool true)/\d (pre++[x]) W'/\(iP b1 az a (9*n) cap s->iP b1 az a (9*n) cap W'))\/(e=.returned (.bool false)/\q (pre++[x]) W'))
  (J:d [] W) :
  CallsIn Fence.wide 2 prog 257 #[.func (.yield l) #[] #[],.pointer (some ⟨b1,0,none⟩),.pointer (some ⟨az,0,none⟩)] W λe W'=>(∃ v,e=.returned v)/\
   ((∃ ys:List (Fin n),ys.map Fin.val=List.range n/\d ys W')\/(∃ pre,True/\q pre W')):=by
 refine callsIn_wide.2 (Calls.mono (R:=λe w'=>∃ x,e=.returned x/\((∃ ys:List (Fin n),ys.map Fin.val=List.range n/\d ys w')\/(∃ pre,True/\q pre w'))) ?_ λe w' ⟨x,U,r⟩=>⟨⟨x,U⟩,r⟩);refine a' Tryz.func257 (args:=[.func (.yield l) #[] #[],.pointer (some ⟨b1,0,none⟩),.pointer (some ⟨az,0,none⟩)]) (R:=λ_ w'=>(∃ ys:List (Fin n),ys.map Fin.val=List.range n/\d ys w')\/(∃ pre,True/\q pre w')) ?_;rw[UT];refine cP mix (λm env u=>∃ (i:Nat) (H:au) (pre:List (Fin n)),m=n-i/\i<=n/\env=xD (.func (.yield l) #[] #[]) ⟨b1,0,none⟩ ⟨az,0,none⟩ ((9*i:Nat):Int) H/\pre.map Fin.val=List.range i/\d pre u/\iP b1 az a (9*n) cap u) n
  ⟨0,_,[],by omega,by omega,rfl,rfl,J,O⟩ ?_
 rintro m env u ⟨i,H,pre,rfl,Y,rfl,o,B,D,T⟩;rw[TW];refine⟨a,9*n,cap,D,a5 (λQ=>?_) (λQ=>?_)⟩
 ·rintro w1 p;have b:Go.bd.ai u w1:=by rw[p];exact cC _
  have w:w1.cell? ⟨b1,0,none⟩=some (.slice a (9*n) cap):=by simp_all
  have E:w1.cell? ⟨az,0,none⟩=some (.int .i64 9):=by simp_all
  clear p;refine⟨λz=>iP b1 az a (9*n) cap z,⟨w,E⟩,9,λz ax=>ax.2,a,9*n,cap,λz ax=>ax.1,?_⟩;refine⟨by omega,by omega,by omega,by omega,f,?_⟩;refine⟨a,9*n,cap,w,?_⟩;have j:(if(((((9*n:Nat):Int)).toNat-((9*i:Nat):Int).toNat:Nat):Int)<9 then(((((9*n:Nat):Int)).toNat-((9*i:Nat):Int).toNat:Nat):Int)else 9)=9:=by grind
  rw[j,bq (x:=((9*i:Nat):Int)+9) (by omega) (by omega)];refine⟨by omega,by omega,by omega,by omega,f,?_⟩;have I:(if((9*i:Nat):Int)+9=((9*i:Nat):Int)then a else a.map (·.add ((((9*i:Nat):Int)).toNat*1)))=jW a i:=by
   have t:(((9*i:Nat):Int)).toNat*1=9*i:=by omega
   rw[aW (by omega),t];rfl
  have el:(((9*i:Nat):Int)+9).toNat-(((9*i:Nat):Int)).toNat=9:=by omega
  rw[I,el];have y:d pre w1:=L _ _ _ none B ⟨b.os,b.tape,b.output,b.size,λk P _=>b.block k P id⟩ (λ_ h=>by cases h);have C:=eh List.length o;rw[jc,rH]at C;have g:i<n:=by omega
  obtain⟨fn,tmps,assign,body,V,r⟩:=N pre ⟨i,g⟩ w1 y (by omega);refine⟨fn,tmps,assign,body,V,r.1,λc cs _=>?_⟩;obtain⟨e,X,K,S⟩:=r.2 c cs (room_wide _);refine⟨e,X,?_,S⟩;rcases K with⟨rfl,A,M⟩ | ⟨rfl,G⟩
  ·have F:=M ⟨w,E⟩;refine⟨true,rfl,dm rfl ⟨9,F.2,?_⟩⟩;dsimp only;rw[bq (x:=((9*i:Nat):Int)+9) (by omega) (by omega),show((9*i:Nat):Int)+9=((9*(i+1):Nat):Int) by omega];exact⟨n-(i+1),by omega,i+1,_,pre++[⟨i,g⟩],rfl,by omega,rfl,by grind[List.range_succ],A,F⟩
  grind
 grind
end
section
open Go.RowKit Go.Shelf
def oM (aQ:ba)(i:Nat):aD:=ra ((aQ.drop (2+9*i)).take 9)
def hX (aQ:ba)(n:Nat):List aD:=(List.range n).map (oM aQ)
abbrev ep:bU:=271
structure uI (I2:aj)(nu:Nat)(seq:Int)(aQ:ba)(pre:cV)(u:aj):Prop where
 ex:∃ a cap,aq u nu [.int .i64 seq,.slice a pre.length cap] ep/\aZ u eo 9 a pre.length cap (ef (pre.map (oM aQ))).flatten/\∀ k,aP a k->I2.heap.size<=k
 aC:ao (λk=>k=nu) I2 u
theorem Qf {l:aj}{o:Nat}{seq:Int}:OwnFrom l.heap.size (λ(ys:List (Fin n)) u=>uI l o seq aQ (ys.map Fin.val) u):=by
 rintro ys W W' row ⟨⟨a,cap,f,i,p⟩,d⟩ q j;have c:=sU q;refine⟨⟨a,cap,c.ak f (uf (W':=W') j f),?_,p⟩,d.trans c λk r e=>?_⟩
 ·refine⟨i.1,?_⟩;rcases i.2 with h | ⟨g,cur,he,b,rest⟩
  ·grind
  ·exact .inr ⟨g,cur,he,c.ak b (uf (W':=W') j b),rest⟩
 grind
theorem Lj (aQ:ba)(pre:cV)(i:Nat):(ef ((pre++[i]).map (oM aQ))).flatten=(ef (pre.map (oM aQ))).flatten++(oM aQ i).cells:=by simp[ef]
theorem iP.put {n cap:Nat}{W:aj}{l:Nat}{o d:Obj}(g:W.heap[l]?=some o)(i:o.isCells=false)(h:iP b1 az a n cap W):iP b1 az a n cap (W.putObj l d):=by
 have same:∀ {b:Nat} {v:bl},W.cell? ⟨b,0,none⟩=some v->(W.putObj l d).cell? ⟨b,0,none⟩=some v:=by
  intro b v h;obtain⟨j,e,f⟩:=cells_of_cell h;have c:b≠l:=by
   grind
  rw[World.cell?_of_block (w:=W)]
  ·exact h
  ·exact World.putObj_heap_other c
 exact⟨same h.1,same h.2⟩
theorem iP.aC {n cap:Nat}{W W':aj}{M:a6}(b:ao M W W')(c:¬ M b1)(d:¬ M az)(h:iP b1 az a n cap W):iP b1 az a n cap W':=⟨jG b h.1 c,jG b h.2 d⟩
abbrev pg (g:an)(fA cz:Nat)(lines:Int)(d e:Nat)(h:Int)(i:bl)(a b:Nat)(c:bl)(f:au):au:=
 qZ g fA cz lines ⟨d,0,none⟩ ⟨e,0,none⟩ h i (.func (.func 257) #[] #[.pointer (some ⟨a,0,none⟩),.pointer (some ⟨b,0,none⟩)]) c f
theorem LW (r:aj)(af q f j:Nat)(seq bx lines:Int)(aQ:ba)(n fA cz p:Nat)(bs b8:an)(br:au)(cK:n<=12)
  (aI:aq r q [.int .i64 seq,.slice none 0 0] ep) (Z:aq r f [.slice b8 (9*n) p] 94) (ab:aq r j [.int .i64 9] 3) (cx:q≠f) (cy:q≠j) (aV:9*n<=p)
  (bO:∀ i,i<n->bh r (jW b8 i) (us ((aQ.drop (2+9*i)).take 9))/\∀ k,aP (jW b8 i) k->k≠q) (cr:2+9*n<=aQ.length) (hu:∀ x ∈ aQ,ch x) (Q:Exit->Act->aK)
  (c4:∀ D W (ys:List (Fin n)),r.heap.size<=D->ys.map Fin.val=List.range n->uI r q seq aQ (ys.map Fin.val) W->W.heap[D]?=some (.deferred (some []))->
   Q .normal {tmps:=(pg bs fA cz lines af q bx undef f j undef br).toArray,defers:=[{target:=.collected D,args:=#[]}]} W) :
  (Code.rangeFunc (.tmp 50) #[51] (sub (ay f251) [1,1,1,1,1,1,0,1,0,0]) (.block 1 (sub (ay f251) [1,1,1,1,1,1,0,1,0,1,0]))).wpIn Fence.wide 3 prog Q
   (act (pg bs fA cz lines af q bx undef f j undef br)) r:=by
 obtain⟨inf,cv,ax,I,cu⟩:=ft (T:=eo) (z:=il.val) (n:=9) (m:=72) (by kernel_rfl);have aR:iP f j b8 (9*n) p r:=⟨Z.cell rfl,ab.cell rfl⟩;have b4:=aI.lt;refine wpIn_rangeFunc_ownH rfl (by omega) (gf:=257) (lb:=#[.pointer (some ⟨f,0,none⟩),.pointer (some ⟨j,0,none⟩)]) rfl trivial (enters_of Tryz.func257 (by kernel_rfl) rfl)
  (encs:=λx:Fin n=>#[.slice (jW b8 x.val) 9 9]) (Kp:=λA B=>iP f j b8 (9*n) p A->iP f j b8 (9*n) p B) (S:=λys=>ys.map Fin.val=List.range n) (Sp:=λ_=>True) (N:=n) (w0:=r)
  (λl b9 b_ W eT ck cl cm ca=>Nk l f j b8 p n b9 b_ (by omega) aV W ?bG ck cm ca)
  (λcb cd h=>cd (cb h)) (λW l o cL _ b5 M _ h=>h.put b5 M) (Below.refl _ _) (λ_=>rfl) (λys u=>uI r q seq aQ (ys.map Fin.val) u) (λ_ _ _=>False) Qf (λ_ _ _ _ _ bb _ _=>bb)
  ⟨⟨none,0,aI,aZ.nil _ _ _,λk H=>by obtain⟨o,M⟩:=H;cases M⟩,ao.refl _ _⟩
  (λx bS W=>bS=act (pg bs fA cz lines af q bx (.slice (jW b8 x.val) 9 9) f j (.slice (jW b8 x.val) 9 9) br)) ?own ?assign ?body ?done ?stop
 case bG=>
  have cell:∀ {b:Nat} {v:bl},b<r.heap.size->r.cell? ⟨b,0,none⟩=some v->W.cell? ⟨b,0,none⟩=some v:=λa5 h=>(World.cell?_of_block (eT.block _ a5)).trans h
  exact⟨cell Z.lt aR.1,cell ab.lt aR.2⟩
 case own=>exactλ_ _ _ _ _ _ h _ _=>h
 case assign=>
  intro l pre x W K ag bH;suffices bb:∀ a:Act,a=act (pg bs fA cz lines af q bx undef f j (.slice (jW b8 x.val) 9 9) (ae br 0 66 []))->Code.wpIn (Fence.wide.inRound l) (3-1-1) prog (sub (ay f251) [1,1,1,1,1,1,0,1,0,0]) (Exit.then K (λ_ _ _=>False)) a W from bb _ (by kernel_rfl)
  rintro _ rfl;refine wpIn_mono (nt mix (CK l) (ds:=[]) _ _ (aM (λenv u=>K (act env) u) λ_ _ _=>False) W (by kernel_rfl) ?_) (λe a w h=>?_)
  ·rw[Yy (d:=undef)];exact bH _ _ (KeepsFrom.refl _ _) (λh=>h) ag rfl
  ·obtain⟨cA,env,rfl,a8⟩:=mB h;cases e with
   |normal=>exact a8
   |panic c=>grind
   |outgrown=>grind
   | _=>exact a8.elim
 case body=>
  rintro l pre x bS W b5 _ ag rfl a5;refine wpIn_block ?_;suffices bb:∀ a:Act,a=act (pg bs fA cz lines af q bx (.slice (jW b8 x.val) 9 9) f j (.slice (jW b8 x.val) 9 9) (ae br 0 66 []))->Code.wpIn (Fence.wide.inRound l) (3-1-1) prog (sub (ay f251) [1,1,1,1,1,1,0,1,0,1,0]) (Exit.inBlock 1 (ownPostG r.heap.size (λA B=>iP f j b8 (9*n) p A->iP f j b8 (9*n) p B) (λ(ys:List (Fin n)) u=>uI r q seq aQ (ys.map Fin.val) u) (λ_ _ _=>False) (pre++[x]) W)) a W from bb _ (by kernel_rfl)
  rintro _ rfl;refine wpIn_mono (nt mix (CK l) (ds:=[]) _ _ (aM (λenv u=>KeepsFrom r.heap.size W u/\(iP f j b8 (9*n) p W->iP f j b8 (9*n) p u)/\uI r q seq aQ ((pre++[x]).map Fin.val) u) λ_ _ _=>False) W (by kernel_rfl) ?_) (λe a w h=>?_)
  ·rw[Yl (s8:=undef) (d:=undef)];obtain⟨⟨a,cap,aL,Y,ah⟩,R⟩:=ag;rw[jc]at aL Y;rintro bD bk;have V:Go.bd.ai W bD:=by rw[bk];exact cC _
   clear bk;have J:=ai.ak V aL;refine⟨λy=>Go.bd.ai bD y,ao.refl _ _,a,pre.length,cap,λy bR=>(ai.ak bR J).cell (i:=1) rfl,?_⟩;obtain⟨a9,bN⟩:=bO x.val x.isLt;have a4:ao (λk=>k=q) r bD:=R.new V;have bQ:bh bD (jW b8 x.val) (us ((aQ.drop (2+9*x.val)).take 9)):=a9.aC a4 (gF a9 bN);have cD:=x.isLt;refine aE (SL bQ (by grind) (λy bR=>hu y (qb (v3 bR))) (dr 9)) ?_;rintro v cM ⟨rfl,X⟩;refine aD.aT _ ⟨rfl,X,?_⟩;rintro bY cG bK bm;obtain⟨ad,a7⟩:=bo bK bm;have ad:aq cG bY (oM aQ x.val).cells eo:=ad;clear bm;refine⟨X.new a7,?_⟩;have L:=X.new a7;have F:=V.new L;have O:=aZ.new F Y;rw[<-I]at O;obtain⟨ap,C,bW,a',G,aW,bJ⟩:=aZ.append (P:=prog) (t:=37) (ty:=37) Tryz.underlying37 cv ax (by rw[I];rfl) (by omega) O
    (s:=some ⟨bY,0,none⟩) (m:=1) (c:=1) (news:=(oM aQ x.val).cells) (by rw[I];rfl) (e6 ad rfl) (λu hu=>by grind[aD.single]) (by omega) (by grind)
   rw[I]at G;have b6:=R.size;have bL:¬ aP a q:=λh=>by grind
   have E:aq bW q [.int .i64 seq,.slice a pre.length cap] ep:=aW.ak (ai.ak L J) bL;refine⟨ap,pre.length+1,C,bW,a',⟨_,E.cell (i:=1) rfl⟩,E.frozen,?_⟩;rintro bX bq;have a1:ao (λk=>k=q) bW bX:=by rw[bq];exact eY _ _ _ _
   have cq:aq bX q [.int .i64 seq,.slice ap (pre.length+1) C] ep:=by rw[bq];exact E.setCell (i:=1) _
   have aB:∀ k,aP ap k->r.heap.size<=k:=by
    intro k H;rcases bJ with e | e
    ·grind
    ·obtain⟨o,M⟩:=H;rw[e]at M;simp at M;have:=F.size;omega
   have U:ao (λk=>aP a k\/k=q) W bX:=((ao.b7 F).trans aW (λ_ _ h=>.inl h)).trans a1 (λ_ _ h=>.inr h);refine⟨Cb U (λk H=>?_),λcf=>cf.aC U ?_ ?_,⟨ap,C,?_,?_,aB⟩,?_⟩
   ·rcases H with H | rfl
    ·rcases Y.2 with⟨he,_⟩ | ⟨g,cur,he,cH,_⟩
     ·obtain⟨o,M⟩:=H;grind
     ·obtain⟨o,M⟩:=H
      grind
    grind
   ·rintro(hm | hm)
    ·have:=ah _ hm;have:=Z.lt;omega
    grind
   ·rintro(hm | hm)
    ·have:=ah _ hm;have:=ab.lt;omega
    grind
   ·grind
   ·rw[lG,List.map_singleton,Lj];have:=aZ.aC a1 G (λk H e=>by grind)
    grind
   ·refine(R.trans U λk H hm=>?_)
    grind
  ·obtain⟨cA,env,rfl,a8⟩:=mB h;cases e with
   |normal=>exact a8
   |panic c=>grind
   |outgrown=>grind
   | _=>exact a8.elim
 case done=>rintro D ys W cj bV ag bH;exact c4 D W ys cj bV ag bH
 grind
end
section
open Go.RowKit Go.Shelf
def eg (aQ:ba)(lines:Int):Int:=
 if¬ (98<=lines/\lines<=256)then 18 else if aQ.length<2\/1073741824<=aQ.getD 0 0\/12<aQ.getD 1 0 then 14
 else if(aQ.length:Int)<3+9*aQ.getD 1 0 then 14
 else if fJ (aQ.getD 0 0) (hX aQ (aQ.getD 1 0).toNat) lines≠0 then 14
 else if fe (aQ.getD 0 0) (hX aQ (aQ.getD 1 0).toNat)≠aQ.take (3+9*(aQ.getD 1 0).toNat)then 14 else 0
def ev (aQ:ba)(lines:Int):Int×List aD:=if eg aQ lines=0 then(aQ.getD 0 0,hX aQ (aQ.getD 1 0).toNat)else(0,[])
def eZ (w:aj)(R:Int×List aD)(last:bl)(v:bl)(w':aj):Prop:=∃ a cap,v=.tuple #[bX.val ⟨R.1,a,R.2.length,cap⟩,last]/\ai w w'/\fm w' a R.2.length R.2/\∀ k,aP a k->w.heap.size<=k
theorem Al (w:aj):fm w none 0 []:=⟨.inl rfl,rfl,by simp,λp a=>by cases a⟩
theorem Pk (h:eg aQ lines≠0):ev aQ lines=(0,[]):=aW h
theorem eZ.no {e:Int}(he:eg aQ lines=e)(c:e≠0)(b:ai w w'):eZ w (ev aQ lines) (.int .i64 (eg aQ lines)) (.tuple #[bX.val ⟨0,none,0,0⟩,.int .i64 e]) w':=by rw[Pk (by grind),he];exact⟨none,0,rfl,b,Al _,λk a=>b_ a nK⟩
abbrev iO:bX:=⟨0,none,0,0⟩
theorem ph {u:aj}{b:Nat}{zs:au}(ax:aq u b zs ep)(g:zs.length=2)(r:bX){K:bX->aK}(f:∀ e,ao (λk=>k=b) u e->aq e b r.cells ep->K r e) :
  dT u ⟨b,0,none⟩ 0 r.cells/\∀ a,a=cv u ⟨b,0,none⟩ 0 r.cells->bX.ex λres=>b6 a ⟨b,0,none⟩ 0 res.cells/\a=a/\K res a:=
 dI ax (by rw[g];rfl) (bX.single _) λa c d=>bX.aT r ⟨bJ c rfl,rfl,f a d c⟩
theorem ha {Q:Exit->au->aK}{c:Code}{env:au}(a:∀ env w,Q .ret env w=cS P fn R .ret env w)(h:Go.bd.W P c env (aV P fn R Q) w):Go.bd.W P c env Q w:=(xv a).mp h
theorem Nl (w:aj)(lines:Int):a9 203 [.int .i64 lines] w λv w'=>v=.bool (decide (98<=lines/\lines<=256))/\w'=w:=by
 refine a' Tryz.func203 ?_
 grind[IZ]
structure sq (w:aj)(a:an)(fA cz:Nat)(aQ:ba)(lines:Int)(n:Nat)(xy:Nat)(env:au)(u:aj):Prop where
 ex:∃ (nu Bq Br G2:Nat) (b8:an) (TL:au),env=pg a fA cz lines xy nu ((3+9*n:Nat):Int) undef Bq Br undef TL/\aq u nu [.int .i64 (aQ.getD 0 0),.slice none 0 0] ep/\aq u Bq [.slice b8 (9*n) G2] 94/\aq u Br [.int .i64 9] 3/\nu≠Bq/\nu≠Br/\xy≠nu/\w.heap.size<=nu/\9*n<=G2/\
  ∀ i,i<n->bh u (jW b8 i) (us ((aQ.drop (2+9*i)).take 9))/\∀ k,aP (jW b8 i) k->k≠nu
 res:aq u xy [.int .i64 0,.slice none 0 0] ep
 new:ai w u
 old:w.heap.size<=xy
theorem Nm (lines:Int)(D:bh w a (us aQ))(L:fA=aQ.length)(bV:fA<=cz)(hu:∀ x ∈ aQ,ch x)(aR:fA<=1000) :
  Go.bd.W prog d8 ((.slice a fA cz)::(.int .i64 lines)::(a1 72 [])) (aV prog f251 (eZ w (ev aQ lines) (.int .i64 (eg aQ lines))) (pf λenv u=>sq w a fA cz aQ lines (aQ.getD 1 0).toNat w.heap.size env u/\(98<=lines/\lines<=256)/\3+9*(aQ.getD 1 0).toNat<=aQ.length/\0<=aQ.getD 0 0/\aQ.getD 0 0<1073741824/\0<=aQ.getD 1 0/\aQ.getD 1 0<=12)) w:=by
 rw[Ka];rintro b1 w1 A E;obtain⟨f,r⟩:=bo A E;have f:aq w1 b1 iO.cells ep:=f;clear E;subst A;have no:∀ {u:aj} {e:Int},ai w1 u->eg aQ lines=e->e≠0->dT u ⟨w.heap.size,0,none⟩ 0 iO.cells/\∀ g,g=cv u ⟨w.heap.size,0,none⟩ 0 iO.cells->bX.ex λres=>b6 g ⟨w.heap.size,0,none⟩ 0 res.cells/\g=g/\eZ w (ev aQ lines) (.int .i64 (eg aQ lines)) (.tuple #[res.val,.int .i64 e]) g:=by intro u e C he a7;refine ph (ai.ak C f) rfl iO (K:=λres g=>eZ w (ev aQ lines) (.int .i64 (eg aQ lines)) (.tuple #[res.val,.int .i64 e]) g) λb4 J _=>eZ.no he a7 ((r.new C).trans J λk bs e=>by omega)
 refine aE (Nl w1 lines) ?_;rintro v g ⟨rfl,rfl⟩;refine⟨_,rfl,eu (λaR=>no (ao.refl _ _) (bm (of_decide_eq_false aR)) (by decide)) (λbK=>?_)⟩
 have br:=qa bK;rw[Yx,Yk];refine ha (fn:=f251) (R:=eZ w (ev aQ lines) (.int .i64 (eg aQ lines))) (λ_ _=>rfl) ?_;rw[ZN];have l:=r;have z:aQ.length<2\/1073741824<=aQ.getD 0 0\/12<aQ.getD 1 0->eg aQ lines=14:=λh=>by unfold eg;grind
 have bad:eg aQ lines=14->∀ (s8 I:bl) (aT:au),aM (λenv y=>Go.bd.W prog (sub d8 [1,1,0,1]) env (aM (λenv aB=>Go.bd.W prog (sub d8 [1,1,1]) env (aV prog f251 (eZ w (ev aQ lines) (.int .i64 (eg aQ lines))) (pf λenv u=>sq w a fA cz aQ lines (aQ.getD 1 0).toNat w.heap.size env u/\(98<=lines/\lines<=256)/\3+9*(aQ.getD 1 0).toNat<=aQ.length/\0<=aQ.getD 0 0/\aQ.getD 0 0<1073741824/\0<=aQ.getD 1 0/\aQ.getD 1 0<=12)) aB) (aV prog f251 (eZ w (ev aQ lines) (.int .i64 (eg aQ lines))) (pf λenv u=>sq w a fA cz aQ lines (aQ.getD 1 0).toNat w.heap.size env u/\(98<=lines/\lines<=256)/\3+9*(aQ.getD 1 0).toNat<=aQ.length/\0<=aQ.getD 0 0/\aQ.getD 0 0<1073741824/\0<=aQ.getD 1 0/\aQ.getD 1 0<=12))) y) (aM (λenv y=>Go.bd.W prog (sub d8 [1,1,1]) env (aV prog f251 (eZ w (ev aQ lines) (.int .i64 (eg aQ lines))) (pf λenv u=>sq w a fA cz aQ lines (aQ.getD 1 0).toNat w.heap.size env u/\(98<=lines/\lines<=256)/\3+9*(aQ.getD 1 0).toNat<=aQ.length/\0<=aQ.getD 0 0/\aQ.getD 0 0<1073741824/\0<=aQ.getD 1 0/\aQ.getD 1 0<=12)) y) (aV prog f251 (eZ w (ev aQ lines) (.int .i64 (eg aQ lines))) (pf λenv u=>sq w a fA cz aQ lines (aQ.getD 1 0).toNat w.heap.size env u/\(98<=lines/\lines<=256)/\3+9*(aQ.getD 1 0).toNat<=aQ.length/\0<=aQ.getD 0 0/\aQ.getD 0 0<1073741824/\0<=aQ.getD 1 0/\aQ.getD 1 0<=12))) .normal (vi a fA cz lines ⟨w.heap.size,0,none⟩ s8 true I aT) g:=by intro he s8 I aT;refine cb (ha (fn:=f251) (R:=eZ w (ev aQ lines) (.int .i64 (eg aQ lines))) (λ_ _=>rfl) ?_);rw[Ig];exact fq rfl (no (ao.refl _ _) he (by decide))
 refine a5 (λa8=>bad (z (.inl (by omega))) _ _ _) (λa8=>?_)
 have s:=D.new l;refine m8 s (i:=0) (by omega) L rfl λaW bN p=>⟨_,p _ (ao.refl _ _),a5 (λaL=>bad (z (.inr (.inl aL))) _ _ _) (λaL=>?_)⟩
 refine m8 s (i:=1) (by omega) L rfl λaZ bO q=>⟨_,q _ (ao.refl _ _),?_⟩
 by_cases a9:aQ.getD 1 0>12
 ·grind
 dsimp only;rw[decide_eq_false a9];refine cb (ha (fn:=f251) (R:=eZ w (ev aQ lines) (.int .i64 (eg aQ lines))) (λ_ _=>rfl) ?_);rw[Ig];refine dm rfl (cb ?_);rw[ZO];have ad:ch (aQ.getD 0 0):=by
  grind
 have ae:ch (aQ.getD 1 0):=by
  grind
 have Z:=ad.1;have ab:=ae.1;refine m8 s (i:=0) (by omega) L rfl λaW bN p=>⟨_,p _ (ao.refl _ _),?_⟩
 dsimp only;rw[bq (x:=aQ.getD 0 0) (by omega) (by omega)];rintro aI bQ Q F;obtain⟨t,B⟩:=bo Q F;have t:aq bQ aI iO.cells ep:=t;clear F;refine dI (vs:=bX.cells ⟨aQ.getD 0 0,none,0,0⟩) t rfl (bX.single _) λM G U=>?_
 have bD:=r.size;have bG:=B.size;have aP:=f.lt;have c:ai g M:=B.trans U λk J e=>by omega
 have d:=l.new c;refine m8 (D.new d) (i:=1) (by omega) L rfl λaZ bO q=>⟨_,q _ (ao.refl _ _),?_⟩
 obtain⟨n,X⟩:=qd ab;have Y:(aQ.getD 1 0).toNat=n:=by omega
 rw[Y];have a4:IntKind.i64.wrap (IntKind.i64.wrap (2+IntKind.i64.wrap (9*IntKind.i64.wrap (aQ.getD 1 0)))+1)=((3+9*n:Nat):Int):=by rw[X];rw[bq (x:=(n:Int)) (by omega) (by omega),bq (x:=9*(n:Int)) (by omega) (by omega),bq (x:=2+9*(n:Int)) (by omega) (by omega),bq (by omega) (by omega)];omega
 rw[a4];refine a5 (λa'=>no c ?_ (by decide)) (λa'=>?_)
 ·unfold eg
  grind
 rw[bq (x:=((3+9*n:Nat):Int)-1) (by omega) (by omega)];have V:us aQ≠[]:=λe=>by have:=eh List.length e;grind[ht,List.length_nil]
 obtain⟨b,o,rfl,S⟩:∃ b o,a=some ⟨b,o,none⟩/\True:=by
  rcases D with e | ⟨b,o,e,_⟩
  ·grind
  grind
 refine jq (by omega) (by omega) (by omega) (by omega) (by omega) λN bL=>?_
 have P:(((3+9*n:Nat):Int)-1).toNat-(2:Int).toNat=9*n:=by omega
 have O:((cz:Nat):Int).toNat-(2:Int).toNat=cz-2:=by simp
 rw[P,O];refine aE (Qe M N (9*n) (cz-2)) ?_;rintro v b5 ⟨rfl,af,ag,j,bJ⟩;refine⟨_,rfl,?_⟩;show _/\_;have bH:=c.size;have H:=ai.ak j G;have bk:=D.lt V;refine⟨⟨⟨aI,M.heap.size,M.heap.size+1,cz-2,N,_,rfl,H,af,ag,?_,?_,?_,?_,by omega,λi bW=>?_⟩,ai.ak (c.new j) f,d.new j,dr _⟩,br,by omega,Z,by omega,by omega,by omega⟩
 ·have:=G.lt;omega
 ·grind
 ·omega
 ·omega
 ·have ah:N=some ⟨b,o+2,none⟩:=by
   grind
  have T:jW N i=some ⟨b,o+(2+9*i),none⟩:=by
   rw[ah];simp only[jW,rD,lq]
   grind
  rw[T];refine⟨?_,λk J=>?_⟩
  ·have bb:=(D.new (d.new j)).drop (2+9*i);have bR:=bb.take 9;have e:((us aQ).drop (2+9*i)).take 9=us ((aQ.drop (2+9*i)).take 9):=by simp[us]
   grind
  ·obtain⟨bY,bx⟩:=J
   grind
end
section
open Go.RowKit Go.Shelf
theorem SN {ds:List Deferred}{e:Exit}{a:Act}(h:mb ds (aV P fn R λ_ _ _=>False) e a w):mb ds (cS P fn R) e a w:=by
 obtain⟨d,env,rfl,b⟩:=mB h;cases e with
 |normal=>exact b.elim
 |ret=>exact g0 b d
 |panic c=>grind
 |outgrown=>grind
 |exit i=>exact b.elim
 |goto i=>exact b.elim
theorem Ff (hu:∀ x ∈ aQ,ch x)(n:Nat):∀ p ∈ hX aQ n,ch p.Head:=by
 intro p a;obtain⟨i,_,rfl⟩:=dD.1 a;show ch (((aQ.drop (2+9*i)).take 9).getD 1 0)
 grind[gU,List.mem_of_mem_drop,List.mem_of_mem_take,List.mem_of_getElem?]
theorem sZ (aQ:ba)(n:Nat):(hX aQ n).length=n:=by simp[hX]
theorem M4 {w W:aj}(ae:bh w a (us aQ))(bH:fA=aQ.length)(bD:fA<=cz)(hu:∀ x ∈ aQ,ch x)(L:fA<=1000)(a1:(aQ.getD 1 0)=n)(ad:n<=12)(bG:98<=lines/\lines<=256)(hlen:3+9 * n<=aQ.length)(a8:0<=aQ.getD 0 0)(a9:aQ.getD 0 0<1073741824)
  {f H D cap:Nat} {a2:an} (G:aq W f iO.cells ep) (B:aq W H [.int .i64 (aQ.getD 0 0),.slice a2 n cap] ep) (aR:f≠H) (d:aZ W eo 9 a2 n cap (ef (hX aQ n)).flatten) (O:∀ k,aP a2 k->k≠f/\w.heap.size<=k) (hw:ai w W) (bs:w.heap.size<=f) (bx:w.heap.size<=D) (q:W.heap[D]?=some (.deferred (some []))) (I:au) :
  Go.bd.W prog (sub d8 [1,1,1,1,1,1,1]) (BW a fA cz lines ⟨f,0,none⟩ ⟨H,0,none⟩ ((3+9*n:Nat):Int) I) (aV prog f251 (λv u=>u.heap[D]?=some (.deferred (some []))/\eZ w (ev aQ lines) (.int .i64 (eg aQ lines)) v (u.putObj D (.deferred none))) λ_ _ _=>False) W:=by
 have J:D≠f:=λe=>by
  rw[e,show W.heap[f]?=_ from G]at q
  grind
 have a5:∀ k,aP a2 k->k≠D:=by
  intro k i e;obtain⟨o,N⟩:=i;rcases d.2 with⟨he,_⟩ | ⟨g,cur,he,aW,_⟩
  ·grind
  ·rw[he]at N;simp at N;rw[<-e,<-N.1,show W.heap[g]?=_ from aW]at q
   grind
 have ag:∀ {u:aj},ao (λk=>k=f) W u->u.heap[D]?=some (.deferred (some []))/\ao (λk=>k=f\/k=D) W (u.putObj D (.deferred none))/\ai w (u.putObj D (.deferred none)):=by intro u i;have aL:u.heap[D]?=some (.deferred (some [])):=(i.block D (Ci.1 q).1 J).trans q;have Z:ao (λk=>k=f\/k=D) W (u.putObj D (.deferred none)):=(ao.mono i (λ_ _ h=>Or.inl h)).trans (sU (grownBy_putObj' u D (.deferred none))) (λk M e=>.inr (by grind));exact⟨aL,Z,hw.trans Z λk M e=>by grind⟩
 have a4:(aQ.getD 1 0).toNat=n:=by omega
 have br:eg aQ lines=if fJ (aQ.getD 0 0) (hX aQ n) lines≠0 then 14 else if fe (aQ.getD 0 0) (hX aQ n)≠aQ.take (3+9*n)then 14 else 0:=by
  unfold eg
  grind
 have aI:eg aQ lines=0->ev aQ lines=(aQ.getD 0 0,hX aQ n):=λh=>by
  unfold ev
  grind
 rw[Yz,Yn];refine ha (fn:=f251) (R:=λv u=>u.heap[D]?=some (.deferred (some []))/\eZ w (ev aQ lines) (.int .i64 (eg aQ lines)) v (u.putObj D (.deferred none))) (λ_ _=>rfl) ?_;rw[ZP];rintro w1 F;have j:ai W w1:=by rw[F];exact cC _
 clear F;have l:fm w1 a2 n (hX aQ n):=⟨(bh.new j d.rd),(sZ aQ n).symm,by grind [sZ],Ff hu n⟩;have ab:=ai.ak j B;have last:∀ (t:Bool) (u:aj),ai W u->(t=true->eg aQ lines=14)->(t=false->eg aQ lines=0)->∀ I,Go.bd.W prog (sub d8 [1,1,1,1,1,1,1,0,1]) (yC ⟨f,0,none⟩ ⟨H,0,none⟩ t I)
   (aM (λenv T=>Go.bd.W prog (sub d8 [1,1,1,1,1,1,1,1]) env (aV prog f251 (λv u=>u.heap[D]?=some (.deferred (some []))/\eZ w (ev aQ lines) (.int .i64 (eg aQ lines)) v (u.putObj D (.deferred none))) λ_ _ _=>False) T) (aV prog f251 (λv u=>u.heap[D]?=some (.deferred (some []))/\eZ w (ev aQ lines) (.int .i64 (eg aQ lines)) v (u.putObj D (.deferred none))) λ_ _ _=>False)) u:=by
  intro t u z bL L I;refine ha (fn:=f251) (R:=λv u=>u.heap[D]?=some (.deferred (some []))/\eZ w (ev aQ lines) (.int .i64 (eg aQ lines)) v (u.putObj D (.deferred none))) (λ_ _=>rfl) ?_;rw[ZQ];have ax:=ai.ak z G;cases t with
  |true=>
   refine fq rfl (ph ax rfl iO (K:=λres A=>A.heap[D]?=some (.deferred (some []))/\eZ w (ev aQ lines) (.int .i64 (eg aQ lines)) (.tuple #[res.val,.int .i64 14]) (A.putObj D (.deferred none))) λbb i _=>?_);obtain⟨V,X,Y⟩:=ag ((ao.b7 z).trans i λ_ _ e=>e)
   grind[eZ.no]
  |false=>
   refine dm rfl (cb ?_);rw[ZR];refine bX.aT ⟨aQ.getD 0 0,a2,n,cap⟩ ⟨bJ (ai.ak z B) rfl,?_⟩;refine ph ax rfl ⟨aQ.getD 0 0,a2,n,cap⟩ (K:=λres A=>A.heap[D]?=some (.deferred (some []))/\eZ w (ev aQ lines) (.int .i64 (eg aQ lines)) (.tuple #[res.val,.int .i64 0]) (A.putObj D (.deferred none))) λbb i _=>?_
   obtain⟨V,X,Y⟩:=ag ((ao.b7 z).trans i λ_ _ e=>e);rw[aI (L rfl),L rfl];refine⟨V,a2,cap,by rw[sZ],Y,?_⟩;rw[sZ];exact⟨⟨d.rd.aC X (gF d.rd λk i e=>by grind),l.len,l.ej,l.u64⟩,λk i=>(O k i).2⟩
 refine⟨λy=>ai w1 y,ao.refl _ _,bX.aT ⟨aQ.getD 0 0,a2,n,cap⟩ ⟨λu hu=>bJ (ai.ak hu ab) rfl,?_⟩⟩;refine aE (wj (r:=⟨aQ.getD 0 0,a2,n,cap⟩) l lines) ?_;rintro v A ⟨rfl,c⟩;refine⟨_,rfl,c,dw (λhe=>?_) (λhe=>bX.aT ⟨aQ.getD 0 0,a2,n,cap⟩ ⟨λu hu=>bJ (ai.ak hu ab) rfl,?_⟩)⟩
 ·exact cb (last true A (j.new c) (λ_=>by grind) (λh=>by cases h) _)
 have ar:fJ (aQ.getD 0 0) (hX aQ n) lines=0:=he;obtain⟨_,af,a7,_⟩:=jn ar;have P:=ae.new (hw.new (j.new c));obtain⟨b,o,rfl⟩:∃ b o,a=some ⟨b,o,none⟩:=by
  rcases ae with e | ⟨b,o,e,_⟩
  ·have:=eh List.length e;grind[ht,List.length_nil]
  grind
 refine jq (by omega) (by omega) (by omega) (by omega) (by omega) λbo a'=>?_
 have S:bo=some ⟨b,o,none⟩:=by
  grind
 subst S;refine aE (z9 (r:=⟨aQ.getD 0 0,a2,n,cap⟩) (l.new c) (zG ar) ⟨af.1,af.2.1⟩ (by grind) (λp bK=>by grind)) ?_;rintro v bk ⟨bq,U,rfl,s,E,_⟩;rw[sZ]at E ⊢;refine⟨_,_,_,rfl,c.new s,?_⟩;have ah:((3+9*n:Nat):Int).toNat-(0:Int).toNat=3+9*n:=by omega
 have aB:((cz:Nat):Int).toNat-(0:Int).toNat=cz:=by simp
 rw[ah,aB];have Q:bh bk (some ⟨b,o,none⟩) (us (aQ.take (3+9*n))):=by have:=(P.new s).take (3+9*n);rwa [show(us aQ).take (3+9*n)=us (aQ.take (3+9*n)) by simp[us]]at this
 refine aE (SM E.rd (by rw[pT,sZ]) Q (by grind) (by omega)) ?_;rintro v bm ⟨rfl,C⟩;refine⟨_,rfl,(c.new s).new C,cb (last _ bm (((j.new c).new s).new C) (λh=>?_) (λh=>?_) _)⟩
 ·grind
 grind
theorem Qg (lines:Int)(Y:bh w a (us aQ))(V:fA=aQ.length)(Q:fA<=cz)(hu:∀ x ∈ aQ,ch x)(T:fA<=1000) :
  a9 251 [.slice a fA cz,.int .i64 lines] w (eZ w (ev aQ lines) (.int .i64 (eg aQ lines))):=by
 refine(callsIn_wide (n:=3)).1 ?_;refine callsIn_of_wp_marks (c:=ay f251) Tryz.func251 (by kernel_rfl) trivial ?_ rfl;suffices ae:∀ x:Act,x=act ((.slice a fA cz)::(.int .i64 lines)::(a1 72 []))->Code.wpIn Fence.wide 3 prog (ay f251) (bodyPostM Fence.wide 3 prog f251 λe w'=>∃ v,e=.returned v/\eZ w (ev aQ lines) (.int .i64 (eg aQ lines)) v w') x w from ae _ (by kernel_rfl)
 rintro _ rfl;refine ST mix CQ (ds:=[]) [1,1,1,1,1,1,0,1,0] _ _ _ _ _ (by kernel_rfl) (Nm lines Y V Q hu T) ?_ (λe x u h=>Ph (λv ar=>⟨v,rfl,ar⟩) (Pj h));intro env u A;have A:sq w a fA cz aQ lines (aQ.getD 1 0).toNat w.heap.size env u/\(98<=lines/\lines<=256)/\3+9*(aQ.getD 1 0).toNat<=aQ.length/\0<=aQ.getD 0 0/\aQ.getD 0 0<1073741824/\0<=aQ.getD 1 0/\aQ.getD 1 0<=12:=A;obtain⟨⟨⟨O,d,f,g,b8,Z,rfl,B,r,M,E,F,i,ag,b,q⟩,s,hw,ab⟩,ad,hlen,J,K,G,X⟩:=A;obtain⟨n,H⟩:=qd G;have l:(aQ.getD 1 0).toNat=n:=by omega
 rw[l]at r b hlen q;rw[show sub (ay f251) [1,1,1,1,1,1,0,1,0]=.rangeFunc (.tmp 50) #[51] (sub (ay f251) [1,1,1,1,1,1,0,1,0,0]) (.block 1 (sub (ay f251) [1,1,1,1,1,1,0,1,0,1,0])) by kernel_rfl];have C:∀ y,rT Fence.wide 3 prog (ay f251) [1,1,1,1,1,1,0,1,0] y=Exit.inBlock 0 (Exit.then (λa w=>(sub (ay f251) [1,1,1,1,1,1,1]).wpIn Fence.wide 3 prog y a w) y):=λy=>by kernel_rfl
 rw[C,l];refine LW u w.heap.size O d f (aQ.getD 0 0) ((3+9*n:Nat):Int) lines aQ n fA cz g a b8 Z (by omega) B r M E F b q (by omega) hu _ ?_;intro D W ys ah N P z;rw[N]at P;obtain⟨⟨a2,cap,o,p,I⟩,j⟩:=P;rw[rH]at o p;have t:=j.ak s (λe=>i e);have L:ai w W:=hw.trans j λk U e=>by omega
 have af:=hw.size;have S:=M4 (lines:=lines) Y V Q hu T H (by omega) ad hlen J K t o i p (λk U=>by have:=I k U;have:=s.lt;omega) L ab (by omega) z;show Code.wpIn Fence.wide 3 prog (sub (ay f251) [1,1,1,1,1,1,1]) (bodyPostM Fence.wide 3 prog f251 λe w'=>∃ v,e=.returned v/\eZ w (ev aQ lines) (.int .i64 (eg aQ lines)) v w') (mu [{target:=.collected D,args:=#[]}] (pg a fA cz lines w.heap.size O ((3+9*n:Nat):Int) undef d f undef Z)) W;refine wpIn_mono (nt mix CQ (ds:=[{target:=.collected D,args:=#[]}]) _ _ _ W (by kernel_rfl) ?_) (λe x u h=>Qc (R:=λv u=>u.heap[D]?=some (.deferred (some []))/\eZ w (ev aQ lines) (.int .i64 (eg aQ lines)) v (u.putObj D (.deferred none))) (λv ar=>⟨ar.1,v,rfl,ar.2⟩) (SN h));rw[show sub (ay f251) [1,1,1,1,1,1,1]=sub d8 [1,1,1,1,1,1,1] by kernel_rfl];rw[pg,Ym]
 grind
end
section
theorem LX {T:bU}{f:List Bool}(h:Go.gg.kl prog 8 T=some f)(d:gD prog T=true)(i:Program.eqGuardType prog (Program.depth prog) T=false){xs ys:au}(g:Go.gg.jD f xs ys){K:Bool->Prop}(e:K (Go.gg.fW xs ys)) :
  od prog T (.agg xs.toArray) (.agg ys.toArray) K:=by
 generalize c:Go.gg.fW xs ys=r at e;refine⟨r,λw=>?_,e⟩
 have b:=Go.gg.ur 8 T _ h 10000 (by omega) xs ys g w;unfold Go.gg.k0 at b;rw[bm d,bm d,c]at b;have a:(Op.equalIn 10000 T (.agg xs.toArray) (.agg ys.toArray)).run prog w=.ok r w:=b;cases r;all_goals exact⟨λop x y=>run_eqGuard_agg w op T x y _ _ i,by rw[run_eql_struct,a];rfl,by rw[run_neq_struct,a];rfl⟩
theorem Qh:Go.gg.kl prog 8 eo=some [false,false,false,false,false,false,false,false,false]:=by kernel_rfl
theorem RJ:gD prog eo=true:=by kernel_rfl
theorem Pl:Program.eqGuardType prog (Program.depth prog) eo=false:=by simp_all
theorem AL (p q:aD):Go.gg.fW p.cells q.cells=true↔p=q:=by obtain⟨a,b,b8,c,d,e,f,g,h⟩:=p;obtain⟨cz,i,ig,j,k,l,n,o,r⟩:=q;simp[aD.cells,Go.gg.fW,Go.gg.pE]
instance:DecidableEq aD:=λp q=>decidable_of_iff _ (AL p q)
theorem RK {l l2:List aD}(t:bh w a (ef l).flatten)(G:n=l.length)(A:bh w b (ef l2).flatten)(hm:m=l2.length)(D:n<=1000000):a9 256 [.slice a n c,.slice b m d] w λv w'=>v=.bool (decide (l=l2))/\ai w w':=by
 refine a' Tryz.func256 ?_;rw[Ux];refine dw (λe=>⟨?_,ao.refl _ _⟩) (λe=>?_)
 ·rw[decide_eq_false];grind
 have hlen:l.length=l2.length:=by omega
 refine cP mix (λq env u=>∃ (i:Nat) (s:au),q=l.length-i/\i<=l.length/\env=xB a n c b m d n i s/\ai w u/\l.take i=l2.take i) l.length
  ⟨0,_,by omega,by omega,rfl,ao.refl _ _,rfl⟩ ?_
 rintro q env u ⟨i,s,rfl,H,rfl,o,I⟩;rw[TI];refine a5 (λF=>?_) (λE=>?_)
 ·rintro w1 g;have k:ai u w1:=by rw[g];exact cC _
  clear g;have f:=o.new k;have p:l[i]?=some l[i]:=bW (by omega);have r:l2[i]?=some (l2[i]'(by omega)):=bW (by omega);generalize l[i]=x at p;generalize l2[i]=y at r;refine⟨λy=>ai w1 y,ao.refl _ _,?_⟩;refine io (cells:=aD.cells) aD.len (by decide) (t.new f) p rfl G λb1 J B=>aD.aT x ⟨λz ax=>jk (i:=0) λj v h=>by grind,?_⟩
  refine io (cells:=aD.cells) aD.len (by decide) (A.new f) r rfl hm λaz K C=>aD.aT y ⟨λz ax=>jk (i:=0) λj v h=>by grind,?_⟩
  refine LX Qh RJ Pl (xs:=x.cells) (ys:=y.cells) ⟨rfl,rfl,rfl,rfl,rfl,rfl,rfl,rfl,rfl,trivial⟩ ?_;refine eu (λD=>⟨?_,f⟩) (λhe=>?_)
  ·rw[decide_eq_false]
   grind[AL,Option.some.inj]
  ·rw[bq (x:=(i:Int)+1) (by omega) (by omega)];refine⟨l.length-(i+1),by omega,i+1,_,rfl,by omega,rfl,f,?_⟩
   grind[List.take_add_one,AL]
 grind[TY,List.take_of_length_le,decide_eq_true]
def fK (L:ba)(lines:Int):Bool:=decide (L.length=120) && (eg (L.drop 8) lines == 0)
def c9 (L:ba)(lines:Int):Int×List aD:=if fK L lines=true then ev (L.drop 8) lines else(0,[])
def pp (L:ba)(lines:Int):Bool:=fK L lines && (fZ (c9 L lines).1 == L.getD 0 0)
def li (L:ba)(lines:Int):Int×List aD:=if pp L lines=true then c9 L lines else(0,[])
structure sh (w:aj)(a:an)(n c:Nat)(L:ba):Prop where
 rd:bh w a (us L)
 len:n=L.length
 cap:n<=c
 u64:∀ x ∈ L,ch x
 ej:n<=1000
theorem sh.new {w w':aj}{a:an}{n c:Nat}{L:ba}(h:sh w a n c L)(b:ai w w'):sh w' a n c L:=⟨h.rd.new b,h.len,h.cap,h.u64,h.ej⟩
theorem eZ.zero {R:Int×List aD}{last a:bl}(b:R=(0,[]))(d:a=last)(e:ai w w'):eZ w R last (.tuple #[iO.val,a]) w':=by subst b d;exact⟨none,0,rfl,e,Al _,λk c=>b_ c nK⟩
theorem wJ (lines:Int)(h:sh w a n c L):a9 228 [.slice a n c,.int .i64 lines] w (eZ w (c9 L lines) (.bool (fK L lines))):=by
 refine a' Tryz.func228 ?_;rw[J'];rintro b1 w1 s p;obtain⟨f,g⟩:=bo s p;have f:aq w1 b1 iO.cells ep:=f;clear p;have hlen:=h.len;have D:=h.cap;have E:=h.ej;refine dw (λe=>?_) (λe=>?_)
 ·have r:fK L lines=false:=by grind[fK,decide_eq_false]
  refine ph f rfl iO (K:=λres q=>eZ w (c9 L lines) (.bool (fK L lines)) (.tuple #[res.val,.bool false]) q) λP l _=>eZ.zero ?_ ?_ (g.trans l λk u e=>by omega)
  ·unfold c9;grind
  grind
 have y:n=120:=by omega
 obtain⟨b,o,rfl⟩:∃ b o,a=some ⟨b,o,none⟩:=by
  rcases h.rd with e | ⟨b,o,e,_⟩
  ·have:=eh List.length e;grind[ht,List.length_nil]
  grind
 refine jq (by omega) (by omega) (by omega) (by omega) (by omega) λR B=>?_
 rcases B with rfl | ⟨e,_⟩;case inr=>omega
 have F:((n:Nat):Int).toNat-(8:Int).toNat=n-8:=by simp
 have G:((c:Nat):Int).toNat-(8:Int).toNat=c-8:=by simp
 rw[F,G];have A:bh w1 (some ⟨b,o+(8:Int).toNat*1,none⟩) (us (L.drop 8)):=by have:=(h.rd.new g).drop 8;rwa [show(us L).drop 8=us (L.drop 8) by simp[us]]at this
 refine aE (Qg lines A (by grind) (by omega) (λx O=>h.u64 x (qb O)) (by omega)) ?_;rintro v q ⟨a2,cap,rfl,j,d,z⟩;refine bX.aT ⟨(ev (L.drop 8) lines).1,a2,(ev (L.drop 8) lines).2.length,cap⟩ ⟨_,rfl,?_⟩;refine dP (vs:=bX.cells ⟨(ev (L.drop 8) lines).1,a2,(ev (L.drop 8) lines).2.length,cap⟩) rfl (bX.single _) λaz Q I C i=>?_
 refine bX.aT ⟨(ev (L.drop 8) lines).1,a2,(ev (L.drop 8) lines).2.length,cap⟩ ⟨bJ C rfl,?_⟩;have r:fK L lines=(eg (L.drop 8) lines == 0):=by grind[fK,decide_eq_true]
 have H:c9 L lines=ev (L.drop 8) lines:=by
  unfold c9;rw[r];split
  ·rfl
  ·rename_i J;unfold ev
   grind
 rw[H,r];have M:=g.size;have N:=j.size;refine ph (ai.ak (j.new i) f) rfl ⟨(ev (L.drop 8) lines).1,a2,(ev (L.drop 8) lines).2.length,cap⟩ (K:=λres q=>eZ w (ev (L.drop 8) lines) (.bool (eg (L.drop 8) lines == 0)) (.tuple #[res.val,.bool (eg (L.drop 8) lines == 0)]) q) λP l _=>?_
 exact⟨a2,cap,rfl,((g.new j).new i).trans l λk u e=>by omega,⟨(d.new i).rd.aC l (gF (d.new i).rd λk t e=>by have:=z k t;have:=f.lt;omega),d.len,d.ej,d.u64⟩,λk l=>by grind⟩
theorem Cg (lines:Int)(h:sh w a n c L):a9 246 [.slice a n c,.int .i64 lines] w (eZ w (li L lines) (.bool (pp L lines))):=by
 refine a' Tryz.func246 ?_;rw[Z7];rintro b1 w1 x q;obtain⟨g,d⟩:=bo x q;have g:aq w1 b1 iO.cells ep:=g;clear q;refine aE (wJ lines (h.new d)) ?_;rintro v t ⟨a2,cap,rfl,o,f,C⟩;refine bX.aT ⟨(c9 L lines).1,a2,(c9 L lines).2.length,cap⟩ ⟨_,rfl,?_⟩;refine dP (vs:=bX.cells ⟨(c9 L lines).1,a2,(c9 L lines).2.length,cap⟩) rfl (bX.single _) λaz F G r j=>?_
 have J:=d.size;have M:=o.size;have b:=o.new j;have no:pp L lines=false->∀ {u:aj},ai F u->dT u ⟨b1,0,none⟩ 0 iO.cells/\∀ s,s=cv u ⟨b1,0,none⟩ 0 iO.cells->bX.ex λres=>b6 s ⟨b1,0,none⟩ 0 res.cells/\s=s/\eZ w (li L lines) (.bool (pp L lines)) (.tuple #[res.val,.bool false]) s:=by intro H u p;refine ph (ai.ak (b.new p) g) rfl iO (K:=λres t=>eZ w (li L lines) (.bool (pp L lines)) (.tuple #[res.val,.bool false]) t) λO l _=>eZ.zero (aW (by grind)) (by rw[H]) ((d.new (b.new p)).trans l λk B e=>by omega)
 refine eu (λR=>no (by grind[pp]) (ao.refl _ _)) (λN=>⟨_,r.cell (i:=0) rfl,?_⟩);have hw:=N;unfold fK at hw;simp only[fP,jA,beq_iff_eq]at hw;have Q:c9 L lines=((L.drop 8).getD 0 0,hX (L.drop 8) ((L.drop 8).getD 1 0).toNat):=by
  unfold c9 ev
  grind
 have D:1<=(c9 L lines).1/\(c9 L lines).1<1073741824:=by
  grind[eg,fJ,hX,jn]
 refine aE (AP F D) ?_;rintro v T ⟨rfl,rfl⟩;refine⟨_,_,rfl,m8 ((h.rd.new d).new b) (i:=0) (by omega) h.len rfl λP S y=>⟨_,y _ (ao.refl _ _),dw (λI=>no ?_ (ao.refl _ _)) (λhe=>?_)⟩⟩
 ·grind[pp,fZ,c9,beq_eq_false_iff_ne]
 have E:pp L lines=true:=by
  unfold pp
  grind
 have z:li L lines=c9 L lines:=bm E;rw[E,z];refine bX.aT ⟨(c9 L lines).1,a2,(c9 L lines).2.length,cap⟩ ⟨bJ r rfl,?_⟩;refine ph (ai.ak b g) rfl ⟨(c9 L lines).1,a2,(c9 L lines).2.length,cap⟩ (K:=λres t=>eZ w (c9 L lines) (.bool true) (.tuple #[res.val,.bool true]) t) λO l _=>?_
 exact⟨a2,cap,rfl,(d.new b).trans l λk B e=>by omega,⟨(f.new j).rd.aC l (gF (f.new j).rd λk A e=>by have:=C k A;have:=g.lt;omega),f.len,f.ej,f.u64⟩,λk l=>by grind⟩
def xo (a b:Int×List aD):Bool:=a.1 == b.1 && decide (a.2=b.2)
theorem RL {p q:bX}{P Q:List aD}(h:fm w p.de p.dj P)(o:fm w q.de q.dj Q):a9 252 [p.val,q.val] w λv w'=>v=.bool (xo (p.Seq,P) (q.Seq,Q))/\ai w w':=by
 refine a' Tryz.func252 ?_;rw[Kl];rintro b1 w1 j e;obtain⟨c,l⟩:=bo j e;have c:aq w1 b1 p.cells ep:=c;clear e;rintro az r k f;obtain⟨a,d⟩:=bo k f;have a:aq r az q.cells ep:=a;clear f;have b:=ai.ak d c;have g:=l.new d;unfold xo;refine⟨_,b.cell (i:=0) rfl,_,a.cell (i:=0) rfl,dJ (λhe=>⟨_,_,_,b.cell (i:=1) rfl,_,_,_,a.cell (i:=1) rfl,?_⟩) (λhe=>⟨?_,g⟩)⟩
 ·refine aE (RK (h.new g).rd h.len (o.new g).rd o.len (by have:=h.ej;have:=h.len;omega)) ?_;rintro v s ⟨rfl,n⟩;refine⟨_,rfl,?_,g.new n⟩
  grind
 grind
end
section
open IntKind
variable (w:aj)(R:bg){a b c:Nat}{i k l:Int}{s:an}
theorem Xi (e:aU):bc prog f220 [bb a,e.val,ab i,ab k] R w=(aR w e.cells.toArray 116 λh l=>aR l #[ab 0,ab 0,ab 0,ab 0,ag 0,ag 0,a4,ag 0,ab 0] 158 λf g=>iq g (ah h 0) λr=>eH 245 #[bb a,r.val,.agg #[ab 1,ab 0,ab i,ab k,ag 0,ag 0,a4,ag 0,ab 0]] g λc j=>a8 j (ah f 0) 0 c.cells λd=>lZ d (ah f 0) λb=>d=d/\R b.val d):=by kernel_rfl
theorem Xj:bc prog f221 [bb a,af s b c] R w=(mL w (ah a 8) λt=>h4 116 #[.pointer t,af s b c] w λe d f g j=>cond (!g) (R (.tuple #[a4,ad false]) j) (cx 242 #[af e d f] j λh k=>cond (h != 0) (c6 222 #[bb a,ab h] k λi l=>R (.tuple #[a4,ad i]) l) (R (.tuple #[af e d f,ad true]) k))):=by kernel_rfl
theorem Xk:bc prog f222 [bb a,ab i] R w=(a8 w (ah a 15) 0 [ab i,ab 0,ab 0,ab 0,ag 0] λb=>R (ad false) b):=by kernel_rfl
theorem X' (e:aU):bc prog f223 [bb a,e.val,ab i,ag k,ag l] R w=(aR w e.cells.toArray 116 λh m=>aR m #[ab 0,ab 0,ab 0,ab 0,ag 0,ag 0,a4,ag 0,ab 0] 158 λf g=>iq g (ah h 0) λr=>eH 245 #[bb a,r.val,.agg #[ab 3,ab 0,ab i,ab 0,ag k,ag l,a4,ag 0,ab 0]] g λc j=>a8 j (ah f 0) 0 c.cells λd=>lZ d (ah f 0) λb=>d=d/\R b.val d):=by kernel_rfl
theorem VI (g:aU)(h:aI):bc prog f245 [bb a,g.val,h.val] R w=(aR w g.cells.toArray 116 λl p=>aR p h.cells.toArray 158 λk q=>aR q #[ab 0,ab 0,ab 0,ab 0,ag 0,ag 0,a4,ag 0,ab 0] 158 λi n=>ck n λj f=>B0 f (ah a 3) λd=>hf f (ah l 0) λr=>Il f (ah k 0) λo=>eH 241 #[d.val,r.val,ad true,o.val] j λb m=>a8 m (ah i 0) 0 b.cells λe=>lZ e (ah i 0) λc=>e=e/\R c.val e):=by kernel_rfl
theorem W1 (g:aU):bc prog f250 [bb a,g.val,ab i,af s b c] R w=(aR w g.cells.toArray 116 λk m=>aR m #[ab 0,ab 0,ab 0,ab 0,ag 0,ag 0,a4,ag 0,ab 0] 158 λh j=>iq j (ah k 0) λr=>eH 245 #[bb a,r.val,.agg #[ab 2,ab 0,ab i,ab 0,ag 0,ag 0,af s b c,ag 0,ab 0]] j λf l=>a8 l (ah h 0) 0 f.cells λe=>lZ e (ah h 0) λd=>e=e/\R d.val e):=by kernel_rfl
end
end Go.Proofs.YtmkljjbioomepaaGreat
