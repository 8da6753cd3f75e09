import Derived.Test.YtmkljjbioomepaaGreatProg
import Derived.Test.YtmkljjbioomepaaGreatb03
import Derived.Test.YtmkljjbioomepaaGreatb17
set_option linter.all false
set_option maxHeartbeats 4000000
set_option maxRecDepth 100000
namespace Go.Proofs.YtmkljjbioomepaaGreat
open Go.Proofs.Tryz Go.bu
variable {A M:a3} {B b c cap aX n tb:Nat} {G:List (List aO)} {K:bA->aE} {T:fV} {a:an} {ds:List aO} {j:cU} {lines seq:Int} {m bN:aY} {r:dv} {u bs w w0:ak} {v:aG} {vs:List aW} {ws:bd} {x:aW} {zs:ax}
section
open IntKind
variable (w:ak) (R:cB) {a b c d:Nat} {A B:aS} {s t:an} {i k:Int} {j:aq}
theorem Tc:bf prog f172 [a_ a] R w=(aQ w #[ab 0,ab 0] 171 λp t=>ct t λu l=>cN l (af a 0) λj=>uN l (af a 0) λs=>cm 209 #[ab j] u λb r=>l r/\Gs 168 #[s.val] r λh q=>l q/\eE 210 #[h.val] q λc d f n=>l n/\Calls prog 208 #[a_ a,ab b,ae c d f,ab 1] n λe o=>bA.ex λi=>∃ g,e=.returned (.tuple #[i.val,ad g])/\l o/\a' o (af p 0) 0 i.cells λm=>dV m (af p 0) λk=>m=m/\R (.tuple #[k.val,ad g]) m):=by kernel_rfl
theorem Td:bf prog f174 [a_ a] R w=(aQ w #[ab 0,ab 0] 171 λn l=>bS l (af a 1) λj=>ht 214 #[ab j] l λb c m=>bS m (af a 0) λd=>cm 215 #[ab d] m λf r=>aQ r #[ah b] 30 λo q=>Calls prog 208 #[a_ a,ab f,ae (bn o) 1 1,ab 2] q λe p=>bA.ex λh=>∃ g,e=.returned (.tuple #[h.val,ad g])/\a' p (af n 0) 0 h.cells λk=>dV k (af n 0) λi=>k=k/\R (.tuple #[i.val,ad g]) k):=by kernel_rfl
def ud (e s2:aS) (i:an) (a b:Nat) (c:an) (d f:Nat) (g h:Int) (j:aq):aq:=.pointer (some e)::ag j 0 1 (.pointer (some s2)::ag j 1 1 (ae i a b::ag j 2 10 (ae c d f::ab g::ab h::ag j 12 31 [])))
def Fp (a b:aS) (e:an) (c d:Nat) (j:aq):aq:=.pointer (some a)::ag j 0 1 (.pointer (some b)::ag j 1 1 (ae e c d::ag j 2 44 []))
theorem Sa:bf prog f175 [a_ a] R w=(aQ w #[ab 0,ab 0] 171 λh f=>lS f (af a 3) λd=>eE 216 #[d.val] f λe b c g=>cv prog (c0 f175 [1,1,0,1,0,0]) (ud (af a 0) (af h 0) none 0 0 e b c (b:Nat) 0 (undef::ad false::bb 5 (jp (af a 0)::jp (af a 0)::jp (af a 0)::jp (af a 3)::d.val::bb 31 []))) (aM 0 (aP f175 [1,1,1] R)) g):=by kernel_rfl
theorem Qx (C:aq->aE):W prog (sb f175 [1,1,0,1,0,0]) (ud A B s a b t c d i k j) (aU C (aM 0 (aP f175 [1,1,1] R))) w=(cond (k<i) (bm t c k 3 λD=>im w D λr=>aQ w #[ab 0,ab 0,ad false] 116 λy a7=>a' a7 (af y 0) 0 r.cells λz=>b5 z (bT A 6) λg h l=>cond ((h:Int)>0) (im z (af y 0) λF=>eE 217 #[.pointer (some A),F.val] z λm n o M=>c9 125 (ae s a b) (ae m n o) M λu p q H=>im H (af y 0) λG=>eL 218 #[.pointer (some A),G.val] H λx a6=>aQ a6 x.cells.toArray 158 λE K=>c9 125 (ae u p q) (ae (bn E) 1 1) K λe f v L=>C (ud A B e f v t c d i (i64.wrap (k+1)) (aF j 0::aF j 1::aF j 2::jp (af y 0)::ag j 4 8 (ad (k<i)::jp D::r.val::jp A::jp A::jp A::bq A 6::ae g h l::cX h::ad ((h:Int)>0)::ae s a b::jp A::F.val::ae m n o::ae u p q::ae u p q::jp A::G.val::x.val::ae (bn E) 1 1::ae e f v::ab (i64.wrap (k+1))::ag j 34 9 []))) L) (C (ud A B s a b t c d i (i64.wrap (k+1)) (aF j 0::aF j 1::aF j 2::jp (af y 0)::ag j 4 8 (ad (k<i)::jp D::r.val::jp A::jp A::jp A::bq A 6::ae g h l::cX h::ad ((h:Int)>0)::ag j 22 11 (ab (i64.wrap (k+1))::ag j 34 9 [])))) z)) (W prog (sb f175 [1,1,1]) (Fp A B s a b (ag j 0 12 (ae t c d::ab i::ab k::ad (k<i)::ag j 13 30 []))) (bZ f175 R) w)):=by kernel_rfl
theorem QI:W prog (sb f175 [1,1,1]) (Fp A B s a b j) (bZ f175 R) w=(Calls prog 213 #[.pointer (some A),ae s a b,ab 3] w λe n=>∃ f g h,bA.ex λk=>∃ i,e=.returned (.tuple #[ae f g h,k.val,ad i])/\aQ n #[ab 0,ab 0] 171 λd o=>a' o (af d 0) 0 k.cells λm=>dV m (af d 0) λr=>a' m B 0 r.cells λc=>dV c B λl=>c=c/\R (.tuple #[l.val,ad i]) c):=by kernel_rfl
theorem RX:bf prog f176 [a_ a] R w=(aQ w #[ab 0,ab 0] 171 λC YV=>b5 YV (af a 6) λj b c=>cond ((b:Int) == 0) (a' YV (af C 0) 0 [ab 0,ab 0] λYK=>dV YK (af C 0) λJ=>YK=YK/\R (.tuple #[J.val,ad true]) YK) (ct YV λYe u=>hc u (af a 8) λX3=>hc u (af a 8) λG=>(eL 218 #[a_ a,X3.val] Ye λH O=>u O/\(aQ O H.cells.toArray 158 λYO YL=>u YL/\(eE 217 #[a_ a,G.val] YL λd f g YU=>u YU/\(c9 125 (ae (bn YO) 1 1) (ae d f g) YU λXF h i YQ=>u YQ/\(Calls prog 213 #[a_ a,ae XF h i,ab 3] YQ λe XW=>∃ (k:an) (l m:Nat),bA.ex λX4=>∃ (n:Bool),e=.returned (.tuple #[ae k l m,X4.val,ad n])/\u XW/\aQ XW #[ab 0,ab 0] 171 λYl Yo=>u Yo/\a' Yo (af Yl 0) 0 X4.cells λX2=>dV X2 (af Yl 0) λr=>a' X2 (af C 0) 0 r.cells λZ=>dV Z (af C 0) λW4=>Z=Z/\R (.tuple #[W4.val,ad n]) Z)/\aQ YQ #[ab 0,ab 0] 171 λWj XI=>u XI/\Calls prog 213 #[a_ a,ae XF h i,ab 3] XI λe Yz=>∃ (o:an) (p q:Nat),bA.ex λYu=>∃ (s:Bool),e=.returned (.tuple #[ae o p q,Yu.val,ad s])/\u Yz/\a' Yz (af Wj 0) 0 Yu.cells λYD=>dV YD (af Wj 0) λU=>a' YD (af C 0) 0 U.cells λW=>dV W (af C 0) λXu=>W=W/\R (.tuple #[Xu.val,ad s]) W)/\aQ YU #[ab 0,ab 0] 171 λYh Yp=>u Yp/\c9 125 (ae (bn YO) 1 1) (ae d f g) Yp λt v x XR=>u XR/\Calls prog 213 #[a_ a,ae t v x,ab 3] XR λe Yi=>∃ (y:an) (z WK:Nat),bA.ex λX_=>∃ (Yj:Bool),e=.returned (.tuple #[ae y z WK,X_.val,ad Yj])/\u Yi/\a' Yi (af Yh 0) 0 X_.cells λE=>dV E (af Yh 0) λW3=>a' E (af C 0) 0 W3.cells λP=>dV P (af C 0) λW1=>P=P/\R (.tuple #[W1.val,ad Yj]) P)/\aQ YL #[ab 0,ab 0] 171 λXS X9=>u X9/\eE 217 #[a_ a,G.val] X9 λWk Xd WQ W0=>u W0/\c9 125 (ae (bn YO) 1 1) (ae Wk Xd WQ) W0 λWd Xt Wl Yr=>u Yr/\Calls prog 213 #[a_ a,ae Wd Xt Wl,ab 3] Yr λe X1=>∃ (Wv:an) (Wm W6:Nat),bA.ex λYf=>∃ (A:Bool),e=.returned (.tuple #[ae Wv Wm W6,Yf.val,ad A])/\u X1/\a' X1 (af XS 0) 0 Yf.cells λWu=>dV Wu (af XS 0) λWM=>a' Wu (af C 0) 0 WM.cells λN=>dV N (af C 0) λWV=>N=N/\R (.tuple #[WV.val,ad A]) N)/\(eE 217 #[a_ a,G.val] O λYM YT YP I=>u I/\(aQ I H.cells.toArray 158 λXO hR=>u hR/\(c9 125 (ae (bn XO) 1 1) (ae YM YT YP) hR λXY Yb X8 D=>u D/\(Calls prog 213 #[a_ a,ae XY Yb X8,ab 3] D λe YB=>∃ (Wn:an) (V8 Wf:Nat),bA.ex λXD=>∃ (F:Bool),e=.returned (.tuple #[ae Wn V8 Wf,XD.val,ad F])/\u YB/\aQ YB #[ab 0,ab 0] 171 λXZ XH=>u XH/\a' XH (af XZ 0) 0 XD.cells λWP=>dV WP (af XZ 0) λW7=>a' WP (af C 0) 0 W7.cells λX=>dV X (af C 0) λWD=>X=X/\R (.tuple #[WD.val,ad F]) X)/\aQ D #[ab 0,ab 0] 171 λXT YE=>u YE/\Calls prog 213 #[a_ a,ae XY Yb X8,ab 3] YE λe YJ=>∃ (WT:an) (Xh Wo:Nat),bA.ex λXP=>∃ (X7:Bool),e=.returned (.tuple #[ae WT Xh Wo,XP.val,ad X7])/\u YJ/\a' YJ (af XT 0) 0 XP.cells λYq=>dV Yq (af XT 0) λXn=>a' Yq (af C 0) 0 Xn.cells λK=>dV K (af C 0) λW_=>K=K/\R (.tuple #[W_.val,ad X7]) K)/\aQ hR #[ab 0,ab 0] 171 λX6 XX=>u XX/\c9 125 (ae (bn XO) 1 1) (ae YM YT YP) XX λWe WW Wx X5=>u X5/\Calls prog 213 #[a_ a,ae We WW Wx,ab 3] X5 λe Ym=>∃ (Xc:an) (WO W2:Nat),bA.ex λXQ=>∃ (Ya:Bool),e=.returned (.tuple #[ae Xc WO W2,XQ.val,ad Ya])/\u Ym/\a' Ym (af X6 0) 0 XQ.cells λYA=>dV YA (af X6 0) λXe=>a' YA (af C 0) 0 Xe.cells λS=>dV S (af C 0) λWJ=>S=S/\R (.tuple #[WJ.val,ad Ya]) S)/\aQ I #[ab 0,ab 0] 171 λX' Xx=>u Xx/\aQ Xx H.cells.toArray 158 λW9 YC=>u YC/\c9 125 (ae (bn W9) 1 1) (ae YM YT YP) YC λWg Ws Wq XE=>u XE/\Calls prog 213 #[a_ a,ae Wg Ws Wq,ab 3] XE λe XV=>∃ (Xr:an) (WU Xj:Nat),bA.ex λYH=>∃ (YF:Bool),e=.returned (.tuple #[ae Xr WU Xj,YH.val,ad YF])/\u XV/\a' XV (af X' 0) 0 YH.cells λYI=>dV YI (af X' 0) λWI=>a' YI (af C 0) 0 WI.cells λL=>dV L (af C 0) λYS=>L=L/\R (.tuple #[YS.val,ad YF]) L)/\aQ O #[ab 0,ab 0] 171 λM V=>u V/\(aQ V H.cells.toArray 158 λXi XM=>u XM/\eE 217 #[a_ a,G.val] XM λWb Wi WX XJ=>u XJ/\c9 125 (ae (bn Xi) 1 1) (ae Wb Wi WX) XJ λWr WS WE XB=>u XB/\Calls prog 213 #[a_ a,ae Wr WS WE,ab 3] XB λe XK=>∃ (W8:an) (Wp Wy:Nat),bA.ex λXC=>∃ (Yx:Bool),e=.returned (.tuple #[ae W8 Wp Wy,XC.val,ad Yx])/\u XK/\a' XK (af M 0) 0 XC.cells λYc=>dV Yc (af M 0) λWB=>a' Yc (af C 0) 0 WB.cells λa6=>dV a6 (af C 0) λV2=>a6=a6/\R (.tuple #[V2.val,ad Yx]) a6)/\eE 217 #[a_ a,G.val] V λV' YW Wt XL=>u XL/\aQ XL H.cells.toArray 158 λWY X0=>u X0/\c9 125 (ae (bn WY) 1 1) (ae V' YW Wt) X0 λV5 Xg Xo Xy=>u Xy/\Calls prog 213 #[a_ a,ae V5 Xg Xo,ab 3] Xy λe V_=>∃ (Wh:an) (WH V9:Nat),bA.ex λYt=>∃ (Xa:Bool),e=.returned (.tuple #[ae Wh WH V9,Yt.val,ad Xa])/\u V_/\a' V_ (af M 0) 0 Yt.cells λYv=>dV Yv (af M 0) λWN=>a' Yv (af C 0) 0 WN.cells λY=>dV Y (af C 0) λWC=>Y=Y/\R (.tuple #[WC.val,ad Xa]) Y)/\aQ Ye #[ab 0,ab 0] 171 λa7 Ys=>u Ys/\eL 218 #[a_ a,X3.val] Ys λXv YR=>u YR/\(aQ YR Xv.cells.toArray 158 λXp XN=>u XN/\eE 217 #[a_ a,G.val] XN λW5 Xf Wa Yy=>u Yy/\c9 125 (ae (bn Xp) 1 1) (ae W5 Xf Wa) Yy λB Ww Wc Xl=>u Xl/\Calls prog 213 #[a_ a,ae B Ww Wc,ab 3] Xl λe Xw=>∃ (WG:an) (Xk WL:Nat),bA.ex λXA=>∃ (Xz:Bool),e=.returned (.tuple #[ae WG Xk WL,XA.val,ad Xz])/\u Xw/\a' Xw (af a7 0) 0 XA.cells λYd=>dV Yd (af a7 0) λV7=>a' Yd (af C 0) 0 V7.cells λT=>dV T (af C 0) λXs=>T=T/\R (.tuple #[Xs.val,ad Xz]) T)/\eE 217 #[a_ a,G.val] YR λWR V6 WF Yk=>u Yk/\aQ Yk Xv.cells.toArray 158 λXq XU=>u XU/\c9 125 (ae (bn Xq) 1 1) (ae WR V6 WF) XU λYN V3 Xm Yw=>u Yw/\Calls prog 213 #[a_ a,ae YN V3 Xm,ab 3] Yw λe XG=>∃ (Wz:an) (WZ V4:Nat),bA.ex λYG=>∃ (Yn:Bool),e=.returned (.tuple #[ae Wz WZ V4,YG.val,ad Yn])/\u XG/\a' XG (af a7 0) 0 YG.cells λYg=>dV Yg (af a7 0) λXb=>a' Yg (af C 0) 0 Xb.cells λQ=>dV Q (af C 0) λWA=>Q=Q/\R (.tuple #[WA.val,ad Yn]) Q)):=by kernel_rfl
theorem Tx:bf prog f208 [a_ a,ab i,ae s b c,ab k] R w=(aQ w #[ab 0,ab 0] 171 λv x=>b5 x (af a 6) λy d f=>cond ((d:Int) == 0) (a' x (af v 0) 0 [ab 0,ab 0] λu=>dV u (af v 0) λo=>u=u/\R (.tuple #[o.val,ad true]) u) (eE 237 #[a_ a,.agg #[ab 2,ab 0,ab i,ab 0,ah 0,ah 0,ae s b c,ah 0,ab 0]] x λg h j E=>Calls prog 213 #[a_ a,ae g h j,ab k] E λe D=>∃ A l m,bA.ex λp=>∃ n,e=.returned (.tuple #[ae A l m,p.val,ad n])/\aQ D #[ab 0,ab 0] 171 λz C=>a' C (af z 0) 0 p.cells λB=>dV B (af z 0) λr=>a' B (af v 0) 0 r.cells λt=>dV t (af v 0) λq=>t=t/\R (.tuple #[q.val,ad n]) t)):=by kernel_rfl
end
section
structure EB (j:cU):Prop where
 a1:0<=j.a1/\j.a1<6
 num:0<=j.v.number/\j.v.number<16
 mem:0<j.v.mem.length/\j.v.mem.length<=5
 ef:∀ m ∈ j.v.mem,1<=m.cn/\m.cn<=31
 s3:j.writes.length<=12
 xM:j.reads.length<=24
 wr:j.writes≠[]->fy j.seq j.writes 256=0/\1<=j.seq/\j.seq<1073741824
 wl:∀ p ∈ j.writes,96<=p.bo/\p.bo<256
 Hc:∀ p ∈ j.writes,lV p.Head=true/\pp p.Head=true
 oK:∀ s ∈ j.reads,96<=s.bo/\s.bo<256
theorem jj {W:List aK} (h:fy seq W lines=0):(98<=lines/\lines<=256)/\(1<=seq/\seq<1073741824/\1<=W.length/\W.length<=12)/\(∀ p ∈ W,96<=p.bo/\p.bo<lines)/\(∀ p ∈ W,lV p.Head=true/\pp p.Head=true)/\(W.all λp=>iB p.bo lines)=true/\(List.range W.length).all (λi=>j0 W i && j8 (W.getD i hG))=true:=by
 unfold fy at h;split at h
 ·omega
 rename_i f;split at h
 ·omega
 rename_i g;split at h
 ·omega
 rename_i a;split at h
 ·omega
 rename_i b;have a:(W.all λp=>iB p.bo lines)=true:=tf _▸a;have b:(List.range W.length).all (λi=>j0 W i && j8 (W.getD i hG))=true:=tf _▸b;refine ⟨by omega,by omega,λp d=>?_,λp d=>?_,a,b⟩
 ·have:=gU.1 a p d;unfold iB at this;have:=of_decide_eq_true this;omega
 ·obtain ⟨i,e⟩:=List.getElem?_of_mem d;have c:=cb e;have:=gU.1 b i (fJ.2 c);rw [oG e] at this;unfold j8 at this;simp only [e1] at this;exact ⟨this.2.2,this.2.1⟩
theorem AL {W:List aK} (h:fy seq W lines=0):fy seq W 256=0:=by
 obtain ⟨e,f,b,_,g,c⟩:=jj h;have a:(W.all λp=>iB p.bo 256)=true:=gU.2 λp d=>by have:=b p d;unfold iB;exact decide_eq_true (by omega)
 unfold fy;rw [if_neg (by omega),if_neg (by omega),if_neg (by rw [a];simp),if_neg (by rw [c];simp)]
theorem DY {l:List aY} (h:(List.range l.length).all (j' n l)=true):l.length<=n:=by
 have key:∀ i,i<l.length->(i:Int)<=(l.getD i jI).Node/\(l.getD i jI).Node<n:=by
  intro i;induction i with
  |zero=>intro a;have:=gU.1 h 0 (fJ.2 a);unfold j' at this;simp at this ⊢;omega
  |succ i d=>intro a;have c:=d (by omega);have:=gU.1 h (i+1) (fJ.2 a);unfold j' at this;simp at this c ⊢;omega
 rcases yn l.length with b | b
 ·omega
 ·have:=key (l.length - 1) (by omega);omega
theorem Mf (h:j.valid=0):EB j:=by
 unfold cU.valid at h;split at h
 ·omega
 rename_i k;split at h
 ·omega
 rename_i b;have b:j.v.valid 5=0:=by omega
 split at h
 ·omega
 rename_i i;split at h
 ·omega
 rename_i l;split at h
 ·omega
 rename_i w;split at h
 ·omega
 rename_i g;split at h
 ·omega
 rename_i x;have g:(j.reads.all λs=>iB s.bo j.lines)=true:=tf _▸g;have hw:j.writes≠[]->fy j.seq j.writes j.lines=0:=λa=>by
  have:=vj.2 a;by_cases e:fy j.seq j.writes j.lines=0
  ·exact e
  ·exact absurd ⟨this,e⟩ l
 unfold jf.valid at b;split at b
 ·omega
 rename_i q;split at b
 ·omega
 rename_i r;split at b
 ·omega
 rename_i t;split at b
 ·omega
 rename_i d;split at b
 ·omega
 rename_i f;have f:j.v.mem.all mI=true:=by simpa using f
 have d:(List.range j.v.mem.length).all (j' (5:Nat) j.v.mem)=true:=tf _▸d;have u:=DY d;have emp:∀ {P:aK->Prop},(j.writes≠[]->∀ p ∈ j.writes,P p)->∀ p ∈ j.writes,P p:=λn p c=>n (List.ne_nil_of_mem c) p c
 refine ⟨by omega,by omega,by omega,λm hm=>?_,?_,by omega,λa=>?_,emp λa p c=>?_,emp λa p c=>(jj (hw a)).2.2.2.1 p c,λs o=>?_⟩
 ·have:=gU.1 f m hm;unfold mI at this;exact of_decide_eq_true this
 ·by_cases e:j.writes=[]
  ·rw [e];simp
  ·exact (jj (hw e)).2.1.2.2.2
 ·obtain ⟨_,b,_⟩:=jj (hw a);exact ⟨AL (hw a),b.1,b.2.1⟩
 ·obtain ⟨k,_,i,_⟩:=jj (hw a);have:=i p c;omega
 ·have:=gU.1 g s o;unfold iB at this;have:=of_decide_eq_true this;omega
abbrev l6:TypeId:=212
abbrev eS:TypeId:=171
abbrev om:TypeId:=30
def lJ (r:dv) (tb:Nat) (m:aY):ax:=r.cells++(ptr tb::m.cells)
structure fa (w0 u:ak) (aX tb:Nat) (r:dv) (m:aY) (j:cU):Prop where
 aj:av u aX (lJ r tb m) l6
 bM:pY w0 r j
 cf:EB j
 mem:j.v.mem[0]?=some m
 new:ai w0 u
 Fc:w0.heap.size<=aX
 kH:w0.heap.size<=tb
 ne:aX≠tb
theorem fa.bz (h:fa w0 u aX tb r m j) (a:ai u bs):fa w0 bs aX tb r m j:=
 ⟨ai.aj a h.aj,h.bM,h.cf,h.mem,h.new.new a,h.Fc,h.kH,h.ne⟩
theorem fa.az (h:fa w0 u aX tb r m j) (b:ao M u bs) (a:∀ k,M k->w0.heap.size<=k/\k≠aX):fa w0 bs aX tb r m j:=
 ⟨b.aj h.aj λe=>(a _ e).2 rfl,h.bM,h.cf,h.mem,h.new.trans b λk c e=>by have:=(a k e).1;omega,h.Fc,h.kH,h.ne⟩
theorem fa.num {w0 u:ak} {aX tb:Nat} {r:dv} {m:aY} {j:cU} (h:fa w0 u aX tb r m j):r.View.Number=j.v.number:=by obtain ⟨M,al⟩:=h.bM.view;exact al.num
theorem sJ (h:fa w0 w aX tb r bN j) (F:dN m.cn) (al:cF M w v x) :
  a9 212 [ptr aX,m.val,v.val] w λy w'=>∃ bj:aG,y=bj.val/\cF (λk=>k<w.heap.size) w' bj (addr j.v.number m x)/\ai w w':=by
 refine bc Tryz.func212 ?_;rw [ptr,R_];rintro b1 w1 C s;obtain ⟨g,n⟩:=bl C s;have g:av w1 b1 m.cells eI:=g;clear s;rintro aA S D t;obtain ⟨i,f⟩:=bl D t;have i:av S aA v.cells cz:=i;clear t;rintro K J E u;obtain ⟨d,c⟩:=bl E u;have d:av J K (aG.cells ⟨0,0,0,0,0,0,none,0,0,0,0⟩) cz:=d;clear u;rintro B z;have b:ai J B:=by rw [z];exact cE _
 clear z;have a:=((n.new f).new c).new b;have O:=n.size;have P:=f.size;have Q:=c.size;have R:=b.size;have L:=h.bz a;have p:=h.num;have U:=h.cf.num;refine ⟨λy=>ai B y,ao.refl _ _,c3.aR r.View ⟨λy A=>bJ (ai.aj A L.aj) rfl,aY.aR m ⟨λy A=>bJ (ai.aj (((f.new c).new b).new A) g) rfl,aG.aR v ⟨λy A=>bJ (ai.aj ((c.new b).new A) i) rfl,?_⟩⟩⟩⟩;refine aC (BA B (by omega) (by omega) F (al.az (ao.b4 a) λ_ _ e=>e)) ?_;rintro y V ⟨bj,rfl,q,o⟩;refine aG.aR bj ⟨rfl,dQ (ai.aj (b.new o) d) rfl (aG.single _) λT H l=>?_⟩;have I:=d.lt;refine aG.aR bj ⟨bJ H rfl,rfl,bj,rfl,?_,(a.new o).trans l λk N e=>by omega⟩;rw [p] at q;have G:cF (λk=>k<B.heap.size) T bj (addr j.v.number m x):=q.az (l.mono λk _ e=>by omega) λ_ _ e=>e
 exact G.az (ao.refl _ _) λk _ e=>by omega
theorem cF.mono {M':a3} (h:cF M w v x) (a:∀ k,M' k->M k):cF M' w v x:=h.az (ao.refl _ _) λk _ e=>a k e
theorem pT {k at_ nn old new:Int} (i:bh w a (us ws)) (g:n=ws.length) (e:n<=c) (b:a=none->ws=[]) (hu:∀ x ∈ ws,ca x) (f:ws.length<=1000000) (h:ca old) (d:ca new) :
  cF (λ_=>False) w ⟨k,0,at_,nn,old,new,a,n,c,0,0⟩ ⟨k,0,at_,nn,old,new,ws,0,0⟩:=by
 subst g;refine ⟨rfl,i,b,.inr ?_,hu,d,h,?_,?_,e,f⟩
 ·cases a with
  |none=>trivial
  |some a=>exact id
 ·have au:ca 0:=⟨by decide,by decide⟩;exact au
 ·have au:dN 0:=⟨by decide,by decide⟩;exact au
def k9 (j:cU) (m:aY):aW:=addr j.v.number m ⟨2,0,32+j.a1,0,0,0,[j.seq],0,0⟩
def jw (j:cU) (m:aY) (p:aK):aW:=addr j.v.number m ⟨2,0,p.bo * 8,0,0,0,ix p,0,0⟩
theorem hf:ca 0:=⟨by decide,by decide⟩
theorem EQ (h:fa w0 w aX tb r bN j) (V':1<=j.seq/\j.seq<1073741824) (F:dN m.cn) :
  a9 218 [ptr aX,m.val] w λy w'=>∃ bj:aG,y=bj.val/\cF (λk=>k<w.heap.size) w' bj (k9 j m)/\ai w w':=by
 refine bc Tryz.func218 ?_;rw [ptr,Sr];rintro b1 w1 S J;obtain ⟨B,H⟩:=bl S J;have B:av w1 b1 m.cells eI:=B;clear J;rintro aA V5 T K;obtain ⟨p,A⟩:=bl T K;have p:av V5 aA (aG.cells ⟨0,0,0,0,0,0,none,0,0,0,0⟩) cz:=p;clear K;rintro R L;have n:ai V5 R:=by rw [L];exact cE _
 clear L;have q:=(H.new A).new n;have V7:=H.size;have V8:=A.size;have V9:=n.size;have Q:=h.bz q;have Wd:=h.cf.a1;have W:=h.bM.a1;have X:=h.bM.seq;have V3:=p.lt;refine ⟨λy=>ai R y,ao.refl _ _,aY.aR m ⟨λy O=>bJ (ai.aj ((A.new n).new O) B) rfl,⟨_,λy O=>(ai.aj O Q.aj).cell (i:=0) rfl,_,λy O=>(ai.aj O Q.aj).cell (i:=1) rfl,?_⟩⟩⟩;dsimp only;rw [W,X,kh (x:=j.seq) (by omega) (by omega)];have fin:∀ {l D:ak} {bj:aG},ai R l->ai l D->cF (λk=>k<l.heap.size) D bj (k9 j m)->
   (ec D ⟨aA,0,none⟩ 0 bj.cells/\∀ u,u=cr D ⟨aA,0,none⟩ 0 bj.cells->aG.ex λg=>b6 u ⟨aA,0,none⟩ 0 g.cells/\u=u/\∃ bj:aG,g.val=bj.val/\cF (λk=>k<w.heap.size) u bj (k9 j m)/\ai w u):=by
  intro l D bj z E f;have V_:=z.size;refine dQ (ai.aj ((n.new z).new E) p) rfl (aG.single _) λu Z G=>?_
  refine aG.aR bj ⟨bJ Z rfl,rfl,bj,rfl,?_,((q.new z).new E).trans G λk V6 e=>by omega⟩;have Y:cF (λk=>k<l.heap.size) u bj (k9 j m):=f.az (G.mono λk _ e=>by omega) λ_ _ e=>e
  exact Y.mono λk e=>by omega
 have t:∀ {l:ak} {P:Nat},av l P [.int .u64 j.seq] om->cF (λ_=>False) l ⟨2,0,32+j.a1,0,0,0,some ⟨P,0,none⟩,1,1,0,0⟩ ⟨2,0,32+j.a1,0,0,0,[j.seq],0,0⟩:=by intro l P C;exact pT (fm C rfl) rfl (by omega) (λe=>by cases e) (λx V4=>by simp at V4;subst V4;unfold ca;omega) (by simp) hf hf
 refine ⟨?_,?_⟩
 ·refine aC (vG R (by omega)) ?_;rintro y We ⟨rfl,b⟩;refine ⟨_,rfl,b,?_⟩;rintro P l U M;obtain ⟨C,o⟩:=bl U M;clear M;refine ⟨b.new o,?_⟩;have a:=sJ (Q.bz (b.new o)) F (t C);refine aC a ?_;rintro y D ⟨bj,rfl,f,I⟩;exact aG.aR bj ⟨rfl,(b.new o).new I,fin (b.new o) I f⟩
 ·rintro Wc Wb V N;obtain ⟨V2,c⟩:=bl V N;clear N;refine ⟨c,?_⟩;refine aC (vG Wb (by omega)) ?_;rintro y Wf ⟨rfl,d⟩;refine ⟨_,rfl,c.new d,?_⟩;have a:=sJ (Q.bz (c.new d)) F (t (ai.aj d V2));refine aC a ?_;rintro y Wa ⟨bj,rfl,f,s⟩;exact aG.aR bj ⟨rfl,(c.new d).new s,fin (c.new d) s f⟩
theorem DZ {p:aK} (h:∀ x ∈ hA p,ca x):∀ x ∈ ix p,ca x:=λx a=>by
 unfold ix at a;rcases e6.1 a with rfl | a
 ·exact Md _
 ·exact h x a
theorem CW (h:fa w0 w aX tb r bN j) (ar:∀ p ∈ j.writes,∀ x ∈ hA p,ca x) (Y:dN m.cn) :
  a9 217 [ptr aX,m.val] w λy w'=>∃ (a:an) (cap:Nat),y=.slice a j.writes.length cap/\bH w w' a j.writes.length cap (j.writes.map (jw j m))/\ai w w':=by
 refine bc Tryz.func217 ?_;rw [ptr,Sq];rintro b1 w1 W S;obtain ⟨c,F⟩:=bl W S;have c:av w1 b1 m.cells eI:=c;clear S;have V':=h.bz F;have hlen:=h.bM.bQ.len;have Wo:=h.cf.s3;have Wq:=F.size;refine ⟨_,_,_,V'.aj.cell (i:=6) rfl,?_⟩;refine c2 mix (λq env u=>∃ (i:Nat) (pa:an) (pc:Nat) (We:ax),q=j.writes.length - i/\i<=j.writes.length/\env=wS ⟨aX,0,none⟩ ⟨b1,0,none⟩ pa i pc r.eu r.dO r.gX r.dO i We/\ai w u/\bH w u pa i pc ((j.writes.take i).map (jw j m))/\av u b1 m.cells eI/\fa w0 u aX tb r bN j) j.writes.length
  ⟨0,none,0,_,rfl,by omega,rfl,F,bH.nil _ _,c,V'⟩ ?_
 rintro q env u ⟨i,pa,pc,We,rfl,Wx,rfl,H,l,c,D⟩;rw [QW,hlen];have M:ai w0 u:=h.new.new H;refine a8 (λWp=>?_) (λWn=>?_)
 ·obtain ⟨p,V5⟩:∃ p,j.writes[i]?=some p:=⟨_,bD (by omega)⟩;have z:=b7 V5;have Q:=h.cf.wl p z;have V6:=h.cf.Hc p z;have V7:=h.bM.bQ.u64 p z;refine er (cells:=aK.cells) aK.len (by omega) (h.bM.bQ.rd.new M) V5 rfl rfl λb o Z _=>aK.aR p ⟨Z,?_⟩
  refine ea (vs:=p.cells) rfl (aK.single _) λWh Ws Wl n J=>?_
  refine aK.aR p ⟨bJ n rfl,?_⟩;refine aC (Cf Ws p V7 V6.2) ?_;rintro y bk ⟨aa,ac,rfl,K,A,Wk⟩;refine ⟨_,_,_,_,rfl,?_⟩;rintro Wf T;have G:ai bk Wf:=by rw [T];exact cE _
  clear T;have f:=K.new G;have d:=(J.new K).new G;refine ⟨λy=>av y Wh p.cells et/\av y b1 m.cells eI,⟨ai.aj f n,ai.aj d c⟩,aY.aR m ⟨λy V_=>bJ V_.2 rfl,_,λy V_=>V_.1.cell (i:=0) rfl,?_⟩⟩;refine aC (ra Wf Q.1 Q.2) ?_;rintro y Wt ⟨rfl,rfl⟩;refine ⟨_,rfl,⟨ai.aj f n,ai.aj d c⟩,?_⟩;have V9:cF (λ_=>False) Wt ⟨2,0,p.bo * 8,0,0,0,aa,8,ac,0,0⟩ ⟨2,0,p.bo * 8,0,0,0,ix p,0,0⟩:=pT (a0.new G A).rd (by rfl) (a0.le A) (λe=>by
   obtain ⟨_,Wj⟩:=A;rcases Wj with ⟨Wy,_,_⟩ | ⟨g,cur,Wm,_⟩
   ·omega
   ·rw [Wm] at e;cases e) (DZ (ar p z)) (by simp [ix,hA]) hf hf
  have B:=sJ (D.bz d) Y V9;refine aC B ?_;rintro y Wu ⟨bj,rfl,V8,t⟩;have s:=d.new t;refine aG.aR bj ⟨rfl,⟨ai.aj (f.new t) n,ai.aj s c⟩,?_⟩;have R:=l.new d;rintro Ww Wv X U;have L:ai Wu Wv:=by rw [U];exact hk _ _
  refine ⟨⟨ai.aj ((f.new t).new L) n,ai.aj (s.new L) c⟩,?_⟩;have Wd:=n.lt;have Wc:=c.lt;have P:∀ k,aL pa k->k<u.heap.size:=λk V=>by obtain ⟨cl,N,_⟩:=l.ex;exact N.lt V
  have Wr:=J.size;refine bH.lQ R (H.new d) t V8 (by omega) X U λap I u8 Wa E V4=>?_
  have O:¬ aL pa b1:=λe=>by have Wb:=l.ex;obtain ⟨cl,N,_⟩:=Wb;obtain ⟨cs,C⟩:=fM N e;exact absurd (C.ne c (by decide)) (λV2=>V2 rfl)
  have Wg:av u8 b1 m.cells eI:=E.aj (ai.aj s c) O;refine ⟨⟨E.aj (ai.aj (f.new t) n) λe=>by have:=P _ e;omega,Wg⟩,?_⟩;rw [bC (x:=(i:Int)+1) (by omega) (by omega)];have e:(j.writes.take i).map (jw j m)++[addr j.v.number m ⟨2,0,p.bo * 8,0,0,0,ix p,0,0⟩]=(j.writes.take (i+1)).map (jw j m):=by rw [fc,V5];simp [jw]
  rw [e] at Wa;refine ⟨j.writes.length - (i+1),by omega,i+1,ap,I,_,rfl,by omega,by rw [<-hlen];rfl,V4,Wa,Wg,(D.bz s).az E λk V=>?_⟩;have Wb:=l.gi k V;have Wi:=h.new.size;refine ⟨by omega,λe=>?_⟩
  obtain ⟨cl,N,_⟩:=l.ex;obtain ⟨cs,C⟩:=fM N V;exact absurd (e▸C |>.ne D.aj (by decide)) (λV2=>V2 rfl)
 ·have V3:i=j.writes.length:=by omega
  subst V3;rw [Ra];rw [hx] at l;exact ⟨pa,pc,rfl,l,H⟩
end
section
def ho:List aO->Int
 | []=>0
 |d::ds=>if d.code=0 then ho ds else d.code
theorem Iy {i:Nat} {x:aO} (h:ds[i]?=some x):ho (ds.drop i)=if x.code=0 then ho (ds.drop (i+1)) else x.code:=by have a:=cb h;rw [oU a];rw [bD a] at h;cases h;rfl
theorem CX (hw:ai w0 w) {raw:List bO} (C:n=raw.length) (E:bh w0 a (fP raw).flatten) (ar:gW A w0 raw ds) (t:raw.length<=1000000):a9 242 [.slice a n c] w λx w'=>x=.int .i64 (ho ds)/\ai w w':=by
 subst C;refine bc Tryz.func242 ?_;rw [HW];have B:=ar.1;refine c2 mix (λm env u=>∃ (i:Nat) (y:ax),m=raw.length - i/\i<=raw.length/\env=xo a raw.length c raw.length i y/\ai w u/\ho ds=ho (ds.drop i)) raw.length
  ⟨0,_,by omega,by omega,rfl,ao.refl _ _,rfl⟩ ?_
 rintro m env u ⟨i,y,rfl,F,rfl,f,p⟩;rw [TU];refine a8 (λD=>?_) (λD=>?_)
 ·have s:i<raw.length:=by omega
  have r:raw[i]?=some raw[i]:=bD s;obtain ⟨x,j⟩:∃ x,ds[i]?=some x:=⟨_,bD (by omega)⟩;have h:=ar.2 i _ _ r j;generalize raw[i]=d at r h;have g:=h.code;rw [Iy j] at p;refine er (cells:=bO.cells) bO.len (by omega) (E.new (hw.new f)) r rfl rfl λb o q _=>bO.aR d ⟨q,?_⟩
  refine ea (vs:=d.cells) rfl (bO.single _) λb1 G z l k=>⟨_,l.cell (i:=0) rfl,dw (λe=>⟨_,l.cell (i:=0) rfl,?_,f.new k⟩) (λe=>?_)⟩
  ·rw [p,if_neg (by omega),g]
  ·rw [bC (x:=(i:Int)+1) (by omega) (by omega)];exact ⟨raw.length - (i+1),by omega,i+1,_,rfl,by omega,rfl,f.new k,by rw [p,if_pos (by omega)]⟩
 ·rw [UM];refine ⟨?_,f⟩;rw [p,List.drop_of_length_le (by omega)];rfl
structure cq where
 ok:Bool
 done:List aO
 out:Int×Int
 a4:List (List aO)
 ask:Option (List aW)
 dE:Bool
def cg (G:List (List aO)) (vs:List aW) (a:Int):cq:=
 if (batch G vs).ok=false then ⟨false,[],(0,0),(batch G vs).a4,(batch G vs).ask,(batch G vs).dE⟩
 else if ho (batch G vs).done≠0 then ⟨false,[],(ho (batch G vs).done,a),(batch G vs).a4,none,false⟩
 else ⟨true,(batch G vs).done,(0,0),(batch G vs).a4,none,false⟩
structure eP (A:a3) (w0 u:ak) (tb:Nat) (T:fV) (G:List (List aO)):Prop where
 aj:av u tb T.cells pe
 a4:hI A w0 T.gI G
 dM:T.dM=G.length
 gc:T.dM<=T.gc
theorem eP.new (h:eP A w0 u tb T G) (a:ai u bs):eP A w0 bs tb T G:=⟨ai.aj a h.aj,h.a4,h.dM,h.gc⟩
theorem eP.az (h:eP A w0 u tb T G) (b:ao M u bs) (a:¬ M tb):eP A w0 bs tb T G:=⟨b.aj h.aj a,h.a4,h.dM,h.gc⟩
structure gy (A:a3) (w0 u:ak) (tb B:Nat) (R:cq) (bs:ak):Prop where
 az:ao (λk=>k=tb) u bs
 fS:∃ ib:fV,eP A w0 bs tb ib R.a4/\ib.dE=R.dE/\(match R.ask with
  |none=>ib.c8=0
  |some vs=>0<vs.length/\∃ w1,ai w0 w1/\B<=w1.heap.size/\bH w1 bs ib.aa ib.c8 ib.ac vs)
structure fY (T:fV):Prop where
 c8:T.c8=0
 dE:T.dE=false
theorem gy.new {A:a3} {w0 u bs a:ak} {tb B:Nat} {R:cq} (h:gy A w0 u tb B R bs) (c:ai bs a):gy A w0 u tb B R a:=by
 obtain ⟨k,e,l,hw,b⟩:=h;refine ⟨k.new c,e,l.new c,hw,?_⟩;cases d:R.ask with
 |none=>rw [d] at b;exact b
 |some vs=>rw [d] at b;obtain ⟨f,w1,g,i,j⟩:=b;exact ⟨f,w1,g,i,j.new c⟩
theorem mf (au:av u b zs eS) (i:zs.length=2) (c f:Int) (h:∀ g,ao (λk=>k=b) u g->K ⟨c,f⟩ g) :
  ec u ⟨b,0,none⟩ 0 [(.int .i64 c),(.int .i64 f)]/\∀ a,a=cr u ⟨b,0,none⟩ 0 [(.int .i64 c),(.int .i64 f)]->bA.ex λres=>b6 a ⟨b,0,none⟩ 0 res.cells/\a=a/\K res a:=
 dQ au (vs:=bA.cells ⟨c,f⟩) (by rw [i];rfl) (bA.single _) λa e d=>bA.aR ⟨c,f⟩ ⟨bJ e rfl,rfl,h a d⟩
theorem Dw {ws:List aW} (h:(batch G vs).ask=some ws):0<vs.length:=by
 unfold batch at h;split at h
 ·cases h
 ·omega
theorem rN (Z:fa w0 u aX tb r m j) (V':eP A w0 u tb T G) (H:fY T) {w1:ak} (V8:ai w0 w1) (V6:tb<w1.heap.size) (al:bH w1 u a n cap vs) (Wb:vs.length<=100000) (f:Int) :
  a9 213 [ptr aX,.slice a n cap,.int .i64 f] u λv bs=>∃ (dB:an) (dc:Nat) (raw:List bO),v=.tuple #[.slice dB raw.length dc,bA.val ⟨(cg G vs f).out.1,(cg G vs f).out.2⟩,.bool (cg G vs f).ok]/\
   gy A w0 u tb w1.heap.size (cg G vs f) bs/\bh w0 dB (fP raw).flatten/\gW A w0 raw (cg G vs f).done/\(raw=[]\/raw.length=vs.length):=by
 refine bc Tryz.func213 ?_;rw [ptr,Tb];rintro b1 bE W P;obtain ⟨D,o⟩:=bl W P;have D:av bE b1 (bA.cells ⟨0,0⟩) eS:=D;clear P;have z:=Z.bz o;have p:=V'.new o;have C:=al.new o;obtain ⟨cl,w,Q⟩:=C.ex;have Wl:=Q.1;have V5:=C.len;have Wi:=o.size;have Wj:=V'.aj.lt;have Y:b1≠tb:=by omega
 refine ⟨_,z.aj.cell (i:=7) rfl,?_⟩;have L:n=cl.length:=by omega
 rw [L] at w;have V_:=DM (A:=A) z.new Z.kH p.aj p.a4 p.dM p.gc (aa:=a) (ac:=cap) w.rd Q (by omega);rw [<-L] at V_;refine aC V_ ?_;rintro v F ⟨V9,dB,dc,raw,rfl,X,q,O,B,I,V3,V2,S,h⟩;rw [H.dE,Bool.false_or] at S;have E:av F b1 (bA.cells ⟨0,0⟩) eS:=q.aj D Y;have Wk:bH w1 F a n cap vs:=C.az q λk e=>by omega
 have J:ao (λk=>k=tb) u F:=(ao.b4 o).trans q λ_ _ e=>e
 have b:(batch G vs).done.length=raw.length:=B.1.symm;refine ⟨_,_,_,_,rfl,?_⟩;have fin:∀ {bk y:ak},ai F bk->ao (λk=>k=b1) bk y->∀ {R:cq},R.a4=(batch G vs).a4->R.dE=(batch G vs).dE->R.ask=(batch G vs).ask->gy A w0 u tb w1.heap.size R y:=by
  intro bk y l g R Wc Wd We;have t:ao (λk=>k=b1) F y:=(ao.b4 l).trans g λ_ _ e=>e
  have s:ao (λk=>k=tb) u y:=J.trans t λk V4 e=>by omega
  refine ⟨s,V9,?_,by rw [S,Wd],?_⟩
  ·rw [Wc];exact ⟨t.aj X (by omega),I,V3,V2⟩
  ·rw [We];cases U:(batch G vs).ask with
   |none=>rw [U] at h;obtain ⟨_,V,_⟩:=h;show V9.c8=0;rw [V];exact H.c8
   |some ws=>rw [U] at h;obtain ⟨Wf,V,Wg⟩:=h;have:=Ce U;subst this;refine ⟨Dw U,w1,V8,cQ _,?_⟩;rw [Wf,V,Wg,<-V5];exact al.az s λk e=>e▸V6
 unfold cg;have Wh:=@qT G vs;refine ev (λc=>?_) (λc=>?_)
 ·rw [if_pos c];exact mf E rfl 0 0 λy g=>⟨none,0,[],rfl,fin (ao.refl _ _) g rfl rfl rfl,.inl rfl,⟨rfl,λi v x al=>by simp at al⟩,.inl rfl⟩
 ·rw [if_neg (by rw [c];simp)];obtain ⟨M,N⟩:=CU c;have K:ai w0 F:=z.new.trans q λk V4 e=>by have:=Z.kH;omega
  refine aC (CX K rfl O B (by omega)) ?_;rintro v bk ⟨rfl,l⟩;refine ⟨_,rfl,dw (λe=>?_) (λe=>?_)⟩
  ·rw [if_pos e];exact mf (ai.aj l E) rfl _ _ λy g=>⟨none,0,[],rfl,fin l g rfl N.symm M.symm,.inl rfl,⟨rfl,λi v x al=>by simp at al⟩,.inl rfl⟩
  ·rw [if_neg (by simpa using e)];refine mf (ai.aj l E) rfl 0 0 λy g=>⟨dB,dc,raw,rfl,fin l g rfl N.symm M.symm,O,B,?_⟩
   by_cases V7:vs.length=0
   ·exact .inl (fI (by omega))
   ·right;unfold batch at c b;rw [if_neg V7] at c b;cases G with
    |nil=>cases c
    |cons d Wm=>
     simp only at c b;split at c
     ·rename_i Wa;rw [if_pos Wa] at b;have:=yf Wa;simp only at b;omega
     ·cases c
theorem PH (h:fa w0 w aX tb r bN j) (al:cF M w v x) :
  a9 237 [ptr aX,v.val] w λy w'=>∃ (a:an) (cap:Nat),y=.slice a j.v.mem.length cap/\bH w w' a j.v.mem.length cap (j.v.mem.map λm=>addr j.v.number m x)/\ai w w':=by
 refine bc Tryz.func237 ?_;rw [ptr,rg];rintro b1 w1 F D;obtain ⟨d,l⟩:=bl F D;have d:av w1 b1 v.cells cz:=d;clear D;have E:=h.bz l;obtain ⟨V8,g⟩:=h.bM.view;have hlen:=g.len;have Y:=h.cf.mem;have L:=l.size;have V2:=d.lt;refine ⟨_,_,_,E.aj.cell (i:=4) rfl,?_⟩;refine c2 mix (λq env u=>∃ (i:Nat) (pa:an) (pc:Nat) (T:ax),q=j.v.mem.length - i/\i<=j.v.mem.length/\env=wN ⟨aX,0,none⟩ ⟨b1,0,none⟩ pa i pc r.View.ed r.View.ei r.View.eA r.View.ei i T/\ai w1 u/\bH w1 u pa i pc ((j.v.mem.take i).map λm=>addr j.v.number m x)/\av u b1 v.cells cz/\fa w0 u aX tb r bN j) j.v.mem.length
  ⟨0,none,0,_,rfl,by omega,rfl,ao.refl _ _,bH.nil _ _,d,E⟩ ?_
 rintro q env u ⟨i,pa,pc,T,rfl,V',rfl,n,f,d,s⟩;rw [Rl,hlen];have B:ai w0 u:=E.new.new n;refine a8 (λV3=>?_) (λX=>?_)
 ·obtain ⟨m,hm⟩:∃ m,j.v.mem[i]?=some m:=⟨_,bD (by omega)⟩;have V4:=h.cf.ef m (b7 hm);refine er (cells:=aY.cells) aY.len (by omega) (g.rd.new B) hm rfl rfl λb o H _=>aY.aR m ⟨H,?_⟩
  refine ea (vs:=m.cells) rfl (aY.single _) λV9 V7 W Q c=>?_
  refine aY.aR m ⟨bJ Q rfl,aG.aR v ⟨bJ (ai.aj c d) rfl,?_⟩⟩;have O:cF M V7 v x:=al.az (ao.b4 ((l.new n).new c)) λ_ _ e=>e
  have p:=sJ (s.bz c) (m:=m) (by unfold dN;omega) O;refine aC p ?_;rintro y bk ⟨bj,rfl,N,t⟩;refine aG.aR bj ⟨rfl,?_⟩;rintro V_ Wa G P;have V6:=c.size;refine bH.lQ (f.new c) (n.new c) t N (by omega) G P λap z u8 R A K=>?_
  have C:¬ aL pa b1:=λe=>by have V:=f.gi _ e;omega
  rw [bC (x:=(i:Int)+1) (by omega) (by omega)];have e:(j.v.mem.take i).map (λm=>addr j.v.number m x)++[addr j.v.number m x]=(j.v.mem.take (i+1)).map λm=>addr j.v.number m x:=by rw [fc,hm];simp
  rw [e] at R;refine ⟨j.v.mem.length - (i+1),by omega,i+1,ap,z,_,rfl,by omega,by rw [<-hlen];rfl,K,R,A.aj (ai.aj (c.new t) d) C,(s.bz (c.new t)).az A λk S=>?_⟩;have V:=f.gi k S;have U:=h.new.size;refine ⟨by omega,λe=>?_⟩
  obtain ⟨cl,V5,_⟩:=f.ex;obtain ⟨cs,I⟩:=fM V5 S;exact absurd (e▸I |>.ne s.aj (by decide)) (λZ=>Z rfl)
 ·have J:i=j.v.mem.length:=by omega
  subst J;rw [Rt];rw [hx] at f;exact ⟨pa,pc,rfl,f.mono L,l.new n⟩
def tK (R:cq) (f:List (List aO)->cq):cq:=if R.ok then f R.a4 else R
def rT (G:List (List aO)):cq:=⟨true,[],(0,0),G,none,false⟩
def pv (j:cU) (at_:Int) (ws:bd):List aW:=j.v.mem.map λm=>addr j.v.number m ⟨2,0,at_,0,0,0,ws,0,0⟩
def nv (j:cU) (G:List (List aO)) (at_:Int) (ws:bd) (a:Int):cq:=if j.writes=[] then rT G else cg G (pv j at_ ws) a
def rP (j:cU) (G:List (List aO)):cq:=nv j G (e' j.a1+8) (fi j.seq j.writes) 1
def tL (j:cU) (G:List (List aO)):cq:=nv j G (e' j.a1) [fQ j.seq] 2
def kL (A:a3) (w0 u:ak) (tb B:Nat) (R:cq) (v:a2) (bs:ak):Prop:=v=.tuple #[bA.val ⟨R.out.1,R.out.2⟩,.bool R.ok]/\gy A w0 u tb B R bs
theorem gy.skip (c:eP A w0 u tb T G) (a:fY T) (b:ai u bs):gy A w0 u tb B (rT G) bs:=
 ⟨ao.b4 b,T,c.new b,a.dE,a.c8⟩
theorem gy.put {bE j bk l:ak} {B':Nat} {R:cq} (h:gy A w0 bE tb B R j) (t:ai u bE) (a:ai j bk) (f:ao (λk=>k=b) bk l) (z:u.heap.size<=b) (r:b<B) (d:b≠tb) (y:B'<=B):gy A w0 u tb B' R l:=by
 obtain ⟨g,n,w,hw,c⟩:=h;refine ⟨(((ao.b4 t).trans g λ_ _ e=>e).new a).trans f λk s e=>by omega,n,(w.new a).az f λe=>d e.symm,hw,?_⟩;cases i:R.ask with
 |none=>rw [i] at c;exact c
 |some vs=>rw [i] at c;obtain ⟨o,w1,p,x,q⟩:=c;exact ⟨o,w1,p,by omega,(q.new a).az f λk e=>by omega⟩
theorem EC (au:av u b zs eS) (l:zs.length=2) (o:bA) (j:∀ bk i,ai u bk->ao (λk=>k=b) bk i->K o i) :
  ∀ aA g,aA=u.heap.size->g=u.alloc (.cells #[.int .i64 0,.int .i64 0] eS)->ec g ⟨aA,0,none⟩ 0 o.cells/\∀ c,c=cr g ⟨aA,0,none⟩ 0 o.cells->bA.ex λr=>b6 c ⟨aA,0,none⟩ 0 r.cells/\ec c ⟨b,0,none⟩ 0 r.cells/\∀ a,a=cr c ⟨b,0,none⟩ 0 r.cells->bA.ex λres=>b6 a ⟨b,0,none⟩ 0 res.cells/\a=a/\K res a:=by
 refine ea (zs:=[.int .i64 0,.int .i64 0]) (vs:=o.cells) rfl (bA.single _) λaA c n e h=>?_
 refine bA.aR o ⟨bJ e rfl,dQ (ai.aj h au) (by rw [l];rfl) (bA.single _) λa f d=>?_⟩;exact bA.aR o ⟨bJ f rfl,rfl,j c a h d⟩
theorem ED (z:fa w0 u aX tb r m j) (J:eP A w0 u tb T G) (p:fY T) {at_:Int} (hw:j.writes≠[]->bh u a (us ws)/\n=ws.length/\n<=cap/\(a=none->ws=[])/\(∀ x ∈ ws,ca x)/\ws.length<=1000000) (b:Int) :
  a9 208 [ptr aX,.int .i64 at_,.slice a n cap,.int .i64 b] u (kL A w0 u tb u.heap.size (nv j G at_ ws b)):=by
 refine bc Tryz.func208 ?_;rw [ptr,Tx];rintro b1 bE y w;obtain ⟨d,c⟩:=bl y w;have d:av bE b1 (bA.cells ⟨0,0⟩) eS:=d;clear w;have f:=z.bz c;have o:=J.new c;have hlen:=z.bM.bQ.len;have s:=c.size;have q:=d.lt;have S:=J.aj.lt;unfold nv;refine ⟨_,_,_,f.aj.cell (i:=6) rfl,dY (λe=>?_) (λe=>?_)⟩
 ·have k:j.writes=[]:=fI (by omega);rw [if_pos k];exact mf d rfl 0 0 λK C=>⟨rfl,(gy.skip (B:=bE.heap.size) o p (ao.refl _ _)).put c (ao.refl _ _) C (by omega) q (by omega) s⟩
 ·have k:j.writes≠[]:=λL=>by rw [L] at hlen;simp at hlen <;> omega
  rw [if_neg k];obtain ⟨M,N,O,P,Q,R⟩:=hw k;have F:cF (λ_=>False) bE ⟨2,0,at_,0,0,0,a,n,cap,0,0⟩ ⟨2,0,at_,0,0,0,ws,0,0⟩:=pT (M.new c) N O P Q R hf hf;have l:=PH f F;refine aC l ?_;rintro v U ⟨aa,ac,rfl,H,h⟩;refine ⟨_,_,_,rfl,?_⟩;have g:=rN (f.bz h) (o.new h) p f.new (w1:=bE) (by omega) H (by rw [ft];have:=z.cf.mem;omega) b;refine aC g ?_;rintro v K ⟨dB,dc,raw,rfl,t,_⟩;refine ⟨_,_,_,bA.aR ⟨(cg G (pv j at_ ws) b).out.1,(cg G (pv j at_ ws) b).out.2⟩ ⟨(cg G (pv j at_ ws) b).ok,rfl,?_⟩⟩;have I:av K b1 (bA.cells ⟨0,0⟩) eS:=t.az.aj (ai.aj h d) (by omega);refine EC I rfl _ λV W E D=>⟨rfl,t.put (c.new h) E D (by omega) q (by omega) s⟩
end
end Go.Proofs.YtmkljjbioomepaaGreat
