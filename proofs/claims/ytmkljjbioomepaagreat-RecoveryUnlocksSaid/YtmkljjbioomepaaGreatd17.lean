import Derived.Test.YtmkljjbioomepaaGreatProg
import Derived.Test.YtmkljjbioomepaaGreatd03
import Derived.Test.YtmkljjbioomepaaGreatd16
set_option linter.all false
set_option maxHeartbeats 4000000
set_option maxRecDepth 100000
namespace Go.Proofs.YtmkljjbioomepaaGreat
open Go.Proofs.Tryz Go.bs
variable {A M:a6} {B b c cap aY n tb:Nat} {G:List (List aM)} {K:bF->aF} {T:gn} {a:an} {ds:List aM} {j:c0} {lines seq:Int} {m bS:a0} {r:dt} {u bw w w0:ak} {v:aG} {vs:List aQ} {ws:a8} {x:aQ} {zs:ax}
section
open IntKind
variable (w:ak) (R:cz) {a b c d:Nat} {A B:aX} {s t:an} {i k:Int} {j:ar}
theorem UM:bf prog f172 [ba a] R w=(aS w #[ab 0,ab 0] 171 λo u=>cw u λt l=>cV l (af a 0) λj=>uW l (af a 0) λs=>ct 209 #[ab j] t λb q=>l q/\GW 168 #[s.val] q λh p=>l p/\eZ 210 #[h.val] p λc d f n=>l n/\Calls prog 208 #[ba a,ab b,ae c d f,ab 1] n λe r=>bF.ex λi=>∃ g,e=.returned (.tuple #[i.val,ad g])/\l r/\a_ r (af o 0) 0 i.cells λm=>dY m (af o 0) λk=>m=m/\R (.tuple #[k.val,ad g]) m):=by kernel_rfl
theorem UN:bf prog f174 [ba a] R w=(aS w #[ab 0,ab 0] 171 λn m=>bX m (af a 1) λj=>hH 214 #[ab j] m λb c l=>bX l (af a 0) λd=>ct 215 #[ab d] l λf r=>aS r #[ah b] 30 λq p=>Calls prog 208 #[ba a,ab f,ae (bo q) 1 1,ab 2] p λe o=>bF.ex λh=>∃ g,e=.returned (.tuple #[h.val,ad g])/\a_ o (af n 0) 0 h.cells λk=>dY k (af n 0) λi=>k=k/\R (.tuple #[i.val,ad g]) k):=by kernel_rfl
def uo (e s2:aX) (i:an) (a b:Nat) (c:an) (d f:Nat) (g h:Int) (j:ar):ar:=.pointer (some e)::ag j 0 1 (.pointer (some s2)::ag j 1 1 (ae i a b::ag j 2 10 (ae c d f::ab g::ab h::ag j 12 31 [])))
def FZ (a b:aX) (e:an) (c d:Nat) (j:ar):ar:=.pointer (some a)::ag j 0 1 (.pointer (some b)::ag j 1 1 (ae e c d::ag j 2 44 []))
theorem ol:bf prog f175 [ba a] R w=(aS w #[ab 0,ab 0] 171 λg f=>l5 f (af a 3) λd=>eZ 216 #[d.val] f λe b c h=>cG prog (c7 f175 [1,1,0,1,0,0]) (uo (af a 0) (af g 0) none 0 0 e b c (b:Nat) 0 (undef::ad false::bD 5 (jp (af a 0)::jp (af a 0)::jp (af a 0)::jp (af a 3)::d.val::bD 31 []))) (aP 0 (aU f175 [1,1,1] R)) h):=by kernel_rfl
theorem R8 (D:ar->aF):W prog (sb f175 [1,1,0,1,0,0]) (uo A B s a b t c d i k j) (aZ D (aP 0 (aU f175 [1,1,1] R))) w=(cond (k<i) (bA t c k 3 λC=>iC w C λr=>aS w #[ab 0,ab 0,ad false] 116 λy a'=>a_ a' (af y 0) 0 r.cells λz=>b_ z (bY A 6) λg h l=>cond ((h:Int)>0) (iC z (af y 0) λE=>eZ 217 #[.pointer (some A),E.val] z λm n o K=>db 125 (ae s a b) (ae m n o) K λu p q F=>iC F (af y 0) λH=>eM 218 #[.pointer (some A),H.val] F λx a9=>aS a9 x.cells.toArray 158 λG M=>db 125 (ae u p q) (ae (bo G) 1 1) M λe f v L=>D (uo A B e f v t c d i (i64.wrap (k+1)) (aO j 0::aO j 1::aO j 2::jp (af y 0)::ag j 4 8 (ad (k<i)::jp C::r.val::jp A::jp A::jp A::bL A 6::ae g h l::eo h::ad ((h:Int)>0)::ae s a b::jp A::E.val::ae m n o::ae u p q::ae u p q::jp A::H.val::x.val::ae (bo G) 1 1::ae e f v::ab (i64.wrap (k+1))::ag j 34 9 []))) L) (D (uo A B s a b t c d i (i64.wrap (k+1)) (aO j 0::aO j 1::aO j 2::jp (af y 0)::ag j 4 8 (ad (k<i)::jp C::r.val::jp A::jp A::jp A::bL A 6::ae g h l::eo h::ad ((h:Int)>0)::ag j 22 11 (ab (i64.wrap (k+1))::ag j 34 9 [])))) z)) (W prog (sb f175 [1,1,1]) (FZ A B s a b (ag j 0 12 (ae t c d::ab i::ab k::ad (k<i)::ag j 13 30 []))) (b7 f175 R) w)):=by kernel_rfl
theorem So:W prog (sb f175 [1,1,1]) (FZ A B s a b j) (b7 f175 R) w=(Calls prog 213 #[.pointer (some A),ae s a b,ab 3] w λe o=>∃ f g h,bF.ex λk=>∃ i,e=.returned (.tuple #[ae f g h,k.val,ad i])/\aS o #[ab 0,ab 0] 171 λm n=>a_ n (af m 0) 0 k.cells λd=>dY d (af m 0) λr=>a_ d B 0 r.cells λc=>dY c B λl=>c=c/\R (.tuple #[l.val,ad i]) c):=by kernel_rfl
theorem Ty:bf prog f176 [ba a] R w=(aS w #[ab 0,ab 0] 171 λC iY=>b_ iY (af a 6) λj b c=>cond ((b:Int) == 0) (a_ iY (af C 0) 0 [ab 0,ab 0] λY=>dY Y (af C 0) λXB=>Y=Y/\R (.tuple #[XB.val,ad true]) Y) (cw iY λZE u=>hp u (af a 8) λZx=>hp u (af a 8) λG=>(eM 218 #[ba a,Zx.val] ZE λH Q=>u Q/\(aS Q H.cells.toArray 158 λaam aad=>u aad/\(eZ 217 #[ba a,G.val] aad λd f g aag=>u aag/\(db 125 (ae (bo aam) 1 1) (ae d f g) aag λX_ h i aaf=>u aaf/\(Calls prog 213 #[ba a,ae X_ h i,ab 3] aaf λe Zy=>∃ (k:an) (l m:Nat),bF.ex λZl=>∃ (n:Bool),e=.returned (.tuple #[ae k l m,Zl.val,ad n])/\u Zy/\aS Zy #[ab 0,ab 0] 171 λZG ZH=>u ZH/\a_ ZH (af ZG 0) 0 Zl.cells λZd=>dY Zd (af ZG 0) λr=>a_ Zd (af C 0) 0 r.cells λN=>dY N (af C 0) λXC=>N=N/\R (.tuple #[XC.val,ad n]) N)/\aS aaf #[ab 0,ab 0] 171 λZI ZJ=>u ZJ/\Calls prog 213 #[ba a,ae X_ h i,ab 3] ZJ λe Z4=>∃ (o:an) (p q:Nat),bF.ex λZ2=>∃ (s:Bool),e=.returned (.tuple #[ae o p q,Z2.val,ad s])/\u Z4/\a_ Z4 (af ZI 0) 0 Z2.cells λZU=>dY ZU (af ZI 0) λYw=>a_ ZU (af C 0) 0 Yw.cells λW=>dY W (af C 0) λYy=>W=W/\R (.tuple #[Yy.val,ad s]) W)/\aS aag #[ab 0,ab 0] 171 λZq Ze=>u Ze/\db 125 (ae (bo aam) 1 1) (ae d f g) Ze λt v x Z7=>u Z7/\Calls prog 213 #[ba a,ae t v x,ab 3] Z7 λe Zo=>∃ (y:an) (z Yd:Nat),bF.ex λZK=>∃ (Y4:Bool),e=.returned (.tuple #[ae y z Yd,ZK.val,ad Y4])/\u Zo/\a_ Zo (af Zq 0) 0 ZK.cells λE=>dY E (af Zq 0) λX4=>a_ E (af C 0) 0 X4.cells λX=>dY X (af C 0) λYW=>X=X/\R (.tuple #[YW.val,ad Y4]) X)/\aS aad #[ab 0,ab 0] 171 λZu Zs=>u Zs/\eZ 217 #[ba a,G.val] Zs λYA Yo Xz Zh=>u Zh/\db 125 (ae (bo aam) 1 1) (ae YA Yo Xz) Zh λYU Yf Yl Zz=>u Zz/\Calls prog 213 #[ba a,ae YU Yf Yl,ab 3] Zz λe Za=>∃ (YN:an) (YH XJ:Nat),bF.ex λZj=>∃ (A:Bool),e=.returned (.tuple #[ae YN YH XJ,Zj.val,ad A])/\u Za/\a_ Za (af Zu 0) 0 Zj.cells λY3=>dY Y3 (af Zu 0) λXR=>a_ Y3 (af C 0) 0 XR.cells λP=>dY P (af C 0) λYb=>P=P/\R (.tuple #[Yb.val,ad A]) P)/\(eZ 217 #[ba a,G.val] Q λaak aah I aaj=>u aaj/\(aS aaj H.cells.toArray 158 λZY aae=>u aae/\(db 125 (ae (bo ZY) 1 1) (ae aak aah I) aae λXZ Z_ ZC D=>u D/\(Calls prog 213 #[ba a,ae XZ Z_ ZC,ab 3] D λe ZO=>∃ (X0:an) (XI XS:Nat),bF.ex λZL=>∃ (F:Bool),e=.returned (.tuple #[ae X0 XI XS,ZL.val,ad F])/\u ZO/\aS ZO #[ab 0,ab 0] 171 λZA Zm=>u Zm/\a_ Zm (af ZA 0) 0 ZL.cells λZF=>dY ZF (af ZA 0) λX7=>a_ ZF (af C 0) 0 X7.cells λa9=>dY a9 (af C 0) λYZ=>a9=a9/\R (.tuple #[YZ.val,ad F]) a9)/\aS D #[ab 0,ab 0] 171 λYF YQ=>u YQ/\Calls prog 213 #[ba a,ae XZ Z_ ZC,ab 3] YQ λe aaa=>∃ (YG:an) (XG X1:Nat),bF.ex λY6=>∃ (Yu:Bool),e=.returned (.tuple #[ae YG XG X1,Y6.val,ad Yu])/\u aaa/\a_ aaa (af YF 0) 0 Y6.cells λZp=>dY Zp (af YF 0) λXw=>a_ Zp (af C 0) 0 Xw.cells λM=>dY M (af C 0) λXA=>M=M/\R (.tuple #[XA.val,ad Yu]) M)/\aS aae #[ab 0,ab 0] 171 λZN XO=>u XO/\db 125 (ae (bo ZY) 1 1) (ae aak aah I) XO λXK YI X' Zv=>u Zv/\Calls prog 213 #[ba a,ae XK YI X',ab 3] Zv λe ZZ=>∃ (Yn:an) (XT Yg:Nat),bF.ex λZ'=>∃ (Zt:Bool),e=.returned (.tuple #[ae Yn XT Yg,Z'.val,ad Zt])/\u ZZ/\a_ ZZ (af ZN 0) 0 Z'.cells λZS=>dY ZS (af ZN 0) λX6=>a_ ZS (af C 0) 0 X6.cells λO=>dY O (af C 0) λXD=>O=O/\R (.tuple #[XD.val,ad Zt]) O)/\aS aaj #[ab 0,ab 0] 171 λZ0 ZD=>u ZD/\aS ZD H.cells.toArray 158 λXN Zc=>u Zc/\db 125 (ae (bo XN) 1 1) (ae aak aah I) Zc λYx Yz Yh ZP=>u ZP/\Calls prog 213 #[ba a,ae Yx Yz Yh,ab 3] ZP λe ZB=>∃ (Ye:an) (YO Yr:Nat),bF.ex λZR=>∃ (ZX:Bool),e=.returned (.tuple #[ae Ye YO Yr,ZR.val,ad ZX])/\u ZB/\a_ ZB (af Z0 0) 0 ZR.cells λZW=>dY ZW (af Z0 0) λYK=>a_ ZW (af C 0) 0 YK.cells λL=>dY L (af C 0) λaan=>L=L/\R (.tuple #[aan.val,ad ZX]) L)/\aS Q #[ab 0,ab 0] 171 λS V=>u V/\(aS V H.cells.toArray 158 λXP Z9=>u Z9/\eZ 217 #[ba a,G.val] Z9 λX9 XM YT Y8=>u Y8/\db 125 (ae (bo XP) 1 1) (ae X9 XM YT) Y8 λXv X5 X8 Z6=>u Z6/\Calls prog 213 #[ba a,ae Xv X5 X8,ab 3] Z6 λe Z1=>∃ (YR:an) (Yp XY:Nat),bF.ex λZ5=>∃ (Zw:Bool),e=.returned (.tuple #[ae YR Yp XY,Z5.val,ad Zw])/\u Z1/\a_ Z1 (af S 0) 0 Z5.cells λZQ=>dY ZQ (af S 0) λYM=>a_ ZQ (af C 0) 0 YM.cells λaac=>dY aac (af C 0) λYD=>aac=aac/\R (.tuple #[YD.val,ad Zw]) aac)/\eZ 217 #[ba a,G.val] V λYV YB XE Zk=>u Zk/\aS Zk H.cells.toArray 158 λYk ZT=>u ZT/\db 125 (ae (bo Yk) 1 1) (ae YV YB XE) ZT λYL YY XU Yj=>u Yj/\Calls prog 213 #[ba a,ae YL YY XU,ab 3] Yj λe J=>∃ (YJ:an) (X2 XQ:Nat),bF.ex λZr=>∃ (Y_:Bool),e=.returned (.tuple #[ae YJ X2 XQ,Zr.val,ad Y_])/\u J/\a_ J (af S 0) 0 Zr.cells λZb=>dY Zb (af S 0) λYq=>a_ Zb (af C 0) 0 Yq.cells λZ=>dY Z (af C 0) λYP=>Z=Z/\R (.tuple #[YP.val,ad Y_]) Z)/\aS ZE #[ab 0,ab 0] 171 λT Zn=>u Zn/\eM 218 #[ba a,Zx.val] Zn λY7 aal=>u aal/\(aS aal Y7.cells.toArray 158 λYi Zf=>u Zf/\eZ 217 #[ba a,G.val] Zf λXW XL X3 Zi=>u Zi/\db 125 (ae (bo Yi) 1 1) (ae XW XL X3) Zi λB Ys YE Y0=>u Y0/\Calls prog 213 #[ba a,ae B Ys YE,ab 3] Y0 λe Zg=>∃ (Yc:an) (XX Yv:Nat),bF.ex λY9=>∃ (aab:Bool),e=.returned (.tuple #[ae Yc XX Yv,Y9.val,ad aab])/\u Zg/\a_ Zg (af T 0) 0 Y9.cells λZV=>dY ZV (af T 0) λU=>a_ ZV (af C 0) 0 U.cells λK=>dY K (af C 0) λXH=>K=K/\R (.tuple #[XH.val,ad aab]) K)/\eZ 217 #[ba a,G.val] aal λYS Ya YX Y1=>u Y1/\aS Y1 Y7.cells.toArray 158 λXV Z8=>u Z8/\db 125 (ae (bo XV) 1 1) (ae YS Ya YX) Z8 λaai Yt Xx Y2=>u Y2/\Calls prog 213 #[ba a,ae aai Yt Xx,ab 3] Y2 λe ZM=>∃ (YC:an) (aao Xy:Nat),bF.ex λY'=>∃ (Y5:Bool),e=.returned (.tuple #[ae YC aao Xy,Y'.val,ad Y5])/\u ZM/\a_ ZM (af T 0) 0 Y'.cells λZ3=>dY Z3 (af T 0) λXF=>a_ Z3 (af C 0) 0 XF.cells λa'=>dY a' (af C 0) λYm=>a'=a'/\R (.tuple #[Ym.val,ad Y5]) a')):=by kernel_rfl
theorem U7:bf prog f208 [ba a,ab i,ae s b c,ab k] R w=(aS w #[ab 0,ab 0] 171 λu x=>b_ x (af a 6) λy d f=>cond ((d:Int) == 0) (a_ x (af u 0) 0 [ab 0,ab 0] λt=>dY t (af u 0) λo=>t=t/\R (.tuple #[o.val,ad true]) t) (eZ 237 #[ba a,.agg #[ab 2,ab 0,ab i,ab 0,ah 0,ah 0,ae s b c,ah 0,ab 0]] x λg h j E=>Calls prog 213 #[ba a,ae g h j,ab k] E λe D=>∃ A l m,bF.ex λp=>∃ n,e=.returned (.tuple #[ae A l m,p.val,ad n])/\aS D #[ab 0,ab 0] 171 λz C=>a_ C (af z 0) 0 p.cells λB=>dY B (af z 0) λr=>a_ B (af u 0) 0 r.cells λv=>dY v (af u 0) λq=>v=v/\R (.tuple #[q.val,ad n]) v)):=by kernel_rfl
end
section
structure Ff (j:c0):Prop where
 aW:0<=j.aW/\j.aW<6
 num:0<=j.v.number/\j.v.number<16
 mem:0<j.v.mem.length/\j.v.mem.length<=5
 ee:∀ m ∈ j.v.mem,1<=m.cq/\m.cq<=31
 s_:j.writes.length<=12
 x4:j.reads.length<=24
 wr:j.writes≠[]->fH j.seq j.writes 256=0/\1<=j.seq/\j.seq<1073741824
 wl:∀ p ∈ j.writes,96<=p.bm/\p.bm<256
 HJ:∀ p ∈ j.writes,l8 p.Head=true/\kO p.Head=true
 mP:∀ s ∈ j.reads,96<=s.bm/\s.bm<256
theorem jy {W:List aK} (h:fH seq W lines=0):(98<=lines/\lines<=256)/\(1<=seq/\seq<1073741824/\1<=W.length/\W.length<=12)/\(∀ p ∈ W,96<=p.bm/\p.bm<lines)/\(∀ p ∈ W,l8 p.Head=true/\kO p.Head=true)/\(W.all λp=>iN p.bm lines)=true/\(List.range W.length).all (λi=>j9 W i && kh (W.getD i hR))=true:=by
 unfold fH at h;split at h
 ·omega
 rename_i f;split at h
 ·omega
 rename_i g;split at h
 ·omega
 rename_i a;split at h
 ·omega
 rename_i b;have a:(W.all λp=>iN p.bm lines)=true:=tk _▸a;have b:(List.range W.length).all (λi=>j9 W i && kh (W.getD i hR))=true:=tk _▸b;refine ⟨by omega,by omega,λp d=>?_,λp d=>?_,a,b⟩
 ·have:=fE.1 a p d;unfold iN at this;have:=of_decide_eq_true this;omega
 ·obtain ⟨i,e⟩:=List.getElem?_of_mem d;have c:=b3 e;have:=fE.1 b i (fs.2 c);rw [oL e] at this;unfold kh at this;simp only [ep] at this;exact ⟨this.2.2,this.2.1⟩
theorem Bc {W:List aK} (h:fH seq W lines=0):fH seq W 256=0:=by
 obtain ⟨e,f,b,_,g,c⟩:=jy h;have a:(W.all λp=>iN p.bm 256)=true:=fE.2 λp d=>by have:=b p d;unfold iN;exact decide_eq_true (by omega)
 unfold fH;rw [if_neg (by omega),if_neg (by omega),if_neg (by rw [a];simp),if_neg (by rw [c];simp)]
theorem E9 {l:List a0} (h:(List.range l.length).all (kk n l)=true):l.length<=n:=by
 have key:∀ i,i<l.length->(i:Int)<=(l.getD i jW).Node/\(l.getD i jW).Node<n:=by
  intro i;induction i with
  |zero=>intro a;have:=fE.1 h 0 (fs.2 a);unfold kk at this;simp at this ⊢;omega
  |succ i d=>intro a;have c:=d (by omega);have:=fE.1 h (i+1) (fs.2 a);unfold kk at this;simp at this c ⊢;omega
 rcases vp l.length with b | b
 ·omega
 ·have:=key (l.length - 1) (by omega);omega
theorem Nc (h:j.valid=0):Ff j:=by
 unfold c0.valid at h;split at h
 ·omega
 rename_i k;split at h
 ·omega
 rename_i b;have b:j.v.valid 5=0:=by omega
 split at h
 ·omega
 rename_i i;split at h
 ·omega
 rename_i l;split at h
 ·omega
 rename_i w;split at h
 ·omega
 rename_i g;split at h
 ·omega
 rename_i x;have g:(j.reads.all λs=>iN s.bm j.lines)=true:=tk _▸g;have hw:j.writes≠[]->fH j.seq j.writes j.lines=0:=λa=>by
  have:=vC.2 a;by_cases e:fH j.seq j.writes j.lines=0
  ·exact e
  ·exact absurd ⟨this,e⟩ l
 unfold jt.valid at b;split at b
 ·omega
 rename_i q;split at b
 ·omega
 rename_i r;split at b
 ·omega
 rename_i t;split at b
 ·omega
 rename_i d;split at b
 ·omega
 rename_i f;have f:j.v.mem.all mS=true:=by simpa using f
 have d:(List.range j.v.mem.length).all (kk (5:Nat) j.v.mem)=true:=tk _▸d;have u:=E9 d;have emp:∀ {P:aK->Prop},(j.writes≠[]->∀ p ∈ j.writes,P p)->∀ p ∈ j.writes,P p:=λn p c=>n (List.ne_nil_of_mem c) p c
 refine ⟨by omega,by omega,by omega,λm hm=>?_,?_,by omega,λa=>?_,emp λa p c=>?_,emp λa p c=>(jy (hw a)).2.2.2.1 p c,λs o=>?_⟩
 ·have:=fE.1 f m hm;unfold mS at this;exact of_decide_eq_true this
 ·by_cases e:j.writes=[]
  ·rw [e];simp
  ·exact (jy (hw e)).2.1.2.2.2
 ·obtain ⟨_,b,_⟩:=jy (hw a);exact ⟨Bc (hw a),b.1,b.2.1⟩
 ·obtain ⟨k,_,i,_⟩:=jy (hw a);have:=i p c;omega
 ·have:=fE.1 g s o;unfold iN at this;have:=of_decide_eq_true this;omega
abbrev mi:TypeId:=212
abbrev eR:TypeId:=171
abbrev ou:TypeId:=30
def lU (r:dt) (tb:Nat) (m:a0):ax:=r.cells++(ptr tb::m.cells)
structure fa (w0 u:ak) (aY tb:Nat) (r:dt) (m:a0) (j:c0):Prop where
 aj:av u aY (lU r tb m) mi
 bQ:p4 w0 r j
 b8:Ff j
 mem:j.v.mem[0]?=some m
 new:ai w0 u
 FM:w0.heap.size<=aY
 kS:w0.heap.size<=tb
 ne:aY≠tb
theorem fa.bB (h:fa w0 u aY tb r m j) (a:ai u bw):fa w0 bw aY tb r m j:=
 ⟨ai.aj a h.aj,h.bQ,h.b8,h.mem,h.new.new a,h.FM,h.kS,h.ne⟩
theorem fa.aA (h:fa w0 u aY tb r m j) (b:ao M u bw) (a:∀ k,M k->w0.heap.size<=k/\k≠aY):fa w0 bw aY tb r m j:=
 ⟨b.aj h.aj λe=>(a _ e).2 rfl,h.bQ,h.b8,h.mem,h.new.trans b λk c e=>by have:=(a k e).1;omega,h.FM,h.kS,h.ne⟩
theorem fa.num {w0 u:ak} {aY tb:Nat} {r:dt} {m:a0} {j:c0} (h:fa w0 u aY tb r m j):r.View.Number=j.v.number:=by obtain ⟨M,al⟩:=h.bQ.view;exact al.num
theorem sH (h:fa w0 w aY tb r bS j) (F:d9 m.cq) (al:cL M w v x) :
  bb 212 [ptr aY,m.val,v.val] w λy w'=>∃ bj:aG,y=bj.val/\cL (λk=>k<w.heap.size) w' bj (addr j.v.number m x)/\ai w w':=by
 refine bd Tryz.func212 ?_;rw [ptr,TL];rintro b1 w1 C s;obtain ⟨g,n⟩:=bl C s;have g:av w1 b1 m.cells eG:=g;clear s;rintro aB S D t;obtain ⟨i,f⟩:=bl D t;have i:av S aB v.cells cF:=i;clear t;rintro K J E u;obtain ⟨d,c⟩:=bl E u;have d:av J K (aG.cells ⟨0,0,0,0,0,0,none,0,0,0,0⟩) cF:=d;clear u;rintro B z;have b:ai J B:=by rw [z];exact cK _
 clear z;have a:=((n.new f).new c).new b;have O:=n.size;have P:=f.size;have Q:=c.size;have R:=b.size;have L:=h.bB a;have p:=h.num;have U:=h.b8.num;refine ⟨λy=>ai B y,ao.refl _ _,c2.aT r.View ⟨λy A=>bO (ai.aj A L.aj) rfl,a0.aT m ⟨λy A=>bO (ai.aj (((f.new c).new b).new A) g) rfl,aG.aT v ⟨λy A=>bO (ai.aj ((c.new b).new A) i) rfl,?_⟩⟩⟩⟩;refine aD (BN B (by omega) (by omega) F (al.aA (ao.b9 a) λ_ _ e=>e)) ?_;rintro y V ⟨bj,rfl,q,o⟩;refine aG.aT bj ⟨rfl,dQ (ai.aj (b.new o) d) rfl (aG.single _) λT H l=>?_⟩;have I:=d.lt;refine aG.aT bj ⟨bO H rfl,rfl,bj,rfl,?_,(a.new o).trans l λk N e=>by omega⟩;rw [p] at q;have G:cL (λk=>k<B.heap.size) T bj (addr j.v.number m x):=q.aA (l.mono λk _ e=>by omega) λ_ _ e=>e
 exact G.aA (ao.refl _ _) λk _ e=>by omega
theorem cL.mono {M':a6} (h:cL M w v x) (a:∀ k,M' k->M k):cL M' w v x:=h.aA (ao.refl _ _) λk _ e=>a k e
theorem pY {k at_ nn old new:Int} (i:bk w a (us ws)) (g:n=ws.length) (e:n<=c) (b:a=none->ws=[]) (hu:∀ x ∈ ws,cj x) (f:ws.length<=1000000) (h:cj old) (d:cj new) :
  cL (λ_=>False) w ⟨k,0,at_,nn,old,new,a,n,c,0,0⟩ ⟨k,0,at_,nn,old,new,ws,0,0⟩:=by
 subst g;refine ⟨rfl,i,b,.inr ?_,hu,d,h,?_,?_,e,f⟩
 ·cases a with
  |none=>trivial
  |some a=>exact id
 ·have au:cj 0:=⟨by decide,by decide⟩;exact au
 ·have au:d9 0:=⟨by decide,by decide⟩;exact au
def lo (j:c0) (m:a0):aQ:=addr j.v.number m ⟨2,0,32+j.aW,0,0,0,[j.seq],0,0⟩
def jG (j:c0) (m:a0) (p:aK):aQ:=addr j.v.number m ⟨2,0,p.bm * 8,0,0,0,iJ p,0,0⟩
theorem hq:cj 0:=⟨by decide,by decide⟩
theorem C7 (h:fa w0 w aY tb r bS j) (XE:1<=j.seq/\j.seq<1073741824) (F:d9 m.cq) :
  bb 218 [ptr aY,m.val] w λy w'=>∃ bj:aG,y=bj.val/\cL (λk=>k<w.heap.size) w' bj (lo j m)/\ai w w':=by
 refine bd Tryz.func218 ?_;rw [ptr,T0];rintro b1 w1 S J;obtain ⟨B,H⟩:=bl S J;have B:av w1 b1 m.cells eG:=B;clear J;rintro aB Xy T K;obtain ⟨p,A⟩:=bl T K;have p:av Xy aB (aG.cells ⟨0,0,0,0,0,0,none,0,0,0,0⟩) cF:=p;clear K;rintro R L;have n:ai Xy R:=by rw [L];exact cK _
 clear L;have q:=(H.new A).new n;have XA:=H.size;have XB:=A.size;have XC:=n.size;have Q:=h.bB q;have XI:=h.b8.aW;have W:=h.bQ.aW;have X:=h.bQ.seq;have Xw:=p.lt;refine ⟨λy=>ai R y,ao.refl _ _,a0.aT m ⟨λy O=>bO (ai.aj ((A.new n).new O) B) rfl,⟨_,λy O=>(ai.aj O Q.aj).cell (i:=0) rfl,_,λy O=>(ai.aj O Q.aj).cell (i:=1) rfl,?_⟩⟩⟩;dsimp only;rw [W,X,kt (x:=j.seq) (by omega) (by omega)];have fin:∀ {l D:ak} {bj:aG},ai R l->ai l D->cL (λk=>k<l.heap.size) D bj (lo j m)->
   (eh D ⟨aB,0,none⟩ 0 bj.cells/\∀ u,u=cu D ⟨aB,0,none⟩ 0 bj.cells->aG.ex λg=>cf u ⟨aB,0,none⟩ 0 g.cells/\u=u/\∃ bj:aG,g.val=bj.val/\cL (λk=>k<w.heap.size) u bj (lo j m)/\ai w u):=by
  intro l D bj z E f;have XD:=z.size;refine dQ (ai.aj ((n.new z).new E) p) rfl (aG.single _) λu Z G=>?_
  refine aG.aT bj ⟨bO Z rfl,rfl,bj,rfl,?_,((q.new z).new E).trans G λk Xz e=>by omega⟩;have Y:cL (λk=>k<l.heap.size) u bj (lo j m):=f.aA (G.mono λk _ e=>by omega) λ_ _ e=>e
  exact Y.mono λk e=>by omega
 have t:∀ {l:ak} {P:Nat},av l P [.int .u64 j.seq] ou->cL (λ_=>False) l ⟨2,0,32+j.aW,0,0,0,some ⟨P,0,none⟩,1,1,0,0⟩ ⟨2,0,32+j.aW,0,0,0,[j.seq],0,0⟩:=by intro l P C;exact pY (fu C rfl) rfl (by omega) (λe=>by cases e) (λx Xx=>by simp at Xx;subst Xx;unfold cj;omega) (by simp) hq hq
 refine ⟨?_,?_⟩
 ·refine aD (vZ R (by omega)) ?_;rintro y XJ ⟨rfl,b⟩;refine ⟨_,rfl,b,?_⟩;rintro P l U M;obtain ⟨C,o⟩:=bl U M;clear M;refine ⟨b.new o,?_⟩;have a:=sH (Q.bB (b.new o)) F (t C);refine aD a ?_;rintro y D ⟨bj,rfl,f,I⟩;exact aG.aT bj ⟨rfl,(b.new o).new I,fin (b.new o) I f⟩
 ·rintro XH XG V N;obtain ⟨Xv,c⟩:=bl V N;clear N;refine ⟨c,?_⟩;refine aD (vZ XG (by omega)) ?_;rintro y XK ⟨rfl,d⟩;refine ⟨_,rfl,c.new d,?_⟩;have a:=sH (Q.bB (c.new d)) F (t (ai.aj d Xv));refine aD a ?_;rintro y XF ⟨bj,rfl,f,s⟩;exact aG.aT bj ⟨rfl,(c.new d).new s,fin (c.new d) s f⟩
theorem EB {p:aK} (h:∀ x ∈ hz p,cj x):∀ x ∈ iJ p,cj x:=λx a=>by
 unfold iJ at a;rcases eU.1 a with rfl | a
 ·exact Na _
 ·exact h x a
theorem C8 (h:fa w0 w aY tb r bS j) (aq:∀ p ∈ j.writes,∀ x ∈ hz p,cj x) (Y:d9 m.cq) :
  bb 217 [ptr aY,m.val] w λy w'=>∃ (a:an) (cap:Nat),y=.slice a j.writes.length cap/\bK w w' a j.writes.length cap (j.writes.map (jG j m))/\ai w w':=by
 refine bd Tryz.func217 ?_;rw [ptr,TZ];rintro b1 w1 W S;obtain ⟨c,F⟩:=bl W S;have c:av w1 b1 m.cells eG:=c;clear S;have XE:=h.bB F;have hlen:=h.bQ.bV.len;have XT:=h.b8.s_;have XV:=F.size;refine ⟨_,_,_,XE.aj.cell (i:=6) rfl,?_⟩;refine c8 mix (λq env u=>∃ (i:Nat) (a2:an) (pc:Nat) (XJ:ax),q=j.writes.length - i/\i<=j.writes.length/\env=xa ⟨aY,0,none⟩ ⟨b1,0,none⟩ a2 i pc r.eH r.dT r.hv r.dT i XJ/\ai w u/\bK w u a2 i pc ((j.writes.take i).map (jG j m))/\av u b1 m.cells eG/\fa w0 u aY tb r bS j) j.writes.length
  ⟨0,none,0,_,rfl,by omega,rfl,F,bK.nil _ _,c,XE⟩ ?_
 rintro q env u ⟨i,a2,pc,XJ,rfl,X2,rfl,H,l,c,D⟩;rw [SE,hlen];have M:ai w0 u:=h.new.new H;refine bc (λXU=>?_) (λXS=>?_)
 ·obtain ⟨p,Xy⟩:∃ p,j.writes[i]?=some p:=⟨_,bE (by omega)⟩;have z:=b5 Xy;have Q:=h.b8.wl p z;have Xz:=h.b8.HJ p z;have XA:=h.bQ.bV.u64 p z;refine eI (cells:=aK.cells) aK.len (by omega) (h.bQ.bV.rd.new M) Xy rfl rfl λb o Z _=>aK.aT p ⟨Z,?_⟩
  refine ec (vs:=p.cells) rfl (aK.single _) λXM XX XQ n J=>?_
  refine aK.aT p ⟨bO n rfl,?_⟩;refine aD (Cj XX p XA Xz.2) ?_;rintro y bq ⟨aa,ac,rfl,K,A,XP⟩;refine ⟨_,_,_,_,rfl,?_⟩;rintro XK T;have G:ai bq XK:=by rw [T];exact cK _
  clear T;have f:=K.new G;have d:=(J.new K).new G;refine ⟨λy=>av y XM p.cells eu/\av y b1 m.cells eG,⟨ai.aj f n,ai.aj d c⟩,a0.aT m ⟨λy XD=>bO XD.2 rfl,_,λy XD=>XD.1.cell (i:=0) rfl,?_⟩⟩;refine aD (rj XK Q.1 Q.2) ?_;rintro y XY ⟨rfl,rfl⟩;refine ⟨_,rfl,⟨ai.aj f n,ai.aj d c⟩,?_⟩;have XC:cL (λ_=>False) XY ⟨2,0,p.bm * 8,0,0,0,aa,8,ac,0,0⟩ ⟨2,0,p.bm * 8,0,0,0,iJ p,0,0⟩:=pY (a1.new G A).rd (by rfl) (a1.le A) (λe=>by
   obtain ⟨_,XO⟩:=A;rcases XO with ⟨X3,_,_⟩ | ⟨g,cur,XR,_⟩
   ·omega
   ·rw [XR] at e;cases e) (EB (aq p z)) (by simp [iJ,hz]) hq hq
  have B:=sH (D.bB d) Y XC;refine aD B ?_;rintro y XZ ⟨bj,rfl,XB,t⟩;have s:=d.new t;refine aG.aT bj ⟨rfl,⟨ai.aj (f.new t) n,ai.aj s c⟩,?_⟩;have R:=l.new d;rintro X1 X0 X U;have L:ai XZ X0:=by rw [U];exact hy _ _
  refine ⟨⟨ai.aj ((f.new t).new L) n,ai.aj (s.new L) c⟩,?_⟩;have XI:=n.lt;have XH:=c.lt;have P:∀ k,aL a2 k->k<u.heap.size:=λk V=>by obtain ⟨cp,N,_⟩:=l.ex;exact N.lt V
  have XW:=J.size;refine bK.l3 R (H.new d) t XB (by omega) X U λap I u8 XF E Xx=>?_
  have O:¬ aL a2 b1:=λe=>by have XG:=l.ex;obtain ⟨cp,N,_⟩:=XG;obtain ⟨cs,C⟩:=fT N e;exact absurd (C.ne c (by decide)) (λXv=>Xv rfl)
  have XL:av u8 b1 m.cells eG:=E.aj (ai.aj s c) O;refine ⟨⟨E.aj (ai.aj (f.new t) n) λe=>by have:=P _ e;omega,XL⟩,?_⟩;rw [bH (x:=(i:Int)+1) (by omega) (by omega)];have e:(j.writes.take i).map (jG j m)++[addr j.v.number m ⟨2,0,p.bm * 8,0,0,0,iJ p,0,0⟩]=(j.writes.take (i+1)).map (jG j m):=by rw [ff,Xy];simp [jG]
  rw [e] at XF;refine ⟨j.writes.length - (i+1),by omega,i+1,ap,I,_,rfl,by omega,by rw [<-hlen];rfl,Xx,XF,XL,(D.bB s).aA E λk V=>?_⟩;have XG:=l.gv k V;have XN:=h.new.size;refine ⟨by omega,λe=>?_⟩
  obtain ⟨cp,N,_⟩:=l.ex;obtain ⟨cs,C⟩:=fT N V;exact absurd (e▸C |>.ne D.aj (by decide)) (λXv=>Xv rfl)
 ·have Xw:i=j.writes.length:=by omega
  subst Xw;rw [ST];rw [h0] at l;exact ⟨a2,pc,rfl,l,H⟩
end
section
def hB:List aM->Int
 | []=>0
 |d::ds=>if d.code=0 then hB ds else d.code
theorem Jd {i:Nat} {x:aM} (h:ds[i]?=some x):hB (ds.drop i)=if x.code=0 then hB (ds.drop (i+1)) else x.code:=by have a:=b3 h;rw [oZ a];rw [bE a] at h;cases h;rfl
theorem C9 (hw:ai w0 w) {raw:List bT} (C:n=raw.length) (E:bk w0 a (fW raw).flatten) (aq:g6 A w0 raw ds) (t:raw.length<=1000000):bb 242 [.slice a n c] w λx w'=>x=.int .i64 (hB ds)/\ai w w':=by
 subst C;refine bd Tryz.func242 ?_;rw [Iw];have B:=aq.1;refine c8 mix (λm env u=>∃ (i:Nat) (y:ax),m=raw.length - i/\i<=raw.length/\env=xF a raw.length c raw.length i y/\ai w u/\hB ds=hB (ds.drop i)) raw.length
  ⟨0,_,by omega,by omega,rfl,ao.refl _ _,rfl⟩ ?_
 rintro m env u ⟨i,y,rfl,F,rfl,f,p⟩;rw [Vj];refine bc (λD=>?_) (λD=>?_)
 ·have s:i<raw.length:=by omega
  have r:raw[i]?=some raw[i]:=bE s;obtain ⟨x,j⟩:∃ x,ds[i]?=some x:=⟨_,bE (by omega)⟩;have h:=aq.2 i _ _ r j;generalize raw[i]=d at r h;have g:=h.code;rw [Jd j] at p;refine eI (cells:=bT.cells) bT.len (by omega) (E.new (hw.new f)) r rfl rfl λb o q _=>bT.aT d ⟨q,?_⟩
  refine ec (vs:=d.cells) rfl (bT.single _) λb1 G z l k=>⟨_,l.cell (i:=0) rfl,du (λe=>⟨_,l.cell (i:=0) rfl,?_,f.new k⟩) (λe=>?_)⟩
  ·rw [p,if_neg (by omega),g]
  ·rw [bH (x:=(i:Int)+1) (by omega) (by omega)];exact ⟨raw.length - (i+1),by omega,i+1,_,rfl,by omega,rfl,f.new k,by rw [p,if_pos (by omega)]⟩
 ·rw [Wd];refine ⟨?_,f⟩;rw [p,List.drop_of_length_le (by omega)];rfl
structure cr where
 ok:Bool
 done:List aM
 out:Int×Int
 a7:List (List aM)
 ask:Option (List aQ)
 dD:Bool
def cm (G:List (List aM)) (vs:List aQ) (a:Int):cr:=
 if (batch G vs).ok=false then ⟨false,[],(0,0),(batch G vs).a7,(batch G vs).ask,(batch G vs).dD⟩
 else if hB (batch G vs).done≠0 then ⟨false,[],(hB (batch G vs).done,a),(batch G vs).a7,none,false⟩
 else ⟨true,(batch G vs).done,(0,0),(batch G vs).a7,none,false⟩
structure eP (A:a6) (w0 u:ak) (tb:Nat) (T:gn) (G:List (List aM)):Prop where
 aj:av u tb T.cells pk
 a7:hS A w0 T.hb G
 dL:T.dL=G.length
 gc:T.dL<=T.gc
theorem eP.new (h:eP A w0 u tb T G) (a:ai u bw):eP A w0 bw tb T G:=⟨ai.aj a h.aj,h.a7,h.dL,h.gc⟩
theorem eP.aA (h:eP A w0 u tb T G) (b:ao M u bw) (a:¬ M tb):eP A w0 bw tb T G:=⟨b.aj h.aj a,h.a7,h.dL,h.gc⟩
structure gJ (A:a6) (w0 u:ak) (tb B:Nat) (R:cr) (bw:ak):Prop where
 aA:ao (λk=>k=tb) u bw
 fY:∃ iv:gn,eP A w0 bw tb iv R.a7/\iv.dD=R.dD/\(match R.ask with
  |none=>iv.da=0
  |some vs=>0<vs.length/\∃ w1,ai w0 w1/\B<=w1.heap.size/\bK w1 bw iv.aa iv.da iv.ac vs)
structure ga (T:gn):Prop where
 da:T.da=0
 dD:T.dD=false
theorem gJ.new {A:a6} {w0 u bw a:ak} {tb B:Nat} {R:cr} (h:gJ A w0 u tb B R bw) (c:ai bw a):gJ A w0 u tb B R a:=by
 obtain ⟨k,e,l,hw,b⟩:=h;refine ⟨k.new c,e,l.new c,hw,?_⟩;cases d:R.ask with
 |none=>rw [d] at b;exact b
 |some vs=>rw [d] at b;obtain ⟨f,w1,g,i,j⟩:=b;exact ⟨f,w1,g,i,j.new c⟩
theorem mv (au:av u b zs eR) (i:zs.length=2) (c f:Int) (h:∀ g,ao (λk=>k=b) u g->K ⟨c,f⟩ g) :
  eh u ⟨b,0,none⟩ 0 [(.int .i64 c),(.int .i64 f)]/\∀ a,a=cu u ⟨b,0,none⟩ 0 [(.int .i64 c),(.int .i64 f)]->bF.ex λres=>cf a ⟨b,0,none⟩ 0 res.cells/\a=a/\K res a:=
 dQ au (vs:=bF.cells ⟨c,f⟩) (by rw [i];rfl) (bF.single _) λa e d=>bF.aT ⟨c,f⟩ ⟨bO e rfl,rfl,h a d⟩
theorem D5 {ws:List aQ} (h:(batch G vs).ask=some ws):0<vs.length:=by
 unfold batch at h;split at h
 ·cases h
 ·omega
theorem rF (Z:fa w0 u aY tb r m j) (XE:eP A w0 u tb T G) (H:ga T) {w1:ak} (XB:ai w0 w1) (Xz:tb<w1.heap.size) (al:bK w1 u a n cap vs) (XG:vs.length<=100000) (f:Int) :
  bb 213 [ptr aY,.slice a n cap,.int .i64 f] u λv bw=>∃ (dB:an) (dc:Nat) (raw:List bT),v=.tuple #[.slice dB raw.length dc,bF.val ⟨(cm G vs f).out.1,(cm G vs f).out.2⟩,.bool (cm G vs f).ok]/\
   gJ A w0 u tb w1.heap.size (cm G vs f) bw/\bk w0 dB (fW raw).flatten/\g6 A w0 raw (cm G vs f).done/\(raw=[]\/raw.length=vs.length):=by
 refine bd Tryz.func213 ?_;rw [ptr,UL];rintro b1 bG W P;obtain ⟨D,o⟩:=bl W P;have D:av bG b1 (bF.cells ⟨0,0⟩) eR:=D;clear P;have z:=Z.bB o;have p:=XE.new o;have C:=al.new o;obtain ⟨cp,w,Q⟩:=C.ex;have XQ:=Q.1;have Xy:=C.len;have XN:=o.size;have XO:=XE.aj.lt;have Y:b1≠tb:=by omega
 refine ⟨_,z.aj.cell (i:=7) rfl,?_⟩;have L:n=cp.length:=by omega
 rw [L] at w;have XD:=D2 (A:=A) z.new Z.kS p.aj p.a7 p.dL p.gc (aa:=a) (ac:=cap) w.rd Q (by omega);rw [<-L] at XD;refine aD XD ?_;rintro v F ⟨XC,dB,dc,raw,rfl,X,q,O,B,I,Xw,Xv,S,h⟩;rw [H.dD,Bool.false_or] at S;have E:av F b1 (bF.cells ⟨0,0⟩) eR:=q.aj D Y;have XP:bK w1 F a n cap vs:=C.aA q λk e=>by omega
 have J:ao (λk=>k=tb) u F:=(ao.b9 o).trans q λ_ _ e=>e
 have b:(batch G vs).done.length=raw.length:=B.1.symm;refine ⟨_,_,_,_,rfl,?_⟩;have fin:∀ {bq y:ak},ai F bq->ao (λk=>k=b1) bq y->∀ {R:cr},R.a7=(batch G vs).a7->R.dD=(batch G vs).dD->R.ask=(batch G vs).ask->gJ A w0 u tb w1.heap.size R y:=by
  intro bq y l g R XH XI XJ;have t:ao (λk=>k=b1) F y:=(ao.b9 l).trans g λ_ _ e=>e
  have s:ao (λk=>k=tb) u y:=J.trans t λk Xx e=>by omega
  refine ⟨s,XC,?_,by rw [S,XI],?_⟩
  ·rw [XH];exact ⟨t.aj X (by omega),I,Xw,Xv⟩
  ·rw [XJ];cases U:(batch G vs).ask with
   |none=>rw [U] at h;obtain ⟨_,V,_⟩:=h;show XC.da=0;rw [V];exact H.da
   |some ws=>rw [U] at h;obtain ⟨XK,V,XL⟩:=h;have:=Ci U;subst this;refine ⟨D5 U,w1,XB,cY _,?_⟩;rw [XK,V,XL,<-Xy];exact al.aA s λk e=>e▸Xz
 unfold cm;have XM:=@qZ G vs;refine ev (λc=>?_) (λc=>?_)
 ·rw [if_pos c];exact mv E rfl 0 0 λy g=>⟨none,0,[],rfl,fin (ao.refl _ _) g rfl rfl rfl,.inl rfl,⟨rfl,λi v x al=>by simp at al⟩,.inl rfl⟩
 ·rw [if_neg (by rw [c];simp)];obtain ⟨M,N⟩:=C5 c;have K:ai w0 F:=z.new.trans q λk Xx e=>by have:=Z.kS;omega
  refine aD (C9 K rfl O B (by omega)) ?_;rintro v bq ⟨rfl,l⟩;refine ⟨_,rfl,du (λe=>?_) (λe=>?_)⟩
  ·rw [if_pos e];exact mv (ai.aj l E) rfl _ _ λy g=>⟨none,0,[],rfl,fin l g rfl N.symm M.symm,.inl rfl,⟨rfl,λi v x al=>by simp at al⟩,.inl rfl⟩
  ·rw [if_neg (by simpa using e)];refine mv (ai.aj l E) rfl 0 0 λy g=>⟨dB,dc,raw,rfl,fin l g rfl N.symm M.symm,O,B,?_⟩
   by_cases XA:vs.length=0
   ·exact .inl (fF (by omega))
   ·right;unfold batch at c b;rw [if_neg XA] at c b;cases G with
    |nil=>cases c
    |cons d XR=>
     simp only at c b;split at c
     ·rename_i XF;rw [if_pos XF] at b;have:=yz XF;simp only at b;omega
     ·cases c
theorem QP (h:fa w0 w aY tb r bS j) (al:cL M w v x) :
  bb 237 [ptr aY,v.val] w λy w'=>∃ (a:an) (cap:Nat),y=.slice a j.v.mem.length cap/\bK w w' a j.v.mem.length cap (j.v.mem.map λm=>addr j.v.number m x)/\ai w w':=by
 refine bd Tryz.func237 ?_;rw [ptr,Ui];rintro b1 w1 F D;obtain ⟨d,l⟩:=bl F D;have d:av w1 b1 v.cells cF:=d;clear D;have E:=h.bB l;obtain ⟨XB,g⟩:=h.bQ.view;have hlen:=g.len;have Y:=h.b8.mem;have L:=l.size;have Xv:=d.lt;refine ⟨_,_,_,E.aj.cell (i:=4) rfl,?_⟩;refine c8 mix (λq env u=>∃ (i:Nat) (a2:an) (pc:Nat) (T:ax),q=j.v.mem.length - i/\i<=j.v.mem.length/\env=w7 ⟨aY,0,none⟩ ⟨b1,0,none⟩ a2 i pc r.View.fh r.View.eW r.View.fQ r.View.eW i T/\ai w1 u/\bK w1 u a2 i pc ((j.v.mem.take i).map λm=>addr j.v.number m x)/\av u b1 v.cells cF/\fa w0 u aY tb r bS j) j.v.mem.length
  ⟨0,none,0,_,rfl,by omega,rfl,ao.refl _ _,bK.nil _ _,d,E⟩ ?_
 rintro q env u ⟨i,a2,pc,T,rfl,XE,rfl,n,f,d,s⟩;rw [SY,hlen];have B:ai w0 u:=E.new.new n;refine bc (λXw=>?_) (λX=>?_)
 ·obtain ⟨m,hm⟩:∃ m,j.v.mem[i]?=some m:=⟨_,bE (by omega)⟩;have Xx:=h.b8.ee m (b5 hm);refine eI (cells:=a0.cells) a0.len (by omega) (g.rd.new B) hm rfl rfl λb o H _=>a0.aT m ⟨H,?_⟩
  refine ec (vs:=m.cells) rfl (a0.single _) λXC XA W Q c=>?_
  refine a0.aT m ⟨bO Q rfl,aG.aT v ⟨bO (ai.aj c d) rfl,?_⟩⟩;have O:cL M XA v x:=al.aA (ao.b9 ((l.new n).new c)) λ_ _ e=>e
  have p:=sH (s.bB c) (m:=m) (by unfold d9;omega) O;refine aD p ?_;rintro y bq ⟨bj,rfl,N,t⟩;refine aG.aT bj ⟨rfl,?_⟩;rintro XD XF G P;have Xz:=c.size;refine bK.l3 (f.new c) (n.new c) t N (by omega) G P λap z u8 R A K=>?_
  have C:¬ aL a2 b1:=λe=>by have V:=f.gv _ e;omega
  rw [bH (x:=(i:Int)+1) (by omega) (by omega)];have e:(j.v.mem.take i).map (λm=>addr j.v.number m x)++[addr j.v.number m x]=(j.v.mem.take (i+1)).map λm=>addr j.v.number m x:=by rw [ff,hm];simp
  rw [e] at R;refine ⟨j.v.mem.length - (i+1),by omega,i+1,ap,z,_,rfl,by omega,by rw [<-hlen];rfl,K,R,A.aj (ai.aj (c.new t) d) C,(s.bB (c.new t)).aA A λk S=>?_⟩;have V:=f.gv k S;have U:=h.new.size;refine ⟨by omega,λe=>?_⟩
  obtain ⟨cp,Xy,_⟩:=f.ex;obtain ⟨cs,I⟩:=fT Xy S;exact absurd (e▸I |>.ne s.aj (by decide)) (λZ=>Z rfl)
 ·have J:i=j.v.mem.length:=by omega
  subst J;rw [S8];rw [h0] at f;exact ⟨a2,pc,rfl,f.mono L,l.new n⟩
def tR (R:cr) (f:List (List aM)->cr):cr:=if R.ok then f R.a7 else R
def r7 (G:List (List aM)):cr:=⟨true,[],(0,0),G,none,false⟩
def py (j:c0) (at_:Int) (ws:a8):List aQ:=j.v.mem.map λm=>addr j.v.number m ⟨2,0,at_,0,0,0,ws,0,0⟩
def nJ (j:c0) (G:List (List aM)) (at_:Int) (ws:a8) (a:Int):cr:=if j.writes=[] then r7 G else cm G (py j at_ ws) a
def r8 (j:c0) (G:List (List aM)):cr:=nJ j G (e' j.aW+8) (fo j.seq j.writes) 1
def tP (j:c0) (G:List (List aM)):cr:=nJ j G (e' j.aW) [fX j.seq] 2
def wd (A:a6) (w0 u:ak) (tb B:Nat) (R:cr) (v:a4) (bw:ak):Prop:=v=.tuple #[bF.val ⟨R.out.1,R.out.2⟩,.bool R.ok]/\gJ A w0 u tb B R bw
theorem gJ.skip (c:eP A w0 u tb T G) (a:ga T) (b:ai u bw):gJ A w0 u tb B (r7 G) bw:=
 ⟨ao.b9 b,T,c.new b,a.dD,a.da⟩
theorem gJ.put {bG j bq l:ak} {B':Nat} {R:cr} (h:gJ A w0 bG tb B R j) (t:ai u bG) (a:ai j bq) (f:ao (λk=>k=b) bq l) (z:u.heap.size<=b) (r:b<B) (d:b≠tb) (y:B'<=B):gJ A w0 u tb B' R l:=by
 obtain ⟨g,n,w,hw,c⟩:=h;refine ⟨(((ao.b9 t).trans g λ_ _ e=>e).new a).trans f λk s e=>by omega,n,(w.new a).aA f λe=>d e.symm,hw,?_⟩;cases i:R.ask with
 |none=>rw [i] at c;exact c
 |some vs=>rw [i] at c;obtain ⟨o,w1,p,x,q⟩:=c;exact ⟨o,w1,p,by omega,(q.new a).aA f λk e=>by omega⟩
theorem Fg (au:av u b zs eR) (l:zs.length=2) (o:bF) (j:∀ bq i,ai u bq->ao (λk=>k=b) bq i->K o i) :
  ∀ aB g,aB=u.heap.size->g=u.alloc (.cells #[.int .i64 0,.int .i64 0] eR)->eh g ⟨aB,0,none⟩ 0 o.cells/\∀ c,c=cu g ⟨aB,0,none⟩ 0 o.cells->bF.ex λr=>cf c ⟨aB,0,none⟩ 0 r.cells/\eh c ⟨b,0,none⟩ 0 r.cells/\∀ a,a=cu c ⟨b,0,none⟩ 0 r.cells->bF.ex λres=>cf a ⟨b,0,none⟩ 0 res.cells/\a=a/\K res a:=by
 refine ec (zs:=[.int .i64 0,.int .i64 0]) (vs:=o.cells) rfl (bF.single _) λaB c n e h=>?_
 refine bF.aT o ⟨bO e rfl,dQ (ai.aj h au) (by rw [l];rfl) (bF.single _) λa f d=>?_⟩;exact bF.aT o ⟨bO f rfl,rfl,j c a h d⟩
theorem Fh (z:fa w0 u aY tb r m j) (J:eP A w0 u tb T G) (p:ga T) {at_:Int} (hw:j.writes≠[]->bk u a (us ws)/\n=ws.length/\n<=cap/\(a=none->ws=[])/\(∀ x ∈ ws,cj x)/\ws.length<=1000000) (b:Int) :
  bb 208 [ptr aY,.int .i64 at_,.slice a n cap,.int .i64 b] u (wd A w0 u tb u.heap.size (nJ j G at_ ws b)):=by
 refine bd Tryz.func208 ?_;rw [ptr,U7];rintro b1 bG y w;obtain ⟨d,c⟩:=bl y w;have d:av bG b1 (bF.cells ⟨0,0⟩) eR:=d;clear w;have f:=z.bB c;have o:=J.new c;have hlen:=z.bQ.bV.len;have s:=c.size;have q:=d.lt;have S:=J.aj.lt;unfold nJ;refine ⟨_,_,_,f.aj.cell (i:=6) rfl,d' (λe=>?_) (λe=>?_)⟩
 ·have k:j.writes=[]:=fF (by omega);rw [if_pos k];exact mv d rfl 0 0 λK C=>⟨rfl,(gJ.skip (B:=bG.heap.size) o p (ao.refl _ _)).put c (ao.refl _ _) C (by omega) q (by omega) s⟩
 ·have k:j.writes≠[]:=λL=>by rw [L] at hlen;simp at hlen <;> omega
  rw [if_neg k];obtain ⟨M,N,O,P,Q,R⟩:=hw k;have F:cL (λ_=>False) bG ⟨2,0,at_,0,0,0,a,n,cap,0,0⟩ ⟨2,0,at_,0,0,0,ws,0,0⟩:=pY (M.new c) N O P Q R hq hq;have l:=QP f F;refine aD l ?_;rintro v U ⟨aa,ac,rfl,H,h⟩;refine ⟨_,_,_,rfl,?_⟩;have g:=rF (f.bB h) (o.new h) p f.new (w1:=bG) (by omega) H (by rw [fZ];have:=z.b8.mem;omega) b;refine aD g ?_;rintro v K ⟨dB,dc,raw,rfl,t,_⟩;refine ⟨_,_,_,bF.aT ⟨(cm G (py j at_ ws) b).out.1,(cm G (py j at_ ws) b).out.2⟩ ⟨(cm G (py j at_ ws) b).ok,rfl,?_⟩⟩;have I:av K b1 (bF.cells ⟨0,0⟩) eR:=t.aA.aj (ai.aj h d) (by omega);refine Fg I rfl _ λV W E D=>⟨rfl,t.put (c.new h) E D (by omega) q (by omega) s⟩
end
end Go.Proofs.YtmkljjbioomepaaGreat
