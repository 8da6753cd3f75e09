import Derived.Test.YtmkljjbioomepaaGreatg15
import Derived.Test.YtmkljjbioomepaaGreatProg
import Derived.Test.YtmkljjbioomepaaGreatg02
import Derived.Test.YtmkljjbioomepaaGreatg14
import Derived.Test.YtmkljjbioomepaaGreatg11
set_option linter.all false
set_option maxHeartbeats 4000000
set_option maxRecDepth 100000
namespace Go.Proofs.YtmkljjbioomepaaGreat
open Go.Proofs.Tryz Go.bJ
variable {A M:a4}{L:a7}{a:ak}{c n aI tb:Nat}{o:Int×Int}{u bB w w0:an}
section
theorem IR {T:bY}{f:List Bool}(h:Go.m0.mb prog 8 T=some f)(d:ht prog T=true)(i:Program.eqGuardType prog (Program.depth prog) T=false){xs ys:ax}(g:Go.m0.kU f xs ys){K:Bool->Prop}(e:K (Go.m0.h9 xs ys)) :
  xo prog T (.agg xs.toArray) (.agg ys.toArray) K:=by
 generalize c:Go.m0.h9 xs ys=r at e;refine⟨r,λw=>?_,e⟩
 have b:=Go.m0.AF 8 T _ h 10000 (by omega) xs ys g w;unfold Go.m0.mS at b;rw[bh d,bh d,c]at b;have a:(Op.equalIn 10000 T (.agg xs.toArray) (.agg ys.toArray)).run prog w=.ok r w:=b;cases r;all_goals exact⟨λop x y=>run_eqGuard_agg w op T x y _ _ i,by rw[run_eql_struct,a];rfl,by rw[run_neq_struct,a];rfl⟩
theorem Rb:Go.m0.mb prog 8 fr=some [false,false,false,false,false,false,false,false,false]:=by kernel_rfl
theorem Rs:ht prog fr=true:=by kernel_rfl
theorem Pz:Program.eqGuardType prog (Program.depth prog) fr=false:=by simp_all
theorem AG (p q:aN):Go.m0.h9 p.cells q.cells=true↔p=q:=by obtain⟨a,b,bW,c,d,e,f,g,h⟩:=p;obtain⟨cD,i,gj,j,k,l,n,o,r⟩:=q;simp[aN.cells,Go.m0.h9,Go.m0.te]
instance:DecidableEq aN:=λp q=>decidable_of_iff _ (AG p q)
theorem Rt {b:ak}{m d:Nat}{l l2:List aN}(s:bl w a (iw l).flatten)(F:n=l.length)(t:bl w b (iw l2).flatten)(hm:m=l2.length)(C:n<=1000000):a5 256 [.slice a n c,.slice b m d] w λv w'=>v=.bool (decide (l=l2))/\ai w w':=by
 refine ba Tryz.func256 ?_;rw[T9];refine d8 (λe=>⟨?_,ao.refl _ _⟩) (λe=>?_)
 ·rw[decide_eq_false];grind
 have hlen:l.length=l2.length:=by omega
 refine cZ mix (λq env u=>∃ (i:Nat) (aC:ax),q=l.length-i/\i<=l.length/\env=xL a n c b m d n i aC/\ai w u/\l.take i=l2.take i) l.length
  ⟨0,_,by omega,by omega,rfl,ao.refl _ _,rfl⟩ ?_
 rintro q env u ⟨i,aC,rfl,H,rfl,o,I⟩;rw[TQ];refine bb (λE=>?_) (λD=>?_)
 ·rintro w1 g;have k:ai u w1:=by rw[g];exact cR _
  clear g;have f:=o.new k;have p:l[i]?=some l[i]:=b2 (by omega);have r:l2[i]?=some (l2[i]'(by omega)):=b2 (by omega);generalize l[i]=x at p;generalize l2[i]=y at r;refine⟨λy=>ai w1 y,ao.refl _ _,?_⟩;refine lg (cells:=aN.cells) aN.len (by decide) (s.new f) p rfl F λb1 J A=>aN.aV x ⟨λz aq=>k_ (i:=0) λj v h=>by grind,?_⟩
  refine lg (cells:=aN.cells) aN.len (by decide) (t.new f) r rfl hm λG K B=>aN.aV y ⟨λz aq=>k_ (i:=0) λj v h=>by grind,?_⟩
  refine IR Rb Rs Pz (xs:=x.cells) (ys:=y.cells) ⟨rfl,rfl,rfl,rfl,rfl,rfl,rfl,rfl,rfl,trivial⟩ ?_;refine eF (λC=>⟨?_,f⟩) (λhe=>?_)
  ·rw[decide_eq_false]
   grind[AG,Option.some.inj]
  ·rw[bI (x:=(i:Int)+1) (by omega) (by omega)];refine⟨l.length-(i+1),by omega,i+1,_,rfl,by omega,rfl,f,?_⟩
   grind[List.take_add_one,AG]
 grind[TO,List.take_of_length_le,decide_eq_true]
def fL (L:a7)(lines:Int):Bool:=decide (L.length=120) && (eh (L.drop 8) lines == 0)
def c2 (L:a7)(lines:Int):Int×List aN:=if fL L lines=true then eu (L.drop 8) lines else(0,[])
def hf (L:a7)(lines:Int):Bool:=fL L lines && (gw (c2 L lines).1 == L.getD 0 0)
def f_ (L:a7)(lines:Int):Int×List aN:=if hf L lines=true then c2 L lines else(0,[])
structure sO (w:an)(a:ak)(n c:Nat)(L:a7):Prop where
 rd:bl w a (us L)
 len:n=L.length
 cap:n<=c
 u64:∀ x ∈ L,cy x
 ei:n<=1000
theorem sO.new {w w':an}{a:ak}{n c:Nat}{L:a7}(h:sO w a n c L)(b:ai w w'):sO w' a n c L:=⟨h.rd.new b,h.len,h.cap,h.u64,h.ei⟩
theorem e'.zero {w':an}{R:Int×List aN}{last a:bf}(b:R=(0,[]))(d:a=last)(e:ai w w'):e' w R last (.tuple #[js.val,a]) w':=by subst b d;exact⟨none,0,rfl,e,Ak _,λk c=>cp c ou⟩
theorem w4 (lines:Int)(h:sO w a n c L):a5 228 [.slice a n c,.int .i64 lines] w (e' w (c2 L lines) (.bool (fL L lines))):=by
 refine ba Tryz.func228 ?_;rw[KR];rintro b1 w1 s p;obtain⟨f,g⟩:=bo s p;have f:av w1 b1 js.cells er:=f;clear p;have hlen:=h.len;have D:=h.cap;have E:=h.ei;refine d8 (λe=>?_) (λe=>?_)
 ·have r:fL L lines=false:=by grind[fL,decide_eq_false]
  refine pW f rfl js (K:=λres q=>e' w (c2 L lines) (.bool (fL L lines)) (.tuple #[res.val,.bool false]) q) λcq l _=>e'.zero ?_ ?_ (g.trans l λk u e=>by omega)
  ·unfold c2;grind
  grind
 have y:n=120:=by omega
 obtain⟨b,o,rfl⟩:∃ b o,a=some ⟨b,o,none⟩:=by
  rcases h.rd with e | ⟨b,o,e,_⟩
  ·have:=ey List.length e;grind[iS,List.length_nil]
  grind
 refine ll (by omega) (by omega) (by omega) (by omega) (by omega) λR B=>?_
 rcases B with rfl | ⟨e,_⟩;case inr=>omega
 have F:((n:Nat):Int).toNat-(8:Int).toNat=n-8:=by simp
 have G:((c:Nat):Int).toNat-(8:Int).toNat=c-8:=by simp
 rw[F,G];have A:bl w1 (some ⟨b,o+(8:Int).toNat*1,none⟩) (us (L.drop 8)):=by have:=(h.rd.new g).drop 8;rwa [show(us L).drop 8=us (L.drop 8) by simp[us]]at this
 refine aB (Ra lines A (by grind) (by omega) (λx O=>h.u64 x (qM O)) (by omega)) ?_;rintro v q ⟨aW,cap,rfl,j,d,z⟩;refine b7.aV ⟨(eu (L.drop 8) lines).1,aW,(eu (L.drop 8) lines).2.length,cap⟩ ⟨_,rfl,?_⟩;refine io (vs:=b7.cells ⟨(eu (L.drop 8) lines).1,aW,(eu (L.drop 8) lines).2.length,cap⟩) rfl (b7.single _) λP Q I C i=>?_
 refine b7.aV ⟨(eu (L.drop 8) lines).1,aW,(eu (L.drop 8) lines).2.length,cap⟩ ⟨bX C rfl,?_⟩;have r:fL L lines=(eh (L.drop 8) lines == 0):=by grind[fL,decide_eq_true]
 have H:c2 L lines=eu (L.drop 8) lines:=by
  unfold c2;rw[r];split
  ·rfl
  ·rename_i J;unfold eu
   grind
 rw[H,r];have M:=g.size;have N:=j.size;refine pW (ai.aj (j.new i) f) rfl ⟨(eu (L.drop 8) lines).1,aW,(eu (L.drop 8) lines).2.length,cap⟩ (K:=λres q=>e' w (eu (L.drop 8) lines) (.bool (eh (L.drop 8) lines == 0)) (.tuple #[res.val,.bool (eh (L.drop 8) lines == 0)]) q) λcq l _=>?_
 exact⟨aW,cap,rfl,((g.new j).new i).trans l λk u e=>by omega,⟨(d.new i).rd.aA l (hv (d.new i).rd λk t e=>by have:=z k t;have:=f.lt;omega),d.len,d.ei,d.u64⟩,λk l=>by grind⟩
theorem Cb (lines:Int)(h:sO w a n c L):a5 246 [.slice a n c,.int .i64 lines] w (e' w (f_ L lines) (.bool (hf L lines))):=by
 refine ba Tryz.func246 ?_;rw[YZ];rintro b1 w1 x q;obtain⟨g,d⟩:=bo x q;have g:av w1 b1 js.cells er:=g;clear q;refine aB (w4 lines (h.new d)) ?_;rintro v t ⟨aW,cap,rfl,o,f,C⟩;refine b7.aV ⟨(c2 L lines).1,aW,(c2 L lines).2.length,cap⟩ ⟨_,rfl,?_⟩;refine io (vs:=b7.cells ⟨(c2 L lines).1,aW,(c2 L lines).2.length,cap⟩) rfl (b7.single _) λO F G r j=>?_
 have J:=d.size;have M:=o.size;have b:=o.new j;have no:hf L lines=false->∀ {u:an},ai F u->ej u ⟨b1,0,none⟩ 0 js.cells/\∀ s,s=cI u ⟨b1,0,none⟩ 0 js.cells->b7.ex λres=>cn s ⟨b1,0,none⟩ 0 res.cells/\s=s/\e' w (f_ L lines) (.bool (hf L lines)) (.tuple #[res.val,.bool false]) s:=by intro H u p;refine pW (ai.aj (b.new p) g) rfl js (K:=λres t=>e' w (f_ L lines) (.bool (hf L lines)) (.tuple #[res.val,.bool false]) t) λcq l _=>e'.zero (aQ (by grind)) (by rw[H]) ((d.new (b.new p)).trans l λk B e=>by omega)
 refine eF (λR=>no (by grind[hf]) (ao.refl _ _)) (λN=>⟨_,r.cell (i:=0) rfl,?_⟩);have hw:=N;unfold fL at hw;simp only[gL,mL,beq_iff_eq]at hw;have Q:c2 L lines=((L.drop 8).getD 0 0,hV (L.drop 8) ((L.drop 8).getD 1 0).toNat):=by
  unfold c2 eu
  grind
 have D:1<=(c2 L lines).1/\(c2 L lines).1<1073741824:=by
  grind[eh,gk,hV,jA]
 refine aB (AL F D) ?_;rintro v T ⟨rfl,rfl⟩;refine⟨_,_,rfl,nQ ((h.rd.new d).new b) (i:=0) (by omega) h.len rfl λP S y=>⟨_,y _ (ao.refl _ _),d8 (λI=>no ?_ (ao.refl _ _)) (λhe=>?_)⟩⟩
 ·grind[hf,gw,c2,beq_eq_false_iff_ne]
 have E:hf L lines=true:=by
  unfold hf
  grind
 have z:f_ L lines=c2 L lines:=bh E;rw[E,z];refine b7.aV ⟨(c2 L lines).1,aW,(c2 L lines).2.length,cap⟩ ⟨bX r rfl,?_⟩;refine pW (ai.aj b g) rfl ⟨(c2 L lines).1,aW,(c2 L lines).2.length,cap⟩ (K:=λres t=>e' w (c2 L lines) (.bool true) (.tuple #[res.val,.bool true]) t) λcq l _=>?_
 exact⟨aW,cap,rfl,(d.new b).trans l λk B e=>by omega,⟨(f.new j).rd.aA l (hv (f.new j).rd λk A e=>by have:=C k A;have:=g.lt;omega),f.len,f.ei,f.u64⟩,λk l=>by grind⟩
def xC (a b:Int×List aN):Bool:=a.1 == b.1 && decide (a.2=b.2)
theorem Ru {p q:b7}{P Q:List aN}(h:fM w p.eN p.dZ P)(o:fM w q.eN q.dZ Q):a5 252 [p.val,q.val] w λv w'=>v=.bool (xC (p.Seq,P) (q.Seq,Q))/\ai w w':=by
 refine ba Tryz.func252 ?_;rw[KP];rintro b1 w1 j e;obtain⟨c,l⟩:=bo j e;have c:av w1 b1 p.cells er:=c;clear e;rintro r s k f;obtain⟨a,d⟩:=bo k f;have a:av s r q.cells er:=a;clear f;have b:=ai.aj d c;have g:=l.new d;unfold xC;refine⟨_,b.cell (i:=0) rfl,_,a.cell (i:=0) rfl,eg (λhe=>⟨_,_,_,b.cell (i:=1) rfl,_,_,_,a.cell (i:=1) rfl,?_⟩) (λhe=>⟨?_,g⟩)⟩
 ·refine aB (Rt (h.new g).rd h.len (o.new g).rd o.len (by have:=h.ei;have:=h.len;omega)) ?_;rintro v t ⟨rfl,n⟩;refine⟨_,rfl,?_,g.new n⟩
  grind
 grind
end
section
open IntKind
variable (w:an)(R:cM){a b c:Nat}{i k l:Int}{s:ak}
theorem Wx (e:aS):bd prog f220 [a' a,e.val,ab i,ab k] R w=(aR w e.cells.toArray 116 λj l=>aR l #[ab 0,ab 0,ab 0,ab 0,ah 0,ah 0,a0,ah 0,ab 0] 158 λg f=>iT f (af j 0) λr=>eS 245 #[a' a,r.val,.agg #[ab 1,ab 0,ab i,ab k,ah 0,ah 0,a0,ah 0,ab 0]] f λc h=>a8 h (af g 0) 0 c.cells λd=>lq d (af g 0) λb=>d=d/\R b.val d):=by kernel_rfl
theorem WO:bd prog f221 [a' a,ad s b c] R w=(lr w (af a 8) λt=>j7 116 #[.pointer t,ad s b c] w λe d f g k=>cond (!g) (R (.tuple #[a0,ae false]) k) (cG 242 #[ad e d f] k λh j=>cond (h != 0) (dx 222 #[a' a,ab h] j λi l=>R (.tuple #[a0,ae i]) l) (R (.tuple #[ad e d f,ae true]) j))):=by kernel_rfl
theorem WP:bd prog f222 [a' a,ab i] R w=(a8 w (af a 15) 0 [ab i,ab 0,ab 0,ab 0,ah 0] λb=>R (ae false) b):=by kernel_rfl
theorem Wq (e:aS):bd prog f223 [a' a,e.val,ab i,ah k,ah l] R w=(aR w e.cells.toArray 116 λj m=>aR m #[ab 0,ab 0,ab 0,ab 0,ah 0,ah 0,a0,ah 0,ab 0] 158 λg f=>iT f (af j 0) λr=>eS 245 #[a' a,r.val,.agg #[ab 3,ab 0,ab i,ab 0,ah k,ah l,a0,ah 0,ab 0]] f λc h=>a8 h (af g 0) 0 c.cells λd=>lq d (af g 0) λb=>d=d/\R b.val d):=by kernel_rfl
theorem Vk (g:aS)(i:aG):bd prog f245 [a' a,g.val,i.val] R w=(aR w g.cells.toArray 116 λm o=>aR o i.cells.toArray 158 λn k=>aR k #[ab 0,ab 0,ab 0,ab 0,ah 0,ah 0,a0,ah 0,ab 0] 158 λh j=>cF j λq f=>BV f (af a 3) λd=>hK f (af m 0) λr=>I4 f (af n 0) λp=>eS 241 #[d.val,r.val,ae true,p.val] q λb l=>a8 l (af h 0) 0 b.cells λe=>lq e (af h 0) λc=>e=e/\R c.val e):=by kernel_rfl
theorem VV (g:aS):bd prog f250 [a' a,g.val,ab i,ad s b c] R w=(aR w g.cells.toArray 116 λl m=>aR m #[ab 0,ab 0,ab 0,ab 0,ah 0,ah 0,a0,ah 0,ab 0] 158 λj h=>iT h (af l 0) λr=>eS 245 #[a' a,r.val,.agg #[ab 2,ab 0,ab i,ab 0,ah 0,ah 0,ad s b c,ah 0,ab 0]] h λf k=>a8 k (af j 0) 0 f.cells λe=>lq e (af j 0) λd=>e=e/\R d.val e):=by kernel_rfl
end
section
structure A8 (j:bL):Prop where
 aL:0<=j.aL/\j.aL<6
 inc:1<=j.inc/\j.inc<=59
 num:0<=j.v.number/\j.v.number<16
 mem:0<j.v.mem.length/\j.v.mem.length<=5
 eX:∀ m ∈ j.v.mem,1<=m.cK/\m.cK<=31
 lines:98<=j.lines/\j.lines<=256
 dead:0<=j.dead/\j.dead<6
 fJ:1<=j.fJ/\j.fJ<=60
 prev:cy j.prev
theorem PA {j:bL}(h:j.valid=0)(hu:cy j.prev):A8 j:=by
 unfold bL.valid at h;split at h
 ·omega
 rename_i e;have e:gJ j.inc j.aL=0:=by omega
 split at h
 ·omega
 rename_i n;split at h
 ·omega
 rename_i a;have a:j.v.valid 5=0:=by omega
 obtain⟨g,f⟩:=wa e;have b:=h;unfold bL.tail at b;split at b
 ·omega
 rename_i t1;split at b
 ·omega
 rename_i t2;split at b
 ·omega
 rename_i t3;unfold jT.valid at a;split at a
 ·omega
 split at a
 ·omega
 rename_i i;split at a
 ·omega
 rename_i k;split at a
 ·omega
 rename_i c;split at a
 ·omega
 rename_i d;have d:j.v.mem.all nF=true:=by grind
 have c:(List.range j.v.mem.length).all (kO (5:Nat) j.v.mem)=true:=wy _▸c;have l:=Gk c;refine⟨f,g,by omega,by omega,λm hm=>?_,by omega,by omega,?_,hu⟩
 ·have:=jt.1 d m hm;unfold nF at this
  grind
 grind
abbrev o4:bY:=220
abbrev p3:bY:=175
structure eU where
 fX:ak
 kD:Nat
 lc:Nat
 clock:Int
def jj (o:Int×Int):dB:=⟨o.1,0,0,0,o.2⟩
def qw (r:c_)(tb:Nat)(m:aS)(tag:Int)(V:eU)(o:Int×Int):ax:=r.cells++(ptr tb::m.cells)++[.int .u64 tag,.slice V.fX V.kD V.lc,.int .u64 V.clock]++(jj o).cells
structure dv (w0 u:an)(aI tb:Nat)(r:c_)(m:aS)(j:bL)(V:eU)(o:Int×Int):Prop where
 aj:av u aI (qw r tb m (gY j.inc j.aL) V o) o4
 bp:q2 w0 r j
 cg:A8 j
 mem:j.v.mem[0]?=some m
 new:ai w0 u
 qv:w0.heap.size<=aI
 lv:w0.heap.size<=tb
 ne:aI≠tb
theorem dv.bH {r:c_}{m:aS}{j:bL}{V:eU}(h:dv w0 u aI tb r m j V o)(a:ai u bB):dv w0 bB aI tb r m j V o:=
 ⟨ai.aj a h.aj,h.bp,h.cg,h.mem,h.new.new a,h.qv,h.lv,h.ne⟩
theorem dv.aA {r:c_}{m:aS}{j:bL}{V:eU}(h:dv w0 u aI tb r m j V o)(a:ao M u bB)(b:∀ k,M k->w0.heap.size<=k/\k≠aI):dv w0 bB aI tb r m j V o:=
 ⟨a.aj h.aj λe=>(b _ e).2 rfl,h.bp,h.cg,h.mem,h.new.trans a λk c e=>by grind,h.qv,h.lv,h.ne⟩
theorem dv.num {w0 u:an}{aI tb:Nat}{r:c_}{m:aS}{j:bL}{V:eU}{o:Int×Int}(h:dv w0 u aI tb r m j V o):r.View.Number=j.v.number:=by obtain⟨M,al⟩:=h.bp.view;exact al.num
section
variable {w0 w:an}{aI tb:Nat}{r:c_}{bS:aS}{j:bL}{V:eU}{o:Int×Int}
theorem LZ (h:dv w0 w aI tb r bS j V o){m:aS}(H:dU m.cK){v:aG}{x:bc}(al:cT M w v x) :
  a5 245 [ptr aI,m.val,v.val] w λy w'=>∃ l:aG,y=l.val/\cT (λk=>k<w.heap.size) w' l (addr j.v.number m x)/\ai w w':=by
 refine ba Tryz.func245 ?_;rw[ptr,Vk];rintro b1 w1 E u;obtain⟨g,p⟩:=bo E u;have g:av w1 b1 m.cells eL:=g;clear u;rintro N W F z;obtain⟨i,f⟩:=bo F z;have i:av W N v.cells cP:=i;clear z;rintro O L G A;obtain⟨d,c⟩:=bo G A;have d:av L O (aG.cells ⟨0,0,0,0,0,0,none,0,0,0,0⟩) cP:=d;clear A;rintro D B;have b:ai L D:=by rw[B];exact cR _
 clear B;have a:=((p.new f).new c).new b;have R:=p.size;have S:=f.size;have T:=c.size;have U:=b.size;have P:=h.bH a;have s:=h.num;have Y:=h.cg.num;refine⟨λy=>ai D y,ao.refl _ _,da.aV r.View ⟨λy C=>bX (ai.aj C P.aj) rfl,aS.aV m ⟨λy C=>bX (ai.aj (((f.new c).new b).new C) g) rfl,aG.aV v ⟨λy C=>bX (ai.aj ((c.new b).new C) i) rfl,?_⟩⟩⟩⟩;refine aB (C1 D (by omega) (by omega) H (al.aA (ao.cm a) λ_ _ e=>e)) ?_;rintro y Z ⟨l,rfl,t,q⟩;refine aG.aV l ⟨rfl,dY (ai.aj (b.new q) d) rfl (aG.single _) λX J n=>?_⟩;have K:=d.lt;refine aG.aV l ⟨bX J rfl,rfl,l,rfl,?_,(a.new q).trans n λk Q e=>by omega⟩;rw[s]at t;have I:cT (λk=>k<D.heap.size) X l (addr j.v.number m x):=t.aA (n.mono λk _ e=>by omega) λ_ _ e=>e
 exact I.aA (ao.refl _ _) λk _ e=>by omega
theorem A9 (h:dv w0 w aI tb r bS j V o){m:aS}(B:dU m.cK){v:aG}{x:bc}(al:cT M w v x) :
  ∀ b1 w1,b1=w.heap.size->w1=w.alloc (.cells m.cells.toArray eL)->∀ l n,l=w1.heap.size->n=w1.alloc (.cells #[.int .i64 0,.int .i64 0,.int .i64 0,.int .i64 0,.int .u64 0,.int .u64 0,.slice none 0 0,.int .u64 0,.int .i64 0] cP)->aS.ex λr=>cn n ⟨b1,0,none⟩ 0 r.cells/\
   Calls prog 245 #[ptr aI,r.val,v.val] n λe F=>aG.ex λa=>e=.returned a.val/\ej F ⟨l,0,none⟩ 0 a.cells/\∀ d,d=cI F ⟨l,0,none⟩ 0 a.cells->aG.ex λres=>cn d ⟨l,0,none⟩ 0 res.cells/\d=d/\
    (∃ i:aG,res.val=i.val/\cT (λk=>k<w.heap.size) d i (addr j.v.number m x)/\ai w d):=by
 rintro b1 w1 z t;obtain⟨g,q⟩:=bo z t;have g:av w1 b1 m.cells eL:=g;clear t;rintro l n A u;obtain⟨c,f⟩:=bo A u;have c:av n l (aG.cells ⟨0,0,0,0,0,0,none,0,0,0,0⟩) cP:=c;clear u;have b:=q.new f;have I:=q.size;have J:=f.size;refine aS.aV m ⟨bX (ai.aj f g) rfl,?_⟩;refine aB (LZ (h.bH b) B (al.aA (ao.cm b) λ_ _ e=>e)) ?_;rintro y F ⟨i,rfl,C,s⟩;refine aG.aV i ⟨rfl,dY (ai.aj s c) rfl (aG.single _) λd E p=>?_⟩;have G:=c.lt;refine aG.aV i ⟨bX E rfl,rfl,i,rfl,?_,(b.new s).trans p λk H e=>by omega⟩;have D:cT (λk=>k<n.heap.size) d i (addr j.v.number m x):=C.aA (p.mono λk _ e=>by omega) λ_ _ e=>e
 exact D.aA (ao.refl _ _) λk _ e=>by omega
abbrev A_ (w:an)(x:bc)(y:bf)(w':an):Prop:=∃ a:aG,y=a.val/\cT (λk=>k<w.heap.size) w' a x/\ai w w'
def mw (j:bL)(m:aS)(at_:Int)(ws:a7):bc:=addr j.v.number m ⟨2,0,at_,0,0,0,ws,0,0⟩
def nK (j:bL)(m:aS)(at_ n:Int):bc:=addr j.v.number m ⟨1,0,at_,n,0,0,[],0,0⟩
def sP (j:bL)(m:aS)(at_ old new:Int):bc:=addr j.v.number m ⟨3,0,at_,0,old,new,[],0,0⟩
theorem zb (h:dv w0 w aI tb r bS j V o){m:aS}(b:dU m.cK)(at_:Int){ws:a7}(i:bl w a (us ws))(g:n=ws.length)(e:n<=c)(d:a=none->ws=[])(hu:∀ x ∈ ws,cy x)(f:ws.length<=1000000) :
  a5 250 [ptr aI,m.val,.int .i64 at_,.slice a n c] w (A_ w (mw j m at_ ws)):=by
 refine ba Tryz.func250 ?_;rw[ptr,VV];exact A9 h b (v:=⟨2,0,at_,0,0,0,a,n,c,0,0⟩) (x:=⟨2,0,at_,0,0,0,ws,0,0⟩) (qI (k:=2) (at_:=at_) (nn:=0) (old:=0) (new:=0) i g e d hu f hL hL)
theorem wi (h:dv w0 w aI tb r bS j V o){m:aS}(b:dU m.cK)(at_ n:Int):a5 220 [ptr aI,m.val,.int .i64 at_,.int .i64 n] w (A_ w (nK j m at_ n)):=by refine ba Tryz.func220 ?_;rw[ptr,Wx];exact A9 h b (v:=⟨1,0,at_,n,0,0,none,0,0,0,0⟩) (x:=⟨1,0,at_,n,0,0,[],0,0⟩) (qI (k:=1) (at_:=at_) (nn:=n) (old:=0) (new:=0) (a:=none) (n:=0) (c:=0) (ws:=[]) (.inl rfl) rfl (by omega) (λ_=>rfl) (λx d=>by cases d) (by simp) hL hL)
theorem w5 (h:dv w0 w aI tb r bS j V o){m:aS}(b:dU m.cK)(at_:Int){old new:Int}(e:cy old)(d:cy new):a5 223 [ptr aI,m.val,.int .i64 at_,.int .u64 old,.int .u64 new] w (A_ w (sP j m at_ old new)):=by refine ba Tryz.func223 ?_;rw[ptr,Wq];exact A9 h b (v:=⟨3,0,at_,0,old,new,none,0,0,0,0⟩) (x:=⟨3,0,at_,0,old,new,[],0,0⟩) (qI (k:=3) (at_:=at_) (nn:=0) (old:=old) (new:=new) (a:=none) (n:=0) (c:=0) (ws:=[]) (.inl rfl) rfl (by omega) (λ_=>rfl) (λx f=>by cases f) (by simp) e d)
theorem Gq (h:dv w0 w aI tb r bS j V o)(c:Int×Int){K:aJ}(d:∀ w',ao (λk=>k=aI) w w'->dv w0 w' aI tb r bS j V c->K w') :
  ej w ⟨aI,15,none⟩ 0 (jj c).cells/\∀ w1,w1=cI w ⟨aI,15,none⟩ 0 (jj c).cells->K w1:=by
 refine⟨gq h.aj (db 20) (dB.single _),λw1 b=>?_⟩;have a:ao (λk=>k=aI) w w1:=by rw[b];exact ir _ _ _ _ _
 refine d w1 a ⟨?_,h.bp,h.cg,h.mem,h.new.trans a λk f e=>by have:=h.qv;omega,h.qv,h.lv,h.ne⟩;rw[b];exact h.aj.cI (vs:=(jj c).cells) (o:=15) (i:=0)
theorem wE (h:dv w0 w aI tb r bS j V o)(e:Int):a5 222 [ptr aI,.int .i64 e] w λv w'=>v=.bool false/\ao (λk=>k=aI) w w'/\dv w0 w' aI tb r bS j V (e,0):=by refine ba Tryz.func222 ?_;rw[ptr,WP];exact Gq h (e,0) λw' b a=>⟨rfl,b,a⟩
end
structure eK (A:a4)(w0 u:an)(aI tb B:Nat)(r:c_)(m:aS)(j:bL)(V:eU)(R:cd)(bB:an):Prop where
 aA:ao (λk=>k=tb\/k=aI) u bB
 eI:dv w0 bB aI tb r m j V R.out
 gz:∃ iO:eM,eV A w0 bB tb iO R.a2/\iO.dH=R.dH/\(match R.ask with
  |none=>iO.e_=0
  |some vs=>0<vs.length/\∃ w1,ai w0 w1/\B<=w1.heap.size/\bP w1 bB iO.aa iO.e_ iO.ac vs)
theorem oq {r:c_}{m:aS}{j:bL}{V:eU}(w:dv w0 u aI tb r m j V (0,0)){T:eM}{G:a3}(y:eV A w0 u tb T G)(B:gF T){w1:an}(X:ai w0 w1)(aH:tb<w1.heap.size)(aG:aI<w1.heap.size){n cap:Nat}{vs:a_}(al:bP w1 u a n cap vs)(ad:vs.length<=100000) :
  a5 221 [ptr aI,.slice a n cap] u λv bB=>∃ (dJ:ak) (dc:Nat) (raw:List bV),v=.tuple #[.slice dJ raw.length dc,.bool (cA G vs 0).ok]/\
   eK A w0 u aI tb w1.heap.size r m j V (cA G vs 0) bB/\bl w0 dJ (gv raw).flatten/\gT A w0 raw (cA G vs 0).done/\((cA G vs 0).ok=true->raw.length=vs.length):=by
 refine ba Tryz.func221 ?_;rw[ptr,WO];obtain⟨J,p,I⟩:=al.ex;have aR:=I.1;have S:=al.len;have aO:=y.aj.lt;have Q:=w.ne;refine⟨_,w.aj.cell (i:=8) rfl,?_⟩;have D:n=J.length:=by omega
 rw[D]at p;have ab:=Fy (A:=A) w.new w.lv y.aj y.a2 y.f9 y.gc (aa:=a) (ac:=cap) p.rd I (by omega);rw[<-D]at ab;refine aB ab ?_;rintro v cl ⟨Z,dJ,dc,raw,rfl,M,s,H,g,C,P,O,Y,f⟩;rw[B.dH,Bool.false_or]at Y;have q:dv w0 cl aI tb r m j V (0,0):=w.aA s λk e=>⟨by have:=w.lv;omega,by omega⟩
 have aP:bP w1 cl a n cap vs:=al.aA s λk e=>by omega
 refine⟨_,_,_,_,rfl,?_⟩;have fin:∀ {cq:an},ao (λk=>k=aI) cl cq->∀ {R:cd},R.a2=(batch G vs).a2->R.dH=(batch G vs).dH->R.ask=(batch G vs).ask->dv w0 cq aI tb r m j V R.out->eK A w0 u aI tb w1.heap.size r m j V R cq:=by
  intro cq l R ae aV af U;have o:ao (λk=>k=tb\/k=aI) u cq:=(s.mono λ_ _ e=>Or.inl e).trans l λk _ e=>.inr e
  refine⟨o,U,Z,?_,by grind,?_⟩
  ·rw[ae];exact⟨l.aj M (λe=>Q e.symm),C,P,O⟩
  ·rw[af];cases K:(batch G vs).ask with
   |none=>rw[K]at f;obtain⟨_,L,_⟩:=f;show Z.e_=0;rw[L];exact B.e_
   |some ws=>rw[K]at f;obtain⟨ag,L,ah⟩:=f;have:=DW K;subst this;refine⟨FB K,w1,X,db _,?_⟩;rw[ag,L,ah,<-S];exact al.aA o λk e=>by grind
 unfold cA;refine eF (λc=>?_) (λc=>?_)
 ·rw[bh c];exact⟨none,0,[],rfl,fin (ao.refl _ _) rfl rfl rfl q,.inl rfl,⟨rfl,λi v x al=>by grind⟩,λh=>by cases h⟩
 ·rw[aQ (by grind)];obtain⟨E,F⟩:=ER c;refine aB (EV q.new rfl H g (by have:=g.1;grind[rQ])) ?_;rintro v bw ⟨rfl,t⟩;have z:=q.bH t;refine⟨_,rfl,d8 (λe=>?_) (λe=>?_)⟩
  ·rw[bh e];refine aB (wE z (hY (batch G vs).done)) ?_;rintro v cq ⟨rfl,l,N⟩;exact⟨_,rfl,none,0,[],rfl,fin ((ao.cm t).trans l λ_ _ e=>e) rfl F.symm E.symm N,.inl rfl,⟨rfl,λi v x al=>by grind⟩,λh=>by cases h⟩
  ·rw[aQ (by grind)];refine⟨dJ,dc,raw,rfl,fin (ao.cm t) rfl F.symm E.symm z,H,g,λ_=>?_⟩
   by_cases W:vs.length=0
   ·have:=g.1;grind[rQ]
   ·have b:=g.1;unfold batch at c b;rw[aQ W]at c b;cases G with
    |nil=>grind
    |cons d G'=>
     simp only at c b;split at c
     ·rename_i av;rw[bh av]at b
      grind[wC]
     grind
end
section
open IntKind
variable (w:an)(R:cM){a b c d e f g h:Nat}{A B:aU}{s t u v:ak}{i k l m:Int}{j:ar}{F:Bool}
def vl (e:aU)(l:ak)(a b:Nat)(n:ak)(c d:Nat)(f:ak)(g h:Nat)(i k:Int)(j:ar):ar:=.pointer (some e)::ag j 0 2 (ad l a b::ad n c d::ag j 2 24 (ad f g h::ab i::ab k::ag j 26 136 []))
def Bv (a:aU)(e:ak)(b c:Nat)(g:ak)(d f:Nat)(j:ar):ar:=.pointer (some a)::ag j 0 2 (ad e b c::ad g d f::ag j 2 163 [])
def x3 (e:aU)(q:ak)(a b:Nat)(r:ak)(c d:Nat)(s:aU)(f:ak)(g h:Nat)(i k:Int)(l:ak)(m n:Nat)(o p:Int)(j:ar):ar:=.pointer (some e)::ag j 0 2 (ad q a b::ad r c d::ag j 2 1 (.pointer (some s)::ag j 3 22 (ad f g h::ab i::ab k::ag j 25 3 (ad l m n::ab o::ab p::ag j 28 130 []))))
def Ia (a:aU)(e:ak)(b c:Nat)(n:ak)(d f:Nat)(g:ak)(h i:Nat)(k l:Int)(j:ar):ar:=.pointer (some a)::ag j 0 2 (ad e b c::ad n d f::ag j 2 24 (ad g h i::ab k::ab l::ag j 26 136 []))
def rq (e:aU)(p:ak)(a b:Nat)(c:ak)(d f:Nat)(g:ak)(h i:Nat)(k:ak)(l m:Nat)(n o:Int)(j:ar):ar:=.pointer (some e)::ag j 0 2 (ad p a b::ag j 2 7 (ad c d f::ad g h i::ag j 9 47 (ad k l m::ab n::ab o::ag j 56 105 [])))
def rr (a:aU)(e:ak)(b c:Nat)(d:ak)(f g:Nat)(h:ak)(i k:Nat)(l:Int)(m:aU)(n:Int)(o:ak)(p q:Nat)(r s:Int)(t:Bool)(j:ar):ar:=.pointer (some a)::ag j 0 2 (ad e b c::ag j 2 7 (ad d f g::ad h i k::ab l::ag j 9 1 (.pointer (some m)::ah n::ag j 10 43 (ad o p q::ab r::ab s::ag j 53 13 (ae t::ag j 66 91 [])))))
def x4 (a:aU)(b:ak)(c d:Nat)(f:ak)(g h:Nat)(j:ar):ar:=.pointer (some a)::ag j 0 10 (ad b c d::ad f g h::ag j 10 155 [])
def x5 (a:aU)(e:ak)(b c:Nat)(d:ak)(f g:Nat)(h:ak)(i k:Nat)(l:ak)(m n:Nat)(o p:Int)(j:ar):ar:=.pointer (some a)::ag j 0 2 (ad e b c::ag j 2 7 (ad d f g::ad h i k::ag j 9 47 (ad l m n::ab o::ab p::ag j 56 105 [])))
def s6 (e:aU)(a:ak)(b c:Nat)(d:ak)(f g:Nat)(h:ak)(i k:Nat)(l m:Int)(j:ar):ar:=.pointer (some e)::ag j 0 10 (ad a b c::ad d f g::ag j 10 116 (ad h i k::ab l::ab m::ag j 126 36 []))
def n9 (a:aU)(b:ak)(c d:Nat)(f:ak)(g h:Nat)(i:ak)(k l:Nat)(m n:Int)(o:Bool)(j:ar):ar:=.pointer (some a)::ag j 0 10 (ad b c d::ad f g h::ag j 10 116 (ad i k l::ab m::ab n::ag j 126 32 (ae o::ag j 158 3 [])))
def Bw  (j:ar):ar:=ag j 0 168 []
def Ib (a:aU)(b:ak)(c d:Nat)(f:ak)(g h:Nat)(i:ak)(k l:Nat)(m n:Int)(j:ar):ar:=.pointer (some a)::ag j 0 10 (ad b c d::ad f g h::ag j 10 116 (ad i k l::ab m::ab n::ag j 126 36 []))
theorem VW:bd prog f179 [a' a] R w=(dm 219 #[a' a] w λe b c h=>b_ h (af a 4) λd f g=>cz prog (cU f179 [1,1,1,0,1,0,0]) (vl (af a 0) e b c none 0 0 d f g (f:Nat) 0 (undef::ae false::bm 17 (jp (af a 0)::ad e b c::jp (af a 0)::jp (af a 0)::jp (af a 0)::jp (af a 3)::jp (af a 4)::bm 136 []))) (aO 0 (aT f179 [1,1,1,1] R)) h):=by kernel_rfl
theorem Uh (g:dy):W prog (sb f179 [1,1,1,0,1,0,0]) (vl A s a b t c d u e f i k j) (bO prog f179 R g) w=(cond (k<i) (bx u e k 3 λh=>iT w h λr=>aR w #[ab 0,ab 0,ae false] 116 λl o=>a8 o (af l 0) 0 r.cells λm=>cz prog (cU f179 [1,1,1,0,1,0,0,1,1,0,0,1,1,0,0]) (x3 A s a b t c d (af l 0) u e f i k s a b (a:Nat) 0 (aH j 0::aH j 1::aH j 2::ag j 4 22 (ae (k<i)::jp h::r.val::ag j 32 130 []))) (aO 2 (aO 1 (aZ (λn w=>W prog (sb f179 [1,1,1,0,1,0,0,1,1,1]) n (bO prog f179 R g) w) (bO prog f179 R g)))) m) (g (.exit 0) (Bv A s a b t c d (ag j 0 26 (ad u e f::ab i::ab k::ae (k<i)::ag j 27 135 []))) w)):=by kernel_rfl
theorem Ux (e:dy):W prog (sb f179 [1,1,1,1]) (Bv A s a b t c d j) (bO prog f179 R e) w=(j7 221 #[.pointer (some A),ad t c d] w λg h i k f=>cond (!k) (R (ae false) f) (cz prog (cU f179 [1,1,1,1,1,1,1,1,0,1,0,0]) (rq A s a b none 0 0 none 0 0 g h i (h:Nat) 0 (aH j 0::aH j 1::ad t c d::ag j 2 4 (ad g h i::ae k::ag j 10 39 (.tuple #[ad g h i,ae k]::jp A::ad t c d::.tuple #[ad g h i,ae k]::ad g h i::ae k::ae k::ae (!k)::ag j 60 105 [])))) (aO 4 (aZ (λl w=>W prog (sb f179 [1,1,1,1,1,1,1,1,1]) l (bO prog f179 R e) w) (bO prog f179 R e))) f)):=by kernel_rfl
theorem Ui (D:dy):W prog (sb f179 [1,1,1,0,1,0,0,1,1,0,0,1,1,0,0]) (x3 A s a b t c d B u e f i k v g h l m j) (bO prog f179 R D) w=(cond (m<l) (bx v g m 3 λF=>Jb w F λr=>aR w #[ab 0,ah 0,ae false] 309 λC M=>a8 M (af C 0) 0 r.cells λL=>cF L λN p=>hK p B λI=>cY p (af C 0) λq=>cG 106 #[ab q] N λn a6=>p a6/\eS 220 #[.pointer (some A),I.val,ab n,ab 1] a6 λx K=>p K/\aR K x.cells.toArray 158 λH E=>p E/\de 125 (ad t c d) (ad (bk H) 1 1) E λz o y G=>p G/\D .normal (x3 A s a b z o y B u e f i k v g h l (i64.wrap (m+1)) (ag j 0 4 (jp (af C 0)::ag j 5 23 (ae (m<l)::jp F::r.val::ad t c d::jp A::I.val::jp (af C 0)::ab q::ab n::x.val::ad (bk H) 1 1::ad z o y::ab (i64.wrap (m+1))::ag j 41 117 [])))) G) (D (.exit 2) (Ia A s a b t c d u e f i k (aH j 0::aH j 1::aH j 2::jp B::ag j 3 25 (ad v g h::ab l::ab m::ae (m<l)::ag j 29 129 []))) w)):=by kernel_rfl
theorem Uy (g:dy):W prog (sb f179 [1,1,1,0,1,0,0,1,1,1]) (Ia A s a b t c d u e f i k j) (bO prog f179 R g) w=(g .normal (vl A s a b t c d u e f i (i64.wrap (k+1)) (ag j 0 45 (ab (i64.wrap (k+1))::ag j 46 116 []))) w):=by kernel_rfl
theorem lm (o:dy):W prog (sb f179 [1,1,1,1,1,1,1,1,0,1,0,0]) (rq A s a b t c d u e f v g h i k j) (bO prog f179 R o) w=(cond (k<i) (bx v g k 2 λa6=>pw w a6 λr=>aR w #[ab 0,a0] 131 λF Q=>a8 Q (af F 0) 0 r.cells λP=>cF P λN z=>IntKind.i64=IntKind.i64/\(a:Int)≠0/\bx s a (Int.tmod k (a:Nat)) 3 λy=>Jc z y λG=>yL z (af F 0) λE=>(jI 196 #[E.val] N λp L=>z L/\aR L #[ab 0,ah 0,ae false] 309 λB O=>z O/\a8 O (af B 0) 0 G.cells λH=>z H/\j5 H (af B 2) λq=>cond q (d' H (af B 1) λl=>W prog (sb f179 [1,1,1,1,1,1,1,1,0,1,0,0,1,1,0,0,1,1,0,1]) (rr A s a b t c d u e f k (af B 0) p v g h i k (decide ((p:Int)>l)) (ag j 0 9 (jp (af F 0)::ag j 13 43 (ae (k<i)::ab k::jp a6::r.val::ad s a b::ab k::ad s a b::dA a::ab (Int.tmod k (a:Nat))::jp y::G.val::E.val::ah p::jp (af B 2)::ae q::ae true::ah p::jp (af B 1)::ah l::ae (p>l)::ae (p>l)::ag j 78 83 [])))) (aO 6 (aO 5 (aZ (λD w=>W prog (sb f179 [1,1,1,1,1,1,1,1,0,1,0,0,1,1,1]) D (bO prog f179 R o) w) (bO prog f179 R o)))) H) (W prog (sb f179 [1,1,1,1,1,1,1,1,0,1,0,0,1,1,0,0,1,1,0,1]) (rr A s a b t c d u e f k (af B 0) p v g h i k false (ag j 0 9 (jp (af F 0)::ag j 13 43 (ae (k<i)::ab k::jp a6::r.val::ad s a b::ab k::ad s a b::dA a::ab (Int.tmod k (a:Nat))::jp y::G.val::E.val::ah p::jp (af B 2)::ae q::ae false::bm 4 (ae false::ag j 78 83 []))))) (aO 6 (aO 5 (aZ (λD w=>W prog (sb f179 [1,1,1,1,1,1,1,1,0,1,0,0,1,1,1]) D (bO prog f179 R o) w) (bO prog f179 R o)))) H))/\aR N #[ab 0,ah 0,ae false] 309 λC K=>z K/\jI 196 #[E.val] K λm M=>z M/\a8 M (af C 0) 0 G.cells λI=>z I/\j5 I (af C 2) λn=>cond n (d' I (af C 1) λx=>W prog (sb f179 [1,1,1,1,1,1,1,1,0,1,0,0,1,1,0,0,1,1,0,1]) (rr A s a b t c d u e f k (af C 0) m v g h i k (decide ((m:Int)>x)) (ag j 0 9 (jp (af F 0)::ag j 13 43 (ae (k<i)::ab k::jp a6::r.val::ad s a b::ab k::ad s a b::dA a::ab (Int.tmod k (a:Nat))::jp y::G.val::E.val::ah m::jp (af C 2)::ae n::ae true::ah m::jp (af C 1)::ah x::ae (m>x)::ae (m>x)::ag j 78 83 [])))) (aO 6 (aO 5 (aZ (λD w=>W prog (sb f179 [1,1,1,1,1,1,1,1,0,1,0,0,1,1,1]) D (bO prog f179 R o) w) (bO prog f179 R o)))) I) (W prog (sb f179 [1,1,1,1,1,1,1,1,0,1,0,0,1,1,0,0,1,1,0,1]) (rr A s a b t c d u e f k (af C 0) m v g h i k false (ag j 0 9 (jp (af F 0)::ag j 13 43 (ae (k<i)::ab k::jp a6::r.val::ad s a b::ab k::ad s a b::dA a::ab (Int.tmod k (a:Nat))::jp y::G.val::E.val::ah m::jp (af C 2)::ae n::ae false::bm 4 (ae false::ag j 78 83 []))))) (aO 6 (aO 5 (aZ (λD w=>W prog (sb f179 [1,1,1,1,1,1,1,1,0,1,0,0,1,1,1]) D (bO prog f179 R o) w) (bO prog f179 R o)))) I)) (o (.exit 4) (x4 A t c d u e f (aH j 0::aH j 1::ad s a b::ag j 2 54 (ad v g h::ab i::ab k::ae (k<i)::ag j 57 104 []))) w)):=by kernel_rfl
theorem Uz (C:dy):W prog (sb f179 [1,1,1,1,1,1,1,1,0,1,0,0,1,1,0,0,1,1,0,1]) (rr A s a b t c d u e f i B k v g h l m F j) (bO prog f179 R C) w=(cond F (dx 222 #[.pointer (some A),ab 11] w λx aG=>R (ae x) aG) (d' w (b5 B 1) λy=>cond (k<y) (cF w λaB n=>eD n (af A.block (A.off+3+1)) λz O av=>IntKind.i64=IntKind.i64/\(a:Int)≠0/\bx z O (i64.wrap (Int.tdiv i (a:Nat))) 3 λa6=>hK n a6 λr=>aR aB #[ab 0,ab 0,ae false] 116 λE X=>n X/\a8 X (af E 0) 0 r.cells λaO=>cF aO λao p=>hK p (af E 0) λZ=>cY p B λQ=>kn p (b5 B 1) λJ=>cG 106 #[ab Q] ao λV G=>p G/\eS 223 #[.pointer (some A),Z.val,ab V,ah k,ah J] G λo K=>p K/\aR K o.cells.toArray 158 λL S=>p S/\de 125 (ad t c d) (ad (bk L) 1 1) S λq Y P D=>p D/\Jb D B λI=>aR D I.cells.toArray 309 λM U=>de 306 (ad u e f) (ad (bk M) 1 1) U λN H T aP=>C .normal (x5 A s a b q Y P N H T v g h l m (ag j 0 9 (ab i::aH j 9::jp B::ah k::jp (af E 0)::ag j 11 55 (ae F::ag j 66 10 (ae (k<y)::ah k::bM B 1::ah y::ae (k<y)::jp A::jp A::jp A::bM A 3::jp (af A.block (A.off+3+1))::ad z O av::ab i::ad s a b::dA a::ab (i64.wrap (Int.tdiv i (a:Nat)))::jp a6::r.val::ad t c d::jp A::Z.val::jp B::ab Q::ab V::ah k::bM B 1::ah J::o.val::ad (bk L) 1 1::ad q Y P::ad u e f::I.val::ad (bk M) 1 1::ad N H T::ag j 109 48 []))))) aP) (C .normal (x5 A s a b t c d u e f v g h l m (ag j 0 9 (ab i::aH j 9::jp B::ah k::ag j 10 56 (ae F::ag j 66 10 (ae (k<y)::ah k::bM B 1::ah y::ae (k<y)::ag j 81 76 []))))) w))):=by kernel_rfl
theorem UA (e:dy):W prog (sb f179 [1,1,1,1,1,1,1,1,1]) (x4 A s a b t c d j) (bO prog f179 R e) w=(j7 221 #[.pointer (some A),ad s a b] w λi k l m f=>cond (!m) (R (ae false) f) (cz prog (cU f179 [1,1,1,1,1,1,1,1,1,1,1,0,1,0,0]) (s6 A s a b t c d i k l (k:Nat) 0 (ag j 0 8 (ad i k l::ae m::ag j 10 108 (.tuple #[ad i k l,ae m]::jp A::ad s a b::.tuple #[ad i k l,ae m]::ad i k l::ae m::ae m::ae (!m)::ag j 129 36 [])))) (aO 7 (aZ (λg w=>W prog (sb f179 [1,1,1,1,1,1,1,1,1,1,1,1]) g (bO prog f179 R e) w) (bO prog f179 R e))) f)):=by kernel_rfl
theorem UB (l:dy):W prog (sb f179 [1,1,1,1,1,1,1,1,0,1,0,0,1,1,1]) (x5 A s a b t c d u e f v g h i k j) (bO prog f179 R l) w=(l .normal (rq A s a b t c d u e f v g h i (i64.wrap (k+1)) (ag j 0 113 (ab (i64.wrap (k+1))::ag j 114 47 []))) w):=by kernel_rfl
theorem Un (l:dy):W prog (sb f179 [1,1,1,1,1,1,1,1,1,1,1,0,1,0,0]) (s6 A s a b t c d u e f i k j) (bO prog f179 R l) w=(cond (k<i) (bx u e k 2 λG=>pw w G λr=>aR w #[ab 0,a0] 131 λE J=>a8 J (af E 0) 0 r.cells λT=>cF T λS M=>yL M (af E 0) λF=>bx t c k 3 λa6=>Jc M a6 λD=>(jI 196 #[F.val] S λn P=>M P/\aR P #[ab 0,ah 0,ae false] 309 λB O=>M O/\a8 O (af B 0) 0 D.cells λK=>bx s a k 9 λH=>d' K (b5 H 4) λo=>cond (n != o) (d' K (af B 1) λp=>cond (n != p) (j5 K (af B 2) λq=>cond q (W prog (sb f179 [1,1,1,1,1,1,1,1,1,1,1,0,1,0,0,1,1,0,0,1,1,1]) (n9 A s a b t c d u e f i k true (ag j 0 15 (ab k::jp (af E 0)::ah n::jp (af B 0)::ag j 19 107 (ae (k<i)::ab k::jp G::r.val::F.val::ah n::ad t c d::ab k::jp a6::D.val::ah n::ad s a b::ab k::jp H::bM H 4::ah o::ae ((n:Int) != o)::ae true::ah n::jp (af B 1)::ah p::ae ((n:Int) != p)::ae ((n:Int) != p)::ae true::jp (af B 2)::ae q::ae true::bm 4 [ae true,aH j 159,aH j 160,aH j 161])))) (aO 8 (aZ (λm w=>W prog (sb f179 [1,1,1,1,1,1,1,1,1,1,1,0,1,0,0,1,1,1]) m (bO prog f179 R l) w) (bO prog f179 R l))) K) (d' K (af B 1) λh=>W prog (sb f179 [1,1,1,1,1,1,1,1,1,1,1,0,1,0,0,1,1,0,0,1,1,1]) (n9 A s a b t c d u e f i k (decide ((n:Int)<h)) (ag j 0 15 (ab k::jp (af E 0)::ah n::jp (af B 0)::ag j 19 107 [ae (k<i),ab k,jp G,r.val,F.val,ah n,ad t c d,ab k,jp a6,D.val,ah n,ad s a b,ab k,jp H,bM H 4,ah o,ae ((n:Int) != o),ae true,ah n,jp (af B 1),ah p,ae ((n:Int) != p),ae ((n:Int) != p),ae true,jp (af B 2),ae q,ae false,ah n,jp (af B 1),ah h,ae (n<h),ae (n<h),aH j 159,aH j 160,aH j 161]))) (aO 8 (aZ (λm w=>W prog (sb f179 [1,1,1,1,1,1,1,1,1,1,1,0,1,0,0,1,1,1]) m (bO prog f179 R l) w) (bO prog f179 R l))) K)) (W prog (sb f179 [1,1,1,1,1,1,1,1,1,1,1,0,1,0,0,1,1,0,0,1,1,1]) (n9 A s a b t c d u e f i k false (ag j 0 15 (ab k::jp (af E 0)::ah n::jp (af B 0)::ag j 19 107 (ae (k<i)::ab k::jp G::r.val::F.val::ah n::ad t c d::ab k::jp a6::D.val::ah n::ad s a b::ab k::jp H::bM H 4::ah o::ae ((n:Int) != o)::ae true::ah n::jp (af B 1)::ah p::ae ((n:Int) != p)::ae ((n:Int) != p)::ae false::bm 8 [aH j 159,aH j 160,aH j 161])))) (aO 8 (aZ (λm w=>W prog (sb f179 [1,1,1,1,1,1,1,1,1,1,1,0,1,0,0,1,1,1]) m (bO prog f179 R l) w) (bO prog f179 R l))) K)) (W prog (sb f179 [1,1,1,1,1,1,1,1,1,1,1,0,1,0,0,1,1,0,0,1,1,1]) (n9 A s a b t c d u e f i k false (ag j 0 15 (ab k::jp (af E 0)::ah n::jp (af B 0)::ag j 19 107 (ae (k<i)::ab k::jp G::r.val::F.val::ah n::ad t c d::ab k::jp a6::D.val::ah n::ad s a b::ab k::jp H::bM H 4::ah o::ae ((n:Int) != o)::ae false::bm 4 (ae false::ae false::bm 8 [aH j 159,aH j 160,aH j 161]))))) (aO 8 (aZ (λm w=>W prog (sb f179 [1,1,1,1,1,1,1,1,1,1,1,0,1,0,0,1,1,1]) m (bO prog f179 R l) w) (bO prog f179 R l))) K))/\aR S #[ab 0,ah 0,ae false] 309 λC N=>M N/\jI 196 #[F.val] N λg Q=>M Q/\a8 Q (af C 0) 0 D.cells λL=>bx s a k 9 λI=>d' L (b5 I 4) λv=>cond (g != v) (d' L (af C 1) λx=>cond (g != x) (j5 L (af C 2) λy=>cond y (W prog (sb f179 [1,1,1,1,1,1,1,1,1,1,1,0,1,0,0,1,1,0,0,1,1,1]) (n9 A s a b t c d u e f i k true (ag j 0 15 (ab k::jp (af E 0)::ah g::jp (af C 0)::ag j 19 107 (ae (k<i)::ab k::jp G::r.val::F.val::ah g::ad t c d::ab k::jp a6::D.val::ah g::ad s a b::ab k::jp I::bM I 4::ah v::ae ((g:Int) != v)::ae true::ah g::jp (af C 1)::ah x::ae ((g:Int) != x)::ae ((g:Int) != x)::ae true::jp (af C 2)::ae y::ae true::bm 4 [ae true,aH j 159,aH j 160,aH j 161])))) (aO 8 (aZ (λm w=>W prog (sb f179 [1,1,1,1,1,1,1,1,1,1,1,0,1,0,0,1,1,1]) m (bO prog f179 R l) w) (bO prog f179 R l))) L) (d' L (af C 1) λz=>W prog (sb f179 [1,1,1,1,1,1,1,1,1,1,1,0,1,0,0,1,1,0,0,1,1,1]) (n9 A s a b t c d u e f i k (decide ((g:Int)<z)) (ag j 0 15 (ab k::jp (af E 0)::ah g::jp (af C 0)::ag j 19 107 [ae (k<i),ab k,jp G,r.val,F.val,ah g,ad t c d,ab k,jp a6,D.val,ah g,ad s a b,ab k,jp I,bM I 4,ah v,ae ((g:Int) != v),ae true,ah g,jp (af C 1),ah x,ae ((g:Int) != x),ae ((g:Int) != x),ae true,jp (af C 2),ae y,ae false,ah g,jp (af C 1),ah z,ae (g<z),ae (g<z),aH j 159,aH j 160,aH j 161]))) (aO 8 (aZ (λm w=>W prog (sb f179 [1,1,1,1,1,1,1,1,1,1,1,0,1,0,0,1,1,1]) m (bO prog f179 R l) w) (bO prog f179 R l))) L)) (W prog (sb f179 [1,1,1,1,1,1,1,1,1,1,1,0,1,0,0,1,1,0,0,1,1,1]) (n9 A s a b t c d u e f i k false (ag j 0 15 (ab k::jp (af E 0)::ah g::jp (af C 0)::ag j 19 107 (ae (k<i)::ab k::jp G::r.val::F.val::ah g::ad t c d::ab k::jp a6::D.val::ah g::ad s a b::ab k::jp I::bM I 4::ah v::ae ((g:Int) != v)::ae true::ah g::jp (af C 1)::ah x::ae ((g:Int) != x)::ae ((g:Int) != x)::ae false::bm 8 [aH j 159,aH j 160,aH j 161])))) (aO 8 (aZ (λm w=>W prog (sb f179 [1,1,1,1,1,1,1,1,1,1,1,0,1,0,0,1,1,1]) m (bO prog f179 R l) w) (bO prog f179 R l))) L)) (W prog (sb f179 [1,1,1,1,1,1,1,1,1,1,1,0,1,0,0,1,1,0,0,1,1,1]) (n9 A s a b t c d u e f i k false (ag j 0 15 (ab k::jp (af E 0)::ah g::jp (af C 0)::ag j 19 107 (ae (k<i)::ab k::jp G::r.val::F.val::ah g::ad t c d::ab k::jp a6::D.val::ah g::ad s a b::ab k::jp I::bM I 4::ah v::ae ((g:Int) != v)::ae false::bm 4 (ae false::ae false::bm 8 [aH j 159,aH j 160,aH j 161]))))) (aO 8 (aZ (λm w=>W prog (sb f179 [1,1,1,1,1,1,1,1,1,1,1,0,1,0,0,1,1,1]) m (bO prog f179 R l) w) (bO prog f179 R l))) L)) (l (.exit 7) (Bw  (jp A::ag j 0 10 (ad s a b::ad t c d::ag j 10 116 (ad u e f::ab i::ab k::ae (k<i)::ag j 127 35 [])))) w)):=by kernel_rfl
theorem UC (g:dy):W prog (sb f179 [1,1,1,1,1,1,1,1,1,1,1,0,1,0,0,1,1,0,0,1,1,1]) (n9 A s a b t c d u e f i k F j) (bO prog f179 R g) w=(cond F (dx 222 #[.pointer (some A),ab 11] w λp h=>R (ae p) h) (g .normal (Ib A s a b t c d u e f i k (ag j 0 158 [ae F,aH j 158,aH j 159,aH j 160])) w)):=by kernel_rfl
theorem UD (a:dy):W prog (sb f179 [1,1,1,1,1,1,1,1,1,1,1,1]) (Bw  j) (bO prog f179 R a) w=(R (ae true) w):=by kernel_rfl
theorem UE (g:dy):W prog (sb f179 [1,1,1,1,1,1,1,1,1,1,1,0,1,0,0,1,1,1]) (Ib A s a b t c d u e f i k j) (bO prog f179 R g) w=(g .normal (s6 A s a b t c d u e f i (i64.wrap (k+1)) (ag j 0 161 [ab (i64.wrap (k+1))])) w):=by kernel_rfl
theorem Vh:bd prog f219 [a' a] R w=(cF w λq m=>cY m (af a 5) λe=>cY m (af a 6) λb=>aR q #[ab e,ah (u64.wrap b),ae true] 309 λo n=>m n/\d' n (af a 7) λc=>B0 177 #[ah c] n λd f g l=>cond g (b0 l (af a 5) λh=>cond (f != h) (aR l #[ab f,ah (u64.wrap (i64.wrap (d+1))),ae false] 309 λp r=>de 306 (ad (bk o) 1 1) (ad (bk p) 1 1) r λj i k s=>R (ad j i k) s) (R (ad (bk o) 1 1) l)) (R (ad (bk o) 1 1) l)):=by kernel_rfl
end
section
open IntKind
variable (w:an)(R:cM){a b c d:Nat}{A:aU}{s t:ak}{i k l:Int}{j:ar}{F:Bool}
theorem VX:bd prog f180 [a' a] R w=(cF w λy j=>hK j (af a 9) λn=>cY j (af a 5) λe=>kn j (af a 7) λb=>kn j (af a 12) λc=>cG 224 #[ab e] y λd s=>j s/\eS 223 #[a' a,n.val,ab d,ah b,ah c] s λo u=>j u/\aR u o.cells.toArray 158 λz t=>j t/\j7 221 #[a' a,ad (bk z) 1 1] t λf g h i q=>j q/\cond (!i) (R (ae false) q) (bx f g 0 2 λv=>pw q v λr=>jI 196 #[r.val] q λk p=>d' p (af a 7) λl=>cond (k != l) (d' p (af a 12) λm=>cond (k != m) (a8 p (af a 15) 0 [ab 3,ab 0,ab 0,ab 0,ah k] λx=>R (ae false) x) (R (ae true) p)) (R (ae true) p))):=by kernel_rfl
def vn (e:aU)(i:ak)(a b:Nat)(c:ak)(d f:Nat)(g h:Int)(j:ar):ar:=.pointer (some e)::ag j 0 2 (ad i a b::ag j 2 11 (ad c d f::ab g::ab h::ag j 13 109 []))
def Bx (a:aU)(d:ak)(b c:Nat)(j:ar):ar:=.pointer (some a)::ag j 0 2 (ad d b c::ag j 2 123 [])
def s7 (e:aU)(f:ak)(a b:Nat)(s8:Bool)(c d:Int)(j:ar):ar:=.pointer (some e)::ag j 0 5 (ad f a b::ag j 5 1 (ae s8::ag j 6 63 (ab c::ab d::ag j 69 53 [])))
def vo (a:aU)(e:ak)(b c:Nat)(s8:Bool)(g d f:Int)(j:ar):ar:=.pointer (some a)::ag j 0 5 (ad e b c::ag j 5 1 (ae s8::ab g::ag j 6 62 (ab d::ab f::ag j 68 53 [])))
def By (a:aU)(d:ak)(b c:Nat)(s8:Bool)(j:ar):ar:=.pointer (some a)::ag j 0 5 (ad d b c::ag j 5 1 (ae s8::ag j 6 118 []))
def Bz (a:aU)(e:ak)(b c:Nat)(s8:Bool)(d f:Int)(j:ar):ar:=.pointer (some a)::ag j 0 5 (ad e b c::ag j 5 1 (ae s8::ag j 6 63 (ab d::ab f::ag j 69 53 [])))
theorem WQ:bd prog f181 [a' a] R w=(b_ w (af a 4) λd b c=>cz prog (cU f181 [1,1,0,1,0,0]) (vn (af a 0) none 0 0 d b c (b:Nat) 0 (undef::ae false::bm 6 (jp (af a 0)::jp (af a 0)::jp (af a 0)::jp (af a 3)::jp (af a 4)::bm 109 []))) (aO 0 (aT f181 [1,1,1] R)) w):=by kernel_rfl
theorem T_ (u:dy):W prog (sb f181 [1,1,0,1,0,0]) (vn A s a b t c d i k j) (bO prog f181 R u) w=(cond (k<i) (bx t c k 3 λy=>iT w y λr=>aR w #[ab 0,ab 0,ae false] 116 λh I=>a8 I (af h 0) 0 r.cells λa6=>cF a6 λK f=>hK f (af h 0) λG=>cY f (b5 A 5) λe=>hK f (af h 0) λz=>cY f (b5 A 5) λv=>cG 106 #[ab e] K λl E=>f E/\eS 220 #[.pointer (some A),G.val,ab l,ab 1] E λp H=>f H/\cG 215 #[ab v] H λm x=>f x/\eS 220 #[.pointer (some A),z.val,ab m,ab 120] x λq C=>f C/\aR C #[ab p.Kind,ab p.Node,ab p.cL,ab p.N,ah p.Old,ah p.ai,ad p.Words p.dh p.c8,ah p.Key,ab p.cK,ab q.Kind,ab q.Node,ab q.cL,ab q.N,ah q.Old,ah q.ai,ad q.Words q.dh q.c8,ah q.Key,ab q.cK] 158 λD F=>f F/\de 125 (ad s a b) (ad (bk D) 2 2) F λg n o B=>f B/\u .normal (vn A g n o t c d i (i64.wrap (k+1)) (aH j 0::aH j 1::aH j 2::jp (af h 0)::ag j 4 9 (ae (k<i)::jp y::r.val::ad s a b::jp A::G.val::jp A::jp A::jp A::bM A 5::ab e::ab l::p.val::jp A::z.val::jp A::jp A::jp A::bM A 5::ab v::ab m::q.val::ad (bk D) 2 2::ad g n o::ab (i64.wrap (k+1))::ag j 38 84 []))) B) (u (.exit 0) (Bx A s a b (ag j 0 13 (ad t c d::ab i::ab k::ae (k<i)::ag j 14 108 []))) w)):=by kernel_rfl
theorem Ve (u:dy):W prog (sb f181 [1,1,1]) (Bx A s a b j) (bO prog f181 R u) w=(cF w λD c=>hK c (b5 A 9) λq=>cY c (b5 A 5) λd=>cG 225 #[ab d] D λf v=>c v/\eS 220 #[.pointer (some A),q.val,ab f,ab 1] v λr y=>c y/\aR y r.cells.toArray 158 λz x=>c x/\de 125 (ad s a b) (ad (bk z) 1 1) x λe g h B=>c B/\j7 221 #[.pointer (some A),ad e g h] B λi k l m t=>cond (!m) (R (ae false) t) (b_ t (af A.block (A.off+3+1)) λn o p=>cz prog (cU f181 [1,1,1,1,1,1,1,0,1,0,0]) (s7 A i k l true (o:Nat) 0 (aH j 0::aH j 1::ad e g h::aH j 2::aH j 3::ae m::ag j 7 34 (ad s a b::jp A::jp A::jp A::bM A 9::q.val::jp A::jp A::jp A::bM A 5::ab d::ab f::r.val::ad (bk z) 1 1::ad e g h::.tuple #[ad i k l,ae m]::jp A::ad e g h::.tuple #[ad i k l,ae m]::ad i k l::ae m::ae m::ae (!m)::jp A::jp A::jp A::bM A 3::jp (af A.block (A.off+3+1))::ad n o p::ag j 72 53 []))) (aO 2 (aZ (λC w=>W prog (sb f181 [1,1,1,1,1,1,1,1]) C (bO prog f181 R u) w) (bO prog f181 R u))) t)):=by kernel_rfl
theorem T' (c:dy):W prog (sb f181 [1,1,1,1,1,1,1,0,1,0,0]) (s7 A s a b F i k j) (bO prog f181 R c) w=(cond (k<i) (cF w λm d=>cond F (bx s a (i64.wrap (2*k)) 2 λh=>yL d h λr=>cY d (b5 A 6) λf=>jI 196 #[r.val] m λg l=>d l/\W prog (sb f181 [1,1,1,1,1,1,1,0,1,0,0,1,1,0,0,1,1]) (vo A s a b ((g:Int) == (u64.wrap f)) k i k (ag j 0 6 (ag j 7 62 (ae (k<i)::ab k::ae F::ae true::ad s a b::ab k::ab (i64.wrap (2*k))::jp h::r.val::ah g::jp A::jp A::jp A::bM A 6::ab f::ah (u64.wrap f)::ae ((g:Int) == (u64.wrap f))::ae ((g:Int) == (u64.wrap f))::ag j 87 35 [])))) (aO 3 (aZ (λe w=>W prog (sb f181 [1,1,1,1,1,1,1,0,1,0,0,1,1,1]) e (bO prog f181 R c) w) (bO prog f181 R c))) l) (W prog (sb f181 [1,1,1,1,1,1,1,0,1,0,0,1,1,0,0,1,1]) (vo A s a b false k i k (ag j 0 6 (ag j 7 62 (ae (k<i)::ab k::ae F::ae false::bm 13 (ae false::ag j 87 35 []))))) (aO 3 (aZ (λe w=>W prog (sb f181 [1,1,1,1,1,1,1,0,1,0,0,1,1,1]) e (bO prog f181 R c) w) (bO prog f181 R c))) m)) (c (.exit 2) (By A s a b F (ag j 0 69 (ab i::ab k::ae (k<i)::ag j 70 52 []))) w)):=by kernel_rfl
theorem Vf (r:dy):W prog (sb f181 [1,1,1,1,1,1,1,0,1,0,0,1,1,0,0,1,1]) (vo A s a b F i k l j) (bO prog f181 R r) w=(cF w λx f=>eD f (b5 A 13) λg h c=>bx s a (i64.wrap ((i64.wrap (2*i))+1)) 2 λp=>eD f (b5 p 1) λq d m=>aR x #[ad q d m] 94 λv t=>f t/\de 218 (ad g h c) (ad (bk v) 1 1) t λe n o u=>f u/\cV u (b5 A 13) (ad e n o) λy=>r .normal (Bz A s a b F k l (ag j 0 6 (ab i::ag j 6 80 (jp A::jp A::jp A::bM A 13::ad g h c::ad s a b::ab i::ab (i64.wrap (2*i))::ab (i64.wrap ((i64.wrap (2*i))+1))::jp p::bM p 1::ad q d m::ad (bk v) 1 1::ad e n o::jp A::bM A 13::ag j 102 19 [])))) y):=by kernel_rfl
theorem U0 (h:dy):W prog (sb f181 [1,1,1,1,1,1,1,1]) (By A s a b F j) (bO prog f181 R h) w=(bx s a (i64.wrap ((a:Nat)-1)) 2 λi=>pw w i λr=>jI 196 #[r.val] w λd k=>cV k (b5 A 14) (ah d) λe=>cond (!F) (dx 183 #[.pointer (some A)] e λf c=>cond f (dx 222 #[.pointer (some A),ab 11] c λg l=>R (ae g) l) (R (ae false) c)) (R (ae true) e)):=by kernel_rfl
theorem U1 (c:dy):W prog (sb f181 [1,1,1,1,1,1,1,0,1,0,0,1,1,1]) (Bz A s a b F i k j) (bO prog f181 R c) w=(c .normal (s7 A s a b F i (i64.wrap (k+1)) (ag j 0 103 (ab (i64.wrap (k+1))::ag j 104 18 []))) w):=by kernel_rfl
theorem Vl:bd prog f183 [a' a] R w=(cF w λp e=>hK e (af a 9) λi=>cY e (af a 5) λj=>kn e (af a 12) λb=>cG 224 #[ab j] p λc l=>e l/\eS 223 #[a' a,i.val,ab c,ah b,ah 0] l λk n=>e n/\aR n k.cells.toArray 158 λq m=>e m/\j7 221 #[a' a,ad (bk q) 1 1] m λd f g h o=>e o/\R (ae h) o):=by kernel_rfl
end
section
section
attribute [local irreducible] iV jK mQ
theorem Al (w:an){i:Int}(g:0<=i/\i<6):a5 106 [.int .i64 i] w λv w'=>v=.int .i64 (24+i)/\ai w w':=by
 refine ba Tryz.func106 ?_;rw[JL];refine aB (zl _ _ _) ?_;rintro v w1 ⟨cD,d,rfl,a,b,e⟩;have c:=zm;refine⟨_,rfl,?_⟩;have f:(#[]++#[.int .i64 i]++#[ptr cD,ptr d]:ep)=#[.int .i64 i,ptr cD,ptr d]:=by simp
 refine rZ c f ?_;refine aB (y9 w1 a b (by omega) (by omega) i) ?_;rintro v h ⟨rfl,rfl⟩;refine⟨_,rfl,?_,e⟩;unfold nV
 grind
end
theorem Gr (w:an){c:Int}(a:0<=c/\c<6):a5 224 [.int .i64 c] w λv w'=>v=.int .i64 (fN c+1)/\w'=w:=by
 refine ba Tryz.func224 ?_;rw[K0];refine aB (zI w a (i:=1) (by omega)) ?_
 grind
theorem bP.one {u bQ cl:an}{v:aG}{x:bc}{b:Nat}(hu:ai u bQ)(al:cT (λk=>k<u.heap.size) bQ v x)(g:b=bQ.heap.size)(aq:av cl b v.cells cP)(d:ai bQ cl):bP u cl (some ⟨b,0,none⟩) 1 1 [x]:=by
 have h:=hu.size;refine⟨⟨[v],⟨by simp[dS];rfl,.inr ⟨b,v.cells,rfl,aq,db 1,by decide,by rw[aG.len],by grind[dS,List.take_of_length_le,aG.len]⟩⟩,et.one ?_⟩,rfl,λk a=>?_⟩
 ·exact al.aA (ao.cm d) λk c e=>by
   rcases e with e | ⟨o,f⟩
   ·exact e
   grind
 ·obtain⟨o,f⟩:=a
  grind
abbrev lX (A:a4)(w0 u:an)(aI tb:Nat)(r:c_)(m:aS)(j:bL)(V:eU)(R:cd)(v:bf)(bB:an):Prop:=v=.bool R.ok/\eK A w0 u aI tb u.heap.size r m j V R bB
theorem eK.of {bQ:an}{B B':Nat}{r:c_}{m:aS}{j:bL}{V:eU}{R:cd}(h:eK A w0 bQ aI tb B r m j V R bB)(a:ai u bQ)(g:B'<=B):eK A w0 u aI tb B' r m j V R bB:=by
 refine⟨(ao.cm a).trans h.aA λ_ _ e=>e,h.eI,?_⟩;obtain⟨b,c,d,f⟩:=h.gz
 grind
def bN (G:a3)(vs:a_):cd:=cA G vs 0
def Hs (j:bL):Int:=fN j.dead+1
def h8 (j:bL)(m:aS)(G:a3):cd:=bN G [sP j m (Hs j) (gY j.inc j.aL) 0]
def j0 (j:bL)(m:aS):bc:=sP j m (Hs j) j.prev (gY j.inc j.aL)
def mU (ds:ck):Int:=match ds with | []=>0 | d::_=>ed d
def ix (j:bL)(m:aS)(G:a3):cd:=
 if(bN G [j0 j m]).ok=false then bN G [j0 j m]
 else if mU (bN G [j0 j m]).done≠j.prev/\mU (bN G [j0 j m]).done≠gY j.inc j.aL then⟨false,[],(3,mU (bN G [j0 j m]).done),(bN G [j0 j m]).a2,none,false⟩
 else⟨true,[],(0,0),(bN G [j0 j m]).a2,none,false⟩
theorem Gs (i c:Int):cy (gY i c):=by
 unfold gY;split
 ·rename_i h;obtain⟨a,b⟩:=wa h;exact⟨by omega,by omega⟩
 ·exact hL
theorem pr {G:a3}{vs:a_}(h:(bN G vs).ok=true):(bN G vs).out=(0,0)/\(bN G vs).ask=none/\(bN G vs).dH=false:=by
 unfold bN cA at h ⊢
 grind
section
variable {A:a4}{w0 u:an}{aI tb:Nat}{r:c_}{m:aS}{j:bL}{V:eU}{T:eM}{G:a3}
theorem dv.eX {o:Int×Int}(h:dv w0 u aI tb r m j V o):dU m.cK:=by
 have:=h.cg.eX m (b9 h.mem)
 grind[dU]
def jy (r:c_)(tb:Nat)(m:aS)(j:bL)(aI:Nat)(y:an):Prop:=∃ V o,av y aI (qw r tb m (gY j.inc j.aL) V o) o4
theorem DJ (d:dv w0 u aI tb r m j V (0,0))(z:eV A w0 u tb T G)(p:gF T):a5 183 [ptr aI] u (lX A w0 u aI tb r m j V (h8 j m G)):=by
 refine ba Tryz.func183 ?_;rw[ptr,Vl];rintro w1 n;have e:ai u w1:=by rw[n];exact cR _
 clear n;have b:=d.bH e;have C:=d.aj.lt;have D:=z.aj.lt;have H:=d.bp.dead;have q:=d.cg.dead;refine⟨jy r tb m j aI,⟨_,_,b.aj⟩,aS.aV m ⟨λy c=>by obtain⟨x,E,c⟩:=c;exact bX c rfl,r.e7,λy c=>by obtain⟨x,E,c⟩:=c;exact c.cell (i:=5) rfl,_,λy c=>by obtain⟨x,E,c⟩:=c;exact c.cell (i:=12) rfl,?_⟩⟩;rw[H];refine aB (Gr w1 q) ?_;rintro v J ⟨rfl,rfl⟩;refine⟨_,rfl,⟨_,_,b.aj⟩,?_⟩;refine aB (w5 b d.eX _ (Gs _ _) hL) ?_;rintro v K ⟨F,rfl,t,f⟩;refine aG.aV F ⟨rfl,⟨_,_,(b.bH f).aj⟩,?_⟩;rintro b1 I h o;obtain⟨g,l⟩:=bo h o;have g:av I b1 F.cells cP:=g;clear o;have k:=f.new l;have a:=e.new k;have s:=e.size;have w:=bP.one f t h g l;refine⟨⟨_,_,(d.bH a).aj⟩,?_⟩;refine aB (oq (d.bH a) (z.new a) p b.new (by omega) (by omega) w (by simp)) ?_;rintro v L ⟨dJ,dc,raw,rfl,B,_⟩;exact⟨_,_,_,_,rfl,⟨_,_,B.eI.aj⟩,rfl,B.of a s⟩
theorem Rc (z:dv w0 u aI tb r m j V (0,0))(a':eV A w0 u tb T G)(ad:gF T):a5 180 [ptr aI] u (lX A w0 u aI tb r m j V (ix j m G)):=by
 refine ba Tryz.func180 ?_;rw[ptr,VX];rintro w1 P;have E:ai u w1:=by rw[P];exact cR _
 clear P;have p:=z.bH E;have bb:=z.aj.lt;have bj:=a'.aj.lt;have bA:=z.bp.dead;have bI:=z.bp.prev;have af:=z.cg.dead;refine⟨jy r tb m j aI,⟨_,_,p.aj⟩,aS.aV m ⟨λy g=>by obtain⟨X,a8,g⟩:=g;exact bX g rfl,r.e7,λy g=>by obtain⟨X,a8,g⟩:=g;exact g.cell (i:=5) rfl,r.il,λy g=>by obtain⟨X,a8,g⟩:=g;exact g.cell (i:=7) rfl,_,λy g=>by obtain⟨X,a8,g⟩:=g;exact g.cell (i:=12) rfl,?_⟩⟩;rw[bA,bI];refine aB (Gr w1 af) ?_;rintro v bK ⟨rfl,rfl⟩;refine⟨_,rfl,⟨_,_,p.aj⟩,?_⟩;refine aB (w5 p z.eX _ z.cg.prev (Gs _ _)) ?_;rintro v bO ⟨bl,rfl,aR,F⟩;refine aG.aV bl ⟨rfl,⟨_,_,(p.bH F).aj⟩,?_⟩;rintro b1 bm K Q;obtain⟨I,M⟩:=bo K Q;have I:av bm b1 bl.cells cP:=I;clear Q;have L:=F.new M;have f:=E.new L;have O:=E.size;have aX:=bP.one F aR K I M;refine⟨⟨_,_,(z.bH f).aj⟩,?_⟩;refine aB (oq (z.bH f) (a'.new f) ad p.new (by omega) (by omega) aX (by simp)) ?_;rintro v bq ⟨dJ,dc,raw,rfl,s,aO,q,aP⟩;have s:eK A w0 bm aI tb bK.heap.size r m j V (bN G [j0 j m]) bq:=s;have q:gT A w0 raw (bN G [j0 j m]).done:=q;show∃ a b c d,_/\_;refine⟨_,_,_,_,rfl,⟨_,_,s.eI.aj⟩,?_⟩;unfold ix;refine eF (λU=>?_) (λW=>?_)
 ·have U:(bN G [j0 j m]).ok=false:=U;rw[bh U];exact⟨by rw[U],s.of f O⟩
 have W:(bN G [j0 j m]).ok=true:=W;rw[aQ (by grind)];obtain⟨bD,bC,a0⟩:=pr W;have H:=s.of f O;have B:=H.eI;rw[bD]at B;have aH:raw.length=1:=aP W;obtain⟨d,rfl⟩:∃ d,raw=[d]:=Cu.1 aH;obtain⟨x,bk⟩:∃ x,(bN G [j0 j m]).done=[x]:=Cu.1 (by rw[<-q.1];rfl);rw[bk]at q;rw[bk];have ae:=q.2 0 d x rfl rfl;refine eQ (cells:=bV.cells) bV.len (by decide) (aO.new B.new) (i:=0) (x:=d) (l:=[d]) rfl rfl rfl λb o ab _=>bV.aV d ⟨ab,?_⟩
 refine aB (r9 (ae.aA (ao.cm B.new) λ_ _ e=>e)) ?_;rintro v br ⟨rfl,N⟩;have n:=B.bH N;obtain⟨bx,Y,aZ,Z⟩:=H.gz;rw[bC]at Z;rw[a0]at aZ;have w:∀ {bB:an} {R:cd},ao (λk=>k=aI) br bB->dv w0 bB aI tb r m j V R.out->R.a2=(bN G [j0 j m]).a2->R.ask=none->R.dH=false->eK A w0 u aI tb u.heap.size r m j V R bB:=by
  intro bB R ah t J S bM;have D:ao (λk=>k=aI) bq bB:=(ao.cm N).trans ah λ_ _ e=>e
  refine⟨H.aA.trans D λk _ e=>.inr e,t,bx,?_,by grind,?_⟩
  ·rw[J];exact Y.aA D λe=>z.ne e.symm
  grind
 have bz:mU [x]=ed x:=rfl;rw[bz];have C:¬ (ed x≠j.prev/\ed x≠gY j.inc j.aL)->lX A w0 u aI tb r m j V (if ed x≠j.prev/\ed x≠gY j.inc j.aL then⟨false,[],(3,ed x),(bN G [j0 j m]).a2,none,false⟩else⟨true,[],(0,0),(bN G [j0 j m]).a2,none,false⟩) (.bool true) br:=by intro h;rw[aQ h];exact⟨rfl,w (ao.refl _ _) n rfl rfl rfl⟩
 refine⟨_,rfl,r.il,n.aj.cell (i:=7) rfl,d8 (λJ=>⟨_,n.aj.cell (i:=12) rfl,d8 (λS=>?_) (λS=>C λe=>e.2 S)⟩) (λJ=>C λe=>e.1 (by grind))⟩;have J:ed x≠j.prev:=by grind
 rw[bh ⟨J,S⟩];exact Gq n (3,ed x) λw' ag t=>⟨rfl,w ag t rfl rfl rfl⟩
end
end
end Go.Proofs.YtmkljjbioomepaaGreat
