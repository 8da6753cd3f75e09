import Derived.Test.YtmkljjbioomepaaGreata24
import Derived.Test.YtmkljjbioomepaaGreata18
set_option linter.all false
set_option maxHeartbeats 4000000
set_option maxRecDepth 100000
namespace Go.Proofs.YtmkljjbioomepaaGreat
open Go.Proofs.Tryz Go.b8
variable {P:Program} {R:dW} {a:ax} {b1 aP fJ c d9 cap n jM:Nat} {a4 l ws:bR} {fn:Func} {lines:Int} {w:av}
section
open Go.RowKit Go.Shelf
theorem an6 {b sb so k c:Nat} {news:aH} (au:news.length=7) (J:k=7) (Eg:∀ j u,news[j]?=some u->w.cell? ⟨sb,so+j,none⟩=some u) (kZ:ha w ⟨b,2,none⟩ 0 news) :
  (Builtin.copy_ #[94,94] 3 #[.slice (some ⟨b,2,none⟩) 7 7,.slice (some ⟨sb,so,none⟩) k c]).run prog w=.ok (.int .i64 7) (dO w ⟨b,2,none⟩ 0 news):=by
 subst J;obtain ⟨inf,aD,aE,aX,ak⟩:=j5 (T:=30) (z:=.int .u64 0) (n:=1) (m:=8) (by kernel_rfl);have aJ:=run_firstCells_some (P:=prog) w inf.size 7 ⟨sb,so,none⟩ 7 c news (by rw [aX];exact au) (λj v h=>by rw [show (⟨sb,so,none⟩:bh).add j=⟨sb,so+j,none⟩ from tO _ _ _];exact Eg j v h);have cq:=b8.HK (P:=prog) kZ;have hu:prog.underlying 94=some (.slice 30):=Tryz.underlying94;simp [Builtin.copy_,run_underlying hu,sizeOf,typeInfo,aD,Builtin.lenOf,aJ,cq,goInt]
def ET (ws:bR):a6:=⟨if 256<ws.getD 0 0 then 256 else ws.getD 0 0,ws.getD 1 0,ws.getD 2 0,ws.getD 3 0,ws.getD 4 0,ws.getD 5 0,ws.getD 6 0,ws.getD 7 0,ws.getD 8 0⟩
theorem xS (aA:bW w a (us ws)) {i:Nat} (aD:i<ws.length) (aj:n=ws.length) {z:Int} (aE:z=i) {K:bh->Prop} (J:∀ b o,(∀ y,ai w y->y.cell? ⟨b,o,none⟩=some (.int .u64 (ws.getD i 0)))->K ⟨b,o,none⟩):cb a n z 1 K:=by
 have a':ws[i]?=some (ws.getD i 0):=by rw [cp aD,gd,cp aD];rfl
 refine pw (cells:=IQ) (sz:=1) (λ_=>rfl) (by decide) (by rw [MG];exact aA) a' aE aj λb o ab=>J b o λy az=>ab y az 0 _ rfl
theorem amu (h:l.length=9):∃ e9 ee e_ e7 kr kN kO lh kP,l=[e9,ee,e_,e7,kr,kN,kO,lh,kP]:=by
 rcases l with _ | ⟨e9,_ | ⟨ee,_ | ⟨e_,_ | ⟨e7,_ | ⟨kr,_ | ⟨kN,_ | ⟨kO,_ | ⟨lh,_ | ⟨kP,_ | ⟨y,l⟩⟩⟩⟩⟩⟩⟩⟩⟩⟩;case cons.cons.cons.cons.cons.cons.cons.cons.cons.nil=>exact ⟨_,_,_,_,_,_,_,_,_,rfl⟩
 all_goals simp at h
theorem an7 (aA:bW w a (us ws)) (au:ws.length=9) (hu:∀ x ∈ ws,dp x) (ab:9<=c):bK 254 [.slice a 9 c] w λv w'=>v=(ET ws).val/\ai w w':=by
 refine bO Tryz.func254 ?_;rw [aCQ];rintro b1 w1 bA br;obtain ⟨bm,a1⟩:=b4 bA br;have bm:aF w1 b1 nf.cells hs:=bm;clear br;rintro aS cG;have a5:ai w1 aS:=by rw [cG];exact eh _
 clear cG;have gI:=a1.new a5;refine ⟨λu=>ai aS u,ay.refl _ _,?_⟩;have pt:dp (ws.getD 0 0):=by
  match ws,au,hu with
  |x::_,_,hu=>exact hu x (by simp)
 refine xS (aA.new gI) (i:=0) (by omega) (by omega) rfl λb o aN=>⟨_,aN,xS (aA.new gI) (i:=1) (by omega) (by omega) rfl λb' gk af=>⟨_,af,?_⟩⟩
 have Jr:IntKind.i64.wrap (if (256:Int)<ws.getD 0 0 then (256:Int) else ws.getD 0 0)=(ET ws).b5:=by
  rw [cn]
  ·rfl
  ·split<;>have:=pt.1<;>omega
  ·split<;>omega
 rw [Jr];rintro aP aY cv dY;obtain ⟨cx,bf⟩:=b4 cv dY;have cx:aF aY aP nf.cells hs:=cx;clear dY;refine ⟨bf,?_⟩;refine gL (vs:=[.int .i64 (ET ws).b5,.int .u64 (ws.getD 1 0),.int .u64 0,.int .u64 0,.int .u64 0,.int .u64 0,.int .u64 0,.int .u64 0,.int .u64 0]) cx rfl (by intro v aw;simp at aw;rcases aw with rfl | rfl | rfl<;>rfl) λbZ dk dv=>?_
 rintro cK eO;have bH:ai bZ cK:=by rw [eO];exact eh _
 clear eO;have dL:=ai.an bH dk;have sd:b1≠aP:=λe=>by have:=bm.lt;have:=a5.size;omega
 have q':ai w cK:=((gI.new bf).trans dv λk J e=>by have:=gI.size;omega).new bH;have om:aF cK b1 nf.cells hs:=ai.an bH (dv.an (ai.an (a5.new bf) bm) sd);obtain ⟨b,o,rfl,jl⟩:∃ b o,a=some ⟨b,o,none⟩/\∀ j u,(us ws)[j]?=some u->cK.cell? ⟨b,o+j,none⟩=some u:=by
  rcases aA.new q' with e | h
  ·exact absurd (congrArg List.length e) (by rw [m9,au];decide)
  ·exact h
 refine sB (by omega) (by omega) (by omega) (by omega) (by omega) λqc rl=>?_
 rcases rl with rfl | ⟨e,_⟩;case inr=>omega
 have aqP:=an6 (w:=cK) (b:=aP) (sb:=b) (so:=o+2) (k:=7) (c:=c - 2) (news:=us (ws.drop 2)) (by rw [m9,vq,au]) rfl (λj u h=>by have:=jl (2+j) u (by simp only [us,gV,uf] at h ⊢;exact h);rw [show o+2+j=o+(2+j) by omega];exact this) (kA dL (by rw [m9,vq,au];simp) (Cl _))
 have bY:((9:Nat):Int).toNat - (2:Int).toNat=7:=rfl;have bg:((c:Nat):Int).toNat - (2:Int).toNat=c - 2:=by simp
 have dF:o+(2:Int).toNat * 1=o+2:=rfl;rw [bY,bg,dF];refine ⟨_,_,aqP,?_⟩;obtain ⟨e9,ee,e_,e7,kr,kN,kO,lh,kP,rfl⟩:=amu au;have e4:aF (dO cK ⟨aP,2,none⟩ 0 (us [e_,e7,kr,kN,kO,lh,kP])) aP (ET [e9,ee,e_,e7,kr,kN,kO,lh,kP]).cells hs:=dL.dO (vs:=us [e_,e7,kr,kN,kO,lh,kP]) (o:=2) (i:=0);have eu:=nI cK aP 2 0 (us [e_,e7,kr,kN,kO,lh,kP]);refine a6.bd _ ⟨cD e4 rfl,?_⟩;have Ak:=eu.an om sd;refine gL (vs:=(ET [e9,ee,e_,e7,kr,kN,kO,lh,kP]).cells) Ak rfl (a6.single _) λcR fQ eD=>?_
 refine a6.bd _ ⟨cD fQ rfl,rfl,rfl,?_⟩;have:=a1.size;refine (q'.trans eu λk J e=>?_).trans eD λk J e=>?_
 ·have:=gI.size;omega
 ·omega
theorem an8 {b:ax} {m d:Nat} {l2:bR} (af:bW w a (us l)) (aj:n=l.length) (al:bW w b (us l2)) (hm:m=l2.length) (aJ:n<=1000000):bK 255 [.slice a n c,.slice b m d] w λv w'=>v=.bool (decide (l=l2))/\ai w w':=by
 refine bO Tryz.func255 ?_;rw [avs];refine fX (λe=>⟨?_,ay.refl _ _⟩) (λe=>?_)
 ·rw [decide_eq_false];intro bg;subst bg;omega
 have hlen:l.length=l2.length:=by omega
 refine e2 mix (λq env u=>∃ (i:Nat) (aT:aH),q=l.length - i/\i<=l.length/\env=ND a n c b m d n i aT/\ai w u/\l.take i=l2.take i) l.length
  ⟨0,_,by omega,by omega,rfl,ay.refl _ _,rfl⟩ ?_
 rintro q env u ⟨i,aT,rfl,aD,rfl,dN,aZ⟩;rw [auv];refine bL (λaK=>?_) (λhQ=>?_)
 ·rintro w1 br;have a1:ai u w1:=by rw [br];exact eh _
  clear br;have uP:=dN.new a1;refine ⟨λy=>ai w1 y,ay.refl _ _,?_⟩;refine xS (af.new uP) (i:=i) (by omega) aj rfl λb1 mo eC=>⟨_,eC,xS (al.new uP) (i:=i) (by omega) hm rfl λaP mq gC=>⟨_,gC,?_⟩⟩
  have bs:l[i]?=some (l.getD i 0):=by rw [gd,cp (by omega)];rfl
  have bI:l2[i]?=some (l2.getD i 0):=by rw [gd,cp (by omega)];rfl
  refine fX (λcj=>⟨?_,uP⟩) (λhe=>?_)
  ·rw [decide_eq_false];intro bg;subst bg;exact cj rfl
  ·rw [cn (x:=(i:Int)+1) (by omega) (by omega)];refine ⟨l.length - (i+1),by omega,i+1,_,rfl,by omega,rfl,uP,?_⟩;rw [iW,iW,aZ,bs,bI,he]
 ·rw [auL];refine ⟨?_,dN⟩;rw [ny (by omega),ny (by omega)] at aZ;rw [decide_eq_true aZ]
theorem amv (w:av) (a:ax) (n c:Nat):bK 253 [.slice a n c,.int .i64 9] w λr w'=>r=.func (.func 257) #[] #[.pointer (some ⟨w.heap.size,0,none⟩),.pointer (some ⟨w.heap.size+1,0,none⟩)]/\
  aF w' w.heap.size [.slice a n c] 94/\aF w' (w.heap.size+1) [.int .i64 9] 3/\ai w w'/\w'.heap.size=w.heap.size+2:=by
 refine bO Tryz.func253 ?_;rw [avu];rintro b1 w1 bA br;obtain ⟨bm,a1⟩:=b4 bA br;have fI:w1.heap.size=w.heap.size+1:=by rw [br];simp
 clear br;rintro aP aS cv cG;obtain ⟨bP,a5⟩:=b4 cv cG;have jc:aS.heap.size=w1.heap.size+1:=by rw [cG];simp
 clear cG;subst bA cv;refine ⟨9,bP.cell rfl,bL (λh=>absurd h (by decide)) (λ_=>⟨by rw [fI],ai.an a5 bm,by rw [<-fI];exact bP,a1.new a5,by omega⟩)⟩
def q0 (a:ax) (i:Nat):ax:=a.map (·.add (9 * i))
def o3 (b1 aP:Nat) (a:ax) (n cap:Nat) (w:av):Prop:=w.cell? ⟨b1,0,none⟩=some (.slice a n cap)/\w.cell? ⟨aP,0,none⟩=some (.int .i64 9)
theorem H1 (l b1 aP:Nat) (a:ax) (cap n:Nat) (bG s3:List (Fin n)->aV) (aj:n<=1000) (vV:9 * n<=cap) (W:av) (ak:o3 b1 aP a (9 * n) cap W)
  (DQ:AbidesFrom W.heap.size bG) (DT:∀ pre x Ss,bG pre Ss->pre.length<n->YieldAt Fence.wide 1 prog l #[.slice (q0 a x.val) 9 9] Ss λe W'=>
   (e=.returned (.bool true)/\bG (pre++[x]) W'/\(o3 b1 aP a (9 * n) cap Ss->o3 b1 aP a (9 * n) cap W'))\/(e=.returned (.bool false)/\s3 (pre++[x]) W'))
  (aN:bG [] W) :
  CallsIn Fence.wide 2 prog 257 #[.func (.yield l) #[] #[],.pointer (some ⟨b1,0,none⟩),.pointer (some ⟨aP,0,none⟩)] W λe W'=>(∃ v,e=.returned v)/\
   ((∃ ys:List (Fin n),ys.map Fin.val=List.range n/\bG ys W')\/(∃ pre,True/\s3 pre W')):=by
 refine callsIn_wide.2 (Calls.mono (R:=λe w'=>∃ x,e=.returned x/\((∃ ys:List (Fin n),ys.map Fin.val=List.range n/\bG ys w')\/(∃ pre,True/\s3 pre w'))) ?_ λe w' ⟨x,ao,aA⟩=>⟨⟨x,ao⟩,aA⟩);refine bO Tryz.func257 (args:=[.func (.yield l) #[] #[],.pointer (some ⟨b1,0,none⟩),.pointer (some ⟨aP,0,none⟩)]) (R:=λ_ w'=>(∃ ys:List (Fin n),ys.map Fin.val=List.range n/\bG ys w')\/(∃ pre,True/\s3 pre w')) ?_;rw [au4];refine e2 mix (λm env u=>∃ (i:Nat) (aT:aH) (pre:List (Fin n)),m=n - i/\i<=n/\env=NB (.func (.yield l) #[] #[]) ⟨b1,0,none⟩ ⟨aP,0,none⟩ ((9 * i:Nat):Int) aT/\pre.map Fin.val=List.range i/\bG pre u/\o3 b1 aP a (9 * n) cap u) n
  ⟨0,_,[],by omega,by omega,rfl,rfl,aN,ak⟩ ?_
 rintro m env u ⟨i,aT,pre,rfl,aD,rfl,sn,Jz,gx,ki⟩;rw [auh];refine ⟨a,9 * n,cap,gx,bL (λar=>?_) (λar=>?_)⟩
 ·rintro w1 br;have tt:Go.b8.ai u w1:=by rw [br];exact eh _
  have bY:w1.cell? ⟨b1,0,none⟩=some (.slice a (9 * n) cap):=by rw [br];exact gx
  have bg:w1.cell? ⟨aP,0,none⟩=some (.int .i64 9):=by rw [br];exact ki
  clear br;refine ⟨λz=>o3 b1 aP a (9 * n) cap z,⟨bY,bg⟩,9,λz aE=>aE.2,a,9 * n,cap,λz aE=>aE.1,?_⟩;refine ⟨by omega,by omega,by omega,by omega,vV,?_⟩;refine ⟨a,9 * n,cap,bY,?_⟩;have OR:(if (((((9 * n:Nat):Int)).toNat - ((9 * i:Nat):Int).toNat:Nat):Int)<9 then (((((9 * n:Nat):Int)).toNat - ((9 * i:Nat):Int).toNat:Nat):Int) else 9)=9:=by split<;>omega
  rw [OR,cn (x:=((9 * i:Nat):Int)+9) (by omega) (by omega)];refine ⟨by omega,by omega,by omega,by omega,vV,?_⟩;have r2:(if ((9 * i:Nat):Int)+9=((9 * i:Nat):Int) then a else a.map (·.add ((((9 * i:Nat):Int)).toNat * 1)))=q0 a i:=by
   have t:(((9 * i:Nat):Int)).toNat * 1=9 * i:=by omega
   rw [if_neg (by omega),t];rfl
  have el:(((9 * i:Nat):Int)+9).toNat - (((9 * i:Nat):Int)).toNat=9:=by omega
  rw [r2,el];have apY:bG pre w1:=DQ _ _ _ none Jz ⟨tt.os,tt.tape,tt.output,tt.size,λk J _=>tt.block k J id⟩ (λ_ h=>by cases h);have gw:=congrArg List.length sn;rw [jS,ui] at gw;have gE:i<n:=by omega
  obtain ⟨fn,tmps,assign,body,az,aA⟩:=DT pre ⟨i,gE⟩ w1 apY (by omega);refine ⟨fn,tmps,assign,body,az,aA.1,λc cs _=>?_⟩;obtain ⟨e,aY,aL,aX⟩:=aA.2 c cs (room_wide _);refine ⟨e,aY,?_,aX⟩;rcases aL with ⟨rfl,S6,f'⟩ | ⟨rfl,S7⟩
  ·have hy:=f' ⟨bY,bg⟩;refine ⟨true,rfl,eX rfl ⟨9,hy.2,?_⟩⟩;dsimp only;rw [cn (x:=((9 * i:Nat):Int)+9) (by omega) (by omega),show ((9 * i:Nat):Int)+9=((9 * (i+1):Nat):Int) by omega];exact ⟨n - (i+1),by omega,i+1,_,pre++[⟨i,gE⟩],rfl,by omega,rfl,by rw [pB,sn,rK];rfl,S6,hy⟩
  ·exact ⟨false,rfl,g8 rfl (.inr ⟨_,trivial,S7⟩)⟩
 ·have:i=n:=by omega
  subst this;exact .inl ⟨_,sn,Jz⟩
end
section
open Go.RowKit Go.Shelf
def Ar (a4:bR) (i:Nat):a6:=ET ((a4.drop (2+9 * i)).take 9)
def mG (a4:bR) (n:Nat):List a6:=(List.range n).map (Ar a4)
abbrev ho:TypeId:=271
structure IZ (aY:av) (fJ:Nat) (seq:Int) (a4:bR) (pre:eI) (u:av):Prop where
 ex:∃ a cap,aF u fJ [.int .i64 seq,.slice a pre.length cap] ho/\bu u hs 9 a pre.length cap (nR (pre.map (Ar a4))).flatten/\∀ k,a7 a k->aY.heap.size<=k
 aO:ay (λk=>k=fJ) aY u
theorem amw {aY:av} {seq:Int}:OwnFrom aY.heap.size (λ(ys:List (Fin n)) u=>IZ aY fJ seq a4 (ys.map Fin.val) u):=by
 rintro ys W W' row ⟨⟨a,cap,ak,aq,bc⟩,GV⟩ a' aA;have J:=Hi a';refine ⟨⟨a,cap,J.an ak (Iu (W':=W') aA ak),?_,bc⟩,GV.trans J λk dQ e=>?_⟩
 ·refine ⟨aq.1,?_⟩;rcases aq.2 with h | ⟨g,cur,he,uL,rest⟩
  ·exact .inl h
  ·exact .inr ⟨g,cur,he,J.an uL (Iu (W':=W') aA uL),rest⟩
 ·have:=(aA k e.symm).1;omega
theorem ahq (a4:bR) (pre:eI) (i:Nat):(nR ((pre++[i]).map (Ar a4))).flatten=(nR (pre.map (Ar a4))).flatten++(Ar a4 i).cells:=by simp [nR]
theorem o3.put {W:av} {l:Nat} {o gk:Obj} (au:W.heap[l]?=some o) (aq:o.isCells=false) (h:o3 b1 aP a n cap W):o3 b1 aP a n cap (W.putObj l gk):=by
 have same:∀ {b:Nat} {v:bx},W.cell? ⟨b,0,none⟩=some v->(W.putObj l gk).cell? ⟨b,0,none⟩=some v:=by
  intro b v h;obtain ⟨mq,re,ab⟩:=cells_of_cell h;have cj:b≠l:=by intro e;have re:W.heap[b]?=some mq:=re;rw [e,au] at re;cases re;rw [aq] at ab;cases ab
  rw [World.cell?_of_block (w:=W)]
  ·exact h
  ·exact World.putObj_heap_other cj
 exact ⟨same h.1,same h.2⟩
theorem o3.aO {W W':av} {M:bB} (J:ay M W W') (af:¬ M b1) (al:¬ M aP) (h:o3 b1 aP a n cap W):o3 b1 aP a n cap W':=⟨qn J h.1 af,qn J h.2 al⟩
abbrev A9 (cJ:ax) (jM d9:Nat) (lines:Int) (ec fJ:Nat) (dE:Int) (kP:bx) (lQ lR:Nat) (vk:bx) (aT:aH):aH:=
 DG cJ jM d9 lines ⟨ec,0,none⟩ ⟨fJ,0,none⟩ dE kP (.func (.func 257) #[] #[.pointer (some ⟨lQ,0,none⟩),.pointer (some ⟨lR,0,none⟩)]) vk aT
theorem aiH (aY:av) (ec fJ lQ lR:Nat) (seq dE lines:Int) (a4:bR) (n jM d9 mF:Nat) (cJ c2:ax) (aT:aH) (aj:n<=12)
  (me:aF aY fJ [.int .i64 seq,.slice none 0 0] ho) (su:aF aY lQ [.slice c2 (9 * n) mF] 94) (hg:aF aY lR [.int .i64 9] 3) (a1:fJ≠lQ) (a5:fJ≠lR) (vV:9 * n<=mF)
  (dw:∀ i,i<n->bW aY (q0 c2 i) (us ((a4.drop (2+9 * i)).take 9))/\∀ k,a7 (q0 c2 i) k->k≠fJ) (mg:2+9 * n<=a4.length) (hu:∀ x ∈ a4,dp x) (Q:Exit->Act->aV)
  (gi:∀ D W (ys:List (Fin n)),aY.heap.size<=D->ys.map Fin.val=List.range n->IZ aY fJ seq a4 (ys.map Fin.val) W->W.heap[D]?=some (.deferred (some []))->
   Q .normal { tmps:=(A9 cJ jM d9 lines ec fJ dE undef lQ lR undef aT).toArray,defers:=[{ target:=.collected D,args:=#[] }] } W) :
  (Code.rangeFunc (.tmp 50) #[51] (sub (b6 f251) [1,1,1,1,1,1,0,1,0,0]) (.block 1 (sub (b6 f251) [1,1,1,1,1,1,0,1,0,1,0]))).wpIn Fence.wide 3 prog Q
   (act (A9 cJ jM d9 lines ec fJ dE undef lQ lR undef aT)) aY:=by
 obtain ⟨inf,aD,aE,j3,gm⟩:=j5 (T:=hs) (z:=nf.val) (n:=9) (m:=72) (by kernel_rfl);have ph:o3 lQ lR c2 (9 * n) mF aY:=⟨su.cell rfl,hg.cell rfl⟩;have aDD:=me.lt;refine wpIn_rangeFunc_ownH rfl (by omega) (gf:=257) (lb:=#[.pointer (some ⟨lQ,0,none⟩),.pointer (some ⟨lR,0,none⟩)]) rfl trivial (enters_of Tryz.func257 (by kernel_rfl) rfl)
  (encs:=λx:Fin n=>#[.slice (q0 c2 x.val) 9 9]) (Kp:=λA B=>o3 lQ lR c2 (9 * n) mF A->o3 lQ lR c2 (9 * n) mF B) (S:=λys=>ys.map Fin.val=List.range n) (Sp:=λ_=>True) (N:=n) (w0:=aY)
  (λl bG s3 W ig DQ ap0 DT aN=>H1 l lQ lR c2 mF n bG s3 (by omega) vV W ?ao3 DQ DT aN)
  (λaf al h=>al (af h)) (λW l o gk _ au aq _ h=>h.put au aq) (Below.refl _ _) (λ_=>rfl) (λys u=>IZ aY fJ seq a4 (ys.map Fin.val) u) (λ_ _ _=>False) amw (λ_ _ _ _ _ aX _ _=>aX)
  ⟨⟨none,0,me,bu.nil _ _ _,λk J=>by obtain ⟨o,aq⟩:=J;cases aq⟩,ay.refl _ _⟩
  (λx cB W=>cB=act (A9 cJ jM d9 lines ec fJ dE (.slice (q0 c2 x.val) 9 9) lQ lR (.slice (q0 c2 x.val) 9 9) aT)) ?own ?assign ?body ?done ?stop
 case ao3=>
  have cell:∀ {b:Nat} {v:bx},b<aY.heap.size->aY.cell? ⟨b,0,none⟩=some v->W.cell? ⟨b,0,none⟩=some v:=λaK h=>(World.cell?_of_block (ig.block _ aK)).trans h
  exact ⟨cell su.lt ph.1,cell hg.lt ph.2⟩
 case own=>exact λ_ _ _ _ _ _ h _ _=>h
 case assign=>
  intro l pre x W K f_ f';suffices aX:∀ a:Act,a=act (A9 cJ jM d9 lines ec fJ dE undef lQ lR (.slice (q0 c2 x.val) 9 9) (ag aT 0 66 []))->Code.wpIn (Fence.wide.inRound l) (3 - 1 - 1) prog (sub (b6 f251) [1,1,1,1,1,1,0,1,0,0]) (Exit.then K (λ_ _ _=>False)) a W from aX _ (by kernel_rfl)
  rintro _ rfl;refine wpIn_mono (x3 mix (agD l) (ds:=[]) _ _ (bk (λenv u=>K (act env) u) λ_ _ _=>False) W (by kernel_rfl) ?_) (λe a w h=>?_)
  ·rw [ax7 (d:=undef)];exact f' _ _ (KeepsFrom.refl _ _) (λh=>h) f_ rfl
  ·obtain ⟨ao,env,rfl,aM⟩:=wu h;cases e with
   |normal=>exact aM
   |panic c=>exact absurd rfl (ao.1 c)
   |outgrown=>exact absurd rfl ao.2
   | _=>exact aM.elim
 case body=>
  rintro l pre x cB W au _ f_ rfl aK;refine wpIn_block ?_;suffices aX:∀ a:Act,a=act (A9 cJ jM d9 lines ec fJ dE (.slice (q0 c2 x.val) 9 9) lQ lR (.slice (q0 c2 x.val) 9 9) (ag aT 0 66 []))->Code.wpIn (Fence.wide.inRound l) (3 - 1 - 1) prog (sub (b6 f251) [1,1,1,1,1,1,0,1,0,1,0]) (Exit.inBlock 1 (ownPostG aY.heap.size (λA B=>o3 lQ lR c2 (9 * n) mF A->o3 lQ lR c2 (9 * n) mF B) (λ(ys:List (Fin n)) u=>IZ aY fJ seq a4 (ys.map Fin.val) u) (λ_ _ _=>False) (pre++[x]) W)) a W from aX _ (by kernel_rfl)
  rintro _ rfl;refine wpIn_mono (x3 mix (agD l) (ds:=[]) _ _ (bk (λenv u=>KeepsFrom aY.heap.size W u/\(o3 lQ lR c2 (9 * n) mF W->o3 lQ lR c2 (9 * n) mF u)/\IZ aY fJ seq a4 ((pre++[x]).map Fin.val) u) λ_ _ _=>False) W (by kernel_rfl) ?_) (λe a w h=>?_)
  ·rw [axg (s8:=undef) (d:=undef)];obtain ⟨⟨a,cap,yj,B3,uG⟩,T4⟩:=f_;rw [jS] at yj B3;rintro bZ eE;have bz:Go.b8.ai W bZ:=by rw [eE];exact eh _
   clear eE;have abQ:=ai.an bz yj;refine ⟨λy=>Go.b8.ai bZ y,ay.refl _ _,a,pre.length,cap,λy az=>(ai.an az abQ).cell (i:=1) rfl,?_⟩;obtain ⟨v',as1⟩:=dw x.val x.isLt;have arP:ay (λk=>k=fJ) aY bZ:=T4.new bz;have ati:bW bZ (q0 c2 x.val) (us ((a4.drop (2+9 * x.val)).take 9)):=v'.aO arP (mK v' as1);have wq:=x.isLt;refine aR (an7 ati (by rw [o2,vq];omega) (λy az=>hu y (A5 (Im az))) (eJ 9)) ?_;rintro v cK ⟨rfl,bH⟩;refine a6.bd _ ⟨rfl,bH,?_⟩;rintro kz dh jt kY;obtain ⟨e4,cg⟩:=b4 jt kY;have e4:aF dh kz (Ar a4 x.val).cells hs:=e4;clear kY;refine ⟨bH.new cg,?_⟩;have Eb:=bH.new cg;have Uh:=bz.new Eb;have cV:=bu.new Uh B3;rw [<-j3] at cV;obtain ⟨ap,bU,cR,fV,nP,eD,fC⟩:=bu.append (P:=prog) (t:=37) (ty:=37) Tryz.underlying37 aD aE (by rw [j3];rfl) (by omega) cV
    (s:=some ⟨kz,0,none⟩) (m:=1) (c:=1) (news:=(Ar a4 x.val).cells) (by rw [j3];rfl) (jk e4 rfl) (λu hu=>by have:=a6.single _ u hu;cases u<;>first | rfl | exact this) (by omega) (by rw [gm];omega)
   rw [j3] at nP;have aEr:=T4.size;have uS:¬ a7 a fJ:=λh=>by have:=uG fJ h;omega
   have Ti:aF cR fJ [.int .i64 seq,.slice a pre.length cap] ho:=eD.an (ai.an Eb abQ) uS;refine ⟨ap,pre.length+1,bU,cR,fV,⟨_,Ti.cell (i:=1) rfl⟩,Ti.frozen,?_⟩;rintro e6 jn;have fe:ay (λk=>k=fJ) cR e6:=by rw [jn];exact iu _ _ _ _
   have mf:aF e6 fJ [.int .i64 seq,.slice ap (pre.length+1) bU] ho:=by rw [jn];exact Ti.setCell (i:=1) _
   have qv:∀ k,a7 ap k->aY.heap.size<=k:=by
    intro k J;rcases fC with e | e
    ·exact uG k (e▸J)
    ·obtain ⟨o,aq⟩:=J;rw [e] at aq;simp at aq;have:=Uh.size;omega
   have fo:ay (λk=>a7 a k\/k=fJ) W e6:=((ay.db Uh).trans eD (λ_ _ h=>.inl h)).trans fe (λ_ _ h=>.inr h);refine ⟨VV fo (λk J=>?_),λhy=>hy.aO fo ?_ ?_,⟨ap,bU,?_,?_,qv⟩,?_⟩
   ·rcases J with J | rfl
    ·rcases B3.2 with ⟨he,_⟩ | ⟨g,cur,he,a',_⟩
     ·obtain ⟨o,aq⟩:=J;rw [he] at aq;cases aq
     ·obtain ⟨o,aq⟩:=J;rw [he] at aq;simp at aq;exact ⟨cur,_,aq.1▸a'⟩
    ·exact ⟨_,_,yj⟩
   ·rintro (hm | hm)
    ·have:=uG _ hm;have:=su.lt;omega
    ·exact a1 hm.symm
   ·rintro (hm | hm)
    ·have:=uG _ hm;have:=hg.lt;omega
    ·exact a5 hm.symm
   ·simpa using mf
   ·rw [pB,List.map_singleton,ahq];have:=bu.aO fe nP (λk J e=>by have:=qv k J;omega);simpa using this
   ·refine (T4.trans fo λk J hm=>?_);rcases hm with hm | rfl
    ·have:=uG k hm;omega
    ·rfl
  ·obtain ⟨ao,env,rfl,aM⟩:=wu h;cases e with
   |normal=>exact aM
   |panic c=>exact absurd rfl (ao.1 c)
   |outgrown=>exact absurd rfl ao.2
   | _=>exact aM.elim
 case done=>rintro D ys W fs Hd f_ f';exact gi D W ys fs Hd f_ f'
 case stop=>rintro D c pre W _ _ h _;exact h.elim
end
section
open Go.RowKit Go.Shelf
def hf (a4:bR) (lines:Int):Int:=
 if ¬ (98<=lines/\lines<=256) then 18 else if a4.length<2\/1073741824<=a4.getD 0 0\/12<a4.getD 1 0 then 14
 else if (a4.length:Int)<3+9 * a4.getD 1 0 then 14
 else if jD (a4.getD 0 0) (mG a4 (a4.getD 1 0).toNat) lines≠0 then 14
 else if je (a4.getD 0 0) (mG a4 (a4.getD 1 0).toNat)≠a4.take (3+9 * (a4.getD 1 0).toNat) then 14 else 0
def hv (a4:bR) (lines:Int):Int×List a6:=if hf a4 lines=0 then (a4.getD 0 0,mG a4 (a4.getD 1 0).toNat) else (0,[])
def iv (w:av) (R:Int×List a6) (last:bx) (v:bx) (w':av):Prop:=∃ a cap,v=.tuple #[c0.val ⟨R.1,a,R.2.length,cap⟩,last]/\ai w w'/\jd w' a R.2.length R.2/\∀ k,a7 a k->w.heap.size<=k
theorem Ro (w:av):jd w none 0 []:=⟨.inl rfl,rfl,by simp,λp ar=>by cases ar⟩
theorem aki (h:hf a4 lines≠0):hv a4 lines=(0,[]):=if_neg h
theorem iv.no {w':av} {e:Int} (he:hf a4 lines=e) (aN:e≠0) (aj:ai w w'):iv w (hv a4 lines) (.int .i64 (hf a4 lines)) (.tuple #[c0.val ⟨0,none,0,0⟩,.int .i64 e]) w':=by rw [aki (by rw [he];exact aN),he];exact ⟨none,0,rfl,aj,Ro _,λk J=>absurd J yP⟩
abbrev o1:c0:=⟨0,none,0,0⟩
theorem A_ {u:av} {b:Nat} {zs:aH} (aE:aF u b zs ho) (au:zs.length=2) (r:c0) {K:c0->aV} (J:∀ c6,ay (λk=>k=b) u c6->aF c6 b r.cells ho->K r c6) :
  ha u ⟨b,0,none⟩ 0 r.cells/\∀ aS,aS=dO u ⟨b,0,none⟩ 0 r.cells->c0.ex λres=>df aS ⟨b,0,none⟩ 0 res.cells/\aS=aS/\K res aS:=
 gL aE (by rw [au];rfl) (c0.single _) λaS bP eN=>c0.bd r ⟨cD bP rfl,rfl,J aS eN bP⟩
theorem mb {Q:Exit->aH->aV} {c:Code} {env:aH} (gH:∀ env w,Q .ret env w=ga P fn R .ret env w) (h:Go.b8.W P c env (cw P fn R Q) w):Go.b8.W P c env Q w:=(St gH).mp h
theorem aiY (w:av) (lines:Int):bK 203 [.int .i64 lines] w λv w'=>v=.bool (decide (98<=lines/\lines<=256))/\w'=w:=by
 refine bO Tryz.func203 ?_;rw [ae5];refine bL (λh=>⟨?_,rfl⟩) (λh=>⟨?_,rfl⟩)
 ·have h:98<=lines:=h;congr 1;simp [h]
 ·have h:¬ 98<=lines:=h;congr 1;simp [h]
structure Ga (w:av) (a:ax) (jM d9:Nat) (a4:bR) (lines:Int) (n:Nat) (ec:Nat) (env:aH) (u:av):Prop where
 ex:∃ (fJ lQ lR mF:Nat) (c2:ax) (aT:aH),env=A9 a jM d9 lines ec fJ ((3+9 * n:Nat):Int) undef lQ lR undef aT/\aF u fJ [.int .i64 (a4.getD 0 0),.slice none 0 0] ho/\aF u lQ [.slice c2 (9 * n) mF] 94/\aF u lR [.int .i64 9] 3/\fJ≠lQ/\fJ≠lR/\ec≠fJ/\w.heap.size<=fJ/\9 * n<=mF/\
  ∀ i,i<n->bW u (q0 c2 i) (us ((a4.drop (2+9 * i)).take 9))/\∀ k,a7 (q0 c2 i) k->k≠fJ
 res:aF u ec [.int .i64 0,.slice none 0 0] ho
 new:ai w u
 old:w.heap.size<=ec
theorem aiZ (lines:Int) (aA:bW w a (us a4)) (aj:jM=a4.length) (ab:jM<=d9) (hu:∀ x ∈ a4,dp x) (aJ:jM<=1000) :
  Go.b8.W prog gW ((.slice a jM d9)::(.int .i64 lines)::(bQ 72 [])) (cw prog f251 (iv w (hv a4 lines) (.int .i64 (hf a4 lines))) (A8 λenv u=>Ga w a jM d9 a4 lines (a4.getD 1 0).toNat w.heap.size env u/\(98<=lines/\lines<=256)/\3+9 * (a4.getD 1 0).toNat<=a4.length/\0<=a4.getD 0 0/\a4.getD 0 0<1073741824/\0<=a4.getD 1 0/\a4.getD 1 0<=12)) w:=by
 rw [aCS];rintro b1 w1 bA br;obtain ⟨bm,a1⟩:=b4 bA br;have bm:aF w1 b1 o1.cells ho:=bm;clear br;subst bA;have no:∀ {u:av} {e:Int},ai w1 u->hf a4 lines=e->e≠0->ha u ⟨w.heap.size,0,none⟩ 0 o1.cells/\∀ aS,aS=dO u ⟨w.heap.size,0,none⟩ 0 o1.cells->c0.ex λres=>df aS ⟨w.heap.size,0,none⟩ 0 res.cells/\aS=aS/\iv w (hv a4 lines) (.int .i64 (hf a4 lines)) (.tuple #[res.val,.int .i64 e]) aS:=by intro u e dN he aN;refine A_ (ai.an dN bm) rfl o1 (K:=λres aS=>iv w (hv a4 lines) (.int .i64 (hf a4 lines)) (.tuple #[res.val,.int .i64 e]) aS) λc6 J _=>iv.no he aN ((a1.new dN).trans J λk aK e=>by omega)
 refine aR (aiY w1 lines) ?_;rintro v aS ⟨rfl,rfl⟩;refine ⟨_,rfl,ht (λaJ=>no (ay.refl _ _) (if_pos (of_decide_eq_false aJ)) (by decide)) (λaZ=>?_)⟩
 have au:=of_decide_eq_true aZ;rw [ax5,axf];refine mb (fn:=f251) (R:=iv w (hv a4 lines) (.int .i64 (hf a4 lines))) (λ_ _=>rfl) ?_;rw [ayQ];have uP:=a1;have SG:a4.length<2\/1073741824<=a4.getD 0 0\/12<a4.getD 1 0->hf a4 lines=14:=λh=>by unfold hf;rw [if_neg (λe=>e au),if_pos h]
 have bad:hf a4 lines=14->∀ (s8 afs:bx) (aT:aH),bk (λenv LH=>Go.b8.W prog (sub gW [1,1,0,1]) env (bk (λenv azA=>Go.b8.W prog (sub gW [1,1,1]) env (cw prog f251 (iv w (hv a4 lines) (.int .i64 (hf a4 lines))) (A8 λenv u=>Ga w a jM d9 a4 lines (a4.getD 1 0).toNat w.heap.size env u/\(98<=lines/\lines<=256)/\3+9 * (a4.getD 1 0).toNat<=a4.length/\0<=a4.getD 0 0/\a4.getD 0 0<1073741824/\0<=a4.getD 1 0/\a4.getD 1 0<=12)) azA) (cw prog f251 (iv w (hv a4 lines) (.int .i64 (hf a4 lines))) (A8 λenv u=>Ga w a jM d9 a4 lines (a4.getD 1 0).toNat w.heap.size env u/\(98<=lines/\lines<=256)/\3+9 * (a4.getD 1 0).toNat<=a4.length/\0<=a4.getD 0 0/\a4.getD 0 0<1073741824/\0<=a4.getD 1 0/\a4.getD 1 0<=12))) LH) (bk (λenv LH=>Go.b8.W prog (sub gW [1,1,1]) env (cw prog f251 (iv w (hv a4 lines) (.int .i64 (hf a4 lines))) (A8 λenv u=>Ga w a jM d9 a4 lines (a4.getD 1 0).toNat w.heap.size env u/\(98<=lines/\lines<=256)/\3+9 * (a4.getD 1 0).toNat<=a4.length/\0<=a4.getD 0 0/\a4.getD 0 0<1073741824/\0<=a4.getD 1 0/\a4.getD 1 0<=12)) LH) (cw prog f251 (iv w (hv a4 lines) (.int .i64 (hf a4 lines))) (A8 λenv u=>Ga w a jM d9 a4 lines (a4.getD 1 0).toNat w.heap.size env u/\(98<=lines/\lines<=256)/\3+9 * (a4.getD 1 0).toNat<=a4.length/\0<=a4.getD 0 0/\a4.getD 0 0<1073741824/\0<=a4.getD 1 0/\a4.getD 1 0<=12))) .normal (Lb a jM d9 lines ⟨w.heap.size,0,none⟩ s8 true afs aT) aS:=by intro he s8 afs aT;refine ia (mb (fn:=f251) (R:=iv w (hv a4 lines) (.int .i64 (hf a4 lines))) (λ_ _=>rfl) ?_);rw [aeB];exact g8 rfl (no (ay.refl _ _) he (by decide))
 refine bL (λal=>bad (SG (.inl (by omega))) _ _ _) (λal=>?_)
 have UP:=aA.new uP;refine xS UP (i:=0) (by omega) aj rfl λlP fZ q6=>⟨_,q6 _ (ay.refl _ _),bL (λaL=>bad (SG (.inr (.inl aL))) _ _ _) (λaL=>?_)⟩
 refine xS UP (i:=1) (by omega) aj rfl λfD kM eC=>⟨_,eC _ (ay.refl _ _),?_⟩
 by_cases ca:a4.getD 1 0>12
 ·dsimp only;rw [decide_eq_true ca];exact bad (SG (.inr (.inr ca))) _ _ _
 dsimp only;rw [decide_eq_false ca];refine ia (mb (fn:=f251) (R:=iv w (hv a4 lines) (.int .i64 (hf a4 lines))) (λ_ _=>rfl) ?_);rw [aeB];refine eX rfl (ia ?_);rw [t0];have UV:dp (a4.getD 0 0):=by
  match a4,al,hu,aj with
  | [],al,_,aj=>simp at aj <;> omega
  |x::_,_,hu,_=>exact hu x (by simp)
 have gx:dp (a4.getD 1 0):=by
  match a4,al,hu,aj with
  | [],al,_,aj=>simp at aj <;> omega
  | [_],al,_,aj=>simp at aj <;> omega
  | _::x::_,_,hu,_=>exact hu x (by simp)
 have lX:=UV.1;have yz:=gx.1;refine xS UP (i:=0) (by omega) aj rfl λlP fZ q6=>⟨_,q6 _ (ay.refl _ _),?_⟩
 dsimp only;rw [cn (x:=a4.getD 0 0) (by omega) (by omega)];rintro fJ aY me dY;obtain ⟨e4,bf⟩:=b4 me dY;have e4:aF aY fJ o1.cells ho:=e4;clear dY;refine gL (vs:=c0.cells ⟨a4.getD 0 0,none,0,0⟩) e4 rfl (c0.single _) λbZ dk dv=>?_
 have fI:=a1.size;have j2:=bf.size;have BG:=bm.lt;have jG:ai aS bZ:=bf.trans dv λk J e=>by omega
 have iP:=uP.new jG;refine xS (aA.new iP) (i:=1) (by omega) aj rfl λfD kM eC=>⟨_,eC _ (ay.refl _ _),?_⟩
 obtain ⟨n,rb⟩:=CU yz;have Un:(a4.getD 1 0).toNat=n:=by omega
 rw [Un];have apn:IntKind.i64.wrap (IntKind.i64.wrap (2+IntKind.i64.wrap (9 * IntKind.i64.wrap (a4.getD 1 0)))+1)=((3+9 * n:Nat):Int):=by rw [rb];rw [cn (x:=(n:Int)) (by omega) (by omega),cn (x:=9 * (n:Int)) (by omega) (by omega),cn (x:=2+9 * (n:Int)) (by omega) (by omega),cn (by omega) (by omega)];omega
 rw [apn];refine bL (λc9=>no jG ?_ (by decide)) (λc9=>?_)
 ·unfold hf;rw [if_neg (λe=>e au),if_neg (by omega),if_pos (by omega)]
 rw [cn (x:=((3+9 * n:Nat):Int) - 1) (by omega) (by omega)];have cj:us a4≠[]:=λe=>by have:=congrArg List.length e;rw [m9,CZ] at this;omega
 obtain ⟨b,o,rfl,jl⟩:∃ b o,a=some ⟨b,o,none⟩/\True:=by
  rcases aA with e | ⟨b,o,e,_⟩
  ·exact absurd e cj
  ·exact ⟨b,o,e,trivial⟩
 refine sB (by omega) (by omega) (by omega) (by omega) (by omega) λqc rl=>?_
 have apt:(((3+9 * n:Nat):Int) - 1).toNat - (2:Int).toNat=9 * n:=by omega
 have apq:((d9:Nat):Int).toNat - (2:Int).toNat=d9 - 2:=by simp
 rw [apt,apq];refine aR (amv bZ qc (9 * n) (d9 - 2)) ?_;rintro v cK ⟨rfl,su,hg,bH,nQ⟩;refine ⟨_,rfl,?_⟩;show _/\_;have pq:=jG.size;have at7:=ai.an bH dk;have mg:=aA.lt cj;refine ⟨⟨⟨fJ,bZ.heap.size,bZ.heap.size+1,d9 - 2,qc,_,rfl,at7,su,hg,?_,?_,?_,?_,by omega,λi aD=>?_⟩,ai.an (jG.new bH) bm,iP.new bH,eJ _⟩,au,by omega,lX,by omega,by omega,by omega⟩
 ·have:=dk.lt;omega
 ·have:=dk.lt;omega
 ·omega
 ·omega
 ·have Vb:qc=some ⟨b,o+2,none⟩:=by
   rcases rl with h | ⟨h,_⟩
   ·exact h
   ·omega
  have JU:q0 qc i=some ⟨b,o+(2+9 * i),none⟩:=by rw [Vb];simp only [q0,xM,tO];congr 2;omega
  rw [JU];refine ⟨?_,λk J=>?_⟩
  ·have e8:=(aA.new (iP.new bH)).drop (2+9 * i);have i':=e8.take 9;have e:((us a4).drop (2+9 * i)).take 9=us ((a4.drop (2+9 * i)).take 9):=by simp [us]
   rw [e] at i';exact i'
  ·obtain ⟨mq,re⟩:=J;simp at re;have mg:b<w.heap.size:=mg;omega
end
section
open Go.RowKit Go.Shelf
theorem an9 {ds:List Deferred} {e:Exit} {a:Act} (h:xJ ds (cw P fn R λ_ _ _=>False) e a w):xJ ds (ga P fn R) e a w:=by
 obtain ⟨ao,env,rfl,aM⟩:=wu h;cases e with
 |normal=>exact aM.elim
 |ret=>exact lS aM ao
 |panic c=>exact absurd rfl (ao.1 c)
 |outgrown=>exact absurd rfl ao.2
 |exit i=>exact aM.elim
 |goto i=>exact aM.elim
theorem Y1 (hu:∀ x ∈ a4,dp x) (n:Nat):∀ p ∈ mG a4 n,dp p.Head:=by
 intro p ar;obtain ⟨i,_,rfl⟩:=eQ.1 ar;show dp (((a4.drop (2+9 * i)).take 9).getD 1 0);rw [gd];cases h:((a4.drop (2+9 * i)).take 9)[1]? with
 |none=>exact mw
 |some x=>exact hu x (A5 (Im (dn h)))
theorem EC (a4:bR) (n:Nat):(mG a4 n).length=n:=by simp [mG]
theorem ai0 {w W:av} (aA:bW w a (us a4)) (aj:jM=a4.length) (ab:jM<=d9) (hu:∀ x ∈ a4,dp x) (aJ:jM<=1000) (a1:(a4.getD 1 0)=n) (ja:n<=12) (au:98<=lines/\lines<=256) (hlen:3+9 * n<=a4.length) (lX:0<=a4.getD 0 0) (yz:a4.getD 0 0<1073741824)
  {ec D:Nat} {pa:ax} (dk:aF W ec o1.cells ho) (me:aF W fJ [.int .i64 (a4.getD 0 0),.slice pa n cap] ho) (S1:ec≠fJ) (cV:bu W hs 9 pa n cap (nR (mG a4 n)).flatten) (oO:∀ k,a7 pa k->k≠ec/\w.heap.size<=k) (hw:ai w W) (ca:w.heap.size<=ec) (fs:w.heap.size<=D) (Bz:W.heap[D]?=some (.deferred (some []))) (aT:aH) :
  Go.b8.W prog (sub gW [1,1,1,1,1,1,1]) (Vt a jM d9 lines ⟨ec,0,none⟩ ⟨fJ,0,none⟩ ((3+9 * n:Nat):Int) aT) (cw prog f251 (λv u=>u.heap[D]?=some (.deferred (some []))/\iv w (hv a4 lines) (.int .i64 (hf a4 lines)) v (u.putObj D (.deferred none))) λ_ _ _=>False) W:=by
 have apR:D≠ec:=λe=>by rw [e,show W.heap[ec]?=_ from dk] at Bz;cases Bz
 have asC:∀ k,a7 pa k->k≠D:=by
  intro k J e;obtain ⟨o,aq⟩:=J;rcases cV.2 with ⟨he,_⟩ | ⟨g,cur,he,a',_⟩
  ·rw [he] at aq;cases aq
  ·rw [he] at aq;simp at aq;rw [<-e,<-aq.1,show W.heap[g]?=_ from a'] at Bz;cases Bz
 have aei:∀ {u:av},ay (λk=>k=ec) W u->u.heap[D]?=some (.deferred (some []))/\ay (λk=>k=ec\/k=D) W (u.putObj D (.deferred none))/\ai w (u.putObj D (.deferred none)):=by intro u J;have af:u.heap[D]?=some (.deferred (some [])):=(J.block D (L_.1 Bz).1 apR).trans Bz;have al:ay (λk=>k=ec\/k=D) W (u.putObj D (.deferred none)):=(ay.mono J (λ_ _ h=>Or.inl h)).trans (Hi (grownBy_putObj' u D (.deferred none))) (λk dQ e=>.inr (by simpa using e));exact ⟨af,al,hw.trans al λk dQ e=>by rcases e with e | e<;>omega⟩
 have cj:(a4.getD 1 0).toNat=n:=by omega
 have SH:hf a4 lines=if jD (a4.getD 0 0) (mG a4 n) lines≠0 then 14 else if je (a4.getD 0 0) (mG a4 n)≠a4.take (3+9 * n) then 14 else 0:=by unfold hf;rw [if_neg (λe=>e au),if_neg (by omega),if_neg (by omega),cj]
 have apm:hf a4 lines=0->hv a4 lines=(a4.getD 0 0,mG a4 n):=λh=>by unfold hv;rw [if_pos h,cj]
 rw [ro,axi];refine mb (fn:=f251) (R:=λv u=>u.heap[D]?=some (.deferred (some []))/\iv w (hv a4 lines) (.int .i64 (hf a4 lines)) v (u.putObj D (.deferred none))) (λ_ _=>rfl) ?_;rw [t6];rintro w1 br;have jH:ai W w1:=by rw [br];exact eh _
 clear br;have dH:jd w1 pa n (mG a4 n):=⟨(bW.new jH cV.rd),(EC a4 n).symm,by rw [EC];omega,Y1 hu n⟩;have e8:=ai.an jH me;have last:∀ (t:Bool) (u:av),ai W u->(t=true->hf a4 lines=14)->(t=false->hf a4 lines=0)->∀ aT,Go.b8.W prog (sub gW [1,1,1,1,1,1,1,0,1]) (PL ⟨ec,0,none⟩ ⟨fJ,0,none⟩ t aT)
   (bk (λenv LH=>Go.b8.W prog (sub gW [1,1,1,1,1,1,1,1]) env (cw prog f251 (λv u=>u.heap[D]?=some (.deferred (some []))/\iv w (hv a4 lines) (.int .i64 (hf a4 lines)) v (u.putObj D (.deferred none))) λ_ _ _=>False) LH) (cw prog f251 (λv u=>u.heap[D]?=some (.deferred (some []))/\iv w (hv a4 lines) (.int .i64 (hf a4 lines)) v (u.putObj D (.deferred none))) λ_ _ _=>False)) u:=by
  intro t u dN aZ aJ aT;refine mb (fn:=f251) (R:=λv u=>u.heap[D]?=some (.deferred (some []))/\iv w (hv a4 lines) (.int .i64 (hf a4 lines)) v (u.putObj D (.deferred none))) (λ_ _=>rfl) ?_;rw [t7];have aE:=ai.an dN dk;cases t with
  |true=>refine g8 rfl (A_ aE rfl o1 (K:=λres aS=>aS.heap[D]?=some (.deferred (some []))/\iv w (hv a4 lines) (.int .i64 (hf a4 lines)) (.tuple #[res.val,.int .i64 14]) (aS.putObj D (.deferred none))) λc6 J _=>?_);obtain ⟨bs,bI,dd⟩:=aei ((ay.db dN).trans J λ_ _ e=>e);exact ⟨bs,iv.no (aZ rfl) (by decide) dd⟩
  |false=>
   refine eX rfl (ia ?_);rw [t8];refine c0.bd ⟨a4.getD 0 0,pa,n,cap⟩ ⟨cD (ai.an dN me) rfl,?_⟩;refine A_ aE rfl ⟨a4.getD 0 0,pa,n,cap⟩ (K:=λres aS=>aS.heap[D]?=some (.deferred (some []))/\iv w (hv a4 lines) (.int .i64 (hf a4 lines)) (.tuple #[res.val,.int .i64 0]) (aS.putObj D (.deferred none))) λc6 J _=>?_
   obtain ⟨bs,bI,dd⟩:=aei ((ay.db dN).trans J λ_ _ e=>e);rw [apm (aJ rfl),aJ rfl];refine ⟨bs,pa,cap,by rw [EC],dd,?_⟩;rw [EC];exact ⟨⟨cV.rd.aO bI (mK cV.rd λk J e=>by rcases e with e | e;exact (oO k J).1 e;exact asC k J e),dH.len,dH.hH,dH.u64⟩,λk J=>(oO k J).2⟩
 refine ⟨λy=>ai w1 y,ay.refl _ _,c0.bd ⟨a4.getD 0 0,pa,n,cap⟩ ⟨λu hu=>cD (ai.an hu e8) rfl,?_⟩⟩;refine aR (QN (r:=⟨a4.getD 0 0,pa,n,cap⟩) dH lines) ?_;rintro v aS ⟨rfl,a5⟩;refine ⟨_,rfl,a5,fX (λhe=>?_) (λhe=>c0.bd ⟨a4.getD 0 0,pa,n,cap⟩ ⟨λu hu=>cD (ai.an hu e8) rfl,?_⟩)⟩
 ·exact ia (last true aS (jH.new a5) (λ_=>by rw [SH,if_pos he]) (λh=>by cases h) _)
 have aw:jD (a4.getD 0 0) (mG a4 n) lines=0:=he;obtain ⟨_,aX,gw,_⟩:=pM aw;have as2:=aA.new (hw.new (jH.new a5));obtain ⟨b,o,rfl⟩:∃ b o,a=some ⟨b,o,none⟩:=by
  rcases aA with e | ⟨b,o,e,_⟩
  ·have:=congrArg List.length e;rw [m9,CZ] at this;omega
  ·exact ⟨b,o,e⟩
 refine sB (by omega) (by omega) (by omega) (by omega) (by omega) λqc rl=>?_
 have Vb:qc=some ⟨b,o,none⟩:=by
  rcases rl with h | ⟨h,_⟩
  ·simpa using h
  ·omega
 subst Vb;refine aR (Rk (r:=⟨a4.getD 0 0,pa,n,cap⟩) (dH.new a5) (V2 aw) ⟨aX.1,aX.2.1⟩ (by rw [EC];omega) (λp ar=>by have:=gw p ar;omega)) ?_;rintro v aY ⟨oC,aDb,rfl,bf,v7,_⟩;rw [EC] at v7 ⊢;refine ⟨_,_,_,rfl,a5.new bf,?_⟩;have bY:((3+9 * n:Nat):Int).toNat - (0:Int).toNat=3+9 * n:=by omega
 have bg:((d9:Nat):Int).toNat - (0:Int).toNat=d9:=by simp
 rw [bY,bg];have ath:bW aY (some ⟨b,o,none⟩) (us (a4.take (3+9 * n))):=by have:=(as2.new bf).take (3+9 * n);rwa [show (us a4).take (3+9 * n)=us (a4.take (3+9 * n)) by simp [us]] at this
 refine aR (an8 v7.rd (by rw [Cm,EC]) ath (by rw [o2];omega) (by omega)) ?_;rintro v bZ ⟨rfl,bz⟩;refine ⟨_,rfl,(a5.new bf).new bz,ia (last _ bZ (((jH.new a5).new bf).new bz) (λh=>?_) (λh=>?_) _)⟩
 ·have h:¬ je (a4.getD 0 0) (mG a4 n)=a4.take (3+9 * n):=by simpa using h
  rw [SH,if_neg (λe=>e aw),if_pos h]
 ·have h:je (a4.getD 0 0) (mG a4 n)=a4.take (3+9 * n):=by simpa using h
  rw [SH,if_neg (λe=>e aw),if_neg (λe=>e h)]
theorem amx (lines:Int) (aA:bW w a (us a4)) (aj:jM=a4.length) (ab:jM<=d9) (hu:∀ x ∈ a4,dp x) (aJ:jM<=1000) :
  bK 251 [.slice a jM d9,.int .i64 lines] w (iv w (hv a4 lines) (.int .i64 (hf a4 lines))):=by
 refine (callsIn_wide (n:=3)).1 ?_;refine callsIn_of_wp_marks (c:=b6 f251) Tryz.func251 (by kernel_rfl) trivial ?_ rfl;suffices aX:∀ x:Act,x=act ((.slice a jM d9)::(.int .i64 lines)::(bQ 72 []))->Code.wpIn Fence.wide 3 prog (b6 f251) (bodyPostM Fence.wide 3 prog f251 λe w'=>∃ v,e=.returned v/\iv w (hv a4 lines) (.int .i64 (hf a4 lines)) v w') x w from aX _ (by kernel_rfl)
 rintro _ rfl;refine anK mix Xg (ds:=[]) [1,1,1,1,1,1,0,1,0] _ _ _ _ _ (by kernel_rfl) (aiZ lines aA aj ab hu aJ) ?_ (λe x u h=>akg (λv aw=>⟨v,rfl,aw⟩) (akh h));intro env u f';have f':Ga w a jM d9 a4 lines (a4.getD 1 0).toNat w.heap.size env u/\(98<=lines/\lines<=256)/\3+9 * (a4.getD 1 0).toNat<=a4.length/\0<=a4.getD 0 0/\a4.getD 0 0<1073741824/\0<=a4.getD 1 0/\a4.getD 1 0<=12:=f';obtain ⟨⟨⟨fJ,lQ,lR,mF,c2,aT,rfl,me,su,hg,yo,GG,S1,e8,vV,dw⟩,dk,hw,ca⟩,au,hlen,lX,yz,a1,ja⟩:=f';obtain ⟨n,rb⟩:=CU a1;have cj:(a4.getD 1 0).toNat=n:=by omega
 rw [cj] at su vV hlen dw;rw [show sub (b6 f251) [1,1,1,1,1,1,0,1,0]=.rangeFunc (.tmp 50) #[51] (sub (b6 f251) [1,1,1,1,1,1,0,1,0,0]) (.block 1 (sub (b6 f251) [1,1,1,1,1,1,0,1,0,1,0])) by kernel_rfl];have aqx:∀ qX,FH Fence.wide 3 prog (b6 f251) [1,1,1,1,1,1,0,1,0] qX=Exit.inBlock 0 (Exit.then (λa w=>(sub (b6 f251) [1,1,1,1,1,1,1]).wpIn Fence.wide 3 prog qX a w) qX):=λqX=>by kernel_rfl
 rw [aqx,cj];refine aiH u w.heap.size fJ lQ lR (a4.getD 0 0) ((3+9 * n:Nat):Int) lines a4 n jM d9 mF a c2 aT (by omega) me su hg yo GG vV dw (by omega) hu _ ?_;intro D W ys fs Hd f_ Bz;rw [Hd] at f_;obtain ⟨⟨pa,cap,jI,ac7,iQ⟩,GV⟩:=f_;rw [ui] at jI ac7;have at5:=GV.an dk (λe=>S1 e);have atO:ai w W:=hw.trans GV λk J e=>by omega
 have atB:=hw.size;have sf:=ai0 (lines:=lines) aA aj ab hu aJ rb (by omega) au hlen lX yz at5 jI S1 ac7 (λk J=>by have:=iQ k J;have:=dk.lt;omega) atO ca (by omega) Bz;show Code.wpIn Fence.wide 3 prog (sub (b6 f251) [1,1,1,1,1,1,1]) (bodyPostM Fence.wide 3 prog f251 λe w'=>∃ v,e=.returned v/\iv w (hv a4 lines) (.int .i64 (hf a4 lines)) v w') (vA [{ target:=.collected D,args:=#[] }] (A9 a jM d9 lines w.heap.size fJ ((3+9 * n:Nat):Int) undef lQ lR undef aT)) W;refine wpIn_mono (x3 mix Xg (ds:=[{ target:=.collected D,args:=#[] }]) _ _ _ W (by kernel_rfl) ?_) (λe x u h=>amt (R:=λv u=>u.heap[D]?=some (.deferred (some []))/\iv w (hv a4 lines) (.int .i64 (hf a4 lines)) v (u.putObj D (.deferred none))) (λv aw=>⟨aw.1,v,rfl,aw.2⟩) (an9 h));rw [show sub (b6 f251) [1,1,1,1,1,1,1]=sub gW [1,1,1,1,1,1,1] by kernel_rfl];rw [A9,axh];exact sf _
end
end Go.Proofs.YtmkljjbioomepaaGreat
