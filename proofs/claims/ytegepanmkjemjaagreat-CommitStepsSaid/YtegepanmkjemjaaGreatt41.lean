import Derived.Test.YtegepanmkjemjaaGreatt40
import Derived.Test.YtegepanmkjemjaaGreatt33
import Derived.Test.YtegepanmkjemjaaGreatt02
import Derived.Test.YtegepanmkjemjaaGreatRows
import Derived.WalkKit
import Derived.ProofKit
import Derived.OpenShut
import Derived.Deep.Slices
set_option linter.unusedVariables false
namespace Go.Proofs.YtegepanmkjemjaaGreat
open Go.Proofs.Tryz
open Go.Eng C12
theorem EO {A:Nat→Prop} {χ:Nat→Tag} {w2 z:World} {fb b1:Nat} {X:FabX} (hF:aZ A χ w2 fb X) (hn:New w2 z) (hb:w2.heap.size≤b1∧b1<z.heap.size) (hf:Fine X.pure) {r:TR} {t:Tk conv} (ht:gz (λk=>A k∨k=b1) z r t) (hsh:vT t)
  {pa:Option Addr} (hpa:Rd z pa r.cells) {sch:List Int} {sa:Option Addr} {sc:Nat} (hsd:Dat (λk=>A k∨k=b1) z sa (is sch)) (hsi:∀ x ∈ sch,I64 x) {c:Nat} {job:aM} {W:List aD} (hjd:Dat (λk=>A k∨k=b1) z job.Writes (dF W).flatten) (hJ:Gy c job W) {die:Int} {most:Nat} (hm:most≤1000000)
  {K:Fab×Tk conv→Prop} (hgo:mZ (OrdQ c job.Lines W) sch die K most 0 X.pure t) {n:Nat} (hsl:n=sch.length) :
  Does 28 [ptr fb,.slice pa 1 1,job.val,.slice sa n sc,.int .i64 die,.int .i64 most] z λv u=>∃ E la lc r' B ξ X',K E∧v=.tuple #[.slice la 1 lc,.bool true]∧TW A χ w2 fb (λk=>k=b1) u B ξ X'∧X'.pure=E.1∧gz (λk=>B k∨k=b1) u r' E.2∧Rd u la r'.cells∧u.heap[b1]?=z.heap[b1]?:=by
 subst hsl
 have hT:TW A χ w2 fb (λk=>k=b1) z A χ X:=TW.start hF hn λk hk=>by subst hk;exact hb
 have hw:=Gz hT.fab hf ht hsh (pc:=1) hpa (sc:=sc) hsd hsi hjd hJ hm hgo
 refine aG hw ?_
 rintro v u ⟨E,hK,hp⟩
 obtain ⟨B',ξ',X',h3,hX3,hK3,hk3,hM3,hL3⟩:=hT.op hp
 obtain ⟨la,lc,r',rfl,how,hnB,htx'⟩:=hK3
 exact ⟨_,rfl,E,la,lc,r',B',ξ',X',hK,rfl,h3,hX3,htx',how.rd,hL3 b1 rfl⟩
structure StAt (w w2 u:World) (n fb p b1 c:Nat) (rt:TR) (E:Fab×Tk conv) (la:Option Addr) (r':TR):Prop where
 fab:∃ A χ X,aZ A χ u fb X∧X.pure=E.1
 new:New w u
 fin:EndW c EndS E
 box:∃ rv,Blk u p (fofC fb 100 rv) TFo
 talk:Blk u b1 rt.cells 49
 rd:Rd u la r'.cells
 over:r'.Over=E.2.over
 code:r'.Code=E.2.out.1
theorem StAt.noop {w w2 u u':World} {n fb p b1 c:Nat} {rt:TR} {E:Fab×Tk conv} {la:Option Addr} {r':TR} (h:StAt w w2 u n fb p b1 c rt E la r') (hn:New u u'):StAt w w2 u' n fb p b1 c rt E la r':=by
 obtain ⟨⟨A,χ,X,h1,h2⟩,h3,h4,⟨rv,h5⟩,h6,h7,h8,h9⟩:=h
 exact ⟨⟨A,χ,X,h1.new hn,h2⟩,h3.new hn,h4,⟨rv,New.blk hn h5⟩,New.blk hn h6,h7.new hn,h8,h9⟩
theorem wE {w w2 u:World} {n fb p b1 c:Nat} {rt:TR} {E:Fab×Tk conv} {la:Option Addr} {r':TR} (h:StAt w w2 u n fb p b1 c rt E la r') (hrc:rt.Client=(c:Int)) {R:Value→World→Prop} (hR:∀ z,New u z→R (.bool true) z) :
  ∀ w13,w13=u.drew→∃ Sx1:World→Prop,Sx1 w13∧(bif true then (nilP (some ⟨p,0,none⟩) λa1=>∃ f1,(∀ u,Sx1 u→u.cell? a1=some (.pointer f1))∧∃ (Client:Int),(∀ u,Sx1 u→u.cell? ⟨b1,1,none⟩=some (.int .i64 Client))∧Calls prog 29 #[(.pointer f1),(.int .i64 Client)] w13 λe w14=>∃ rAlive,e=.returned (.bool rAlive)∧Sx1 w14∧(bif (!rAlive) then (R (.bool true) w14) else (idxS la 1 0 25 λad=>∃ Over,(∀ u,Sx1 u→u.cell? ⟨ad.block,ad.off+16,none⟩=some (.bool Over))∧(bif Over then (idxS la 1 0 25 λad1=>∃ (Code:Int),(∀ u,Sx1 u→u.cell? ⟨ad1.block,ad1.off+18,none⟩=some (.int .i64 Code))∧R (.bool (Code == 0)) w14) else (R (.bool false) w14))))) else (R (.bool false) w13)):=by
 rintro w13 hw13
 have hn13:New u w13:=by rw [hw13];exact aW _
 have h':=h.noop hn13
 obtain ⟨⟨A,χ,X,h1,h2⟩,h3,h4,⟨rv,h5⟩,h6,h7,h8,h9⟩:=h'
 refine ⟨λy=>New w13 y,Keep.refl _ _,ig rfl ⟨some ⟨fb,0,none⟩,λv hv=>(New.blk hv h5).cell (i:=0) rfl,rt.Client,λv hv=>(New.blk hv h6).cell (i:=1) rfl,?_⟩⟩
 refine aG (zb h1 _) ?_
 rintro v w14 ⟨rfl,hw14⟩
 obtain rfl:w13=w14:=hw14.symm
 refine ⟨_,rfl,Keep.refl _ _,dV (λ_=>hR _ hn13) (λha=>?_)⟩
 rw [h2,hrc] at ha
 have he:EndS E:=h4.resolve_left (by rw [ha];simp)
 have hrows:Rd w13 la (([r']:List TR).map λx=>x.cells).flatten:=by simpa using h7
 refine iI (cells:=λx:TR=>x.cells) (λx=>aC.len x) (by omega) hrows (i:=0) rfl rfl rfl λb o hc=>⟨true,λv hv=>by have:=hc v hv 16 (.bool r'.Over) rfl;rw [this,h8,he.1],ig rfl ?_⟩
 refine iI (cells:=λx:TR=>x.cells) (λx=>aC.len x) (by omega) hrows (i:=0) rfl rfl rfl λb o hc=>⟨0,λv hv=>by have:=hc v hv 18 (.int .i64 r'.Code) rfl;rw [this,h9,he.2],hR _ hn13⟩
def stR (c:Nat) (rv:aQ) (wa:Option Addr) (wl wc:Nat):TR:=Gf c 3 100 rv none 0 0 wa wl wc
def stJ (c:Nat) (rv:aQ) (wa:Option Addr) (wl wc:Nat):aM:=⟨c,3,100,rv,none,0,0,wa,wl,wc⟩
theorem GF (n c y:Nat):(stW n c y).length=(dI y).length:=by simp [stW,cws]
theorem GH {n c y:Nat} {q:aD} (h:q ∈ stW n c y):96≤q.Line∧q.Line<100:=by
 unfold stW cws at h
 obtain ⟨l,hl,rfl⟩:=List.mem_map.1 h
 have:=wu hl
 show 96≤((l:Nat):Int)∧((l:Nat):Int)<100
 omega
theorem zH {w w2:World} {A:Nat→Prop} {χ:Nat→Tag} {n c y fb p:Nat} {X0:FabX} {rv:aQ} (hm:Made w w2 n 100 fb p A χ X0 rv) (hn4:1≤n∧n≤4) (hc:c<6) (hy:y<14) (hrun:zG)
  {z:World} (hz:New w2 z) {b1 b2:Nat} {wa:Option Addr} {wc:Nat} (hb1:Blk z b1 (stR c rv wa (dI y).length wc).cells 49) (hb1lo:w2.heap.size≤b1) (how:Owns z TPg 9 wa (dI y).length wc (dF (stW n c y)).flatten) (hwa:∀ k,isB wa k→w2.heap.size≤k∧k≠b1) (hWu:∀ q ∈ stW n c y,PgU q)
  (hpa:Rd z (some ⟨b2,0,none⟩) (stR c rv wa (dI y).length wc).cells) {sch:List Int} {sa:Option Addr} {sc:Nat} (hs:Rd w sa (is sch)) (hi:∀ x ∈ sch,I64 x) (die:Int) :
  Does 28 [ptr fb,.slice (some ⟨b2,0,none⟩) 1 1,(stJ c rv wa (dI y).length wc).val,.slice sa sch.length sc,.int .i64 die,.int .i64 2000] z λv u=>∃ la lc r' E,v=.tuple #[.slice la 1 lc,.bool true]∧StAt w w2 u n fb p b1 c (stR c rv wa (dI y).length wc) E la r':=by
 have hf0:Fine (Fab.fresh n 6 100):=Fine.fresh (by omega) (by omega) (by omega)
 have hl0:=GF n c y
 obtain ⟨hl1,hl3⟩:=ww y hy
 have hb1A:=hb1.lt
 have hoff:(dF (stW n c y)).flatten=[]∨Off (λk=>A k∨k=b1) wa:=tM how.rd λj hj h=>by
  have h4:=hwa j hj
  rcases h with h | h
  ·have:=hm.fab.low j h;omega
  ·omega
 have htk:gz (λk=>A k∨k=b1) z (stR c rv wa (dI y).length wc) (stT n c y):=by
  refine yA (gU.new (hm.view.mono λj hj h=>?_) hz) (.inl rfl) rfl (by simp) (.inl rfl) how.rd hl0.symm (by omega) hoff hWu
  rcases h with h | h
  ·exact h
  ·omega
 have hJ:Gy c (stJ c rv wa (dI y).length wc) (stW n c y):=⟨hl0.symm,rfl,hc,rfl,by omega,λq hq=>GH hq⟩
 have hgo:=IV hn4 hc (hrun n c y hn4 hc hy) sch die
 rw [←hm.pure] at hgo hf0
 have hcall:=EO hm.fab hz ⟨hb1lo,hb1A⟩ hf0 htk (vu _ _ _ _ _ _) hpa (Gk (A:=λk=>A k∨k=b1) hs (hm.new.new hz) λj hj=>hj.elim (hm.own j) λh=>by have:=hm.new.size;omega) hi (sc:=sc) (job:=stJ c rv wa (dI y).length wc) ⟨how.rd,hoff⟩ hJ (die:=die) (most:=2000) (by omega) (K:=EndW c EndS) hgo rfl
 refine aG hcall ?_
 rintro v u ⟨E,la,lc,r',B,ξ,X',hK,rfl,hT,hX',htx,hrd,hblk⟩
 have hkA:Keep A w2 u:=hT.next.keep.mono λk _ hc=>hm.fab.avoid k hc
 exact ⟨_,rfl,la,lc,r',E,rfl,⟨_,_,_,hT.fab,hX'⟩,hT.mine hm.fab hm.new hm.own,hK,⟨rv,hkA.blk hm.box hm.out⟩,hblk.trans hb1,hrd,htx.over,htx.out.1⟩
set_option maxRecDepth 20000 in
set_option maxHeartbeats 4000000 in
theorem v5 (hrun:zG) (w:World) {x0 x1 x2 x4:Int} {p3:Option Addr} {c3:Nat} {sch:List Int} (h0:I64 x0) (h1:I64 x1) (h2:I64 x2) (h4:I64 x4) (hs:Rd w p3 (is sch)) (hi:∀ x ∈ sch,I64 x) :
  Does 8 [.int .i64 x0,.int .i64 x1,.int .i64 x2,.slice p3 sch.length c3,.int .i64 x4] w λv u=>v=.bool true∧New w u:=by
 refine does Tryz.func8 ?_
 rw [mQ]
 refine aI (λh=>⟨rfl,Keep.refl _ _⟩) (λ_=>?_)
 refine aG (nT _ _ _ h0 (by omega)) ?_
 rintro v u1 ⟨rfl,hu1⟩
 obtain rfl:w=u1:=hu1.symm
 rw [if_neg (by omega)]
 refine ⟨_,rfl,?_⟩
 obtain ⟨n,hn,hn4⟩:∃ n:Nat,x0 % 4+1=n∧1≤n∧n≤4:=⟨(x0 % 4+1).toNat,by omega,by omega⟩
 rw [w64 (x:=x0 % 4+1) (by omega) (by omega),hn]
 refine aG (F7 (n:=n) (by omega) (x:=2) ⟨by omega,by omega⟩) ?_
 rintro v w2 ⟨fb,p,A,χ,X,rv,rfl,hm⟩
 have hm:Made _ w2 n 100 fb p A χ X rv:=hm
 refine ⟨_,_,rfl,eC rfl ?_⟩
 refine aG (Gh _) ?_
 rintro v w3 ⟨rfl,hn3'⟩
 refine ⟨_,rfl,eC rfl ?_⟩
 refine aG (nT _ _ _ h1 (by omega)) ?_
 rintro v u3 ⟨rfl,hu3⟩
 obtain rfl:w3=u3:=hu3.symm
 rw [if_neg (by omega)]
 refine ⟨_,rfl,?_⟩
 obtain ⟨c,hc,hc6⟩:∃ c:Nat,x1 % 6=c∧c<6:=⟨(x1 % 6).toNat,by omega,by omega⟩
 rw [hc]
 obtain ⟨y,hy,hy14⟩:∃ y:Nat,(x2 % 14).toNat=y∧y<14:=⟨_,rfl,by omega⟩
 refine aG (Em h2) ?_
 rw [hy]
 rintro v w4 ⟨ca,cc,rfl,hrc,hn4'⟩
 refine ⟨_,_,_,rfl,?_⟩
 have hf0:Fine (Fab.fresh n 6 100):=Fine.fresh (by omega) (by omega) (by omega)
 obtain ⟨x,hx,hxm⟩:=Hu hm.pure (i:=0) (by simp [Fab.fresh];omega)
 have hlong:x.n.words.length=800:=E7 hm.pure hf0 hx
 have hup:x.n.down=false:=by rw [←hxm,Bm (by omega)]
 have hu:∀ i,U64 (x.n.get i):=λi=>(hm.fab.node 0 x hx).node.wf_get i
 obtain ⟨hl1,hl3⟩:=ww y hy14
 have hn24:=hn3'.new hn4'
 have hcnt:=Bk (hm.fab.new hn24) (New.blk hn24 hm.box) hx hup (L:=dI y) (λl hl=>by have:=wu hl;omega) (by omega) hrc (cc:=cc) c 3
 refine aG hcnt ?_
 rintro v w5 ⟨wa,wc,rfl,hn5,hown,hfr⟩
 refine aC.mk_ex (Ak c 3 100 rv wa (dI y).length wc) ⟨true,rfl,?_⟩
 refine ii (vs:=(stR c rv wa (dI y).length wc).cells) rfl (aC.single _) λb1 w6 hb1 hz6 hn6=>?_
 refine eC rfl ?_
 have hW:cws c x.n (dI y)=stW n c y:=by unfold stW;rw [hxm]
 have hWu:∀ q ∈ stW n c y,PgU q:=by rw [←hW];exact IQ hu c _
 rw [hW] at hown
 have hsz4:=hn24.size
 have hsz5:=hn5.size
 have hb1lt:=hz6.lt
 have hb1lo:w2.heap.size≤b1:=by omega
 have hwa:∀ k,isB wa k→w2.heap.size≤k∧k≠b1:=λk hk=>⟨by have:=hfr k hk;omega,λe=>by have:=hown.lt hk;omega⟩
 rintro w7 hw7
 have hn7:New w6 w7:=by rw [hw7];exact aW _
 clear hw7
 have hn27:New w2 w7:=((hn24.new hn5).new hn6).new hn7
 have hsx:∀ {z:World},New w7 z→Blk z p (fofC fb 100 rv) TFo∧Blk z b1 (stR c rv wa (dI y).length wc).cells 49:=λ{z} hz=>⟨New.blk (hn27.new hz) hm.box,New.blk (hn7.new hz) hz6⟩
 have hgo:∀ {z:World} {b2:Nat} (die:Int),New w7 z→Rd z (some ⟨b2,0,none⟩) (stR c rv wa (dI y).length wc).cells→_:=λ{z b2} die hz hpa=>zH hm hn4 hc6 hy14 hrun (hn27.new hz) (hsx hz).2 hb1lo (hown.new ((hn6.new hn7).new hz)) hwa hWu hpa (sc:=c3) hs hi die
 obtain ⟨d,hd,hd90⟩:∃ q:Int,x4 % 90=q∧0≤q∧q<90:=⟨_,rfl,by omega⟩
 refine ⟨λz=>(∃ rv',Blk z p (fofC fb 100 rv') TFo)∧Blk z b1 (stR c rv wa (dI y).length wc).cells 49,⟨⟨rv,(hsx (Keep.refl _ _)).1⟩,(hsx (Keep.refl _ _)).2⟩,some ⟨fb,0,none⟩,λu hu=>by obtain ⟨⟨rv',h5⟩,_⟩:=hu;exact h5.cell (i:=0) rfl,aC.mk_ex (stR c rv wa (dI y).length wc) ⟨λu hu=>aK hu.2 rfl,aM.mk_ex (stJ c rv wa (dI y).length wc) ⟨λu hu=>aK (o:=8) hu.2 rfl,?_,?_⟩⟩⟩
 ·rintro b2 w8 hb2 hw8
  obtain ⟨hz8,hn8⟩:=aO hb2 hw8
  have hz8:Blk w8 b2 (stR c rv wa (dI y).length wc).cells 49:=hz8
  clear hw8
  refine ⟨⟨⟨rv,(hsx hn8).1⟩,(hsx hn8).2⟩,?_⟩
  refine aG (nT _ _ _ h4 (by omega)) ?_
  rintro v u8 ⟨rfl,hu8⟩
  obtain rfl:w8=u8:=hu8.symm
  rw [if_neg (by omega),hd]
  refine ⟨_,rfl,⟨⟨rv,(hsx hn8).1⟩,(hsx hn8).2⟩,?_⟩
  refine aG (hgo _ hn8 (fP hz8 (by rfl))) ?_
  rintro v u ⟨la,lc,r',E,rfl,hst⟩
  exact ⟨_,_,_,_,rfl,⟨hst.box,hst.talk⟩,wE hst rfl (R:=λv z=>v=.bool true∧New w z) λz hz=>⟨rfl,hst.new.new hz⟩⟩
 ·refine aG (nT _ _ _ h4 (by omega)) ?_
  rintro v u8 ⟨rfl,hu8⟩
  obtain rfl:w7=u8:=hu8.symm
  rw [if_neg (by omega),hd]
  refine ⟨_,rfl,⟨⟨rv,(hsx (Keep.refl _ _)).1⟩,(hsx (Keep.refl _ _)).2⟩,?_⟩
  rintro b2 w8 hb2 hw8
  obtain ⟨hz8,hn8⟩:=aO hb2 hw8
  have hz8:Blk w8 b2 (stR c rv wa (dI y).length wc).cells 49:=hz8
  clear hw8
  refine ⟨⟨⟨rv,(hsx hn8).1⟩,(hsx hn8).2⟩,?_⟩
  refine aG (hgo _ hn8 (fP hz8 (by rfl))) ?_
  rintro v u ⟨la,lc,r',E,rfl,hst⟩
  exact ⟨_,_,_,_,rfl,⟨hst.box,hst.talk⟩,wE hst rfl (R:=λv z=>v=.bool true∧New w z) λz hz=>⟨rfl,hst.new.new hz⟩⟩
end Go.Proofs.YtegepanmkjemjaaGreat
namespace Go.Proofs.YtegepanmkjemjaaGreat
open Go.Eng C12
set_option maxRecDepth 100000 in
theorem HI:((List.range 7).all λq=>stA 1 0 (0+q))=true:=by kernel_rfl
set_option maxRecDepth 100000 in
theorem HJ:((List.range 7).all λq=>stA 1 0 (7+q))=true:=by kernel_rfl
theorem sp10 {y:Nat} (hy:y<14):stA 1 0 y=true:=gO HI HJ hy
set_option maxRecDepth 100000 in
theorem HK:((List.range 7).all λq=>stA 1 1 (0+q))=true:=by kernel_rfl
set_option maxRecDepth 100000 in
theorem HL:((List.range 7).all λq=>stA 1 1 (7+q))=true:=by kernel_rfl
theorem sp11 {y:Nat} (hy:y<14):stA 1 1 y=true:=gO HK HL hy
end Go.Proofs.YtegepanmkjemjaaGreat
namespace Go.Proofs.YtegepanmkjemjaaGreat
open Go.Eng C12
set_option maxRecDepth 100000 in
theorem HM:((List.range 7).all λq=>stA 1 2 (0+q))=true:=by kernel_rfl
set_option maxRecDepth 100000 in
theorem HN:((List.range 7).all λq=>stA 1 2 (7+q))=true:=by kernel_rfl
theorem sp12 {y:Nat} (hy:y<14):stA 1 2 y=true:=gO HM HN hy
set_option maxRecDepth 100000 in
theorem HO:((List.range 7).all λq=>stA 1 3 (0+q))=true:=by kernel_rfl
set_option maxRecDepth 100000 in
theorem HP:((List.range 7).all λq=>stA 1 3 (7+q))=true:=by kernel_rfl
theorem sp13 {y:Nat} (hy:y<14):stA 1 3 y=true:=gO HO HP hy
end Go.Proofs.YtegepanmkjemjaaGreat
namespace Go.Proofs.YtegepanmkjemjaaGreat
open Go.Eng C12
set_option maxRecDepth 100000 in
theorem HQ:((List.range 7).all λq=>stA 1 4 (0+q))=true:=by kernel_rfl
set_option maxRecDepth 100000 in
theorem HR:((List.range 7).all λq=>stA 1 4 (7+q))=true:=by kernel_rfl
theorem sp14 {y:Nat} (hy:y<14):stA 1 4 y=true:=gO HQ HR hy
set_option maxRecDepth 100000 in
theorem HS:((List.range 7).all λq=>stA 1 5 (0+q))=true:=by kernel_rfl
set_option maxRecDepth 100000 in
theorem HT:((List.range 7).all λq=>stA 1 5 (7+q))=true:=by kernel_rfl
theorem sp15 {y:Nat} (hy:y<14):stA 1 5 y=true:=gO HS HT hy
end Go.Proofs.YtegepanmkjemjaaGreat
namespace Go.Proofs.YtegepanmkjemjaaGreat
open Go.Eng C12
set_option maxRecDepth 100000 in
theorem HU:((List.range 7).all λq=>stA 2 0 (0+q))=true:=by kernel_rfl
set_option maxRecDepth 100000 in
theorem HV:((List.range 7).all λq=>stA 2 0 (7+q))=true:=by kernel_rfl
theorem sp20 {y:Nat} (hy:y<14):stA 2 0 y=true:=gO HU HV hy
set_option maxRecDepth 100000 in
theorem HW:((List.range 7).all λq=>stA 2 1 (0+q))=true:=by kernel_rfl
set_option maxRecDepth 100000 in
theorem HX:((List.range 7).all λq=>stA 2 1 (7+q))=true:=by kernel_rfl
theorem sp21 {y:Nat} (hy:y<14):stA 2 1 y=true:=gO HW HX hy
end Go.Proofs.YtegepanmkjemjaaGreat
namespace Go.Proofs.YtegepanmkjemjaaGreat
open Go.Eng C12
set_option maxRecDepth 100000 in
theorem HY:((List.range 7).all λq=>stA 2 2 (0+q))=true:=by kernel_rfl
set_option maxRecDepth 100000 in
theorem HZ:((List.range 7).all λq=>stA 2 2 (7+q))=true:=by kernel_rfl
theorem sp22 {y:Nat} (hy:y<14):stA 2 2 y=true:=gO HY HZ hy
set_option maxRecDepth 100000 in
theorem H0:((List.range 7).all λq=>stA 2 3 (0+q))=true:=by kernel_rfl
set_option maxRecDepth 100000 in
theorem H1:((List.range 7).all λq=>stA 2 3 (7+q))=true:=by kernel_rfl
theorem sp23 {y:Nat} (hy:y<14):stA 2 3 y=true:=gO H0 H1 hy
end Go.Proofs.YtegepanmkjemjaaGreat
namespace Go.Proofs.YtegepanmkjemjaaGreat
open Go.Eng C12
set_option maxRecDepth 100000 in
theorem H2:((List.range 7).all λq=>stA 2 4 (0+q))=true:=by kernel_rfl
set_option maxRecDepth 100000 in
theorem H3:((List.range 7).all λq=>stA 2 4 (7+q))=true:=by kernel_rfl
theorem sp24 {y:Nat} (hy:y<14):stA 2 4 y=true:=gO H2 H3 hy
set_option maxRecDepth 100000 in
theorem H4:((List.range 7).all λq=>stA 2 5 (0+q))=true:=by kernel_rfl
set_option maxRecDepth 100000 in
theorem H5:((List.range 7).all λq=>stA 2 5 (7+q))=true:=by kernel_rfl
theorem sp25 {y:Nat} (hy:y<14):stA 2 5 y=true:=gO H4 H5 hy
end Go.Proofs.YtegepanmkjemjaaGreat
namespace Go.Proofs.YtegepanmkjemjaaGreat
open Go.Eng C12
set_option maxRecDepth 100000 in
theorem H6:((List.range 7).all λq=>stA 3 0 (0+q))=true:=by kernel_rfl
set_option maxRecDepth 100000 in
theorem H7:((List.range 7).all λq=>stA 3 0 (7+q))=true:=by kernel_rfl
theorem sp30 {y:Nat} (hy:y<14):stA 3 0 y=true:=gO H6 H7 hy
set_option maxRecDepth 100000 in
theorem H8:((List.range 7).all λq=>stA 3 1 (0+q))=true:=by kernel_rfl
set_option maxRecDepth 100000 in
theorem H9:((List.range 7).all λq=>stA 3 1 (7+q))=true:=by kernel_rfl
theorem sp31 {y:Nat} (hy:y<14):stA 3 1 y=true:=gO H8 H9 hy
end Go.Proofs.YtegepanmkjemjaaGreat
namespace Go.Proofs.YtegepanmkjemjaaGreat
open Go.Eng C12
set_option maxRecDepth 100000 in
theorem Ia:((List.range 7).all λq=>stA 3 2 (0+q))=true:=by kernel_rfl
set_option maxRecDepth 100000 in
theorem Ib:((List.range 7).all λq=>stA 3 2 (7+q))=true:=by kernel_rfl
theorem sp32 {y:Nat} (hy:y<14):stA 3 2 y=true:=gO Ia Ib hy
set_option maxRecDepth 100000 in
theorem Ic:((List.range 7).all λq=>stA 3 3 (0+q))=true:=by kernel_rfl
set_option maxRecDepth 100000 in
theorem Ie:((List.range 7).all λq=>stA 3 3 (7+q))=true:=by kernel_rfl
theorem sp33 {y:Nat} (hy:y<14):stA 3 3 y=true:=gO Ic Ie hy
end Go.Proofs.YtegepanmkjemjaaGreat
namespace Go.Proofs.YtegepanmkjemjaaGreat
open Go.Eng C12
set_option maxRecDepth 100000 in
theorem If:((List.range 7).all λq=>stA 3 4 (0+q))=true:=by kernel_rfl
set_option maxRecDepth 100000 in
theorem Ig:((List.range 7).all λq=>stA 3 4 (7+q))=true:=by kernel_rfl
theorem sp34 {y:Nat} (hy:y<14):stA 3 4 y=true:=gO If Ig hy
set_option maxRecDepth 100000 in
theorem Ih:((List.range 7).all λq=>stA 3 5 (0+q))=true:=by kernel_rfl
set_option maxRecDepth 100000 in
theorem Ii:((List.range 7).all λq=>stA 3 5 (7+q))=true:=by kernel_rfl
theorem sp35 {y:Nat} (hy:y<14):stA 3 5 y=true:=gO Ih Ii hy
end Go.Proofs.YtegepanmkjemjaaGreat
namespace Go.Proofs.YtegepanmkjemjaaGreat
open Go.Eng C12
set_option maxRecDepth 100000 in
theorem Ij:((List.range 7).all λq=>stA 4 0 (0+q))=true:=by kernel_rfl
set_option maxRecDepth 100000 in
theorem Ik:((List.range 7).all λq=>stA 4 0 (7+q))=true:=by kernel_rfl
theorem sp40 {y:Nat} (hy:y<14):stA 4 0 y=true:=gO Ij Ik hy
set_option maxRecDepth 100000 in
theorem Il:((List.range 7).all λq=>stA 4 1 (0+q))=true:=by kernel_rfl
set_option maxRecDepth 100000 in
theorem Im:((List.range 7).all λq=>stA 4 1 (7+q))=true:=by kernel_rfl
theorem sp41 {y:Nat} (hy:y<14):stA 4 1 y=true:=gO Il Im hy
end Go.Proofs.YtegepanmkjemjaaGreat
namespace Go.Proofs.YtegepanmkjemjaaGreat
open Go.Eng C12
set_option maxRecDepth 100000 in
theorem In:((List.range 7).all λq=>stA 4 2 (0+q))=true:=by kernel_rfl
set_option maxRecDepth 100000 in
theorem Io:((List.range 7).all λq=>stA 4 2 (7+q))=true:=by kernel_rfl
theorem sp42 {y:Nat} (hy:y<14):stA 4 2 y=true:=gO In Io hy
set_option maxRecDepth 100000 in
theorem Ip:((List.range 7).all λq=>stA 4 3 (0+q))=true:=by kernel_rfl
set_option maxRecDepth 100000 in
theorem Iq:((List.range 7).all λq=>stA 4 3 (7+q))=true:=by kernel_rfl
theorem sp43 {y:Nat} (hy:y<14):stA 4 3 y=true:=gO Ip Iq hy
end Go.Proofs.YtegepanmkjemjaaGreat
namespace Go.Proofs.YtegepanmkjemjaaGreat
open Go.Eng C12
set_option maxRecDepth 100000 in
theorem Ir:((List.range 7).all λq=>stA 4 4 (0+q))=true:=by kernel_rfl
set_option maxRecDepth 100000 in
theorem Is:((List.range 7).all λq=>stA 4 4 (7+q))=true:=by kernel_rfl
theorem sp44 {y:Nat} (hy:y<14):stA 4 4 y=true:=gO Ir Is hy
set_option maxRecDepth 100000 in
theorem It:((List.range 7).all λq=>stA 4 5 (0+q))=true:=by kernel_rfl
set_option maxRecDepth 100000 in
theorem Iu:((List.range 7).all λq=>stA 4 5 (7+q))=true:=by kernel_rfl
theorem sp45 {y:Nat} (hy:y<14):stA 4 5 y=true:=gO It Iu hy
end Go.Proofs.YtegepanmkjemjaaGreat
namespace Go.Proofs.YtegepanmkjemjaaGreat
open Go.Eng C12
theorem EP:zG:=λn c y hn hc hy=>by
 obtain rfl | rfl | rfl | rfl:n=1∨n=2∨n=3∨n=4:=by omega
 ·obtain rfl | rfl | rfl | rfl | rfl | rfl:c=0∨c=1∨c=2∨c=3∨c=4∨c=5:=by omega
  ·exact sp10 hy
  ·exact sp11 hy
  ·exact sp12 hy
  ·exact sp13 hy
  ·exact sp14 hy
  ·exact sp15 hy
 ·obtain rfl | rfl | rfl | rfl | rfl | rfl:c=0∨c=1∨c=2∨c=3∨c=4∨c=5:=by omega
  ·exact sp20 hy
  ·exact sp21 hy
  ·exact sp22 hy
  ·exact sp23 hy
  ·exact sp24 hy
  ·exact sp25 hy
 ·obtain rfl | rfl | rfl | rfl | rfl | rfl:c=0∨c=1∨c=2∨c=3∨c=4∨c=5:=by omega
  ·exact sp30 hy
  ·exact sp31 hy
  ·exact sp32 hy
  ·exact sp33 hy
  ·exact sp34 hy
  ·exact sp35 hy
 ·obtain rfl | rfl | rfl | rfl | rfl | rfl:c=0∨c=1∨c=2∨c=3∨c=4∨c=5:=by omega
  ·exact sp40 hy
  ·exact sp41 hy
  ·exact sp42 hy
  ·exact sp43 hy
  ·exact sp44 hy
  ·exact sp45 hy
end Go.Proofs.YtegepanmkjemjaaGreat
namespace Go.Proofs.YtegepanmkjemjaaGreat
open Go.Proofs.Tryz
open Go.ChangeShapes Go.WideShapes Go.ChangeAt Go.RowKit
theorem laid:laidOutB prog=true:=by kernel_rfl
theorem IW:ownKnob prog.godebug=none:=by kernel_rfl
theorem sZ {H:Type} {enc:TypeId×Value→H} {W W':World} {sp:Nat→Bool}:∀ {ts:List TypeId} {vs:List Value} {ds:List (DataW H)} {ps:List MemPlace},(∀ t ∈ ts,prog.readableRec t=true∧t<prog.types.size)→DataW.TrodAll enc prog W 0 (λ_=>true) true ts vs ds ps→
  (∀ p ∈ ps,W.sameAt W' p)→(∀ p ∈ ps,sp p.block=true)→DataW.TrodAll enc prog W' 0 sp true ts vs ds ps
 | [],_,_,_,_,h,_,_=>by
  obtain ⟨rfl,rfl,rfl⟩:=trodAll_nil h
  exact trodAll_mk0
 |t::ts,_,_,_,ht,h,hs,hp=>by
  obtain ⟨v,vs1,d,ds1,a,b,rfl,rfl,rfl,h1,h2⟩:=trodAll_cons h
  refine trodAll_cons_mk (WideElems.Trod_stays laid (ht t List.mem_cons_self).1 (ht t List.mem_cons_self).2 h1 (λp hq=>hs p (List.mem_append_left _ hq)) λp hq=>hp p (List.mem_append_left _ hq)) ?_
  exact sZ (λt h=>ht t (List.mem_cons_of_mem _ h)) h2 (λp hq=>hs p (List.mem_append_right _ hq)) λp hq=>hp p (List.mem_append_right _ hq)
theorem EQ {H:Type} {enc:TypeId×Value→H} {f:Func} {s:ChangeSpec} {apart:Bool} {W W':World} {args:Array Value} {ds gs:List (DataW H)} {before:List MemPlace} {tb:TypeId} (hW:DataW.Whole enc prog f.params.toList s.vars apart W args.toList ds gs before)
  (hb:Go.Eng.New W W') (hts:∀ t ∈ f.params.toList,prog.readableRec t=true∧t<prog.types.size) (hv:s.vars=[]) (hfn:s.fn H (ds++gs)={ results:=[.lit (.bool true)],args:=ds }) (hr:f.resultTypes=#[tb]) (htb:prog.underlying tb=some .bool) :
  s.post enc prog f apart true false false W args (.bool true) W':=by
 have hB:Go.RowKit.Below W.heap.size W W':=hb.below (Nat.le_refl _) λ_ _ h=>h
 have hlt:=hW.lt
 have hW0:=hW
 obtain ⟨p,q,hA,hV,rfl,hfz,hnd⟩:=hW
 refine ⟨ds,gs,p++q,[],p,[],hW0,?_,?_,?_,hB.frame _,λh=>by cases h⟩
 ·rw [hfn,hr]
  exact trodAll_cons_mk (shut_bool htb _) trodAll_mk0
 ·rw [hfn]
  exact sZ hts hA (λx hx=>hB.same (hlt x (List.mem_append_left _ hx))) λx hx=>by simpa using hlt x (List.mem_append_left _ hx)
 ·rw [hfn,hv]
  rfl
theorem yO {n:Int} (h:(Lit.int .i64 n).wf=true):I64 n:=by have:=bounds_i64 h;exact ⟨this.1,by omega⟩
end Go.Proofs.YtegepanmkjemjaaGreat
namespace Go.Proofs.YtegepanmkjemjaaGreat
open Go.ChangeShapes Go.WideShapes Go.ChangeAt Go.RowKit Go.Eng
theorem Av {sz:Nat} (h0:0<sz):∀ {rows:List (List Value)} {j:Nat} {u:Value},(∀ r ∈ rows,r.length=sz)→rows.flatten[j]?=some u→∃ r,rows[j / sz]?=some r∧r[j % sz]?=some u
 | [],j,u,_,h=>by simp at h
 |r::rows,j,u,hr,h=>by
  have hl:=hr r List.mem_cons_self
  rw [List.flatten_cons,List.getElem?_append] at h
  by_cases hj:j<sz
  ·rw [if_pos (by omega)] at h
   exact ⟨r,by rw [Nat.div_eq_of_lt hj];rfl,by rw [Nat.mod_eq_of_lt hj];exact h⟩
  ·rw [if_neg (by omega),hl] at h
   obtain ⟨r',h1,h2⟩:=Av h0 (λr hr'=>hr r (List.mem_cons_of_mem _ hr')) h
   have e1:j / sz=(j - sz) / sz+1:=by
    rw [Nat.div_eq_sub_div h0 (by omega)]
   have e2:j % sz=(j - sz) % sz:=by rw [Nat.mod_eq_sub_mod (by omega)]
   exact ⟨r',by rw [e1];simpa using h1,by rw [e2];exact h2⟩
theorem Dg {w:World} {a:Addr} {v:Value} (h:w.cell? a=some v):a.spot=none:=by
 cases hs:a.spot with
 |none=>rfl
 |some s=>
  exfalso
  unfold World.cell? at h
  simp only [hs,Option.isSome_some,if_true] at h
  split at h<;>simp_all
theorem Bw {H:Type} {enc:TypeId×Value→H} {P:Program} {W:World} {k fuel:Nat} {t e:TypeId} {cs:List Value} {x:DataW H×List MemPlace} {held:Bool} (ht:P.underlying t=some (.slice e)) (hc:P.cellsOf e=k) (hk:0<k)
  (hf:DataW.trod enc P W 0 (λ_=>true) held fuel t cs=some x):∃ a cap rows,cs=[.slice a (List.length rows) cap]∧rows.length≤cap∧Rd W a rows.flatten∧∀ r ∈ rows,r.length=k∧∃ fuel x,DataW.trod enc P W 0 (λ_=>true) held fuel e r=some x:=by
 rcases Deep.open_slice ht hf with ⟨h1,_⟩ | ⟨ad,len,cap,m,n,D,Pl,h1,_,h3,_,h5,_,h7⟩
 ·exact ⟨none,0,[],h1,Nat.le_refl _,.inl rfl,λx hx=>by cases hx⟩
 ·subst h1
  have hm:len≤m:=by rw [h5];simp;omega
  obtain ⟨f,hf'⟩:=Deep.choose_lt (α:=List Value) (p:=λi cs=>W.cells? 0 (ad.add (i * k)) k=some cs∧DataW.trod enc P W 0 (λ_=>true) held n e cs=some (D i,Pl i)) (n:=m) (λi hi=>by
   obtain ⟨cs,g1,g2⟩:=h7 i hi
   rw [hc] at g1
   exact ⟨cs,g1,g2⟩)
  have hrow:∀ (i:Nat) (r:List Value),((List.range len).map f)[i]?=some r→i<len∧r=f i:=by
   intro i r hr
   have hi:=aU hr
   simp at hi
   simp [hi] at hr
   exact ⟨hi,hr.symm⟩
  have hlens:∀ r ∈ (List.range len).map f,r.length=k:=by
   intro r hr
   obtain ⟨i,hi⟩:=List.mem_iff_getElem?.1 hr
   obtain ⟨hi,rfl⟩:=hrow i r hi
   exact (World.cells?_some (hf' i (by omega)).1).2.1
  refine ⟨some ad,cap,(List.range len).map f,by simp,by simpa using h3,?_,λr hr=>⟨hlens r hr,?_⟩⟩
  ·by_cases h0:len=0
   ·subst h0;exact .inl rfl
   ·have hcell:∀ (i q:Nat) (u:Value),i<len→(f i)[q]?=some u→q<k→W.cell? (ad.add (i * k+q))=some u:=by
     intro i q u hi hq hqk
     have:=(World.cells?_some (hf' i (by omega)).1).2.2 q hqk
     rw [Deep.add_add] at this
     rw [this,hq]
    have hf0:=(World.cells?_some (hf' 0 (by omega)).1).2.1
    have hs:ad.spot=none:=by
     have h8:=hcell 0 0 _ (by omega) (List.getElem?_eq_getElem (by omega)) hk
     have:=Dg h8
     simpa [Addr.add] using this
    refine .inr ⟨ad.block,ad.off,by cases ad;simp_all,λj u hu=>?_⟩
    obtain ⟨r,g1,g2⟩:=Av hk hlens hu
    obtain ⟨hi,rfl⟩:=hrow _ _ g1
    have h8:=hcell (j / k) (j % k) u hi g2 (Nat.mod_lt _ hk)
    rw [Nat.mul_comm,Nat.div_add_mod] at h8
    rw [←h8]
    unfold Addr.add
    split
    ·rename_i h0;subst h0;cases ad;simp_all
    ·cases ad;simp_all
  ·obtain ⟨i,hi⟩:=List.mem_iff_getElem?.1 hr
   obtain ⟨hi,rfl⟩:=hrow i r hi
   exact ⟨n,_,(hf' i (by omega)).2⟩
theorem Dh {H:Type} {enc:TypeId×Value→H} {P:Program} {W:World} {r:Reach} {b0 k:Nat} {t e:TypeId} {v:Value} {d:DataW H} {ps:List MemPlace} {held:Bool} (ht:P.underlying t=some (.slice e)) (hc:P.cellsOf e=k) (hk:0<k) (hval:Value.okWide P W r b0 t v)
  (hd:DataW.Trod enc P W 0 (λ_=>true) held t v d ps):∃ a cap rows,v=.slice a (List.length rows) cap∧Rd W a rows.flatten∧∀ r ∈ rows,r.length=k∧∃ fuel x,DataW.trod enc P W 0 (λ_=>true) held fuel e r=some x:=by
 obtain ⟨a,len,cap,rfl⟩:=okWide_slice ht hval
 obtain ⟨fuel,hf⟩:=hd
 obtain ⟨a',cap',rows,h1,_,h2,h3⟩:=Bw ht hc hk hf
 have h1':[Value.slice a len cap]=[.slice a' rows.length cap']:=h1
 simp at h1'
 obtain ⟨rfl,rfl,rfl⟩:=h1'
 exact ⟨_,_,_,rfl,h2,h3⟩
theorem Di {H:Type} {enc:TypeId×Value→H} {P:Program} {W:World} {r:Reach} {b0:Nat} {t e:TypeId} {v:Value} {d:DataW H} {ps:List MemPlace} {held:Bool} (ht:P.underlying t=some (.slice e)) (he:P.underlying e=some (.int .i64)) (hc:P.cellsOf e=1) (hval:Value.okWide P W r b0 t v)
  (hd:DataW.Trod enc P W 0 (λ_=>true) held t v d ps):∃ a cap xs,v=.slice a (List.length xs) cap∧Rd W a (is xs)∧∀ x ∈ xs,I64 x:=by
 obtain ⟨a,cap,rows,rfl,h1,h2⟩:=Dh ht hc (by omega) hval hd
 have hint:∀ r ∈ rows,∃ n,r=[.int .i64 n]∧I64 n:=by
  intro r hr
  obtain ⟨_,fuel,x,hx⟩:=h2 r hr
  obtain ⟨n,e,_,w⟩:=DataW.trod_int he hx
  exact ⟨n,e,yO w⟩
 clear h2
 have key:∀ rows:List (List Value),(∀ r ∈ rows,∃ n,r=[Value.int .i64 n]∧I64 n)→∃ xs:List Int,rows.length=xs.length∧rows.flatten=is xs∧∀ x ∈ xs,I64 x:=by
  intro rows
  induction rows with
  |nil=>intro _;exact ⟨[],rfl,rfl,λx hx=>by cases hx⟩
  |cons r rows ih=>
   intro h
   obtain ⟨n,rfl,hn⟩:=h r List.mem_cons_self
   obtain ⟨xs,g1,g2,g3⟩:=ih λr hr=>h r (List.mem_cons_of_mem _ hr)
   refine ⟨n::xs,by simp [g1],by simp [is,g2],λx hx=>?_⟩
   rcases List.mem_cons.1 hx with rfl | hx
   ·exact hn
   ·exact g3 x hx
 obtain ⟨xs,g1,g2,g3⟩:=key rows hint
 exact ⟨a,cap,xs,by rw [g1],by rw [←g2];exact h1,g3⟩
end Go.Proofs.YtegepanmkjemjaaGreat
namespace Go.Proofs.YtegepanmkjemjaaGreat
open Go.Proofs.Tryz
open Go.ChangeShapes Go.WideShapes Go.ChangeAt Go.RowKit Go.Eng
theorem yP {H:Type} {enc:TypeId×Value→H} {P:Program} {w:World} {base:Nat} {spare:Nat→Bool} {held:Bool} {t t' t'' t3 t4:TypeId} {args:Array Value} {ds:List (DataW H)} {ps:List MemPlace} (h:DataW.TrodAll enc P w base spare held [t,t',t'',t3,t4] args.toList ds ps) :
  ∃ v v' v'' v3 v4 d d' d'' d3 d4 p p' p'' p3 p4,args=#[v,v',v'',v3,v4]∧ds=[d,d',d'',d3,d4]∧ps=p++p'++p''++p3++p4∧DataW.Trod enc P w base spare held t v d p∧DataW.Trod enc P w base spare held t' v' d' p'∧DataW.Trod enc P w base spare held t'' v'' d'' p''∧DataW.Trod enc P w base spare held t3 v3 d3 p3∧DataW.Trod enc P w base spare held t4 v4 d4 p4:=by
 obtain ⟨v,vs,d,ds',p,q,hargs,rfl,rfl,hd,hrest⟩:=trodAll_cons h
 obtain ⟨v',vs',d',ds'',p',q',rfl,rfl,rfl,hd',hrest'⟩:=trodAll_cons hrest
 obtain ⟨v'',vs'',d'',dsa,p'',q'',rfl,rfl,rfl,hd'',hrest''⟩:=trodAll_cons hrest'
 obtain ⟨v3,vs3,d3,ds3,p3,q3,rfl,rfl,rfl,hd3,hrest3⟩:=trodAll_cons hrest''
 obtain ⟨v4,vs4,d4,ds4,p4,q4,rfl,rfl,rfl,hd4,hrest4⟩:=trodAll_cons hrest3
 obtain ⟨rfl,rfl,rfl⟩:=trodAll_nil hrest4
 exact ⟨v,v',v'',v3,v4,d,d',d'',d3,d4,p,p',p'',p3,p4,by cases args;simp_all,rfl,by simp,hd,hd',hd'',hd3,hd4⟩
set_option maxRecDepth 100000 in
theorem ER (os:Os) (started:os.Started) (H:Type) (enc:TypeId×Value→H) :
  ReturnsInHanded {} Tryz.checked os 8 .any (Rows.commitStepsSpec.pre6 enc prog f8 Rows.commitStepsRow.domain false) (Rows.commitStepsSpec.post enc prog f8 false true false false):=by
 refine returnsInHanded_of_change (C:=Tryz.checked) IW started (by kernel_rfl) Tryz.func8
  (ChangeSpec.witness6 (enc:=enc) (C:=Tryz.checked) false ⟨#[],#[.int .i64 0,.int .i64 0,.int .i64 0,.slice none 0 0,.int .i64 0],[]⟩ 8 (by kernel_rfl) (by kernel_rfl) (by kernel_rfl) (by kernel_rfl)) ?_
 intro W base args ds gs before hval0 hW hcnd _
 have hval:∀ (j:Nat) t v,f8.params[j]?=some t→args[j]?=some v→Value.okWide prog W .any base t v:=hval0
 have hW':=hW
 obtain ⟨p,q,hA0,hV,rfl,hfz,hnd⟩:=hW
 have hA:DataW.TrodAll enc prog W 0 (λ_=>true) true f8.params.toList args.toList ds p:=hA0
 rw [Tryz.params8] at hA hval
 obtain ⟨v0,v1,v2,v3,v4,d0,d1,d2,d3,d4,p0,p1,p2,p3,p4,rfl,rfl,rfl,h0,h1,h2,h3,h4⟩:=yP hA
 obtain ⟨rfl,rfl⟩:=trodVars_none hV
 obtain ⟨a0,rfl,_,_,w0⟩:=open_int Tryz.underlying3 (hval 0 _ v0 rfl rfl) h0
 obtain ⟨a1,rfl,_,_,w1⟩:=open_int Tryz.underlying3 (hval 1 _ v1 rfl rfl) h1
 obtain ⟨a2,rfl,_,_,w2⟩:=open_int Tryz.underlying3 (hval 2 _ v2 rfl rfl) h2
 obtain ⟨a3,c3,l3,rfl,r3,w3⟩:=Di Tryz.underlying22 Tryz.underlying3 (by kernel_rfl) (hval 3 _ v3 rfl rfl) h3
 obtain ⟨a4,rfl,_,_,w4⟩:=open_int Tryz.underlying3 (hval 4 _ v4 rfl rfl) h4
 refine (v5 EP W (yO w0) (yO w1) (yO w2) (yO w4) r3 w3).mono λe W' ⟨x,he,hx,hg⟩=>?_
 subst he hx
 refine ⟨_,rfl,EQ hW' hg (by rw [Tryz.params8];decide +kernel) rfl rfl (tb:=4) (by kernel_rfl) Tryz.underlying4⟩
theorem sp_1:Rows.commitStepsRow.wf (OpenSpec.ofChange Rows.commitStepsSpec)=true:=by kernel_rfl
theorem sp_2:mapsRowed prog=true:=by kernel_rfl
theorem sp_3:f8.params.all (prog.readableRec ·)=true:=by kernel_rfl
theorem sp_4:namedTie prog Rows.commitStepsRow.named Rows.commitStepsSpec.vars=true:=by kernel_rfl
theorem sp_5:(Rows.commitStepsRow.inPlace == prog.inPlace 8)=true:=by kernel_rfl
theorem sp_6:(Rows.commitStepsRow.unfollowed == prog.unfollowed 8)=true:=by kernel_rfl
theorem sp_7:(Rows.commitStepsRow.recurses == prog.recurses 8)=true:=by kernel_rfl
theorem sp_8:(Rows.commitStepsRow.named == prog.varsNamed 8)=true:=by kernel_rfl
theorem ES:joinedFacts prog 8 f8 Rows.commitStepsSpec Rows.commitStepsRow=true:=by
 unfold joinedFacts
 rw [sp_1,laid,sp_2,sp_3,sp_4,sp_5,sp_6,sp_7,sp_8]
 kernel_rfl
theorem Iv:Rows.commitStepsRow.holds Tryz.pinned (OpenSpec.ofChange Rows.commitStepsSpec):=
 OpenClaim.holds_of_wide 8 f8 rfl rfl rfl rfl rfl rfl rfl ⟨rfl,rfl,rfl,rfl,rfl⟩ rfl rfl rfl rfl rfl (by kernel_rfl) Tryz.func8 ES
  (of_decide_eq_true (by kernel_rfl)) (by unfold Func.isWrapper;first | (rw [if_pos (by decide +kernel)];kernel_rfl) | (rw [if_neg (by decide +kernel)];exact ⟨rfl,rfl⟩))
  (λos started H enc _=>ER os started H enc)
theorem commitSteps_holds:Rows.CommitStepsSaid:=Iv
#print axioms commitSteps_holds
end Go.Proofs.YtegepanmkjemjaaGreat
