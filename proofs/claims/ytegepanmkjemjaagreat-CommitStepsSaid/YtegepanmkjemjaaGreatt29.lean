import Derived.Test.YtegepanmkjemjaaGreatt28
import Derived.Test.YtegepanmkjemjaaGreatProg
import Derived.Test.YtegepanmkjemjaaGreatt03
import Derived.Test.YtegepanmkjemjaaGreatt17
import Derived.Test.YtegepanmkjemjaaGreatt18
set_option linter.unusedVariables false
namespace Go.Proofs.YtegepanmkjemjaaGreat
open Go.Eng
def jX (j:CJob) (G:List (List Done)):List Verb×(Int×Int)×Bool:=
 if j.valid≠0 then ([],(j.valid,0),true) else match (runM j G).ask with
 |some vs=>(vs,(0,0),false)
 |none=>if (runM j G).wrong=true∨(runM j G).got≠[] then ([],(6,0),true) else ([],vp (runM j G),true)
theorem F4 {w:World} {tb:Nat} {T:TkX} (hz:Blk w tb T.cells TTk):Does 100 [ptr tb] w λx w'=>x=.tuple #[.slice T.aa T.al T.ac,.bool (decide ((T.al:Int)>0))]∧New w w':=by
 refine does Tryz.func100 ?_
 rw [ptr,rh]
 rintro w1 hw1
 have hn1:New w w1:=by rw [hw1];exact aW _
 clear hw1
 exact ⟨λy=>New w1 y,Keep.refl _ _,_,_,_,λy hy=>(New.blk (hn1.new hy) hz).cell (i:=1) rfl,_,_,_,λy hy=>(New.blk (hn1.new hy) hz).cell (i:=1) rfl,rfl,hn1⟩
theorem F5 {w:World} {tb:Nat} {T:TkX} (hz:Blk w tb T.cells TTk):Does 101 [ptr tb] w λx w'=>x=.bool (T.wrong || decide ((T.gl:Int)>0))∧New w w':=by
 refine does Tryz.func101 ?_
 rw [ptr,pC]
 refine ⟨T.wrong,hz.cell (i:=2) rfl,?_⟩
 cases T.wrong
 ·exact eC rfl ⟨_,_,_,hz.cell (i:=0) rfl,rfl,Keep.refl _ _⟩
 ·exact ig rfl ⟨rfl,Keep.refl _ _⟩
def Bi (w:World) (j:CJob) (G:List (List Done)) (v:Value) (u:World):Prop:=
 ∃ (aa:Option Addr) (ac:Nat) (raws:List aN),v=.tuple #[.slice aa raws.length ac,aA.val ⟨(jX j G).2.1.1,(jX j G).2.1.2⟩,.bool (jX j G).2.2]∧New w u∧Rd u aa (fC raws).flatten∧(∀ k,isB aa k→w.heap.size≤k)∧Vs (λk=>k<w.heap.size) u raws (jX j G).1
theorem Bi.nil {w u:World} {j:CJob} {G:List (List Done)} {o:Int×Int} {b:Bool} (h:jX j G=([],o,b)) (hn:New w u):Bi w j G (.tuple #[.slice none 0 0,aA.val ⟨o.1,o.2⟩,.bool b]) u:=
 ⟨none,0,[],by rw [h];rfl,hn,.inl rfl,λk hk=>absurd hk noB,by rw [h];exact ⟨rfl,λi v x hv=>by simp at hv⟩⟩
theorem Hp {u:World} {b:Nat} {o:aA} (hz:Blk u b o.cells TCO) {K:aA→World→Prop} (hk:∀ u4,Keep (λk=>k=b) u u4→K o u4) :
  ∀ w1,w1=u.drew→∃ Sx:World→Prop,Sx w1∧aA.ex λr=>(∀ y,Sx y→aF y ⟨b,0,none⟩ 0 r.cells)∧wrAt w1 ⟨b,0,none⟩ 0 r.cells∧∀ w3,w3=puts w1 ⟨b,0,none⟩ 0 r.cells→aA.ex λres=>aF w3 ⟨b,0,none⟩ 0 res.cells∧w3=w3∧K res w3:=by
 rintro w1 hw1
 have hn1:New u w1:=by rw [hw1];exact aW _
 clear hw1
 have hz1:=New.blk hn1 hz
 refine ⟨λy=>New w1 y,Keep.refl _ _,aA.mk_ex o ⟨λy hy=>aK (New.blk hy hz1) rfl,?_⟩⟩
 exact g8 hz1 rfl (aA.single _) λw3 hz3 hk3=>aA.mk_ex o ⟨aK hz3 rfl,rfl,hk w3 ((Keep.of_new hn1).trans hk3 λ_ _ e=>e)⟩
theorem IP {u:World} {b:Nat} {o:aA} (hz:Blk u b o.cells TCO) (c f:Int) {K:aA→World→Prop} (hk:∀ u4,Keep (λk=>k=b) u u4→K ⟨c,f⟩ u4) :
  wrAt u ⟨b,0,none⟩ 0 [(.int .i64 c),(.int .i64 f)]∧∀ w2,w2=puts u ⟨b,0,none⟩ 0 [(.int .i64 c),(.int .i64 f)]→∀ w1,w1=w2.drew→∃ Sx:World→Prop,Sx w1∧aA.ex λr=>(∀ y,Sx y→aF y ⟨b,0,none⟩ 0 r.cells)∧wrAt w1 ⟨b,0,none⟩ 0 r.cells∧∀ w3,w3=puts w1 ⟨b,0,none⟩ 0 r.cells→aA.ex λres=>aF w3 ⟨b,0,none⟩ 0 res.cells∧w3=w3∧K res w3:=
 g8 hz (vs:=aA.cells ⟨c,f⟩) rfl (aA.single _) λw2 hz2 hk2=>Hp hz2 λu4 hk4=>hk u4 (hk2.trans hk4 λ_ _ e=>e)
set_option maxRecDepth 20000 in
set_option maxHeartbeats 4000000 in
theorem F6 {A:Nat→Prop} {w:World} {r:aM} {j:CJob} (hj:tU w r j) (hd:j.valid=0→zo j) {ga:Option Addr} {gl gc:Nat} {G:List (List Done)} (hg:oF A w ga G) (hgl:gl=G.length) (hgc:gl≤gc) :
  Does 76 [r.val,.slice ga gl gc] w (Bi w j G):=by
 refine does Tryz.func76 ?_
 rw [vW]
 rintro b1 u1 hb1 hu1
 obtain ⟨hz1,hn1⟩:=aO hb1 hu1
 have hz1:Blk u1 b1 r.cells 34:=hz1
 clear hu1
 rintro b2 u2 hb2 hu2
 obtain ⟨hz2,hn2⟩:=aO hb2 hu2
 have hz2:Blk u2 b2 (aA.cells ⟨0,0⟩) TCO:=hz2
 clear hu2
 have hn12:=hn1.new hn2
 have hs1:=hn1.size
 have hl1:=hz1.lt
 have hl2:=hz2.lt
 refine aM.mk_ex r ⟨aK (New.blk hn2 hz1) rfl,?_⟩
 refine aG (D7 (hj.new hn12)) ?_
 rintro v u3 ⟨rfl,hn3⟩
 have hn13:=hn12.new hn3
 have hz23:=New.blk hn3 hz2
 refine ⟨_,rfl,bY (λhv=>?_) (λhv=>?_)⟩
 ·refine co_k hz23 rfl j.valid 0 λu4 hk4=>Bi.nil (o:=(j.valid,0)) (b:=true) ?_ (hn13.trans hk4 λk hlt e=>by omega)
  unfold jX
  rw [if_pos hv]
 have hgood:=FN hv
 have hdat:=hd hv
 obtain ⟨m0,hm0⟩:∃ m0,j.v.mem[0]?=some m0:=⟨_,List.getElem?_eq_getElem hgood.mem.1⟩
 rintro u5 hu5
 have hn5:New u3 u5:=by rw [hu5];exact aW _
 clear hu5
 have hn15:=hn13.new hn5
 have hz15:=New.blk ((hn2.new hn3).new hn5) hz1
 refine ⟨λy=>New u5 y,Keep.refl _ _,aM.mk_ex r ⟨λy hy=>aK (New.blk hy hz15) rfl,?_⟩⟩
 refine aG (G5 u5 ga gl gc) ?_
 rintro v u6 ⟨tb,rfl,htb,hz6,hn6⟩
 refine ⟨_,rfl,hn6,?_⟩
 rintro b3 u7 hb3 hu7
 obtain ⟨hz7,hn7⟩:=aO hb3 hu7
 have hz7:Blk u7 b3 (comC r tb ⟨0,0,false⟩) TCm:=hz7
 clear hu7
 have hs6:=hn6.size
 have hs15:=hn15.size
 have hs2:=hn2.size
 have hs3:=hn3.size
 have hs5:=hn5.size
 have hl6:=hz6.lt
 refine ⟨hn6.new hn7,aQ.mk_ex r.View ⟨aK (New.blk (hn6.new hn7) hz15) rfl,?_⟩⟩
 obtain ⟨MV,hview⟩:=hj.view
 have hn17:=(hn15.new hn6).new hn7
 refine aG (CD (hview.new hn17) hm0) ?_
 rintro v u8 ⟨rfl,hn8⟩
 have hz8:=New.blk hn8 hz7
 refine aH.mk_ex m0 ⟨true,rfl,cR hz8 (by simp [comC,aH.cells,aM.cells]) (aH.single _),?_⟩
 rintro u9 hu9
 have hz9:Blk u9 b3 (comC r tb m0) TCm:=by rw [hu9];exact hz8.puts (o:=8) (i:=0) (vs:=m0.cells)
 have hk9:Keep (λk=>k=b3) u8 u9:=by rw [hu9];exact dS _ _ _ _ _
 clear hu9
 have hn19:New w u9:=(hn17.new hn8).trans hk9 λk hlt e=>by omega
 have hn69:New u6 u9:=(hn7.new hn8).trans hk9 λk hlt e=>by omega
 have hz69:Blk u9 tb (TkX.cells ⟨ga,gl,gc,none,0,0,false⟩) TTk:=New.blk hn69 hz6
 have hz29:Blk u9 b2 (aA.cells ⟨0,0⟩) TCO:=New.blk ((hn5.new hn6).new hn69) hz23
 have hco:gP w u9 b3 tb r m0 j:=⟨hz9,hj,hgood,hm0,hn19,by omega,by omega,by omega⟩
 have hT:TkAt A w u9 tb ⟨ga,gl,gc,none,0,0,false⟩ G:=⟨hz69,hg,hgl,hgc⟩
 have hcall:=IN hco hdat hT ⟨rfl,rfl⟩
 refine aG hcall ?_
 rintro v uA ⟨rfl,hsp⟩
 have hs9:=hn69.size
 have hzA2:Blk uA b2 (aA.cells ⟨0,0⟩) TCO:=hsp.keep.blk hz29 (by omega)
 refine aA.mk_ex ⟨(vp (runM j G)).1,(vp (runM j G)).2⟩ ⟨rfl,?_⟩
 refine g8 hzA2 rfl (aA.single _) λuB hzB2 hkB=>?_
 have hspB:=(hsp.after (u:=w) (Keep.of_new hn19)).put (B':=u9.heap.size) (Keep.refl _ _) (Keep.refl _ _) hkB (by omega) (by omega) (by omega) (Nat.le_refl _)
 have hnB:New w uB:=(Keep.refl _ w).trans hspB.keep λk hlt e=>by omega
 have hz3B:Blk uB b3 (comC r tb m0) TCm:=hkB.blk (hsp.keep.blk hz9 (by omega)) (by omega)
 obtain ⟨_,T,hTB,hTw,hTa⟩:=hspB
 refine ⟨_,hz3B.cell (i:=7) rfl,?_⟩
 refine aG (F4 hTB.blk) ?_
 rintro v uC ⟨rfl,hnC⟩
 have hz2C:=New.blk hnC hzB2
 cases hask:(runM j G).ask with
 |some vs=>
  rw [hask] at hTa
  obtain ⟨h0,w1,h1,h2,h3⟩:=hTa
  have hal:=h3.len
  refine ⟨_,_,_,_,rfl,ig (by simp;omega) ?_⟩
  refine co_k hz2C rfl 0 0 λuD hkD=>?_
  have h4:VB w1 uD T.aa T.al T.ac vs:=(h3.new hnC).keep hkD λk e=>by omega
  obtain ⟨⟨raws,ho,hv5⟩,hl5,hf5⟩:=h4
  have hr:=hv5.1
  have hw1:=h1.size
  have hnx:jX j G=(vs,(0,0),false):=by
   unfold jX
   rw [if_neg (by simpa using hv),hask]
  refine ⟨T.aa,T.ac,raws,?_,(hnB.new hnC).trans hkD λk hlt e=>by omega,ho.rd,λk hk=>by have:=hf5 k hk;omega,?_⟩
  ·rw [hnx,hal,hr]
  ·rw [hnx]
   exact hv5.keep (Keep.refl _ _) λk hlt e=>.inl (by omega)
 |none=>
  rw [hask] at hTa
  refine ⟨_,_,_,_,rfl,eC (by simp;omega) ?_⟩
  refine ⟨_,(New.blk hnC hz3B).cell (i:=7) rfl,?_⟩
  refine aG (F5 (New.blk hnC hTB.blk)) ?_
  rintro v uD ⟨rfl,hnD⟩
  have hz2D:=New.blk hnD hz2C
  have hgl2:=hTB.gl
  refine ⟨_,rfl,?_⟩
  cases hm:(T.wrong || decide ((T.gl:Int)>0)) with
  |true=>
   refine IP hz2D 6 0 λuE hnE=>Bi.nil (o:=(6,0)) (b:=true) ?_ (((hnB.new hnC).new hnD).trans hnE λk hlt e=>by omega)
   unfold jX
   rw [if_neg (by simpa using hv),hask]
   refine if_pos ?_
   rw [hTw] at hm
   rw [Bool.or_eq_true] at hm
   rcases hm with hm | hm
   ·exact .inl hm
   ·right
    intro e
    rw [e] at hgl2
    simp at hm hgl2
    omega
  |false=>
   refine Hp hz2D λuE hnE=>Bi.nil (o:=vp (runM j G)) (b:=true) ?_ (((hnB.new hnC).new hnD).trans hnE λk hlt e=>by omega)
   unfold jX
   rw [if_neg (by simpa using hv),hask]
   refine if_neg ?_
   rw [hTw] at hm
   obtain ⟨hm1,hm2⟩:=Bool.or_eq_false_iff.1 hm
   rintro (e | e)
   ·rw [e] at hm1;cases hm1
   ·apply e
    apply List.eq_nil_of_length_eq_zero
    simp at hm2
    omega
end Go.Proofs.YtegepanmkjemjaaGreat
namespace Go.Proofs.YtegepanmkjemjaaGreat
open Go.Proofs.Tryz
open Go.Eng IntKind
variable (w:World) (R:Value→World→Prop)
theorem qM (p0:Nat) (p1:aC):fnW prog f15 [(.pointer (some ⟨p0,0,none⟩)),p1.val] R w=(∀ b1 w1,b1=w.heap.size→w1=w.alloc (.cells p1.cells.toArray 49)→∀ b2 w2,b2=w1.heap.size→w2=w1.alloc (.cells #[(.int .i64 0),(.int .i64 0),(.int .i64 0),(.int .i64 0),(.int .i64 0),(.int .i64 0),(.int .i64 0),(.int .u64 0),(.int .i64 0),(.int .i64 0),(.int .i64 0),(.int .i64 0),(.slice none 0 0),(.slice none 0 0),(.slice none 0 0),(.slice none 0 0),(.bool false),(.bool false),(.int .i64 0),(.int .i64 0),(.slice none 0 0),(.int .i64 0),(.slice none 0 0),(.int .u64 0),(.int .i64 0)] 49)→aC.ex λr=>aF w2 ⟨b1,0,none⟩ 0 r.cells∧∀ b3 w3,b3=w2.heap.size→w3=w2.alloc (.cells r.cells.toArray 49)→Calls prog 23 #[(.pointer (some ⟨p0,0,none⟩)),(.slice (some ⟨b3,0,none⟩) 1 1),(.slice none 0 0),(.slice none 0 0),(.int .i64 20000)] w3 λe w4=>∃ a b c,e=.returned (.slice a b c)∧idxS a b 0 25 λad=>aC.ex λr1=>aF w4 ad 0 r1.cells∧wrAt w4 ⟨b2,0,none⟩ 0 r1.cells∧∀ w5,w5=puts w4 ⟨b2,0,none⟩ 0 r1.cells→aC.ex λd=>aF w5 ⟨b2,0,none⟩ 0 d.cells∧w5=w5∧R d.val w5):=by kernel_rfl
def eM (s0:Addr) (s1:Option Addr) (a b:Nat) (s2:Option Addr) (c d:Nat) (s3:Option Addr) (f g:Nat) (s4:Int) (h:Option Addr) (i k:Nat) (l:Int) (j:LV):LV:=.pointer (some s0)::.slice s1 a b::.slice s2 c d::.slice s3 f g::.int .i64 s4::jq j 0 6 (.slice h i k::.int .i64 l::jq j 6 82 [])
def jB (a:Addr) (s1:Option Addr) (b c:Nat) (s2:Option Addr) (d f:Nat) (s3:Option Addr) (g h:Nat) (s4:Int) (i:Option Addr) (k l:Nat) (j:LV):LV:=.pointer (some a)::.slice s1 b c::.slice s2 d f::.slice s3 g h::.int .i64 s4::jq j 0 6 (.slice i k l::jq j 6 83 [])
def eN (s0:Addr) (s1:Option Addr) (a b:Nat) (s2:Option Addr) (c d:Nat) (s3:Option Addr) (f g:Nat) (s4:Int) (h:Option Addr) (i k:Nat) (l:Int) (j:LV):LV:=.pointer (some s0)::.slice s1 a b::.slice s2 c d::.slice s3 f g::.int .i64 s4::jq j 0 6 (.slice h i k::jq j 6 1 (.int .i64 l::jq j 7 81 []))
def eO (a:Addr) (s1:Option Addr) (b c:Nat) (j:LV):LV:=.pointer (some a)::.slice s1 b c::jq j 0 93 []
def dT (s0:Addr) (s1:Option Addr) (a b:Nat) (s2:Option Addr) (c d:Nat) (s3:Option Addr) (f g:Nat) (s4:Int) (h:Option Addr) (i k:Nat) (l m:Int) (j:LV):LV:=.pointer (some s0)::.slice s1 a b::.slice s2 c d::.slice s3 f g::.int .i64 s4::jq j 0 6 (.slice h i k::jq j 6 1 (.int .i64 l::.int .i64 m::jq j 7 80 []))
def jC (a:Addr) (s1:Option Addr) (b c:Nat) (s2:Option Addr) (d f:Nat) (s3:Option Addr) (g h:Nat) (s4:Int) (i:Option Addr) (k l:Nat) (m:Int) (j:LV):LV:=.pointer (some a)::.slice s1 b c::.slice s2 d f::.slice s3 g h::.int .i64 s4::jq j 0 6 (.slice i k l::jq j 6 1 (.int .i64 m::jq j 7 81 []))
def eP (s0:Addr) (s1:Option Addr) (a b:Nat) (c:Int) (j:LV):LV:=.pointer (some s0)::.slice s1 a b::jq j 0 14 (.int .i64 c::jq j 14 78 [])
def jD (s1:Option Addr) (a b:Nat) (j:LV):LV:=jq j 0 1 (.slice s1 a b::jq j 1 93 [])
def eQ (s0:Addr) (s1:Option Addr) (a b:Nat) (s2:Option Addr) (c d:Nat) (s3:Option Addr) (f g:Nat) (s4:Int) (h:Option Addr) (i k:Nat) (l m:Int) (j:LV):LV:=.pointer (some s0)::.slice s1 a b::.slice s2 c d::.slice s3 f g::.int .i64 s4::jq j 0 6 (.slice h i k::jq j 6 1 (.int .i64 l::jq j 7 1 (.int .i64 m::jq j 8 79 [])))
def jE (a:Addr) (s1:Option Addr) (b c:Nat) (s2:Option Addr) (d f:Nat) (s3:Option Addr) (g h:Nat) (s4:Int) (i:Option Addr) (k l:Nat) (m:Int) (j:LV):LV:=.pointer (some a)::.slice s1 b c::.slice s2 d f::.slice s3 g h::.int .i64 s4::jq j 0 6 (.slice i k l::jq j 6 1 (.int .i64 m::jq j 7 81 []))
theorem qN (p0:Nat) (p1:Option Addr) (a b:Nat) (p2:Option Addr) (c d:Nat) (p3:Option Addr) (f g:Nat) (p4:Int):fnW prog f23 [.pointer (some ⟨p0,0,none⟩),.slice p1 a b,.slice p2 c d,.slice p3 f g,.int .i64 p4] R w=(∃ ap h i,∃ w1,(Builtin.append_ #[61,61] 61 #[.slice none 0 0,.slice p1 a b]).run prog w=.ok (.slice ap h i) w1∧bX prog (.loop (sub (aB f23) [1,1,1,0,1,0,0])) (eM ⟨p0,0,none⟩ ap h i p2 c d p3 f g p4 none 0 0 0 (uq 5 (jz::uq 4 (js p1 a b::js ap h i::uq 76 [])))) (aJ 0 (nx f23 [1,1,1,1] R)) w1):=by kernel_rfl
theorem lA (s0:Addr) (s1:Option Addr) (a b:Nat) (s2:Option Addr) (c d:Nat) (s3:Option Addr) (f g:Nat) (s4:Int) (h:Option Addr) (i k:Nat) (l:Int) (j:LV) (N1:LV→World→Prop):W prog (sub (aB f23) [1,1,1,0,1,0,0]) (eM s0 s1 a b s2 c d s3 f g s4 h i k l j) (seqQ N1 (aJ 0 (nx f23 [1,1,1,1] R))) w=((bif (decide ((l:Int)<(a:Nat))) then (idxS s1 a l 25 λad=>∃ m,w.cell? ⟨ad.block,ad.off+1,none⟩=some (.int .i64 m)∧∀ b1 w1,b1=w.heap.size→w1=w.alloc (.cells #[.int .i64 m] 3)→∃ ap n o,∃ w2,(Builtin.append_ #[22,22] 22 #[.slice h i k,.slice (some ⟨b1,0,none⟩) 1 1]).run prog w1=.ok (.slice ap n o) w2∧N1 (eM s0 s1 a b s2 c d s3 f g s4 ap n o (i64.wrap (l+1)) (jq j 0 12 (ji l::js s1 a b::jn a::jb (decide ((l:Int)<(a:Nat)))::ji l::ji (i64.wrap (l+1))::js h i k::js s1 a b::ji l::jp ad::jf ad 1::ji m::js (some ⟨b1,0,none⟩) 1 1::js ap n o::jq j 26 62 []))) w2) else (W prog (sub (aB f23) [1,1,1,1]) (jB s0 s1 a b s2 c d s3 f g s4 h i k (jq j 0 6 (ji l::jq j 6 6 (ji l::js s1 a b::jn a::jb (decide ((l:Int)<(a:Nat)))::jq j 16 72 [])))) (retQ prog f23 R) w))):=by kernel_rfl
theorem ni (a:Addr) (s1:Option Addr) (b c:Nat) (s2:Option Addr) (d f:Nat) (s3:Option Addr) (g h:Nat) (s4:Int) (i:Option Addr) (k l:Nat) (j:LV):W prog (sub (aB f23) [1,1,1,1]) (jB a s1 b c s2 d f s3 g h s4 i k l j) (retQ prog f23 R) w=(bX prog (.loop (sub (aB f23) [1,1,1,1,0,1,0,0])) (eN a s1 b c s2 d f s3 g h s4 i k l 0 (jq j 0 7 (jq j 8 81 []))) (aJ 2 (nx f23 [1,1,1,1,1] R)) w):=by kernel_rfl
theorem lB (s0:Addr) (s1:Option Addr) (a b:Nat) (s2:Option Addr) (c d:Nat) (s3:Option Addr) (f g:Nat) (s4:Int) (h:Option Addr) (i k:Nat) (l:Int) (j:LV) (N2:LV→World→Prop):W prog (sub (aB f23) [1,1,1,1,0,1,0,0]) (eN s0 s1 a b s2 c d s3 f g s4 h i k l j) (seqQ N2 (aJ 2 (nx f23 [1,1,1,1,1] R))) w=((bif (decide ((l:Int)<s4)) then (bX prog (.loop (sub (aB f23) [1,1,1,1,0,1,0,0,1,0,0,0,1,0,0])) (dT s0 s1 a b s2 c d s3 f g s4 h i k l 0 (jq j 0 7 (jq j 8 18 (ji l::ji s4::jb (decide ((l:Int)<s4))::jq j 29 59 [])))) (aJ 4 (seqQ (λenv w=>W prog (sub (aB f23) [1,1,1,1,0,1,0,0,1,0,0,1]) env (aJ 3 (seqQ (λenv w=>W prog (sub (aB f23) [1,1,1,1,0,1,0,0,1,1]) env (seqQ N2 (aJ 2 (nx f23 [1,1,1,1,1] R))) w) (seqQ N2 (aJ 2 (nx f23 [1,1,1,1,1] R))))) w) (aJ 3 (seqQ (λenv w=>W prog (sub (aB f23) [1,1,1,1,0,1,0,0,1,1]) env (seqQ N2 (aJ 2 (nx f23 [1,1,1,1,1] R))) w) (seqQ N2 (aJ 2 (nx f23 [1,1,1,1,1] R))))))) w) else (W prog (sub (aB f23) [1,1,1,1,1]) (eO s0 s1 a b (js s2 c d::js s3 f g::ji s4::jq j 0 6 (js h i k::jg j 6::ji l::jq j 7 19 (ji l::ji s4::jb (decide ((l:Int)<s4))::jq j 29 59 [])))) (retQ prog f23 R) w))):=by kernel_rfl
theorem nj (a:Addr) (s1:Option Addr) (b c:Nat) (j:LV):W prog (sub (aB f23) [1,1,1,1,1]) (eO a s1 b c j) (retQ prog f23 R) w=(bX prog (.loop (sub (aB f23) [1,1,1,1,1,0,1,0,0])) (eP a s1 b c 0 (jq j 0 14 (jq j 15 78 []))) (aJ 8 (nx f23 [1,1,1,1,1,1] R)) w):=by kernel_rfl
theorem lC (s0:Addr) (s1:Option Addr) (a b:Nat) (s2:Option Addr) (c d:Nat) (s3:Option Addr) (f g:Nat) (s4:Int) (h:Option Addr) (i k:Nat) (l m:Int) (j:LV) (N2:LV→World→Prop) (N3:LV→World→Prop):W prog (sub (aB f23) [1,1,1,1,0,1,0,0,1,0,0,0,1,0,0]) (dT s0 s1 a b s2 c d s3 f g s4 h i k l m j) (seqQ N3 (aJ 4 (seqQ (λenv w=>W prog (sub (aB f23) [1,1,1,1,0,1,0,0,1,0,0,1]) env (aJ 3 (seqQ (λenv w=>W prog (sub (aB f23) [1,1,1,1,0,1,0,0,1,1]) env (seqQ N2 (aJ 2 (nx f23 [1,1,1,1,1] R))) w) (seqQ N2 (aJ 2 (nx f23 [1,1,1,1,1] R))))) w) (aJ 3 (seqQ (λenv w=>W prog (sub (aB f23) [1,1,1,1,0,1,0,0,1,1]) env (seqQ N2 (aJ 2 (nx f23 [1,1,1,1,1] R))) w) (seqQ N2 (aJ 2 (nx f23 [1,1,1,1,1] R)))))))) w=((bif (decide ((m:Int)<(f:Nat))) then (idxS s3 f m 3 λad=>∃ At,w.cell? ad=some (.int .i64 At)∧Calls prog 11 #[.int .i64 At,.int .i64 60] w λe w1=>∃ (n:Int),e=.returned (.int .i64 n)∧(bif ((n:Int) == l) then (idxS s3 f m 3 λo=>bF.ex λr=>aF w1 o 0 r.cells∧Calls prog 43 #[.pointer (some s0),.slice h i k,r.val] w1 λe w2=>e=.returned (.tuple #[])∧N3 (dT s0 s1 a b s2 c d s3 f g s4 h i k l (i64.wrap (m+1)) (jq j 0 30 (ji m::js s3 f g::jn f::jb (decide ((m:Int)<(f:Nat)))::ji m::ji (i64.wrap (m+1))::js s3 f g::ji m::jp ad::jp ad::ji At::ji n::ji l::jb ((n:Int) == l)::jp s0::js h i k::js s3 f g::ji m::jp o::r.val::.tuple #[]::jq j 51 36 []))) w2) else (N3 (dT s0 s1 a b s2 c d s3 f g s4 h i k l (i64.wrap (m+1)) (jq j 0 30 (ji m::js s3 f g::jn f::jb (decide ((m:Int)<(f:Nat)))::ji m::ji (i64.wrap (m+1))::js s3 f g::ji m::jp ad::jp ad::ji At::ji n::ji l::jb ((n:Int) == l)::jq j 44 43 []))) w1))) else (W prog (sub (aB f23) [1,1,1,1,0,1,0,0,1,0,0,1]) (jC s0 s1 a b s2 c d s3 f g s4 h i k l (jq j 0 7 (ji m::jq j 7 23 (ji m::js s3 f g::jn f::jb (decide ((m:Int)<(f:Nat)))::jq j 34 53 [])))) (aJ 3 (seqQ (λenv w=>W prog (sub (aB f23) [1,1,1,1,0,1,0,0,1,1]) env (seqQ N2 (aJ 2 (nx f23 [1,1,1,1,1] R))) w) (seqQ N2 (aJ 2 (nx f23 [1,1,1,1,1] R))))) w))):=by kernel_rfl
theorem nk (a:Addr) (s1:Option Addr) (b c:Nat) (s2:Option Addr) (d f:Nat) (s3:Option Addr) (g h:Nat) (s4:Int) (i:Option Addr) (k l:Nat) (m:Int) (j:LV) (N2:LV→World→Prop):W prog (sub (aB f23) [1,1,1,1,0,1,0,0,1,0,0,1]) (jC a s1 b c s2 d f s3 g h s4 i k l m j) (aJ 3 (seqQ (λenv w=>W prog (sub (aB f23) [1,1,1,1,0,1,0,0,1,1]) env (seqQ N2 (aJ 2 (nx f23 [1,1,1,1,1] R))) w) (seqQ N2 (aJ 2 (nx f23 [1,1,1,1,1] R))))) w=(bX prog (.loop (sub (aB f23) [1,1,1,1,0,1,0,0,1,0,0,1,0,1,0,0])) (eQ a s1 b c s2 d f s3 g h s4 i k l m 0 (jq j 0 8 (jq j 9 79 []))) (aJ 6 (seqQ (λenv w=>W prog (sub (aB f23) [1,1,1,1,0,1,0,0,1,0,0,1,1]) env (aJ 3 (seqQ (λenv w=>W prog (sub (aB f23) [1,1,1,1,0,1,0,0,1,1]) env (seqQ N2 (aJ 2 (nx f23 [1,1,1,1,1] R))) w) (seqQ N2 (aJ 2 (nx f23 [1,1,1,1,1] R))))) w) (aJ 3 (seqQ (λenv w=>W prog (sub (aB f23) [1,1,1,1,0,1,0,0,1,1]) env (seqQ N2 (aJ 2 (nx f23 [1,1,1,1,1] R))) w) (seqQ N2 (aJ 2 (nx f23 [1,1,1,1,1] R))))))) w):=by kernel_rfl
theorem lD (s0:Addr) (s1:Option Addr) (a b:Nat) (c:Int) (j:LV) (N4:LV→World→Prop):W prog (sub (aB f23) [1,1,1,1,1,0,1,0,0]) (eP s0 s1 a b c j) (seqQ N4 (aJ 8 (nx f23 [1,1,1,1,1,1] R))) w=((bif (decide ((c:Int)<(a:Nat))) then (idxS s1 a c 25 λad=>aC.ex λr=>aF w ad 0 r.cells∧Calls prog 44 #[.pointer (some s0),r.val] w λe w1=>aC.ex λd=>e=.returned d.val∧idxS s1 a c 25 λf=>wrAt w1 f 0 d.cells∧∀ w2,w2=puts w1 f 0 d.cells→N4 (eP s0 s1 a b (i64.wrap (c+1)) (jq j 0 76 [ji c,js s1 a b,jn a,jb (decide ((c:Int)<(a:Nat))),ji c,ji (i64.wrap (c+1)),js s1 a b,ji c,jp s0,js s1 a b,ji c,jp ad,r.val,d.val,jp f,jg j 91])) w2) else (W prog (sub (aB f23) [1,1,1,1,1,1]) (jD s1 a b (jp s0::jq j 0 14 (ji c::jq j 14 62 (ji c::js s1 a b::jn a::jb (decide ((c:Int)<(a:Nat)))::jq j 80 12 [])))) (retQ prog f23 R) w))):=by kernel_rfl
theorem nl (s1:Option Addr) (a b:Nat) (j:LV):W prog (sub (aB f23) [1,1,1,1,1,1]) (jD s1 a b j) (retQ prog f23 R) w=(R (.slice s1 a b) w):=by kernel_rfl
theorem lE (s0:Addr) (s1:Option Addr) (a b:Nat) (s2:Option Addr) (c d:Nat) (s3:Option Addr) (f g:Nat) (s4:Int) (h:Option Addr) (i k:Nat) (l m:Int) (j:LV) (N2:LV→World→Prop) (N5:LV→World→Prop):W prog (sub (aB f23) [1,1,1,1,0,1,0,0,1,0,0,1,0,1,0,0]) (eQ s0 s1 a b s2 c d s3 f g s4 h i k l m j) (seqQ N5 (aJ 6 (seqQ (λenv w=>W prog (sub (aB f23) [1,1,1,1,0,1,0,0,1,0,0,1,1]) env (aJ 3 (seqQ (λenv w=>W prog (sub (aB f23) [1,1,1,1,0,1,0,0,1,1]) env (seqQ N2 (aJ 2 (nx f23 [1,1,1,1,1] R))) w) (seqQ N2 (aJ 2 (nx f23 [1,1,1,1,1] R))))) w) (aJ 3 (seqQ (λenv w=>W prog (sub (aB f23) [1,1,1,1,0,1,0,0,1,1]) env (seqQ N2 (aJ 2 (nx f23 [1,1,1,1,1] R))) w) (seqQ N2 (aJ 2 (nx f23 [1,1,1,1,1] R)))))))) w=((bif (decide ((m:Int)<(a:Nat))) then (idxS s1 a m 25 λad=>aC.ex λr=>aF w ad 0 r.cells∧Calls prog 44 #[.pointer (some s0),r.val] w λe w1=>aC.ex λn=>e=.returned n.val∧idxS s1 a m 25 λo=>wrAt w1 o 0 n.cells∧∀ w2,w2=puts w1 o 0 n.cells→N5 (eQ s0 s1 a b s2 c d s3 f g s4 h i k l (i64.wrap (m+1)) (jq j 0 51 (ji m::js s1 a b::jn a::jb (decide ((m:Int)<(a:Nat)))::ji m::ji (i64.wrap (m+1))::js s1 a b::ji m::jp s0::js s1 a b::ji m::jp ad::r.val::n.val::jp o::jq j 66 21 []))) w2) else (W prog (sub (aB f23) [1,1,1,1,0,1,0,0,1,0,0,1,1]) (jE s0 s1 a b s2 c d s3 f g s4 h i k l (jq j 0 8 (ji m::jq j 8 43 (ji m::js s1 a b::jn a::jb (decide ((m:Int)<(a:Nat)))::jq j 55 32 [])))) (aJ 3 (seqQ (λenv w=>W prog (sub (aB f23) [1,1,1,1,0,1,0,0,1,1]) env (seqQ N2 (aJ 2 (nx f23 [1,1,1,1,1] R))) w) (seqQ N2 (aJ 2 (nx f23 [1,1,1,1,1] R))))) w))):=by kernel_rfl
theorem nm (a:Addr) (s1:Option Addr) (b c:Nat) (s2:Option Addr) (d f:Nat) (s3:Option Addr) (g h:Nat) (s4:Int) (i:Option Addr) (k l:Nat) (m:Int) (j:LV) (N2:LV→World→Prop):W prog (sub (aB f23) [1,1,1,1,0,1,0,0,1,0,0,1,1]) (jE a s1 b c s2 d f s3 g h s4 i k l m j) (aJ 3 (seqQ (λenv w=>W prog (sub (aB f23) [1,1,1,1,0,1,0,0,1,1]) env (seqQ N2 (aJ 2 (nx f23 [1,1,1,1,1] R))) w) (seqQ N2 (aJ 2 (nx f23 [1,1,1,1,1] R))))) w=(Calls prog 45 #[.pointer (some a),.slice s2 d f,.int .i64 m] w λe w1=>∃ n,e=.returned (.bool n)∧(bif (!n) then (W prog (sub (aB f23) [1,1,1,1,1]) (eO a s1 b c (js s2 d f::js s3 g h::ji s4::jq j 0 6 (js i k l::jg j 6::ji m::jq j 7 60 (jp a::js s2 d f::ji m::jb n::jb (!n)::jq j 72 16 [])))) (retQ prog f23 R) w1) else (N2 (eN a s1 b c s2 d f s3 g h s4 i k l (i64.wrap (m+1)) (jq j 0 29 (ji m::ji (i64.wrap (m+1))::jq j 31 36 (jp a::js s2 d f::ji m::jb n::jb (!n)::jq j 72 16 [])))) w1))):=by kernel_rfl
theorem rB (p0:Nat) (p1:aC):fnW prog f44 [.pointer (some ⟨p0,0,none⟩),p1.val] R w=(∀ b1 w1,b1=w.heap.size→w1=w.alloc (.cells p1.cells.toArray 49)→∀ b2 w2,b2=w1.heap.size→w2=w1.alloc (.cells #[.int .i64 0,.int .i64 0,.int .i64 0,.int .i64 0,.int .i64 0,.int .i64 0,.int .i64 0,.int .u64 0,.int .i64 0,.int .i64 0,.int .i64 0,.int .i64 0,.slice none 0 0,.slice none 0 0,.slice none 0 0,.slice none 0 0,.bool false,.bool false,.int .i64 0,.int .i64 0,.slice none 0 0,.int .i64 0,.slice none 0 0,.int .u64 0,.int .i64 0] 49)→∃ a,w2.cell? ⟨b1,16,none⟩=some (.bool a)∧(bif a then (aC.ex λr=>aF w2 ⟨b1,0,none⟩ 0 r.cells∧wrAt w2 ⟨b2,0,none⟩ 0 r.cells∧∀ w3,w3=puts w2 ⟨b2,0,none⟩ 0 r.cells→aC.ex λaq=>aF w3 ⟨b2,0,none⟩ 0 aq.cells∧w3=w3∧R aq.val w3) else (∃ b,w2.cell? ⟨b1,1,none⟩=some (.int .i64 b)∧Calls prog 29 #[.pointer (some ⟨p0,0,none⟩),.int .i64 b] w2 λe w4=>∃ (c:Bool),e=.returned (.bool c)∧(bif (!c) then (aC.ex λr1=>aF w4 ⟨b1,0,none⟩ 0 r1.cells∧wrAt w4 ⟨b2,0,none⟩ 0 r1.cells∧∀ w5,w5=puts w4 ⟨b2,0,none⟩ 0 r1.cells→aC.ex λar=>aF w5 ⟨b2,0,none⟩ 0 ar.cells∧w5=w5∧R ar.val w5) else (∃ d,w4.cell? ⟨b1,1,none⟩=some (.int .i64 d)∧Calls prog 58 #[.pointer (some ⟨p0,0,none⟩),.int .i64 d] w4 λe w6=>∃ (f:Int),e=.returned (.int .i64 f)∧(bif (decide ((f:Int)>0)) then (aC.ex λr2=>aF w6 ⟨b1,0,none⟩ 0 r2.cells∧wrAt w6 ⟨b2,0,none⟩ 0 r2.cells∧∀ w7,w7=puts w6 ⟨b2,0,none⟩ 0 r2.cells→aC.ex λau=>aF w7 ⟨b2,0,none⟩ 0 au.cells∧w7=w7∧R au.val w7) else (∃ g,w6.cell? ⟨b1,1,none⟩=some (.int .i64 g)∧Calls prog 59 #[.pointer (some ⟨p0,0,none⟩),.int .i64 g] w6 λe w8=>∃ (h:Option Addr) (i k:Nat) (l:Bool),e=.returned (.tuple #[.slice h i k,.bool l])∧(bif l then (∃ m n o,w8.cell? ⟨b1,15,none⟩=some (.slice m n o)∧∃ (ap:Option Addr) (p q:Nat),∃ w9,(Builtin.append_ #[46,46] 46 #[.slice none 0 0,.slice m n o]).run prog w8=.ok (.slice ap p q) w9∧∀ b3 av,b3=w9.heap.size→av=w9.alloc (.cells #[.slice h i k] 99)→∃ (s:Option Addr) (t v:Nat),∃ aw,(Builtin.append_ #[46,46] 46 #[.slice ap p q,.slice (some ⟨b3,0,none⟩) 1 1]).run prog av=.ok (.slice s t v) aw∧(∃ u,aw.cell? ⟨b1,15,none⟩=some u)∧aw.frozen? ⟨b1,15,none⟩=false∧∀ ax,ax=aw.setCell ⟨b1,15,none⟩ (.slice s t v)→∃ x y z,ax.cell? ⟨b1,15,none⟩=some (.slice x y z)∧(bif (decide (((y:Nat):Int)>200)) then ((∃ u,ax.cell? ⟨b1,16,none⟩=some u)∧ax.frozen? ⟨b1,16,none⟩=false∧∀ ay,ay=ax.setCell ⟨b1,16,none⟩ (.bool true)→(∃ u,ay.cell? ⟨b1,17,none⟩=some u)∧ay.frozen? ⟨b1,17,none⟩=false∧∀ az,az=ay.setCell ⟨b1,17,none⟩ (.bool true)→aC.ex λr3=>aF az ⟨b1,0,none⟩ 0 r3.cells∧wrAt az ⟨b2,0,none⟩ 0 r3.cells∧∀ a0,a0=puts az ⟨b2,0,none⟩ 0 r3.cells→aC.ex λa1=>aF a0 ⟨b2,0,none⟩ 0 a1.cells∧a0=a0∧R a1.val a0) else (aC.ex λr4=>aF ax ⟨b1,0,none⟩ 0 r4.cells∧Calls prog 60 #[r4.val] ax λe a2=>∃ (aa:Option Addr) (ab ac:Nat),aC.ex λa3=>e=.returned (.tuple #[.slice aa ab ac,a3.val])∧wrAt a2 ⟨b1,0,none⟩ 0 a3.cells∧∀ a4,a4=puts a2 ⟨b1,0,none⟩ 0 a3.cells→∃ ad,a4.cell? ⟨b1,16,none⟩=some (.bool ad)∧(bif (!ad) then (∃ ae,a4.cell? ⟨b1,1,none⟩=some (.int .i64 ae)∧Calls prog 61 #[.pointer (some ⟨p0,0,none⟩),.int .i64 ae,.slice aa ab ac] a4 λe a5=>∃ (af:Int),e=.returned (.int .i64 af)∧(bif ((af:Int) != 0) then ((∃ u,a5.cell? ⟨b1,16,none⟩=some u)∧a5.frozen? ⟨b1,16,none⟩=false∧∀ a6,a6=a5.setCell ⟨b1,16,none⟩ (.bool true)→(∃ u,a6.cell? ⟨b1,17,none⟩=some u)∧a6.frozen? ⟨b1,17,none⟩=false∧∀ a7,a7=a6.setCell ⟨b1,17,none⟩ (.bool true)→aC.ex λr5=>aF a7 ⟨b1,0,none⟩ 0 r5.cells∧wrAt a7 ⟨b2,0,none⟩ 0 r5.cells∧∀ a8,a8=puts a7 ⟨b2,0,none⟩ 0 r5.cells→aC.ex λa9=>aF a8 ⟨b2,0,none⟩ 0 a9.cells∧a8=a8∧R a9.val a8) else (aC.ex λr6=>aF a5 ⟨b1,0,none⟩ 0 r6.cells∧wrAt a5 ⟨b2,0,none⟩ 0 r6.cells∧∀ ba,ba=puts a5 ⟨b2,0,none⟩ 0 r6.cells→aC.ex λbb=>aF ba ⟨b2,0,none⟩ 0 bb.cells∧ba=ba∧R bb.val ba))) else (aC.ex λr7=>aF a4 ⟨b1,0,none⟩ 0 r7.cells∧wrAt a4 ⟨b2,0,none⟩ 0 r7.cells∧∀ bc,bc=puts a4 ⟨b2,0,none⟩ 0 r7.cells→aC.ex λbd=>aF bc ⟨b2,0,none⟩ 0 bd.cells∧bc=bc∧R bd.val bc))))) else (∃ ag ah ai,w8.cell? ⟨b1,15,none⟩=some (.slice ag ah ai)∧(bif (decide (((ah:Nat):Int)>200)) then ((∃ u,w8.cell? ⟨b1,16,none⟩=some u)∧w8.frozen? ⟨b1,16,none⟩=false∧∀ be,be=w8.setCell ⟨b1,16,none⟩ (.bool true)→(∃ u,be.cell? ⟨b1,17,none⟩=some u)∧be.frozen? ⟨b1,17,none⟩=false∧∀ bf,bf=be.setCell ⟨b1,17,none⟩ (.bool true)→aC.ex λr8=>aF bf ⟨b1,0,none⟩ 0 r8.cells∧wrAt bf ⟨b2,0,none⟩ 0 r8.cells∧∀ bg,bg=puts bf ⟨b2,0,none⟩ 0 r8.cells→aC.ex λbh=>aF bg ⟨b2,0,none⟩ 0 bh.cells∧bg=bg∧R bh.val bg) else (aC.ex λr9=>aF w8 ⟨b1,0,none⟩ 0 r9.cells∧Calls prog 60 #[r9.val] w8 λe bi=>∃ (aj:Option Addr) (ak al:Nat),aC.ex λbj=>e=.returned (.tuple #[.slice aj ak al,bj.val])∧wrAt bi ⟨b1,0,none⟩ 0 bj.cells∧∀ bk,bk=puts bi ⟨b1,0,none⟩ 0 bj.cells→∃ am,bk.cell? ⟨b1,16,none⟩=some (.bool am)∧(bif (!am) then (∃ an,bk.cell? ⟨b1,1,none⟩=some (.int .i64 an)∧Calls prog 61 #[.pointer (some ⟨p0,0,none⟩),.int .i64 an,.slice aj ak al] bk λe bl=>∃ (ao:Int),e=.returned (.int .i64 ao)∧(bif ((ao:Int) != 0) then ((∃ u,bl.cell? ⟨b1,16,none⟩=some u)∧bl.frozen? ⟨b1,16,none⟩=false∧∀ bm,bm=bl.setCell ⟨b1,16,none⟩ (.bool true)→(∃ u,bm.cell? ⟨b1,17,none⟩=some u)∧bm.frozen? ⟨b1,17,none⟩=false∧∀ bn,bn=bm.setCell ⟨b1,17,none⟩ (.bool true)→aC.ex λbo=>aF bn ⟨b1,0,none⟩ 0 bo.cells∧wrAt bn ⟨b2,0,none⟩ 0 bo.cells∧∀ bp,bp=puts bn ⟨b2,0,none⟩ 0 bo.cells→aC.ex λbq=>aF bp ⟨b2,0,none⟩ 0 bq.cells∧bp=bp∧R bq.val bp) else (aC.ex λbr=>aF bl ⟨b1,0,none⟩ 0 br.cells∧wrAt bl ⟨b2,0,none⟩ 0 br.cells∧∀ bs,bs=puts bl ⟨b2,0,none⟩ 0 br.cells→aC.ex λbt=>aF bs ⟨b2,0,none⟩ 0 bt.cells∧bs=bs∧R bt.val bs))) else (aC.ex λbu=>aF bk ⟨b1,0,none⟩ 0 bu.cells∧wrAt bk ⟨b2,0,none⟩ 0 bu.cells∧∀ bv,bv=puts bk ⟨b2,0,none⟩ 0 bu.cells→aC.ex λbw=>aF bv ⟨b2,0,none⟩ 0 bw.cells∧bv=bv∧R bw.val bv))))))))))))):=by kernel_rfl
theorem rC (p0:aC):fnW prog f60 [p0.val] R w=(∀ b1 w1,b1=w.heap.size→w1=w.alloc (.cells p0.cells.toArray 49)→∀ b2 w2,b2=w1.heap.size→w2=w1.alloc (.cells #[.int .i64 0,.int .i64 0,.int .i64 0,.int .i64 0,.int .i64 0,.int .i64 0,.int .i64 0,.int .u64 0,.int .i64 0,.int .i64 0,.int .i64 0,.int .i64 0,.slice none 0 0,.slice none 0 0,.slice none 0 0,.slice none 0 0,.bool false,.bool false,.int .i64 0,.int .i64 0,.slice none 0 0,.int .i64 0,.slice none 0 0,.int .u64 0,.int .i64 0] 49)→∃ a,w2.cell? ⟨b1,0,none⟩=some (.int .i64 a)∧(bif ((a:Int) == 1) then (cK.ex λaj=>aF w2 ⟨b1,2,none⟩ 0 aj.cells∧∃ b c d,w2.cell? ⟨b1,15,none⟩=some (.slice b c d)∧Calls prog 74 #[aj.val,.slice b c d] w2 λe w3=>∃ (f:Option Addr) (g h:Nat),bL.ex λak=>∃ (i:Bool),e=.returned (.tuple #[.slice f g h,ak.val,.bool i])∧∀ b3 w4,b3=w3.heap.size→w4=w3.alloc (.cells #[.int .i64 0,.int .i64 0,.int .i64 0,.slice none 0 0,.int .i64 0,.bool false,.int .u64 0,.slice none 0 0,.slice none 0 0,.slice none 0 0] 154)→wrAt w4 ⟨b3,0,none⟩ 0 ak.cells∧∀ w5,w5=puts w4 ⟨b3,0,none⟩ 0 ak.cells→∀ w6,w6=w5.drew→∃ Sx:World→Prop,Sx w6∧∃ k,(∀ u,Sx u→u.cell? ⟨b3,0,none⟩=some (.int .i64 k))∧aQ.ex λal=>(∀ u,Sx u→aF u ⟨b3,2,none⟩ 0 al.cells)∧∃ l,(∀ u,Sx u→u.cell? ⟨b3,4,none⟩=some (.int .i64 l))∧∃ m n o,(∀ u,Sx u→u.cell? ⟨b3,9,none⟩=some (.slice m n o))∧(∃ u,w6.cell? ⟨b1,16,none⟩=some u)∧w6.frozen? ⟨b1,16,none⟩=false∧∀ w7,w7=w6.setCell ⟨b1,16,none⟩ (.bool i)→Sx w7∧(∃ u,w7.cell? ⟨b1,18,none⟩=some u)∧w7.frozen? ⟨b1,18,none⟩=false∧∀ w8,w8=w7.setCell ⟨b1,18,none⟩ (.int .i64 k)→Sx w8∧wrAt w8 ⟨b1,19,none⟩ 0 al.cells∧∀ w9,w9=puts w8 ⟨b1,19,none⟩ 0 al.cells→Sx w9∧(∃ u,w9.cell? ⟨b1,21,none⟩=some u)∧w9.frozen? ⟨b1,21,none⟩=false∧∀ am,am=w9.setCell ⟨b1,21,none⟩ (.int .i64 l)→Sx am∧(∃ u,am.cell? ⟨b1,22,none⟩=some u)∧am.frozen? ⟨b1,22,none⟩=false∧∀ an,an=am.setCell ⟨b1,22,none⟩ (.slice m n o)→∀ ao,ao=an.drew→∃ Sx1:World→Prop,Sx1 ao∧aC.ex λr=>(∀ u,Sx1 u→aF u ⟨b1,0,none⟩ 0 r.cells)∧wrAt ao ⟨b2,0,none⟩ 0 r.cells∧∀ ap,ap=puts ao ⟨b2,0,none⟩ 0 r.cells→aC.ex λaq=>aF ap ⟨b2,0,none⟩ 0 aq.cells∧ap=ap∧R (.tuple #[.slice f g h,aq.val]) ap) else ((bif ((a:Int) == 2) then (eH.ex λar=>aF w2 ⟨b1,3,none⟩ 0 ar.cells∧∃ p q s,w2.cell? ⟨b1,15,none⟩=some (.slice p q s)∧Calls prog 75 #[ar.val,.slice p q s] w2 λe au=>∃ (t:Option Addr) (v x:Nat),cA.ex λav=>∃ (y:Bool),e=.returned (.tuple #[.slice t v x,av.val,.bool y])∧∀ b4 aw,b4=au.heap.size→aw=au.alloc (.cells #[.int .i64 0,.int .u64 0,.int .i64 0] 158)→wrAt aw ⟨b4,0,none⟩ 0 av.cells∧∀ ax,ax=puts aw ⟨b4,0,none⟩ 0 av.cells→∀ ay,ay=ax.drew→∃ Sx2:World→Prop,Sx2 ay∧∃ z,(∀ u,Sx2 u→u.cell? ⟨b4,0,none⟩=some (.int .i64 z))∧∃ Value,(∀ u,Sx2 u→u.cell? ⟨b4,1,none⟩=some (.int .u64 Value))∧(∃ u,ay.cell? ⟨b1,16,none⟩=some u)∧ay.frozen? ⟨b1,16,none⟩=false∧∀ az,az=ay.setCell ⟨b1,16,none⟩ (.bool y)→Sx2 az∧(∃ u,az.cell? ⟨b1,18,none⟩=some u)∧az.frozen? ⟨b1,18,none⟩=false∧∀ a0,a0=az.setCell ⟨b1,18,none⟩ (.int .i64 z)→Sx2 a0∧(∃ u,a0.cell? ⟨b1,23,none⟩=some u)∧a0.frozen? ⟨b1,23,none⟩=false∧∀ a1,a1=a0.setCell ⟨b1,23,none⟩ (.int .u64 Value)→∀ a2,a2=a1.drew→∃ Sx3:World→Prop,Sx3 a2∧aC.ex λr1=>(∀ u,Sx3 u→aF u ⟨b1,0,none⟩ 0 r1.cells)∧wrAt a2 ⟨b2,0,none⟩ 0 r1.cells∧∀ a3,a3=puts a2 ⟨b2,0,none⟩ 0 r1.cells→aC.ex λa4=>aF a3 ⟨b2,0,none⟩ 0 a4.cells∧a3=a3∧R (.tuple #[.slice t v x,a4.val]) a3) else ((bif ((a:Int) == 3) then (aM.ex λa5=>aF w2 ⟨b1,8,none⟩ 0 a5.cells∧∃ aa ab ac,w2.cell? ⟨b1,15,none⟩=some (.slice aa ab ac)∧Calls prog 76 #[a5.val,.slice aa ab ac] w2 λe a6=>∃ (ad:Option Addr) (ae af:Nat),aA.ex λa7=>∃ (ag:Bool),e=.returned (.tuple #[.slice ad ae af,a7.val,.bool ag])∧∀ b5 a8,b5=a6.heap.size→a8=a6.alloc (.cells #[.int .i64 0,.int .i64 0] 162)→wrAt a8 ⟨b5,0,none⟩ 0 a7.cells∧∀ a9,a9=puts a8 ⟨b5,0,none⟩ 0 a7.cells→∀ ba,ba=a9.drew→∃ Sx4:World→Prop,Sx4 ba∧∃ ah,(∀ u,Sx4 u→u.cell? ⟨b5,0,none⟩=some (.int .i64 ah))∧∃ ai,(∀ u,Sx4 u→u.cell? ⟨b5,1,none⟩=some (.int .i64 ai))∧(∃ u,ba.cell? ⟨b1,16,none⟩=some u)∧ba.frozen? ⟨b1,16,none⟩=false∧∀ bb,bb=ba.setCell ⟨b1,16,none⟩ (.bool ag)→Sx4 bb∧(∃ u,bb.cell? ⟨b1,18,none⟩=some u)∧bb.frozen? ⟨b1,18,none⟩=false∧∀ bc,bc=bb.setCell ⟨b1,18,none⟩ (.int .i64 ah)→Sx4 bc∧(∃ u,bc.cell? ⟨b1,24,none⟩=some u)∧bc.frozen? ⟨b1,24,none⟩=false∧∀ bd,bd=bc.setCell ⟨b1,24,none⟩ (.int .i64 ai)→∀ be,be=bd.drew→∃ Sx5:World→Prop,Sx5 be∧aC.ex λr2=>(∀ u,Sx5 u→aF u ⟨b1,0,none⟩ 0 r2.cells)∧wrAt be ⟨b2,0,none⟩ 0 r2.cells∧∀ bf,bf=puts be ⟨b2,0,none⟩ 0 r2.cells→aC.ex λbg=>aF bf ⟨b2,0,none⟩ 0 bg.cells∧bf=bf∧R (.tuple #[.slice ad ae af,bg.val]) bf) else ((∃ u,w2.cell? ⟨b1,16,none⟩=some u)∧w2.frozen? ⟨b1,16,none⟩=false∧∀ bh,bh=w2.setCell ⟨b1,16,none⟩ (.bool true)→(∃ u,bh.cell? ⟨b1,17,none⟩=some u)∧bh.frozen? ⟨b1,17,none⟩=false∧∀ bi,bi=bh.setCell ⟨b1,17,none⟩ (.bool true)→∀ bj,bj=bi.drew→∃ Sx6:World→Prop,Sx6 bj∧aC.ex λr3=>(∀ u,Sx6 u→aF u ⟨b1,0,none⟩ 0 r3.cells)∧wrAt bj ⟨b2,0,none⟩ 0 r3.cells∧∀ bk,bk=puts bj ⟨b2,0,none⟩ 0 r3.cells→aC.ex λbl=>aF bk ⟨b2,0,none⟩ 0 bl.cells∧bk=bk∧R (.tuple #[.slice none 0 0,bl.val]) bk))))))):=by kernel_rfl
end Go.Proofs.YtegepanmkjemjaaGreat
namespace Go.Proofs.YtegepanmkjemjaaGreat.C12
open Go.Eng
abbrev KIND:Int:=3
def conv:Conv:=⟨CJob,Int×Int,jX⟩
structure JAtC (A:Nat→Prop) (w:World) (r:aM) (j:CJob):Prop where
 at_:tU w r j
 view:gU A w r.View j.v
 roff:(Aa j.reads).flatten=[]∨Off A r.Reads
 woff:(dF j.writes).flatten=[]∨Off A r.Writes
 dat:zo j
def JAt (A:Nat→Prop) (w:World) (r:aC) (j:CJob):Prop:=JAtC A w r.Commit j
def OAt (A:Nat→Prop) (w:World) (r:aC) (o:Int×Int):Prop:=r.Code=o.1∧r.Fate=o.2
theorem gU.keep {A A':Nat→Prop} {w w':World} {r:aQ} {v:Vw} (h:gU A w r v) (hk:Keep A w w') (hM:∀ k,k<w.heap.size→A' k→A k):gU A' w' r v:=
 ⟨h.num,h.len,h.cap,h.rd.keep hk h.off,Off.keep h.rd h.off hM,h.small⟩
theorem JAt.keep {A A':Nat→Prop} {w w':World} {r:aC} {j:CJob} (h:JAt A w r j) (hk:Keep A w w') (hM:∀ k,k<w.heap.size→A' k→A k):JAt A' w' r j:=by
 obtain ⟨ha,hv,hr,hw,hd⟩:=h
 have hv':=gU.keep hv hk hM
 exact ⟨⟨ha.client,ha.seq,ha.lines,⟨A',hv'⟩,ha.rd.keep hk hr,ha.len,ha.few,⟨ha.pg.rd.keep hk hw,ha.pg.len,ha.pg.few,ha.pg.u64⟩⟩,hv',Off.keep ha.rd hr hM,Off.keep ha.pg.rd hw hM,hd⟩
theorem OAt.keep {A A':Nat→Prop} {w w':World} {r:aC} {o:Int×Int} (h:OAt A w r o) (hk:Keep A w w') (hM:∀ k,k<w.heap.size→A' k→A k):OAt A' w' r o:=h
end Go.Proofs.YtegepanmkjemjaaGreat.C12
