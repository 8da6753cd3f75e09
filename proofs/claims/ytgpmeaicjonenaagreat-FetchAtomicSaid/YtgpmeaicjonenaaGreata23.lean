import Derived.Test.YtgpmeaicjonenaaGreata22
set_option linter.unusedVariables false
namespace Go.Proofs.YtgpmeaicjonenaaGreat
open Go.Proofs.Tryz
open Go.Eng
theorem DV {w:World} {r:aS} {W:List aG} (h:sg w r.Writes r.Writes_l W) (hv:jS r.Seq W 256≠0):Does 232 [r.val] w λv w'=>v=.slice none 0 0∧New w w':=by
 refine does Tryz.func232 ?_
 rw [oI]
 rintro b1 w1 hb1 hw1
 obtain ⟨hz,hn1⟩:=aO hb1 hw1
 have hz:Blk w1 b1 r.cells 305:=hz
 clear hw1
 refine aS.mk_ex r ⟨aI hz rfl,?_⟩
 refine aF (um (h.new hn1) 256) ?_
 rintro v w2 ⟨rfl,hn2⟩
 exact ⟨_,rfl,cU (λe=>⟨rfl,hn1.new hn2⟩) (λe=>absurd e hv)⟩
theorem Ap (w:World) (s:Int):Does 236 [.int .i64 s] w λv w'=>∃ x e:Int,v=.tuple #[.int .u64 x,.int .i64 e]∧w'=w∧(1≤s∧s<1073741824→x=wU s):=by
 refine does Tryz.func236 ?_
 rw [vh]
 refine aF (pO w s 1 1073741823) ?_
 rintro v w1 ⟨rfl,rfl⟩
 refine ⟨_,rfl,dG (λhf=>⟨_,_,rfl,rfl,λe=>absurd (of_decide_eq_false hf) (by omega)⟩) (λ_=>⟨_,_,rfl,rfl,λe=>?_⟩)⟩
 rw [wu64 (x:=s) (by omega) (by omega)]
 rfl
theorem DX {seq:Int} {W:List aG} (hs:U64 seq) (hl:W.length≤12) (hW:∀ p ∈ W,U64 p.Line∧U64 p.Head∧∀ x ∈ datL p,U64 x):∀ x ∈ ot seq W,U64 x:=by
 intro x hx
 unfold ot recL at hx
 rcases List.mem_append.1 hx with hx | hx
 ·rcases List.mem_cons.1 hx with rfl | hx
  ·exact hs
  rcases List.mem_cons.1 hx with rfl | hx
  ·unfold U64;omega
  obtain ⟨l,hl1,hx⟩:=List.mem_flatten.1 hx
  obtain ⟨p,hp,rfl⟩:=List.mem_map.1 hl1
  obtain ⟨h1,h2,h3⟩:=hW p hp
  rcases List.mem_cons.1 hx with rfl | hx
  ·exact h1
  rcases List.mem_cons.1 hx with rfl | hx
  ·exact h2
  exact h3 x hx
 ·simp at hx
  subst hx
  exact B2 _
def wY (j:CJob):Prop:=∀ p ∈ j.writes,∀ x ∈ datL p,U64 x
set_option maxRecDepth 20000 in
theorem E0 {A:Nat→Prop} {w0 u:World} {cb tb:Nat} {r:aL} {m:aE} {j:CJob} (hc:fN w0 u cb tb r m j) (hd:wY j) {T:TkX} {G:List (List Done)} (hT:TkAt A w0 u tb T G) (hcl:ou T) :
  Does 186 [ptr cb] u (pT A w0 u tb u.heap.size (wX j G)):=by
 refine does Tryz.func186 ?_
 rw [ptr,lX]
 rintro b1 u1 hb1 hu1
 obtain ⟨hz1,hn1⟩:=aO hb1 hu1
 have hz1:Blk u1 b1 (aA.cells ⟨0,0⟩) TCO:=hz1
 clear hu1
 rintro u2 hu2
 have hn2:New u1 u2:=by rw [hu2];exact aU _
 clear hu2
 have hn02:=hn1.new hn2
 have hc2:=hc.new' hn02
 have hT2:=hT.new hn02
 have hs1:=hn1.size
 have hs2:=hn2.size
 have hl1:=hz1.lt
 have htl:=hT.blk.lt
 have hjc:=hc.job.client
 have hjs:=hc.job.seq
 have hg:=hc.good
 have hgc:=hg.client
 have hgf:=hg.wfew
 refine ⟨λy=>Blk y cb (comC r tb m) TCm,hc2.blk,_,λy hy=>hy.cell (i:=0) rfl,aL.mk_ex r ⟨λy hy=>aI hy rfl,?_⟩⟩
 refine aF (DR u2 (by omega)) ?_
 rintro v u3 ⟨rfl,rfl⟩
 refine ⟨_,rfl,hc2.blk,?_⟩
 refine aF (xC u3 r) ?_
 rintro v u4 ⟨rfl,hn4⟩
 refine aS.mk_ex _ ⟨rfl,(hc2.new' hn4).blk,?_⟩
 have hc4:=hc2.new' hn4
 have hpg:sg u4 r.Writes r.Writes_l j.writes:=hc.job.pg.new hc4.new
 have fin:∀ {u5:World} {a:Option Addr} {n cap:Nat},New u4 u5→(j.writes≠[]→Rd u5 a (us (ot j.seq j.writes))∧n=(ot j.seq j.writes).length∧n≤cap∧(a=none→ot j.seq j.writes=[])∧(∀ x ∈ ot j.seq j.writes,U64 x)∧(ot j.seq j.writes).length≤1000000)→
   Calls prog 230 #[(.pointer (some ⟨cb,0,none⟩)),(.int .i64 (qC r.Client+8)),(.slice a n cap),(.int .i64 1)] u5 λe w6=>aA.ex λo=>∃ b:Bool,e=.returned (.tuple #[o.val,(.bool b)])∧Blk w6 cb (comC r tb m) TCm∧wrAt w6 ⟨b1,0,none⟩ 0 o.cells∧∀ w7,w7=puts w6 ⟨b1,0,none⟩ 0 o.cells→aA.ex λres=>aC w7 ⟨b1,0,none⟩ 0 res.cells∧w7=w7∧pT A w0 u tb u.heap.size (wX j G) (.tuple #[res.val,(.bool b)]) w7:=by
  intro u5 a n cap hn5 hw
  have hn25:=hn4.new hn5
  have hcall:=EZ (A:=A) (hc2.new' hn25) (hT2.new hn25) hcl (at_:=qC j.client+8) hw 1
  rw [hjc]
  refine aF hcall ?_
  rintro v u6 ⟨rfl,hsp⟩
  have hs5:=hn25.size
  refine aA.mk_ex _ ⟨_,rfl,hsp.keep.blk (hc2.new' hn25).blk hc.ne,?_⟩
  exact co_k (hsp.keep.blk (New.blk (hn2.new hn25) hz1) (by omega)) rfl _ _ λu7 hk7=>⟨rfl,hsp.put (hn02.new hn25) (Keep.refl _ _) hk7 (by omega) (by omega) (by omega) (by omega)⟩
 by_cases hw0:j.writes=[]
 ·have hne:jS r.Seq j.writes 256≠0:=λe=>by
   have:=(lZ e).2.1.2.2.1
   rw [hw0] at this
   simp at this
  refine aF (DV (r:=⟨r.Seq,r.Writes,r.Writes_l,r.Writes_c⟩) hpg hne) ?_
  rintro v u5 ⟨rfl,hn5⟩
  exact ⟨_,_,_,rfl,(hc4.new' hn5).blk,fin hn5 λe=>absurd hw0 e⟩
 ·obtain ⟨hv,hs⟩:=hg.wr hw0
  rw [←hjs] at hv hs
  refine aF (B8 (r:=⟨r.Seq,r.Writes,r.Writes_l,r.Writes_c⟩) hpg hv hs hgf hg.wl) ?_
  rintro v u5 ⟨a,cap,rfl,hn5,hown,hfr⟩
  refine ⟨_,_,_,rfl,(hc4.new' hn5).blk,fin hn5 λ_=>?_⟩
  have hown:Owns u5 30 1 a (3+9 * j.writes.length) cap (us (ot j.seq j.writes)):=by rw [←hjs];exact hown
  refine ⟨hown.rd,(nA _ _).symm,Owns.le hown,λe=>?_,DX (by unfold U64;omega) hgf λp hp=>?_,by rw [nA];omega⟩
  ·rcases hown.2 with ⟨hn,_,_⟩ | ⟨g,cur,hg,_⟩
   ·omega
   ·rw [hg] at e;cases e
  ·have:=hg.wl p hp
   exact ⟨by unfold U64;omega,hpg.u64 p hp,hd p hp⟩
theorem DY {A:Nat→Prop} {w0 u:World} {cb tb:Nat} {r:aL} {m:aE} {j:CJob} (hc:fN w0 u cb tb r m j) {T:TkX} {G:List (List Done)} (hT:TkAt A w0 u tb T G) (hcl:ou T) :
  Does 188 [ptr cb] u (pT A w0 u tb u.heap.size (vS j G)):=by
 refine does Tryz.func188 ?_
 rw [ptr,lY]
 rintro b1 u1 hb1 hu1
 obtain ⟨hz1,hn1⟩:=aO hb1 hu1
 have hz1:Blk u1 b1 (aA.cells ⟨0,0⟩) TCO:=hz1
 clear hu1
 have hc1:=hc.new' hn1
 have hs1:=hn1.size
 have hl1:=hz1.lt
 have htl:=hT.blk.lt
 have hjc:=hc.job.client
 have hjs:=hc.job.seq
 have hg:=hc.good
 have hgc:=hg.client
 refine ⟨_,hc1.blk.cell (i:=1) rfl,?_⟩
 refine aF (Ap u1 r.Seq) ?_
 rintro v u2 ⟨x,e,rfl,rfl,hx⟩
 refine ⟨_,_,rfl,_,hc1.blk.cell (i:=0) rfl,?_⟩
 refine aF (DS u2 (by omega)) ?_
 rintro v u3 ⟨rfl,rfl⟩
 refine ⟨_,rfl,?_⟩
 rintro b2 u4 hb2 hu4
 obtain ⟨hz4,hn4⟩:=aO hb2 hu4
 have hz4:Blk u4 b2 (us [x]) TUw:=hz4
 clear hu4
 have hs4:=hn4.size
 rw [hjc]
 have hcall:=EZ (A:=A) (hc1.new' hn4) ((hT.new hn1).new hn4) hcl (a:=some ⟨b2,0,none⟩) (n:=1) (cap:=1) (at_:=qC j.client) (ws:=[wU j.seq]) (λhw=>by
  obtain ⟨_,hs⟩:=hg.wr hw
  have hxx:=hx (by omega)
  rw [hxx,hjs] at hz4
  exact ⟨eQ hz4 rfl,rfl,by omega,(λe=>by cases e),(λy hy=>by simp at hy;subst hy;exact DP _),by simp⟩) 2
 refine aF hcall ?_
 rintro v u6 ⟨rfl,hsp⟩
 refine aA.mk_ex _ ⟨_,rfl,?_⟩
 exact co_k (hsp.keep.blk (New.blk hn4 hz1) (by omega)) rfl _ _ λu7 hk7=>⟨rfl,hsp.put (hn1.new hn4) (Keep.refl _ _) hk7 (by omega) (by omega) (by omega) (by omega)⟩
theorem pU (l:List aJ):(l.map aJ.cells).flatten=(eC l).flatten:=rfl
theorem VB.app_e {w0 wb u1:World} {a a2:Option Addr} {n n2 cap c2:Nat} {vs vs2:List Verb} (h:VB w0 u1 a n cap vs) (h0:New w0 u1) (h2:VB wb u1 a2 n2 c2 vs2) (hlt:∀ k,isB a k→k<wb.heap.size) (hwb:w0.heap.size≤wb.heap.size) (hf:n+n2≤100000) {K:Option Addr→Nat→Nat→World→Prop}
  (hk:∀ ap cap' w3,VB w0 w3 ap (n+n2) cap' (vs++vs2)→Keep (isB a) u1 w3→New w0 w3→K ap (n+n2) cap' w3) :
  ∃ (ap:Option Addr) (ap_len ap_cap:Nat),∃ w3,(Builtin.append_ #[TSV,TSV] TSV #[(.slice a n cap),(.slice a2 n2 c2)]).run prog u1=.ok (.slice ap ap_len ap_cap) w3∧K ap ap_len ap_cap w3:=by
 obtain ⟨⟨raws,ho,hvs⟩,hl,hfr⟩:=h
 obtain ⟨⟨raws2,ho2,hvs2⟩,hl2,hfr2⟩:=h2
 obtain ⟨inf,hi,hz,hsz,hby⟩:=iF (T:=TV) (z:=.agg #[.int .i64 0,.int .i64 0,.int .i64 0,.int .i64 0,.int .u64 0,.int .u64 0,.slice none 0 0,.int .u64 0,.int .i64 0]) (n:=9) (m:=88) (by kernel_rfl)
 have hs0:=h0.size
 refine tB (cells:=aJ.cells) (sz:=9) aJ.len aJ.single Tryz.underlying140 hi hz (by rw [hsz];rfl) hsz (by decide) (by rw [hby];decide) (l:=raws) (by rw [pU];exact ho) (l2:=raws2) (m:=n2) (by rw [pU];exact ho2.rd) (by rw [hvs2.1];exact hl2) (by omega) λap cap' w3 h1 hk3 hap=>?_
 have hapf:∀ k,isB ap k→w0.heap.size≤k:=λk hk=>by
  rcases hap k hk with e | e
  ·exact hfr k e
  ·omega
 refine hk ap cap' w3 ⟨⟨raws++raws2,h1,?_⟩,by rw [List.length_append,hl,hl2],hapf⟩ hk3 (h0.trans hk3 λk hlt e=>by have:=hfr k e;omega)
 have hst:∀ k,k<u1.heap.size→(k<w0.heap.size∨isB ap k)→(k<w0.heap.size∨isB a k):=λk hlt e=>e.imp id λe=>by
  rcases hap k e with e | e
  ·exact e
  ·omega
 refine Vs.app (hvs.keep (hk3.mono λk _ e=>.inr e) hst) ?_
 have hv2:Vs (λk=>k<w0.heap.size∨isB a k) u1 raws2 vs2:=hvs2.keep (Keep.refl _ _) λk _ e=>by
  rcases e with e | e
  ·left;omega
  ·left;exact hlt k e
 exact hv2.keep (hk3.mono λk _ e=>.inr e) hst
def memV (j:CJob) (m:aE):List Verb:=if j.writes=[] then [] else j.writes.map (nB j m)++[l5 j m]
def fU (j:CJob):List Verb:=(j.v.mem.tail.map (memV j)).flatten
def mE (j:CJob) (G:List (List Done)):SR:=bL G (fU j) 3
theorem xL (j:CJob) (m:aE):(memV j m).length≤j.writes.length+1:=by
 unfold memV
 split
 ·simp
 ·simp
theorem Aq {α:Type} {b:Nat}:∀ (l:List (List α)),(∀ x ∈ l,x.length≤b)→l.flatten.length≤l.length * b
 | [],_=>by simp
 |x::l,h=>by
  have h1:=h x List.mem_cons_self
  have h2:=Aq l λy hy=>h y (List.mem_cons_of_mem _ hy)
  rw [List.flatten_cons,List.length_append,List.length_cons,Nat.succ_mul]
  omega
set_option maxRecDepth 20000 in
set_option maxHeartbeats 1000000 in
theorem DZ {A:Nat→Prop} {w0 u:World} {cb tb:Nat} {r:aL} {m0:aE} {j:CJob} (hc:fN w0 u cb tb r m0 j) (hd:wY j) {T:TkX} {G:List (List Done)} (hT:TkAt A w0 u tb T G) (hcl:ou T) :
  Does 189 [ptr cb] u (pT A w0 u tb u.heap.size (mE j G)):=by
 refine does Tryz.func189 ?_
 rw [ptr,kH]
 rintro b1 u1 hb1 hu1
 obtain ⟨hz1,hn1⟩:=aO hb1 hu1
 have hz1:Blk u1 b1 (aA.cells ⟨0,0⟩) TCO:=hz1
 clear hu1
 have hc1:=hc.new' hn1
 have hs1:=hn1.size
 have hl1:=hz1.lt
 have htl:=hT.blk.lt
 have hg:=hc.good
 have hgm:=hg.mem
 have hgf:=hg.wfew
 have hlen:=hc.job.pg.len
 obtain ⟨MV,hview⟩:=hc.job.view
 refine aM.mk_ex r.View ⟨aI hc1.blk rfl,?_⟩
 refine aF (Ao (hview.new hc1.new) hgm.1) ?_
 rintro v u2 ⟨ba,bc,rfl,hn2,hbr⟩
 refine ⟨_,_,_,rfl,?_⟩
 have hc2:=hc1.new' hn2
 have hs2:=hn2.size
 have htl2:j.v.mem.tail.length=j.v.mem.length - 1:=List.length_tail
 refine aT mix (λq env z=>∃ (i n:Nat) (pa:Option Addr) (pc:Nat) (jj:List Value),q=j.v.mem.tail.length - i∧i≤j.v.mem.tail.length∧env=bT ⟨cb,0,none⟩ ⟨b1,0,none⟩ pa n pc ba (j.v.mem.length - 1) bc ((j.v.mem.length - 1:Nat):Int) i jj∧New u2 z∧VB u2 z pa n pc (((j.v.mem.tail.take i).map (memV j)).flatten)) j.v.mem.tail.length
  ⟨0,0,none,0,_,rfl,by omega,rfl,Keep.refl _ _,VB.nil _ _⟩ ?_
 rintro q env z ⟨i,n,pa,pc,jj,rfl,hi,rfl,hnz,hvb⟩
 rw [gU]
 have hcz:=hc2.new' hnz
 have hsz:=hnz.size
 have hvl:=hvb.len
 have hn60:n≤1000:=by
  have h1:=Aq (b:=j.writes.length+1) ((j.v.mem.tail.take i).map (memV j)) λx hx=>by
   obtain ⟨m,_,rfl⟩:=List.mem_map.1 hx
   exact xL j m
  rw [List.length_map,List.length_take] at h1
  have h2:min i j.v.mem.tail.length * (j.writes.length+1)≤5 * 13:=Nat.mul_le_mul (by omega) (by omega)
  omega
 refine aH (λhlt=>?_) (λhge=>?_)
 ·obtain ⟨m,hm⟩:∃ m,j.v.mem.tail[i]?=some m:=⟨_,List.getElem?_eq_getElem (by omega)⟩
  have hmb:=hg.boot m (List.mem_of_mem_tail (List.mem_of_getElem? hm))
  have hbt:I64 m.Boot:=by unfold I64;omega
  have etk:((j.v.mem.tail.take (i+1)).map (memV j)).flatten=((j.v.mem.tail.take i).map (memV j)).flatten++memV j m:=by
   rw [List.take_add_one,hm]
   simp
  refine ez (cells:=aE.cells) aE.len (by omega) (hbr.new hnz) hm rfl (by omega) λb o hcc _=>aE.mk_ex m ⟨hcc,?_⟩
  refine gF (vs:=m.cells) rfl (aE.single _) λb3 z2 hb3 hz3 hn3=>⟨_,_,_,(hcz.new' hn3).blk.cell (i:=6) rfl,?_⟩
  have hs3:=hn3.size
  rw [w64 (x:=(i:Int)+1) (by omega) (by omega)]
  refine aH (λhw=>?_) (λhw=>?_)
  ·have hw0:j.writes≠[]:=λe=>by rw [e] at hlen;simp at hlen <;> omega
   obtain ⟨_,hsq⟩:=hg.wr hw0
   refine aE.mk_ex m ⟨aI hz3 rfl,?_⟩
   refine aF (xJ (hcz.new' hn3) hd hbt) ?_
   rintro v z4 ⟨ga,gc,rfl,hvp,hn4⟩
   refine ⟨_,_,_,rfl,?_⟩
   have hpal:∀ k,isB pa k→k<z2.heap.size:=λk hk=>by
    obtain ⟨raws,ho,_⟩:=hvb.ex
    have:=ho.lt hk
    omega
   refine VB.app_e ((hvb.new hn3).new hn4) ((hnz.new hn3).new hn4) hvp hpal (by omega) (by omega) λap cap' z5 h5 hk5 hn5=>?_
   have hcz5:fN w0 z5 cb tb r m0 j:=((hcz.new' hn3).new' hn4).keep hk5 λk hk=>by
    have h9:=hvb.fr k hk
    have h10:=hc2.new.size
    refine ⟨by omega,λe=>?_⟩
    obtain ⟨raws,ho,_⟩:=hvb.ex
    obtain ⟨cs,hcs⟩:=dU ho hk
    exact absurd (e▸hcs |>.ne hcz.blk (by decide)) (λhh=>hh rfl)
   have hz35:Blk z5 b3 m.cells TMb:=hk5.blk (New.blk hn4 hz3) λe=>by
    obtain ⟨raws,ho,_⟩:=hvb.ex
    have:=ho.lt e
    omega
   refine aE.mk_ex m ⟨aI hz35 rfl,?_⟩
   refine aF (xI hcz5 hsq hbt) ?_
   rintro v z6 ⟨v',rfl,hv',hn6⟩
   refine aJ.mk_ex v' ⟨rfl,?_⟩
   rintro b4 z7 hb4 hz7
   refine VB.push_e h5 hn5 hn6 hv' (by omega) hb4 hz7 λap2 cap2 z8 h8 hk8 hn8=>?_
   have e8:((j.v.mem.tail.take i).map (memV j)).flatten++j.writes.map (nB j m)++[l5 j m]=((j.v.mem.tail.take (i+1)).map (memV j)).flatten:=by
    rw [etk]
    unfold memV
    rw [if_neg hw0,List.append_assoc]
   rw [e8] at h8
   exact ⟨j.v.mem.tail.length - (i+1),by omega,i+1,_,ap2,cap2,_,rfl,by omega,rfl,hn8,h8⟩
  ·have hw0:j.writes=[]:=List.eq_nil_of_length_eq_zero (by omega)
   refine ⟨j.v.mem.tail.length - (i+1),by omega,i+1,n,pa,pc,_,rfl,by omega,rfl,hnz.new hn3,?_⟩
   have e8:memV j m=[]:=by unfold memV;rw [if_pos hw0]
   rw [etk,e8,List.append_nil]
   exact hvb.new hn3
 ·have hil:i=j.v.mem.tail.length:=by omega
  subst hil
  rw [iL]
  rw [List.take_length] at hvb
  have hvb:VB u2 z pa n pc (fU j):=hvb
  have hvl2:=hvb.len
  have hn2z:=(hn1.new hn2).new hnz
  have hcall:=tD (A:=A) hcz (hT.new hn2z) hcl hc2.new (w1:=u2) (by omega) hvb (by omega) 3
  refine aF hcall ?_
  rintro v u4 ⟨da,dc,raw,rfl,hsp,_⟩
  refine ⟨_,_,_,aA.mk_ex ⟨(mE j G).out.1,(mE j G).out.2⟩ ⟨(mE j G).ok,rfl,?_⟩⟩
  have hz4:Blk u4 b1 (aA.cells ⟨0,0⟩) TCO:=hsp.keep.blk (New.blk (hn2.new hnz) hz1) (by omega)
  refine EY hz4 rfl _ λu5 u6 hn5 hk6=>⟨rfl,hsp.put hn2z hn5 hk6 (by omega) (by omega) (by omega) (by omega)⟩
end Go.Proofs.YtgpmeaicjonenaaGreat
