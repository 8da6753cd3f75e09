import Derived.Test.YtegepanmkjemjaaGreatq30
import Derived.Test.YtegepanmkjemjaaGreatq31
set_option linter.unusedVariables false
namespace Go.Proofs.YtegepanmkjemjaaGreat
open Go.Eng
structure CO (j:CJob):Prop where
 client:0≤j.client∧j.client<6
 num:0≤j.v.number∧j.v.number<16
 mem:0<j.v.mem.length∧j.v.mem.length≤5
 boot:∀ m ∈ j.v.mem,1≤m.Boot∧m.Boot≤31
 wfew:j.writes.length≤12
 rfew:j.reads.length≤24
 wr:j.writes≠[]→jW j.seq j.writes 256=0∧1≤j.seq∧j.seq<1073741824
 wl:∀ p ∈ j.writes,96≤p.Line∧p.Line<256
 wh:∀ p ∈ j.writes,unl p.Head=true∧lF p.Head=true
 rl:∀ s ∈ j.reads,96≤s.Line∧s.Line<256
theorem k4 {seq lines:Int} {W:List aG} (h:jW seq W lines=0):(98≤lines∧lines≤256)∧(1≤seq∧seq<1073741824∧1≤W.length∧W.length≤12)∧(∀ p ∈ W,96≤p.Line∧p.Line<lines)∧(∀ p ∈ W,unl p.Head=true∧lF p.Head=true)∧(W.all λp=>jV p.Line lines)=true∧(List.range W.length).all (λi=>ascP W i && mE (W.getD i noP))=true:=by
 unfold jW at h
 split at h
 ·omega
 rename_i h1
 split at h
 ·omega
 rename_i h2
 split at h
 ·omega
 rename_i h3
 split at h
 ·omega
 rename_i h4
 have h3:(W.all λp=>jV p.Line lines)=true:=Bool.not_eq_false _▸h3
 have h4:(List.range W.length).all (λi=>ascP W i && mE (W.getD i noP))=true:=Bool.not_eq_false _▸h4
 refine ⟨by omega,by omega,λp hp=>?_,λp hp=>?_,h3,h4⟩
 ·have:=List.all_eq_true.1 h3 p hp
  unfold jV at this
  have:=of_decide_eq_true this
  omega
 ·obtain ⟨i,hi⟩:=List.getElem?_of_mem hp
  have hlt:=aV hi
  have:=List.all_eq_true.1 h4 i (List.mem_range.2 hlt)
  rw [mC hi] at this
  unfold mE at this
  simp only [Bool.and_eq_true] at this
  exact ⟨this.2.2,this.2.1⟩
theorem wM {seq lines:Int} {W:List aG} (h:jW seq W lines=0):jW seq W 256=0:=by
 obtain ⟨h1,h2,h3,_,h5,h6⟩:=k4 h
 have h5':(W.all λp=>jV p.Line 256)=true:=List.all_eq_true.2 λp hp=>by
  have:=h3 p hp
  unfold jV
  exact decide_eq_true (by omega)
 unfold jW
 rw [if_neg (by omega),if_neg (by omega),if_neg (by rw [h5'];simp),if_neg (by rw [h6];simp)]
theorem CP {n:Nat} {l:List aC} (h:(List.range l.length).all (oX n l)=true):l.length≤n:=by
 have key:∀ i,i<l.length→(i:Int)≤(l.getD i noM).Node∧(l.getD i noM).Node<n:=by
  intro i
  induction i with
  |zero=>
   intro hi
   have:=List.all_eq_true.1 h 0 (List.mem_range.2 hi)
   unfold oX at this
   simp at this ⊢
   omega
  |succ i ih=>
   intro hi
   have h1:=ih (by omega)
   have:=List.all_eq_true.1 h (i+1) (List.mem_range.2 hi)
   unfold oX at this
   simp at this h1 ⊢
   omega
 rcases Nat.eq_zero_or_pos l.length with h0 | h0
 ·omega
 ·have:=key (l.length - 1) (by omega)
  omega
theorem BC {j:CJob} (h:j.valid=0):CO j:=by
 unfold CJob.valid at h
 split at h
 ·omega
 rename_i h1
 split at h
 ·omega
 rename_i h2
 have h2:j.v.valid 5=0:=by omega
 split at h
 ·omega
 rename_i h3
 split at h
 ·omega
 rename_i h4
 split at h
 ·omega
 rename_i h5
 split at h
 ·omega
 rename_i h6
 split at h
 ·omega
 rename_i h7
 have h6:(j.reads.all λs=>jV s.Line j.lines)=true:=Bool.not_eq_false _▸h6
 have hw:j.writes≠[]→jW j.seq j.writes j.lines=0:=λhne=>by
  have:=List.length_pos_iff.2 hne
  by_cases e:jW j.seq j.writes j.lines=0
  ·exact e
  ·exact absurd ⟨this,e⟩ h4
 unfold Vw.valid at h2
 split at h2
 ·omega
 rename_i g1
 split at h2
 ·omega
 rename_i g2
 split at h2
 ·omega
 rename_i g3
 split at h2
 ·omega
 rename_i g4
 split at h2
 ·omega
 rename_i g5
 have g5:j.v.mem.all oY=true:=by simpa using g5
 have g4:(List.range j.v.mem.length).all (oX (5:Nat) j.v.mem)=true:=Bool.not_eq_false _▸g4
 have g6:=CP g4
 have emp:∀ {P:aG→Prop},(j.writes≠[]→∀ p ∈ j.writes,P p)→∀ p ∈ j.writes,P p:=λhh p hp=>hh (List.ne_nil_of_mem hp) p hp
 refine ⟨by omega,by omega,by omega,λm hm=>?_,?_,by omega,λhne=>?_,emp λhne p hp=>?_,emp λhne p hp=>(k4 (hw hne)).2.2.2.1 p hp,λs hs=>?_⟩
 ·have:=List.all_eq_true.1 g5 m hm
  unfold oY at this
  exact of_decide_eq_true this
 ·by_cases e:j.writes=[]
  ·rw [e];simp
  ·exact (k4 (hw e)).2.1.2.2.2
 ·obtain ⟨_,h2,_⟩:=k4 (hw hne)
  exact ⟨wM (hw hne),h2.1,h2.2.1⟩
 ·obtain ⟨h1,_,h3,_⟩:=k4 (hw hne)
  have:=h3 p hp
  omega
 ·have:=List.all_eq_true.1 h6 s hs
  unfold jV at this
  have:=of_decide_eq_true this
  omega
abbrev TCm:TypeId:=202
abbrev TCO:TypeId:=162
abbrev TUw:TypeId:=43
def comC (r:aL) (tb:Nat) (m:aC):List Value:=r.cells++(ptr tb::m.cells)
structure eX (w0 u:World) (cb tb:Nat) (r:aL) (m:aC) (j:CJob):Prop where
 blk:Blk u cb (comC r tb m) TCm
 job:pT w0 r j
 good:CO j
 mem:j.v.mem[0]?=some m
 new:New w0 u
 cbl:w0.heap.size≤cb
 tbl:w0.heap.size≤tb
 ne:cb≠tb
theorem eX.new' {w0 u u':World} {cb tb:Nat} {r:aL} {m:aC} {j:CJob} (h:eX w0 u cb tb r m j) (hn:New u u'):eX w0 u' cb tb r m j:=
 ⟨New.blk hn h.blk,h.job,h.good,h.mem,h.new.new hn,h.cbl,h.tbl,h.ne⟩
theorem eX.keep {w0 u u':World} {cb tb:Nat} {r:aL} {m:aC} {j:CJob} (h:eX w0 u cb tb r m j) {M:Nat→Prop} (hk:Keep M u u') (hM:∀ k,M k→w0.heap.size≤k∧k≠cb):eX w0 u' cb tb r m j:=
 ⟨hk.blk h.blk λe=>(hM _ e).2 rfl,h.job,h.good,h.mem,h.new.trans hk λk hlt e=>by have:=(hM k e).1;omega,h.cbl,h.tbl,h.ne⟩
theorem eX.num {w0 u:World} {cb tb:Nat} {r:aL} {m:aC} {j:CJob} (h:eX w0 u cb tb r m j):r.View.Number=j.v.number:=by
 obtain ⟨M,hv⟩:=h.job.view
 exact hv.num
theorem k5 {w0 w:World} {cb tb:Nat} {r:aL} {m0:aC} {j:CJob} (h:eX w0 w cb tb r m0 j) {m:aC} (hbt:I64 m.Boot) {M:Nat→Prop} {v:aK} {x:Verb} (hv:bG M w v x) :
  Does 183 [ptr cb,m.val,v.val] w λy w'=>∃ v':aK,y=v'.val∧bG (λk=>k<w.heap.size) w' v' (addr j.v.number m x)∧New w w':=by
 refine does Tryz.func183 ?_
 rw [ptr,jY]
 rintro b1 w1 hb1 hw1
 obtain ⟨hz1,hn1⟩:=aM hb1 hw1
 have hz1:Blk w1 b1 m.cells TMb:=hz1
 clear hw1
 rintro b2 w2 hb2 hw2
 obtain ⟨hz2,hn2⟩:=aM hb2 hw2
 have hz2:Blk w2 b2 v.cells TV:=hz2
 clear hw2
 rintro b3 w3 hb3 hw3
 obtain ⟨hz3,hn3⟩:=aM hb3 hw3
 have hz3:Blk w3 b3 (aK.cells ⟨0,0,0,0,0,0,none,0,0,0,0⟩) TV:=hz3
 clear hw3
 rintro w4 hw4
 have hn4:New w3 w4:=by rw [hw4];exact aT _
 clear hw4
 have hn04:=((hn1.new hn2).new hn3).new hn4
 have hs1:=hn1.size
 have hs2:=hn2.size
 have hs3:=hn3.size
 have hs4:=hn4.size
 have h4:=h.new' hn04
 have hnum:=h.num
 have hg:=h.good.num
 refine ⟨λy=>New w4 y,Keep.refl _ _,aN.mk_ex r.View ⟨λy hy=>aJ (New.blk hy h4.blk) rfl,aC.mk_ex m ⟨λy hy=>aJ (New.blk (((hn2.new hn3).new hn4).new hy) hz1) rfl,aK.mk_ex v ⟨λy hy=>aJ (New.blk ((hn3.new hn4).new hy) hz2) rfl,?_⟩⟩⟩⟩
 refine aE (wL w4 (by omega) (by omega) hbt (hv.keep (Keep.of_new hn04) λ_ _ e=>e)) ?_
 rintro y w5 ⟨v',rfl,hv',hn5⟩
 refine aK.mk_ex v' ⟨rfl,fN (New.blk (hn4.new hn5) hz3) rfl (aK.single _) λw6 hz6 hk6=>?_⟩
 have hb3l:=hz3.lt
 refine aK.mk_ex v' ⟨aJ hz6 rfl,rfl,v',rfl,?_,(hn04.new hn5).trans hk6 λk hlt e=>by omega⟩
 rw [hnum] at hv'
 have hv6:bG (λk=>k<w4.heap.size) w6 v' (addr j.v.number m x):=hv'.keep (hk6.mono λk _ e=>by omega) λ_ _ e=>e
 exact hv6.keep (Keep.refl _ _) λk _ e=>by omega
theorem bG.mono {M M':Nat→Prop} {w:World} {v:aK} {x:Verb} (h:bG M w v x) (hM:∀ k,M' k→M k):bG M' w v x:=h.keep (Keep.refl _ _) λk _ e=>hM k e
theorem qY {w:World} {k at_ nn old new:Int} {a:Option Addr} {n c:Nat} {ws:List Int} (hr:Rd w a (us ws)) (hn:n=ws.length) (hc:n≤c) (hna:a=none→ws=[]) (hu:∀ x ∈ ws,U64 x) (hl:ws.length≤1000000) (ho:U64 old) (hnw:U64 new) :
  bG (λ_=>False) w ⟨k,0,at_,nn,old,new,a,n,c,0,0⟩ ⟨k,0,at_,nn,old,new,ws,0,0⟩:=by
 subst hn
 refine ⟨rfl,hr,hna,.inr ?_,hu,hnw,ho,?_,?_,hc,hl⟩
 ·cases a with
  |none=>trivial
  |some a=>exact id
 ·have hz:U64 0:=⟨by decide,by decide⟩
  exact hz
 ·have hz:I64 0:=⟨by decide,by decide⟩
  exact hz
def mG (j:CJob) (m:aC):Verb:=addr j.v.number m ⟨2,0,32+j.client,0,0,0,[j.seq],0,0⟩
def nW (j:CJob) (m:aC) (p:aG):Verb:=addr j.v.number m ⟨2,0,p.Line * 8,0,0,0,appL p,0,0⟩
theorem u0:U64 0:=⟨by decide,by decide⟩
set_option maxRecDepth 20000 in
set_option maxHeartbeats 1000000 in
theorem vG {w0 w:World} {cb tb:Nat} {r:aL} {m0:aC} {j:CJob} (h:eX w0 w cb tb r m0 j) (hsq:1≤j.seq∧j.seq<1073741824) {m:aC} (hbt:I64 m.Boot) :
  Does 189 [ptr cb,m.val] w λy w'=>∃ v':aK,y=v'.val∧bG (λk=>k<w.heap.size) w' v' (mG j m)∧New w w':=by
 refine does Tryz.func189 ?_
 rw [ptr,kA]
 rintro b1 w1 hb1 hw1
 obtain ⟨hz1,hn1⟩:=aM hb1 hw1
 have hz1:Blk w1 b1 m.cells TMb:=hz1
 clear hw1
 rintro b2 w2 hb2 hw2
 obtain ⟨hz2,hn2⟩:=aM hb2 hw2
 have hz2:Blk w2 b2 (aK.cells ⟨0,0,0,0,0,0,none,0,0,0,0⟩) TV:=hz2
 clear hw2
 rintro w3 hw3
 have hn3:New w2 w3:=by rw [hw3];exact aT _
 clear hw3
 have hn03:=(hn1.new hn2).new hn3
 have hs1:=hn1.size
 have hs2:=hn2.size
 have hs3:=hn3.size
 have h3:=h.new' hn03
 have hc:=h.good.client
 have hcl:=h.job.client
 have hsl:=h.job.seq
 have hb2l:=hz2.lt
 refine ⟨λy=>New w3 y,Keep.refl _ _,aC.mk_ex m ⟨λy hy=>aJ (New.blk ((hn2.new hn3).new hy) hz1) rfl,⟨_,λy hy=>(New.blk hy h3.blk).cell (i:=0) rfl,_,λy hy=>(New.blk hy h3.blk).cell (i:=1) rfl,?_⟩⟩⟩
 rw [hcl,hsl,wu64 (x:=j.seq) (by omega) (by omega)]
 have fin:∀ {w5 w6:World} {v':aK},New w3 w5→New w5 w6→bG (λk=>k<w5.heap.size) w6 v' (mG j m)→
   (wrAt w6 ⟨b2,0,none⟩ 0 v'.cells∧∀ w7,w7=puts w6 ⟨b2,0,none⟩ 0 v'.cells→aK.ex λg=>aD w7 ⟨b2,0,none⟩ 0 g.cells∧w7=w7∧∃ v':aK,g.val=v'.val∧bG (λk=>k<w.heap.size) w7 v' (mG j m)∧New w w7):=by
  intro w5 w6 v' h35 h56 hv'
  have hs5:=h35.size
  refine fN (New.blk ((hn3.new h35).new h56) hz2) rfl (aK.single _) λw7 hz7 hk7=>?_
  refine aK.mk_ex v' ⟨aJ hz7 rfl,rfl,v',rfl,?_,((hn03.new h35).new h56).trans hk7 λk hlt e=>by omega⟩
  have hv7:bG (λk=>k<w5.heap.size) w7 v' (mG j m):=hv'.keep (hk7.mono λk _ e=>by omega) λ_ _ e=>e
  exact hv7.mono λk e=>by omega
 have seqv:∀ {w5:World} {b3:Nat},Blk w5 b3 [.int .u64 j.seq] TUw→bG (λ_=>False) w5 ⟨2,0,32+j.client,0,0,0,some ⟨b3,0,none⟩,1,1,0,0⟩ ⟨2,0,32+j.client,0,0,0,[j.seq],0,0⟩:=by
  intro w5 b3 hz5
  exact qY (eJ hz5 rfl) rfl (by omega) (λe=>by cases e) (λx hx=>by simp at hx;subst hx;unfold U64;omega) (by simp) u0 u0
 refine ⟨?_,?_⟩
 ·refine aE (yl w3 (by omega)) ?_
  rintro y w4 ⟨rfl,hn4⟩
  refine ⟨_,rfl,hn4,?_⟩
  rintro b3 w5 hb3 hw5
  obtain ⟨hz5,hn5⟩:=aM hb3 hw5
  clear hw5
  refine ⟨hn4.new hn5,?_⟩
  have hcall:=k5 (h3.new' (hn4.new hn5)) hbt (seqv hz5)
  refine aE hcall ?_
  rintro y w6 ⟨v',rfl,hv',hn6⟩
  exact aK.mk_ex v' ⟨rfl,(hn4.new hn5).new hn6,fin (hn4.new hn5) hn6 hv'⟩
 ·rintro b4 w8 hb4 hw8
  obtain ⟨hz8,hn8⟩:=aM hb4 hw8
  clear hw8
  refine ⟨hn8,?_⟩
  refine aE (yl w8 (by omega)) ?_
  rintro y w9 ⟨rfl,hn9⟩
  refine ⟨_,rfl,hn8.new hn9,?_⟩
  have hcall:=k5 (h3.new' (hn8.new hn9)) hbt (seqv (New.blk hn9 hz8))
  refine aE hcall ?_
  rintro y w10 ⟨v',rfl,hv',hn10⟩
  exact aK.mk_ex v' ⟨rfl,(hn8.new hn9).new hn10,fin (hn8.new hn9) hn10 hv'⟩
theorem CQ {p:aG} (h:∀ x ∈ datL p,U64 x):∀ x ∈ appL p,U64 x:=λx hx=>by
 unfold appL at hx
 rcases List.mem_cons.1 hx with rfl | hx
 ·exact Bx _
 ·exact h x hx
set_option maxRecDepth 20000 in
set_option maxHeartbeats 1000000 in
theorem vH {w0 w:World} {cb tb:Nat} {r:aL} {m0:aC} {j:CJob} (h:eX w0 w cb tb r m0 j) (hd:∀ p ∈ j.writes,∀ x ∈ datL p,U64 x) {m:aC} (hbt:I64 m.Boot) :
  Does 188 [ptr cb,m.val] w λy w'=>∃ (a:Option Addr) (cap:Nat),y=.slice a j.writes.length cap∧VB w w' a j.writes.length cap (j.writes.map (nW j m))∧New w w':=by
 refine does Tryz.func188 ?_
 rw [ptr,kz]
 rintro b1 w1 hb1 hw1
 obtain ⟨hz1,hn1⟩:=aM hb1 hw1
 have hz1:Blk w1 b1 m.cells TMb:=hz1
 clear hw1
 have h1:=h.new' hn1
 have hlen:=h.job.pg.len
 have hgw:=h.good.wfew
 have hs1:=hn1.size
 refine ⟨_,_,_,h1.blk.cell (i:=6) rfl,?_⟩
 refine aQ mix (λq env u=>∃ (i:Nat) (pa:Option Addr) (pc:Nat) (jj:List Value),q=j.writes.length - i∧i≤j.writes.length∧env=cL ⟨cb,0,none⟩ ⟨b1,0,none⟩ pa i pc r.Writes r.Writes_l r.Writes_c r.Writes_l i jj∧New w u∧VB w u pa i pc ((j.writes.take i).map (nW j m))∧Blk u b1 m.cells TMb∧eX w0 u cb tb r m0 j) j.writes.length
  ⟨0,none,0,_,rfl,by omega,rfl,hn1,VB.nil _ _,hz1,h1⟩ ?_
 rintro q env u ⟨i,pa,pc,jj,rfl,hi,rfl,hnu,hvb,hz1,hcu⟩
 rw [gP,hlen]
 have hnwu:New w0 u:=h.new.new hnu
 refine aH (λhlt=>?_) (λhge=>?_)
 ·obtain ⟨p,hp⟩:∃ p,j.writes[i]?=some p:=⟨_,List.getElem?_eq_getElem (by omega)⟩
  have hpm:=List.mem_of_getElem? hp
  have hpl:=h.good.wl p hpm
  have hph:=h.good.wh p hpm
  have hpu:=h.job.pg.u64 p hpm
  refine eS (cells:=aG.cells) aG.len (by omega) (h.job.pg.rd.new hnwu) hp rfl rfl λb o hcc _=>aG.mk_ex p ⟨hcc,?_⟩
  refine gF (vs:=p.cells) rfl (aG.single _) λb3 u2 hb3 hz3 hn2=>?_
  refine aG.mk_ex p ⟨aJ hz3 rfl,?_⟩
  refine aE (ym u2 p hpu hph.2) ?_
  rintro y u3 ⟨aa,ac,rfl,hn3,hao,haf⟩
  refine ⟨_,_,_,_,rfl,?_⟩
  rintro u4 hw4
  have hn4:New u3 u4:=by rw [hw4];exact aT _
  clear hw4
  have hn24:=hn3.new hn4
  have hnu4:=(hn2.new hn3).new hn4
  refine ⟨λy=>Blk y b3 p.cells TPg∧Blk y b1 m.cells TMb,⟨New.blk hn24 hz3,New.blk hnu4 hz1⟩,aC.mk_ex m ⟨λy hy=>aJ hy.2 rfl,_,λy hy=>hy.1.cell (i:=0) rfl,?_⟩⟩
  refine aE (vu u4 hpl.1 hpl.2) ?_
  rintro y u5 ⟨rfl,rfl⟩
  refine ⟨_,rfl,⟨New.blk hn24 hz3,New.blk hnu4 hz1⟩,?_⟩
  have hva:bG (λ_=>False) u5 ⟨2,0,p.Line * 8,0,0,0,aa,8,ac,0,0⟩ ⟨2,0,p.Line * 8,0,0,0,appL p,0,0⟩:=qY (Owns.new hn4 hao).rd (by rfl) (Owns.le hao) (λe=>by
   obtain ⟨_,ha⟩:=hao
   rcases ha with ⟨hn,_,_⟩ | ⟨g,cur,hg,_⟩
   ·omega
   ·rw [hg] at e;cases e) (CQ (hd p hpm)) (by simp [appL,datL]) u0 u0
  have hcall:=k5 (hcu.new' hnu4) hbt hva
  refine aE hcall ?_
  rintro y u6 ⟨v',rfl,hv',hn6⟩
  have hn46:=hnu4.new hn6
  refine aK.mk_ex v' ⟨rfl,⟨New.blk (hn24.new hn6) hz3,New.blk hn46 hz1⟩,?_⟩
  have hvb4:=hvb.new hnu4
  rintro b5 u7 hb5 hw7
  have hn7:New u6 u7:=by rw [hw7];exact dA _ _
  refine ⟨⟨New.blk ((hn24.new hn6).new hn7) hz3,New.blk (hn46.new hn7) hz1⟩,?_⟩
  have hb3l:=hz3.lt
  have hb1l:=hz1.lt
  have hpas:∀ k,isB pa k→k<u.heap.size:=λk hk=>by
   obtain ⟨raws,ho,_⟩:=hvb.ex
   exact ho.lt hk
  have hs2:=hn2.size
  refine VB.push_e hvb4 (hnu.new hnu4) hn6 hv' (by omega) hb5 hw7 λap cap' u8 h8 hk8 hn8=>?_
  have hpa1:¬ isB pa b1:=λe=>by
   have h9:=hvb.ex
   obtain ⟨raws,ho,_⟩:=h9
   obtain ⟨cs,hcs⟩:=et ho e
   exact absurd (hcs.ne hz1 (by decide)) (λhh=>hh rfl)
  have y1:Blk u8 b1 m.cells TMb:=hk8.blk (New.blk hn46 hz1) hpa1
  refine ⟨⟨hk8.blk (New.blk (hn24.new hn6) hz3) λe=>by have:=hpas _ e;omega,y1⟩,?_⟩
  rw [w64 (x:=(i:Int)+1) (by omega) (by omega)]
  have e:(j.writes.take i).map (nW j m)++[addr j.v.number m ⟨2,0,p.Line * 8,0,0,0,appL p,0,0⟩]=(j.writes.take (i+1)).map (nW j m):=by
   rw [List.take_add_one,hp]
   simp [nW]
  rw [e] at h8
  refine ⟨j.writes.length - (i+1),by omega,i+1,ap,cap',_,rfl,by omega,by rw [←hlen];rfl,hn8,h8,y1,(hcu.new' hn46).keep hk8 λk hk=>?_⟩
  have h9:=hvb.fr k hk
  have h10:=h.new.size
  refine ⟨by omega,λe=>?_⟩
  obtain ⟨raws,ho,_⟩:=hvb.ex
  obtain ⟨cs,hcs⟩:=et ho hk
  exact absurd (e▸hcs |>.ne hcu.blk (by decide)) (λhh=>hh rfl)
 ·have hil:i=j.writes.length:=by omega
  subst hil
  rw [iQ]
  rw [List.take_length] at hvb
  exact ⟨pa,pc,rfl,hvb,hnu⟩
end Go.Proofs.YtegepanmkjemjaaGreat
