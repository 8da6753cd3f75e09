import Derived.Test.YtgpmeaicjonenaaGreata21
set_option linter.unusedVariables false
namespace Go.Proofs.YtgpmeaicjonenaaGreat
open Go.Eng
structure EV (j:CJob):Prop where
 client:0≤j.client∧j.client<6
 num:0≤j.v.number∧j.v.number<16
 mem:0<j.v.mem.length∧j.v.mem.length≤5
 boot:∀ m ∈ j.v.mem,1≤m.Boot∧m.Boot≤31
 wfew:j.writes.length≤12
 rfew:j.reads.length≤24
 wr:j.writes≠[]→jS j.seq j.writes 256=0∧1≤j.seq∧j.seq<1073741824
 wl:∀ p ∈ j.writes,96≤p.Line∧p.Line<256
 wh:∀ p ∈ j.writes,unl p.Head=true∧lU p.Head=true
 rl:∀ s ∈ j.reads,96≤s.Line∧s.Line<256
theorem lZ {seq lines:Int} {W:List aG} (h:jS seq W lines=0):(98≤lines∧lines≤256)∧(1≤seq∧seq<1073741824∧1≤W.length∧W.length≤12)∧(∀ p ∈ W,96≤p.Line∧p.Line<lines)∧(∀ p ∈ W,unl p.Head=true∧lU p.Head=true)∧(W.all λp=>fR p.Line lines)=true∧(List.range W.length).all (λi=>ascP W i && kF (W.getD i noP))=true:=by
 unfold jS at h
 split at h
 ·omega
 rename_i h1
 split at h
 ·omega
 rename_i h2
 split at h
 ·omega
 rename_i h3
 split at h
 ·omega
 rename_i h4
 have h3:(W.all λp=>fR p.Line lines)=true:=Bool.not_eq_false _▸h3
 have h4:(List.range W.length).all (λi=>ascP W i && kF (W.getD i noP))=true:=Bool.not_eq_false _▸h4
 refine ⟨by omega,by omega,λp hp=>?_,λp hp=>?_,h3,h4⟩
 ·have:=List.all_eq_true.1 h3 p hp
  unfold fR at this
  have:=of_decide_eq_true this
  omega
 ·obtain ⟨i,hi⟩:=List.getElem?_of_mem hp
  have hlt:=aN hi
  have:=List.all_eq_true.1 h4 i (List.mem_range.2 hlt)
  rw [li hi] at this
  unfold kF at this
  simp only [Bool.and_eq_true] at this
  exact ⟨this.2.2,this.2.1⟩
theorem yR {seq lines:Int} {W:List aG} (h:jS seq W lines=0):jS seq W 256=0:=by
 obtain ⟨h1,h2,h3,_,h5,h6⟩:=lZ h
 have h5':(W.all λp=>fR p.Line 256)=true:=List.all_eq_true.2 λp hp=>by
  have:=h3 p hp
  unfold fR
  exact decide_eq_true (by omega)
 unfold jS
 rw [if_neg (by omega),if_neg (by omega),if_neg (by rw [h5'];simp),if_neg (by rw [h6];simp)]
theorem EW {n:Nat} {l:List aE} (h:(List.range l.length).all (pr n l)=true):l.length≤n:=by
 have key:∀ i,i<l.length→(i:Int)≤(l.getD i noM).Node∧(l.getD i noM).Node<n:=by
  intro i
  induction i with
  |zero=>
   intro hi
   have:=List.all_eq_true.1 h 0 (List.mem_range.2 hi)
   unfold pr at this
   simp at this ⊢
   omega
  |succ i ih=>
   intro hi
   have h1:=ih (by omega)
   have:=List.all_eq_true.1 h (i+1) (List.mem_range.2 hi)
   unfold pr at this
   simp at this h1 ⊢
   omega
 rcases Nat.eq_zero_or_pos l.length with h0 | h0
 ·omega
 ·have:=key (l.length - 1) (by omega)
  omega
theorem DT {j:CJob} (h:j.valid=0):EV j:=by
 unfold CJob.valid at h
 split at h
 ·omega
 rename_i h1
 split at h
 ·omega
 rename_i h2
 have h2:j.v.valid 5=0:=by omega
 split at h
 ·omega
 rename_i h3
 split at h
 ·omega
 rename_i h4
 split at h
 ·omega
 rename_i h5
 split at h
 ·omega
 rename_i h6
 split at h
 ·omega
 rename_i h7
 have h6:(j.reads.all λs=>fR s.Line j.lines)=true:=Bool.not_eq_false _▸h6
 have hw:j.writes≠[]→jS j.seq j.writes j.lines=0:=λhne=>by
  have:=List.length_pos_iff.2 hne
  by_cases e:jS j.seq j.writes j.lines=0
  ·exact e
  ·exact absurd ⟨this,e⟩ h4
 unfold Vw.valid at h2
 split at h2
 ·omega
 rename_i g1
 split at h2
 ·omega
 rename_i g2
 split at h2
 ·omega
 rename_i g3
 split at h2
 ·omega
 rename_i g4
 split at h2
 ·omega
 rename_i g5
 have g5:j.v.mem.all mT=true:=by simpa using g5
 have g4:(List.range j.v.mem.length).all (pr (5:Nat) j.v.mem)=true:=Bool.not_eq_false _▸g4
 have g6:=EW g4
 have emp:∀ {P:aG→Prop},(j.writes≠[]→∀ p ∈ j.writes,P p)→∀ p ∈ j.writes,P p:=λhh p hp=>hh (List.ne_nil_of_mem hp) p hp
 refine ⟨by omega,by omega,by omega,λm hm=>?_,?_,by omega,λhne=>?_,emp λhne p hp=>?_,emp λhne p hp=>(lZ (hw hne)).2.2.2.1 p hp,λs hs=>?_⟩
 ·have:=List.all_eq_true.1 g5 m hm
  unfold mT at this
  exact of_decide_eq_true this
 ·by_cases e:j.writes=[]
  ·rw [e];simp
  ·exact (lZ (hw e)).2.1.2.2.2
 ·obtain ⟨_,h2,_⟩:=lZ (hw hne)
  exact ⟨yR (hw hne),h2.1,h2.2.1⟩
 ·obtain ⟨h1,_,h3,_⟩:=lZ (hw hne)
  have:=h3 p hp
  omega
 ·have:=List.all_eq_true.1 h6 s hs
  unfold fR at this
  have:=of_decide_eq_true this
  omega
abbrev TCm:TypeId:=237
abbrev TCO:TypeId:=188
abbrev TUw:TypeId:=30
def comC (r:aL) (tb:Nat) (m:aE):List Value:=r.cells++(ptr tb::m.cells)
structure fN (w0 u:World) (cb tb:Nat) (r:aL) (m:aE) (j:CJob):Prop where
 blk:Blk u cb (comC r tb m) TCm
 job:qT w0 r j
 good:EV j
 mem:j.v.mem[0]?=some m
 new:New w0 u
 cbl:w0.heap.size≤cb
 tbl:w0.heap.size≤tb
 ne:cb≠tb
theorem fN.new' {w0 u u':World} {cb tb:Nat} {r:aL} {m:aE} {j:CJob} (h:fN w0 u cb tb r m j) (hn:New u u'):fN w0 u' cb tb r m j:=
 ⟨New.blk hn h.blk,h.job,h.good,h.mem,h.new.new hn,h.cbl,h.tbl,h.ne⟩
theorem fN.keep {w0 u u':World} {cb tb:Nat} {r:aL} {m:aE} {j:CJob} (h:fN w0 u cb tb r m j) {M:Nat→Prop} (hk:Keep M u u') (hM:∀ k,M k→w0.heap.size≤k∧k≠cb):fN w0 u' cb tb r m j:=
 ⟨hk.blk h.blk λe=>(hM _ e).2 rfl,h.job,h.good,h.mem,h.new.trans hk λk hlt e=>by have:=(hM k e).1;omega,h.cbl,h.tbl,h.ne⟩
theorem fN.num {w0 u:World} {cb tb:Nat} {r:aL} {m:aE} {j:CJob} (h:fN w0 u cb tb r m j):r.View.Number=j.v.number:=by
 obtain ⟨M,hv⟩:=h.job.view
 exact hv.num
theorem l4 {w0 w:World} {cb tb:Nat} {r:aL} {m0:aE} {j:CJob} (h:fN w0 w cb tb r m0 j) {m:aE} (hbt:I64 m.Boot) {M:Nat→Prop} {v:aJ} {x:Verb} (hv:bI M w v x) :
  Does 234 [ptr cb,m.val,v.val] w λy w'=>∃ v':aJ,y=v'.val∧bI (λk=>k<w.heap.size) w' v' (addr j.v.number m x)∧New w w':=by
 refine does Tryz.func234 ?_
 rw [ptr,kG]
 rintro b1 w1 hb1 hw1
 obtain ⟨hz1,hn1⟩:=aO hb1 hw1
 have hz1:Blk w1 b1 m.cells TMb:=hz1
 clear hw1
 rintro b2 w2 hb2 hw2
 obtain ⟨hz2,hn2⟩:=aO hb2 hw2
 have hz2:Blk w2 b2 v.cells TV:=hz2
 clear hw2
 rintro b3 w3 hb3 hw3
 obtain ⟨hz3,hn3⟩:=aO hb3 hw3
 have hz3:Blk w3 b3 (aJ.cells ⟨0,0,0,0,0,0,none,0,0,0,0⟩) TV:=hz3
 clear hw3
 rintro w4 hw4
 have hn4:New w3 w4:=by rw [hw4];exact aU _
 clear hw4
 have hn04:=((hn1.new hn2).new hn3).new hn4
 have hs1:=hn1.size
 have hs2:=hn2.size
 have hs3:=hn3.size
 have hs4:=hn4.size
 have h4:=h.new' hn04
 have hnum:=h.num
 have hg:=h.good.num
 refine ⟨λy=>New w4 y,Keep.refl _ _,aM.mk_ex r.View ⟨λy hy=>aI (New.blk hy h4.blk) rfl,aE.mk_ex m ⟨λy hy=>aI (New.blk (((hn2.new hn3).new hn4).new hy) hz1) rfl,aJ.mk_ex v ⟨λy hy=>aI (New.blk ((hn3.new hn4).new hy) hz2) rfl,?_⟩⟩⟩⟩
 refine aF (tC w4 (by omega) (by omega) hbt (hv.keep (Keep.of_new hn04) λ_ _ e=>e)) ?_
 rintro y w5 ⟨v',rfl,hv',hn5⟩
 refine aJ.mk_ex v' ⟨rfl,il (New.blk (hn4.new hn5) hz3) rfl (aJ.single _) λw6 hz6 hk6=>?_⟩
 have hb3l:=hz3.lt
 refine aJ.mk_ex v' ⟨aI hz6 rfl,rfl,v',rfl,?_,(hn04.new hn5).trans hk6 λk hlt e=>by omega⟩
 rw [hnum] at hv'
 have hv6:bI (λk=>k<w4.heap.size) w6 v' (addr j.v.number m x):=hv'.keep (hk6.mono λk _ e=>by omega) λ_ _ e=>e
 exact hv6.keep (Keep.refl _ _) λk _ e=>by omega
theorem bI.mono {M M':Nat→Prop} {w:World} {v:aJ} {x:Verb} (h:bI M w v x) (hM:∀ k,M' k→M k):bI M' w v x:=h.keep (Keep.refl _ _) λk _ e=>hM k e
theorem qD {w:World} {k at_ nn old new:Int} {a:Option Addr} {n c:Nat} {ws:List Int} (hr:Rd w a (us ws)) (hn:n=ws.length) (hc:n≤c) (hna:a=none→ws=[]) (hu:∀ x ∈ ws,U64 x) (hl:ws.length≤1000000) (ho:U64 old) (hnw:U64 new) :
  bI (λ_=>False) w ⟨k,0,at_,nn,old,new,a,n,c,0,0⟩ ⟨k,0,at_,nn,old,new,ws,0,0⟩:=by
 subst hn
 refine ⟨rfl,hr,hna,.inr ?_,hu,hnw,ho,?_,?_,hc,hl⟩
 ·cases a with
  |none=>trivial
  |some a=>exact id
 ·have hz:U64 0:=⟨by decide,by decide⟩
  exact hz
 ·have hz:I64 0:=⟨by decide,by decide⟩
  exact hz
def l5 (j:CJob) (m:aE):Verb:=addr j.v.number m ⟨2,0,32+j.client,0,0,0,[j.seq],0,0⟩
def nB (j:CJob) (m:aE) (p:aG):Verb:=addr j.v.number m ⟨2,0,p.Line * 8,0,0,0,appL p,0,0⟩
theorem u0:U64 0:=⟨by decide,by decide⟩
set_option maxRecDepth 20000 in
set_option maxHeartbeats 1000000 in
theorem xI {w0 w:World} {cb tb:Nat} {r:aL} {m0:aE} {j:CJob} (h:fN w0 w cb tb r m0 j) (hsq:1≤j.seq∧j.seq<1073741824) {m:aE} (hbt:I64 m.Boot) :
  Does 240 [ptr cb,m.val] w λy w'=>∃ v':aJ,y=v'.val∧bI (λk=>k<w.heap.size) w' v' (l5 j m)∧New w w':=by
 refine does Tryz.func240 ?_
 rw [ptr,lv]
 rintro b1 w1 hb1 hw1
 obtain ⟨hz1,hn1⟩:=aO hb1 hw1
 have hz1:Blk w1 b1 m.cells TMb:=hz1
 clear hw1
 rintro b2 w2 hb2 hw2
 obtain ⟨hz2,hn2⟩:=aO hb2 hw2
 have hz2:Blk w2 b2 (aJ.cells ⟨0,0,0,0,0,0,none,0,0,0,0⟩) TV:=hz2
 clear hw2
 rintro w3 hw3
 have hn3:New w2 w3:=by rw [hw3];exact aU _
 clear hw3
 have hn03:=(hn1.new hn2).new hn3
 have hs1:=hn1.size
 have hs2:=hn2.size
 have hs3:=hn3.size
 have h3:=h.new' hn03
 have hc:=h.good.client
 have hcl:=h.job.client
 have hsl:=h.job.seq
 have hb2l:=hz2.lt
 refine ⟨λy=>New w3 y,Keep.refl _ _,aE.mk_ex m ⟨λy hy=>aI (New.blk ((hn2.new hn3).new hy) hz1) rfl,⟨_,λy hy=>(New.blk hy h3.blk).cell (i:=0) rfl,_,λy hy=>(New.blk hy h3.blk).cell (i:=1) rfl,?_⟩⟩⟩
 rw [hcl,hsl,wu64 (x:=j.seq) (by omega) (by omega)]
 have fin:∀ {w5 w6:World} {v':aJ},New w3 w5→New w5 w6→bI (λk=>k<w5.heap.size) w6 v' (l5 j m)→
   (wrAt w6 ⟨b2,0,none⟩ 0 v'.cells∧∀ w7,w7=puts w6 ⟨b2,0,none⟩ 0 v'.cells→aJ.ex λg=>aC w7 ⟨b2,0,none⟩ 0 g.cells∧w7=w7∧∃ v':aJ,g.val=v'.val∧bI (λk=>k<w.heap.size) w7 v' (l5 j m)∧New w w7):=by
  intro w5 w6 v' h35 h56 hv'
  have hs5:=h35.size
  refine il (New.blk ((hn3.new h35).new h56) hz2) rfl (aJ.single _) λw7 hz7 hk7=>?_
  refine aJ.mk_ex v' ⟨aI hz7 rfl,rfl,v',rfl,?_,((hn03.new h35).new h56).trans hk7 λk hlt e=>by omega⟩
  have hv7:bI (λk=>k<w5.heap.size) w7 v' (l5 j m):=hv'.keep (hk7.mono λk _ e=>by omega) λ_ _ e=>e
  exact hv7.mono λk e=>by omega
 have seqv:∀ {w5:World} {b3:Nat},Blk w5 b3 [.int .u64 j.seq] TUw→bI (λ_=>False) w5 ⟨2,0,32+j.client,0,0,0,some ⟨b3,0,none⟩,1,1,0,0⟩ ⟨2,0,32+j.client,0,0,0,[j.seq],0,0⟩:=by
  intro w5 b3 hz5
  exact qD (eQ hz5 rfl) rfl (by omega) (λe=>by cases e) (λx hx=>by simp at hx;subst hx;unfold U64;omega) (by simp) u0 u0
 refine ⟨?_,?_⟩
 ·refine aF (Am w3 (by omega)) ?_
  rintro y w4 ⟨rfl,hn4⟩
  refine ⟨_,rfl,hn4,?_⟩
  rintro b3 w5 hb3 hw5
  obtain ⟨hz5,hn5⟩:=aO hb3 hw5
  clear hw5
  refine ⟨hn4.new hn5,?_⟩
  have hcall:=l4 (h3.new' (hn4.new hn5)) hbt (seqv hz5)
  refine aF hcall ?_
  rintro y w6 ⟨v',rfl,hv',hn6⟩
  exact aJ.mk_ex v' ⟨rfl,(hn4.new hn5).new hn6,fin (hn4.new hn5) hn6 hv'⟩
 ·rintro b4 w8 hb4 hw8
  obtain ⟨hz8,hn8⟩:=aO hb4 hw8
  clear hw8
  refine ⟨hn8,?_⟩
  refine aF (Am w8 (by omega)) ?_
  rintro y w9 ⟨rfl,hn9⟩
  refine ⟨_,rfl,hn8.new hn9,?_⟩
  have hcall:=l4 (h3.new' (hn8.new hn9)) hbt (seqv (New.blk hn9 hz8))
  refine aF hcall ?_
  rintro y w10 ⟨v',rfl,hv',hn10⟩
  exact aJ.mk_ex v' ⟨rfl,(hn8.new hn9).new hn10,fin (hn8.new hn9) hn10 hv'⟩
theorem EX {p:aG} (h:∀ x ∈ datL p,U64 x):∀ x ∈ appL p,U64 x:=λx hx=>by
 unfold appL at hx
 rcases List.mem_cons.1 hx with rfl | hx
 ·exact DO _
 ·exact h x hx
set_option maxRecDepth 20000 in
set_option maxHeartbeats 1000000 in
theorem xJ {w0 w:World} {cb tb:Nat} {r:aL} {m0:aE} {j:CJob} (h:fN w0 w cb tb r m0 j) (hd:∀ p ∈ j.writes,∀ x ∈ datL p,U64 x) {m:aE} (hbt:I64 m.Boot) :
  Does 239 [ptr cb,m.val] w λy w'=>∃ (a:Option Addr) (cap:Nat),y=.slice a j.writes.length cap∧VB w w' a j.writes.length cap (j.writes.map (nB j m))∧New w w':=by
 refine does Tryz.func239 ?_
 rw [ptr,lu]
 rintro b1 w1 hb1 hw1
 obtain ⟨hz1,hn1⟩:=aO hb1 hw1
 have hz1:Blk w1 b1 m.cells TMb:=hz1
 clear hw1
 have h1:=h.new' hn1
 have hlen:=h.job.pg.len
 have hgw:=h.good.wfew
 have hs1:=hn1.size
 refine ⟨_,_,_,h1.blk.cell (i:=6) rfl,?_⟩
 refine aT mix (λq env u=>∃ (i:Nat) (pa:Option Addr) (pc:Nat) (jj:List Value),q=j.writes.length - i∧i≤j.writes.length∧env=cY ⟨cb,0,none⟩ ⟨b1,0,none⟩ pa i pc r.Writes r.Writes_l r.Writes_c r.Writes_l i jj∧New w u∧VB w u pa i pc ((j.writes.take i).map (nB j m))∧Blk u b1 m.cells TMb∧fN w0 u cb tb r m0 j) j.writes.length
  ⟨0,none,0,_,rfl,by omega,rfl,hn1,VB.nil _ _,hz1,h1⟩ ?_
 rintro q env u ⟨i,pa,pc,jj,rfl,hi,rfl,hnu,hvb,hz1,hcu⟩
 rw [ix,hlen]
 have hnwu:New w0 u:=h.new.new hnu
 refine aH (λhlt=>?_) (λhge=>?_)
 ·obtain ⟨p,hp⟩:∃ p,j.writes[i]?=some p:=⟨_,List.getElem?_eq_getElem (by omega)⟩
  have hpm:=List.mem_of_getElem? hp
  have hpl:=h.good.wl p hpm
  have hph:=h.good.wh p hpm
  have hpu:=h.job.pg.u64 p hpm
  refine ez (cells:=aG.cells) aG.len (by omega) (h.job.pg.rd.new hnwu) hp rfl rfl λb o hcc _=>aG.mk_ex p ⟨hcc,?_⟩
  refine gF (vs:=p.cells) rfl (aG.single _) λb3 u2 hb3 hz3 hn2=>?_
  refine aG.mk_ex p ⟨aI hz3 rfl,?_⟩
  refine aF (An u2 p hpu hph.2) ?_
  rintro y u3 ⟨aa,ac,rfl,hn3,hao,haf⟩
  refine ⟨_,_,_,_,rfl,?_⟩
  rintro u4 hw4
  have hn4:New u3 u4:=by rw [hw4];exact aU _
  clear hw4
  have hn24:=hn3.new hn4
  have hnu4:=(hn2.new hn3).new hn4
  refine ⟨λy=>Blk y b3 p.cells TPg∧Blk y b1 m.cells TMb,⟨New.blk hn24 hz3,New.blk hnu4 hz1⟩,aE.mk_ex m ⟨λy hy=>aI hy.2 rfl,_,λy hy=>hy.1.cell (i:=0) rfl,?_⟩⟩
  refine aF (vA u4 hpl.1 hpl.2) ?_
  rintro y u5 ⟨rfl,rfl⟩
  refine ⟨_,rfl,⟨New.blk hn24 hz3,New.blk hnu4 hz1⟩,?_⟩
  have hva:bI (λ_=>False) u5 ⟨2,0,p.Line * 8,0,0,0,aa,8,ac,0,0⟩ ⟨2,0,p.Line * 8,0,0,0,appL p,0,0⟩:=qD (Owns.new hn4 hao).rd (by rfl) (Owns.le hao) (λe=>by
   obtain ⟨_,ha⟩:=hao
   rcases ha with ⟨hn,_,_⟩ | ⟨g,cur,hg,_⟩
   ·omega
   ·rw [hg] at e;cases e) (EX (hd p hpm)) (by simp [appL,datL]) u0 u0
  have hcall:=l4 (hcu.new' hnu4) hbt hva
  refine aF hcall ?_
  rintro y u6 ⟨v',rfl,hv',hn6⟩
  have hn46:=hnu4.new hn6
  refine aJ.mk_ex v' ⟨rfl,⟨New.blk (hn24.new hn6) hz3,New.blk hn46 hz1⟩,?_⟩
  have hvb4:=hvb.new hnu4
  rintro b5 u7 hb5 hw7
  have hn7:New u6 u7:=by rw [hw7];exact dP _ _
  refine ⟨⟨New.blk ((hn24.new hn6).new hn7) hz3,New.blk (hn46.new hn7) hz1⟩,?_⟩
  have hb3l:=hz3.lt
  have hb1l:=hz1.lt
  have hpas:∀ k,isB pa k→k<u.heap.size:=λk hk=>by
   obtain ⟨raws,ho,_⟩:=hvb.ex
   exact ho.lt hk
  have hs2:=hn2.size
  refine VB.push_e hvb4 (hnu.new hnu4) hn6 hv' (by omega) hb5 hw7 λap cap' u8 h8 hk8 hn8=>?_
  have hpa1:¬ isB pa b1:=λe=>by
   have h9:=hvb.ex
   obtain ⟨raws,ho,_⟩:=h9
   obtain ⟨cs,hcs⟩:=dU ho e
   exact absurd (hcs.ne hz1 (by decide)) (λhh=>hh rfl)
  have y1:Blk u8 b1 m.cells TMb:=hk8.blk (New.blk hn46 hz1) hpa1
  refine ⟨⟨hk8.blk (New.blk (hn24.new hn6) hz3) λe=>by have:=hpas _ e;omega,y1⟩,?_⟩
  rw [w64 (x:=(i:Int)+1) (by omega) (by omega)]
  have e:(j.writes.take i).map (nB j m)++[addr j.v.number m ⟨2,0,p.Line * 8,0,0,0,appL p,0,0⟩]=(j.writes.take (i+1)).map (nB j m):=by
   rw [List.take_add_one,hp]
   simp [nB]
  rw [e] at h8
  refine ⟨j.writes.length - (i+1),by omega,i+1,ap,cap',_,rfl,by omega,by rw [←hlen];rfl,hn8,h8,y1,(hcu.new' hn46).keep hk8 λk hk=>?_⟩
  have h9:=hvb.fr k hk
  have h10:=h.new.size
  refine ⟨by omega,λe=>?_⟩
  obtain ⟨raws,ho,_⟩:=hvb.ex
  obtain ⟨cs,hcs⟩:=dU ho hk
  exact absurd (e▸hcs |>.ne hcu.blk (by decide)) (λhh=>hh rfl)
 ·have hil:i=j.writes.length:=by omega
  subst hil
  rw [jT]
  rw [List.take_length] at hvb
  exact ⟨pa,pc,rfl,hvb,hnu⟩
end Go.Proofs.YtgpmeaicjonenaaGreat
namespace Go.Proofs.YtgpmeaicjonenaaGreat
open Go.Eng
def fT:List Done→Int
 | []=>0
 |d::ds=>if d.code=0 then fT ds else d.code
theorem wW {ds:List Done} {i:Nat} {x:Done} (h:ds[i]?=some x):fT (ds.drop i)=if x.code=0 then fT (ds.drop (i+1)) else x.code:=by
 have hl:=aN h
 rw [List.drop_eq_getElem_cons hl]
 rw [List.getElem?_eq_getElem hl] at h
 cases h
 rfl
theorem xK {A:Nat→Prop} {w0 w:World} (hw:New w0 w) {a:Option Addr} {n c:Nat} {raw:List aY} {ds:List Done} (hn:n=raw.length) (hr:Rd w0 a (j1 raw).flatten) (hd:Ds A w0 raw ds) (hfew:raw.length≤1000000):Does 163 [.slice a n c] w λx w'=>x=.int .i64 (fT ds)∧New w w':=by
 subst hn
 refine does Tryz.func163 ?_
 rw [t7]
 have hdl:=hd.1
 refine aT mix (λm env u=>∃ (i:Nat) (jj:List Value),m=raw.length - i∧i≤raw.length∧env=ip a raw.length c raw.length i jj∧New w u∧fT ds=fT (ds.drop i)) raw.length
  ⟨0,_,by omega,by omega,rfl,Keep.refl _ _,rfl⟩ ?_
 rintro m env u ⟨i,jj,rfl,hi,rfl,hnu,hf⟩
 rw [m7]
 refine aH (λhq=>?_) (λhq=>?_)
 ·have hlt:i<raw.length:=by omega
  have hg:raw[i]?=some raw[i]:=List.getElem?_eq_getElem hlt
  obtain ⟨x,hgd⟩:∃ x,ds[i]?=some x:=⟨_,List.getElem?_eq_getElem (by omega)⟩
  have hda:=hd.2 i _ _ hg hgd
  generalize raw[i]=d at hg hda
  have hcode:=hda.code
  rw [wW hgd] at hf
  refine ez (cells:=aY.cells) aY.len (by omega) (hr.new (hw.new hnu)) hg rfl rfl λb o hcc _=>aY.mk_ex d ⟨hcc,?_⟩
  refine gF (vs:=d.cells) rfl (aY.single _) λb1 w2 hb1 hz2 hn2=>⟨_,hz2.cell (i:=0) rfl,cU (λe=>⟨_,hz2.cell (i:=0) rfl,?_,hnu.new hn2⟩) (λe=>?_)⟩
  ·rw [hf,if_neg (by omega),hcode]
  ·rw [w64 (x:=(i:Int)+1) (by omega) (by omega)]
   exact ⟨raw.length - (i+1),by omega,i+1,_,rfl,by omega,rfl,hnu.new hn2,by rw [hf,if_pos (by omega)]⟩
 ·rw [pA]
  refine ⟨?_,hnu⟩
  rw [hf,List.drop_of_length_le (by omega)]
  rfl
structure SR where
 ok:Bool
 done:List Done
 out:Int×Int
 got:List (List Done)
 ask:Option (List Verb)
 wrong:Bool
def bL (G:List (List Done)) (vs:List Verb) (fate:Int):SR:=
 if (batch G vs).ok=false then ⟨false,[],(0,0),(batch G vs).got,(batch G vs).ask,(batch G vs).wrong⟩
 else if fT (batch G vs).done≠0 then ⟨false,[],(fT (batch G vs).done,fate),(batch G vs).got,none,false⟩
 else ⟨true,(batch G vs).done,(0,0),(batch G vs).got,none,false⟩
structure TkAt (A:Nat→Prop) (w0 u:World) (tb:Nat) (T:TkX) (G:List (List Done)):Prop where
 blk:Blk u tb T.cells TTk
 got:lr A w0 T.ga G
 gl:T.gl=G.length
 gc:T.gl≤T.gc
theorem TkAt.new {A:Nat→Prop} {w0 u u':World} {tb:Nat} {T:TkX} {G:List (List Done)} (h:TkAt A w0 u tb T G) (hn:New u u'):TkAt A w0 u' tb T G:=⟨New.blk hn h.blk,h.got,h.gl,h.gc⟩
theorem TkAt.keep {A:Nat→Prop} {w0 u u':World} {tb:Nat} {T:TkX} {G:List (List Done)} (h:TkAt A w0 u tb T G) {M:Nat→Prop} (hk:Keep M u u') (hM:¬ M tb):TkAt A w0 u' tb T G:=⟨hk.blk h.blk hM,h.got,h.gl,h.gc⟩
structure jk (A:Nat→Prop) (w0 u:World) (tb B:Nat) (R:SR) (u':World):Prop where
 keep:Keep (λk=>k=tb) u u'
 tk:∃ T':TkX,TkAt A w0 u' tb T' R.got∧T'.wrong=R.wrong∧(match R.ask with
  |none=>T'.al=0
  |some vs=>0<vs.length∧∃ w1,New w0 w1∧B≤w1.heap.size∧VB w1 u' T'.aa T'.al T'.ac vs)
structure ou (T:TkX):Prop where
 al:T.al=0
 wrong:T.wrong=false
theorem jk.new {A:Nat→Prop} {w0 u u' u'':World} {tb B:Nat} {R:SR} (h:jk A w0 u tb B R u') (hn:New u' u''):jk A w0 u tb B R u'':=by
 obtain ⟨hk,T',ht,hw,ha⟩:=h
 refine ⟨hk.new hn,T',ht.new hn,hw,?_⟩
 cases hR:R.ask with
 |none=>rw [hR] at ha;exact ha
 |some vs=>
  rw [hR] at ha
  obtain ⟨h0,w1,h1,h2,h3⟩:=ha
  exact ⟨h0,w1,h1,h2,h3.new hn⟩
theorem co_k {u:World} {b:Nat} {zs:List Value} (hz:Blk u b zs TCO) (hl:zs.length=2) (c f:Int) {K:aA→World→Prop} (hk:∀ u4,Keep (λk=>k=b) u u4→K ⟨c,f⟩ u4) :
  wrAt u ⟨b,0,none⟩ 0 [(.int .i64 c),(.int .i64 f)]∧∀ w2,w2=puts u ⟨b,0,none⟩ 0 [(.int .i64 c),(.int .i64 f)]→aA.ex λres=>aC w2 ⟨b,0,none⟩ 0 res.cells∧w2=w2∧K res w2:=
 il hz (vs:=aA.cells ⟨c,f⟩) (by rw [hl];rfl) (aA.single _) λw2 hz2 hk2=>aA.mk_ex ⟨c,f⟩ ⟨aI hz2 rfl,rfl,hk w2 hk2⟩
theorem DU {G:List (List Done)} {vs ws:List Verb} (h:(batch G vs).ask=some ws):0<vs.length:=by
 unfold batch at h
 split at h
 ·cases h
 ·omega
set_option maxHeartbeats 1000000 in
theorem tD {A:Nat→Prop} {w0 u:World} {cb tb:Nat} {r:aL} {m:aE} {j:CJob} (hc:fN w0 u cb tb r m j) {T:TkX} {G:List (List Done)} (hT:TkAt A w0 u tb T G) (hcl:ou T) {w1:World} (hw1:New w0 w1) (htb:tb<w1.heap.size) {a:Option Addr} {n cap:Nat} {vs:List Verb} (hv:VB w1 u a n cap vs) (hfew:vs.length≤100000) (fate:Int) :
  Does 235 [ptr cb,.slice a n cap,.int .i64 fate] u λv u'=>∃ (da:Option Addr) (dc:Nat) (raw:List aY),v=.tuple #[.slice da raw.length dc,aA.val ⟨(bL G vs fate).out.1,(bL G vs fate).out.2⟩,.bool (bL G vs fate).ok]∧
   jk A w0 u tb w1.heap.size (bL G vs fate) u'∧Rd w0 da (j1 raw).flatten∧Ds A w0 raw (bL G vs fate).done∧(raw=[]∨raw.length=vs.length):=by
 refine does Tryz.func235 ?_
 rw [ptr,lW]
 rintro b1 u1 hb1 hu1
 obtain ⟨hz1,hn1⟩:=aO hb1 hu1
 have hz1:Blk u1 b1 (aA.cells ⟨0,0⟩) TCO:=hz1
 clear hu1
 have hc1:=hc.new' hn1
 have hT1:=hT.new hn1
 have hv1:=hv.new hn1
 obtain ⟨raws,hown,hvs⟩:=hv1.ex
 have hvl:=hvs.1
 have hnl:=hv1.len
 have hs1:=hn1.size
 have htl:=hT.blk.lt
 have hbn:b1≠tb:=by omega
 refine ⟨_,hc1.blk.cell (i:=7) rfl,?_⟩
 have hnr:n=raws.length:=by omega
 rw [hnr] at hown
 have hB:=Ak (A:=A) hc1.new hc.tbl hT1.blk hT1.got hT1.gl hT1.gc (aa:=a) (ac:=cap) hown.rd hvs (by omega)
 rw [←hnr] at hB
 refine aF hB ?_
 rintro v u2 ⟨T',da,dc,raw,rfl,hb2,hk2,hrd,hds,hgot,hgl,hgc,hwr,hask⟩
 rw [hcl.wrong,Bool.false_or] at hwr
 have hz2:Blk u2 b1 (aA.cells ⟨0,0⟩) TCO:=hk2.blk hz1 hbn
 have hv2:VB w1 u2 a n cap vs:=hv1.keep hk2 λk e=>by omega
 have hk02:Keep (λk=>k=tb) u u2:=(Keep.of_new hn1).trans hk2 λ_ _ e=>e
 have hblen:(batch G vs).done.length=raw.length:=hds.1.symm
 refine ⟨_,_,_,_,rfl,?_⟩
 have fin:∀ {u3 u4:World},New u2 u3→Keep (λk=>k=b1) u3 u4→∀ {R:SR},R.got=(batch G vs).got→R.wrong=(batch G vs).wrong→R.ask=(batch G vs).ask→jk A w0 u tb w1.heap.size R u4:=by
  intro u3 u4 hn3 hk4 R h1 h2 h3
  have hk24:Keep (λk=>k=b1) u2 u4:=(Keep.of_new hn3).trans hk4 λ_ _ e=>e
  have hk04:Keep (λk=>k=tb) u u4:=hk02.trans hk24 λk hlt e=>by omega
  refine ⟨hk04,T',?_,by rw [hwr,h2],?_⟩
  ·rw [h1]
   exact ⟨hk24.blk hb2 (by omega),hgot,hgl,hgc⟩
  ·rw [h3]
   cases hq:(batch G vs).ask with
   |none=>rw [hq] at hask;obtain ⟨_,h5,_⟩:=hask;show T'.al=0;rw [h5];exact hcl.al
   |some ws=>
    rw [hq] at hask
    obtain ⟨h4,h5,h6⟩:=hask
    have:=vM hq
    subst this
    refine ⟨DU hq,w1,hw1,Nat.le_refl _,?_⟩
    rw [h4,h5,h6,←hnl]
    exact hv.keep hk04 λk e=>e▸htb
 unfold bL
 have hdl:=@pR G vs
 refine dG (λhok=>?_) (λhok=>?_)
 ·rw [if_pos hok]
  exact co_k hz2 rfl 0 0 λu4 hk4=>⟨none,0,[],rfl,fin (Keep.refl _ _) hk4 rfl rfl rfl,.inl rfl,⟨rfl,λi v x hv=>by simp at hv⟩,.inl rfl⟩
 ·rw [if_neg (by rw [hok];simp)]
  obtain ⟨hq1,hq2⟩:=xG hok
  have hn02:New w0 u2:=hc1.new.trans hk2 λk hlt e=>by have:=hc.tbl;omega
  refine aF (xK hn02 rfl hrd hds (by omega)) ?_
  rintro v u3 ⟨rfl,hn3⟩
  refine ⟨_,rfl,cU (λe=>?_) (λe=>?_)⟩
  ·rw [if_pos e]
   exact co_k (New.blk hn3 hz2) rfl _ _ λu4 hk4=>⟨none,0,[],rfl,fin hn3 hk4 rfl hq2.symm hq1.symm,.inl rfl,⟨rfl,λi v x hv=>by simp at hv⟩,.inl rfl⟩
  ·rw [if_neg (by simpa using e)]
   refine co_k (New.blk hn3 hz2) rfl 0 0 λu4 hk4=>⟨da,dc,raw,rfl,fin hn3 hk4 rfl hq2.symm hq1.symm,hrd,hds,?_⟩
   by_cases hv0:vs.length=0
   ·exact .inl (List.eq_nil_of_length_eq_zero (by omega))
   ·right
    unfold batch at hok hblen
    rw [if_neg hv0] at hok hblen
    cases G with
    |nil=>cases hok
    |cons d G'=>
     simp only at hok hblen
     split at hok
     ·rename_i hf
      rw [if_pos hf] at hblen
      have:=ro hf
      simp only at hblen
      omega
     ·cases hok
theorem FL {w0 w:World} {cb tb:Nat} {r:aL} {m0:aE} {j:CJob} (h:fN w0 w cb tb r m0 j) {M:Nat→Prop} {v:aJ} {x:Verb} (hv:bI M w v x) :
  Does 282 [ptr cb,v.val] w λy w'=>∃ (a:Option Addr) (cap:Nat),y=.slice a j.v.mem.length cap∧VB w w' a j.v.mem.length cap (j.v.mem.map λm=>addr j.v.number m x)∧New w w':=by
 refine does Tryz.func282 ?_
 rw [ptr,mh]
 rintro b1 w1 hb1 hw1
 obtain ⟨hz1,hn1⟩:=aO hb1 hw1
 have hz1:Blk w1 b1 v.cells TV:=hz1
 clear hw1
 have h1:=h.new' hn1
 obtain ⟨MV,hview⟩:=h.job.view
 have hlen:=hview.len
 have hgm:=h.good.mem
 have hs1:=hn1.size
 have hl1:=hz1.lt
 refine ⟨_,_,_,h1.blk.cell (i:=4) rfl,?_⟩
 refine aT mix (λq env u=>∃ (i:Nat) (pa:Option Addr) (pc:Nat) (jj:List Value),q=j.v.mem.length - i∧i≤j.v.mem.length∧env=dM ⟨cb,0,none⟩ ⟨b1,0,none⟩ pa i pc r.View.Members r.View.Members_l r.View.Members_c r.View.Members_l i jj∧New w1 u∧VB w1 u pa i pc ((j.v.mem.take i).map λm=>addr j.v.number m x)∧Blk u b1 v.cells TV∧fN w0 u cb tb r m0 j) j.v.mem.length
  ⟨0,none,0,_,rfl,by omega,rfl,Keep.refl _ _,VB.nil _ _,hz1,h1⟩ ?_
 rintro q env u ⟨i,pa,pc,jj,rfl,hi,rfl,hnu,hvb,hz1,hcu⟩
 rw [jh,hlen]
 have hnwu:New w0 u:=h1.new.new hnu
 refine aH (λhlt=>?_) (λhge=>?_)
 ·obtain ⟨m,hm⟩:∃ m,j.v.mem[i]?=some m:=⟨_,List.getElem?_eq_getElem (by omega)⟩
  have hmb:=h.good.boot m (List.mem_of_getElem? hm)
  refine ez (cells:=aE.cells) aE.len (by omega) (hview.rd.new hnwu) hm rfl rfl λb o hcc _=>aE.mk_ex m ⟨hcc,?_⟩
  refine gF (vs:=m.cells) rfl (aE.single _) λb3 u2 hb3 hz3 hn2=>?_
  refine aE.mk_ex m ⟨aI hz3 rfl,aJ.mk_ex v ⟨aI (New.blk hn2 hz1) rfl,?_⟩⟩
  have hva:bI M u2 v x:=hv.keep (Keep.of_new ((hn1.new hnu).new hn2)) λ_ _ e=>e
  have hcall:=l4 (hcu.new' hn2) (m:=m) (by unfold I64;omega) hva
  refine aF hcall ?_
  rintro y u3 ⟨v',rfl,hv',hn3⟩
  refine aJ.mk_ex v' ⟨rfl,?_⟩
  rintro b5 u7 hb5 hw7
  have hs2:=hn2.size
  refine VB.push_e (hvb.new hn2) (hnu.new hn2) hn3 hv' (by omega) hb5 hw7 λap cap' u8 h8 hk8 hn8=>?_
  have hpa1:¬ isB pa b1:=λe=>by
   have h9:=hvb.fr _ e
   omega
  rw [w64 (x:=(i:Int)+1) (by omega) (by omega)]
  have e:(j.v.mem.take i).map (λm=>addr j.v.number m x)++[addr j.v.number m x]=(j.v.mem.take (i+1)).map λm=>addr j.v.number m x:=by
   rw [List.take_add_one,hm]
   simp
  rw [e] at h8
  refine ⟨j.v.mem.length - (i+1),by omega,i+1,ap,cap',_,rfl,by omega,by rw [←hlen];rfl,hn8,h8,hk8.blk (New.blk (hn2.new hn3) hz1) hpa1,(hcu.new' (hn2.new hn3)).keep hk8 λk hk=>?_⟩
  have h9:=hvb.fr k hk
  have h10:=h.new.size
  refine ⟨by omega,λe=>?_⟩
  obtain ⟨raws,ho,_⟩:=hvb.ex
  obtain ⟨cs,hcs⟩:=dU ho hk
  exact absurd (e▸hcs |>.ne hcu.blk (by decide)) (λhh=>hh rfl)
 ·have hil:i=j.v.mem.length:=by omega
  subst hil
  rw [kg]
  rw [List.take_length] at hvb
  exact ⟨pa,pc,rfl,hvb.mono hs1,hn1.new hnu⟩
def ia (R:SR) (f:List (List Done)→SR):SR:=if R.ok then f R.got else R
def ow (G:List (List Done)):SR:=⟨true,[],(0,0),G,none,false⟩
def logV (j:CJob) (at_:Int) (ws:List Int):List Verb:=j.v.mem.map λm=>addr j.v.number m ⟨2,0,at_,0,0,0,ws,0,0⟩
def logM (j:CJob) (G:List (List Done)) (at_:Int) (ws:List Int) (fate:Int):SR:=if j.writes=[] then ow G else bL G (logV j at_ ws) fate
def wX (j:CJob) (G:List (List Done)):SR:=logM j G (qC j.client+8) (ot j.seq j.writes) 1
def vS (j:CJob) (G:List (List Done)):SR:=logM j G (qC j.client) [wU j.seq] 2
def pT (A:Nat→Prop) (w0 u:World) (tb B:Nat) (R:SR) (v:Value) (u':World):Prop:=v=.tuple #[aA.val ⟨R.out.1,R.out.2⟩,.bool R.ok]∧jk A w0 u tb B R u'
theorem jk.skip {A:Nat→Prop} {w0 u u':World} {tb B:Nat} {T:TkX} {G:List (List Done)} (hT:TkAt A w0 u tb T G) (hcl:ou T) (hn:New u u'):jk A w0 u tb B (ow G) u':=
 ⟨Keep.of_new hn,T,hT.new hn,hcl.wrong,hcl.al⟩
theorem jk.put {A:Nat→Prop} {w0 u u1 u2 u3 u4:World} {tb B B' b:Nat} {R:SR} (h:jk A w0 u1 tb B R u2) (hn:New u u1) (hn2:New u2 u3) (hk:Keep (λk=>k=b) u3 u4) (hb:u.heap.size≤b) (hbB:b<B) (hbt:b≠tb) (hB:B'≤B):jk A w0 u tb B' R u4:=by
 obtain ⟨hk1,T',ht,hw,ha⟩:=h
 refine ⟨(((Keep.of_new hn).trans hk1 λ_ _ e=>e).new hn2).trans hk λk hlt e=>by omega,T',(ht.new hn2).keep hk λe=>hbt e.symm,hw,?_⟩
 cases hR:R.ask with
 |none=>rw [hR] at ha;exact ha
 |some vs=>
  rw [hR] at ha
  obtain ⟨h0,w1,h1,h2,h3⟩:=ha
  exact ⟨h0,w1,h1,by omega,(h3.new hn2).keep hk λk e=>by omega⟩
theorem EY {u:World} {b:Nat} {zs:List Value} (hz:Blk u b zs TCO) (hl:zs.length=2) (o:aA) {K:aA→World→Prop} (hk:∀ u3 u4,New u u3→Keep (λk=>k=b) u3 u4→K o u4) :
  ∀ b2 w5,b2=u.heap.size→w5=u.alloc (.cells #[.int .i64 0,.int .i64 0] TCO)→wrAt w5 ⟨b2,0,none⟩ 0 o.cells∧∀ w6,w6=puts w5 ⟨b2,0,none⟩ 0 o.cells→aA.ex λr=>aC w6 ⟨b2,0,none⟩ 0 r.cells∧wrAt w6 ⟨b,0,none⟩ 0 r.cells∧∀ w7,w7=puts w6 ⟨b,0,none⟩ 0 r.cells→aA.ex λres=>aC w7 ⟨b,0,none⟩ 0 res.cells∧w7=w7∧K res w7:=by
 refine gF (zs:=[.int .i64 0,.int .i64 0]) (vs:=o.cells) rfl (aA.single _) λb2 w6 hb hz2 hn=>?_
 refine aA.mk_ex o ⟨aI hz2 rfl,il (New.blk hn hz) (by rw [hl];rfl) (aA.single _) λw7 hz7 hk7=>?_⟩
 exact aA.mk_ex o ⟨aI hz7 rfl,rfl,hk w6 w7 hn hk7⟩
set_option maxRecDepth 20000 in
theorem EZ {A:Nat→Prop} {w0 u:World} {cb tb:Nat} {r:aL} {m:aE} {j:CJob} (hc:fN w0 u cb tb r m j) {T:TkX} {G:List (List Done)} (hT:TkAt A w0 u tb T G) (hcl:ou T) {a:Option Addr} {n cap:Nat} {at_:Int} {ws:List Int} (hw:j.writes≠[]→Rd u a (us ws)∧n=ws.length∧n≤cap∧(a=none→ws=[])∧(∀ x ∈ ws,U64 x)∧ws.length≤1000000) (fate:Int) :
  Does 230 [ptr cb,.int .i64 at_,.slice a n cap,.int .i64 fate] u (pT A w0 u tb u.heap.size (logM j G at_ ws fate)):=by
 refine does Tryz.func230 ?_
 rw [ptr,mi]
 rintro b1 u1 hb1 hu1
 obtain ⟨hz1,hn1⟩:=aO hb1 hu1
 have hz1:Blk u1 b1 (aA.cells ⟨0,0⟩) TCO:=hz1
 clear hu1
 have hc1:=hc.new' hn1
 have hT1:=hT.new hn1
 have hlen:=hc.job.pg.len
 have hs1:=hn1.size
 have hl1:=hz1.lt
 have htl:=hT.blk.lt
 unfold logM
 refine ⟨_,_,_,hc1.blk.cell (i:=6) rfl,bK (λe=>?_) (λe=>?_)⟩
 ·have hw0:j.writes=[]:=List.eq_nil_of_length_eq_zero (by omega)
  rw [if_pos hw0]
  exact co_k hz1 rfl 0 0 λu4 hk4=>⟨rfl,(jk.skip (B:=u1.heap.size) hT1 hcl (Keep.refl _ _)).put hn1 (Keep.refl _ _) hk4 (by omega) hl1 (by omega) hs1⟩
 ·have hw0:j.writes≠[]:=λe2=>by rw [e2] at hlen;simp at hlen <;> omega
  rw [if_neg hw0]
  obtain ⟨h1,h2,h3,h4,h5,h6⟩:=hw hw0
  have hva:bI (λ_=>False) u1 ⟨2,0,at_,0,0,0,a,n,cap,0,0⟩ ⟨2,0,at_,0,0,0,ws,0,0⟩:=qD (h1.new hn1) h2 h3 h4 h5 h6 u0 u0
  have hcall:=FL hc1 hva
  refine aF hcall ?_
  rintro v u2 ⟨aa,ac,rfl,hvb,hn2⟩
  refine ⟨_,_,_,rfl,?_⟩
  have hcall2:=tD (hc1.new' hn2) (hT1.new hn2) hcl hc1.new (w1:=u1) (by omega) hvb (by rw [List.length_map];have:=hc.good.mem;omega) fate
  refine aF hcall2 ?_
  rintro v u4 ⟨da,dc,raw,rfl,hsp,_⟩
  refine ⟨_,_,_,aA.mk_ex ⟨(bL G (logV j at_ ws) fate).out.1,(bL G (logV j at_ ws) fate).out.2⟩ ⟨(bL G (logV j at_ ws) fate).ok,rfl,?_⟩⟩
  have hz4:Blk u4 b1 (aA.cells ⟨0,0⟩) TCO:=hsp.keep.blk (New.blk hn2 hz1) (by omega)
  refine EY hz4 rfl _ λu5 u6 hn5 hk6=>⟨rfl,hsp.put (hn1.new hn2) hn5 hk6 (by omega) hl1 (by omega) hs1⟩
end Go.Proofs.YtgpmeaicjonenaaGreat
