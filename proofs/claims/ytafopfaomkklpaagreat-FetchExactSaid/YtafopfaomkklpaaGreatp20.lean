/- A part of the proof. -/
import Derived.Test.YtafopfaomkklpaaGreatp19
set_option linter.unusedVariables false
namespace Go.Proofs.YtafopfaomkklpaaGreat
open Go.Eng
def VbIn (w:World) (v:aU):Prop:=(∃ vs:List Int,Rd w v.Words (us vs)∧v.Wl=vs.length∧∀ x ∈ vs,U64 x)∧U64 v.New∧v.Wl≤1000000
theorem VbIn.next {w w':World} {v:aU} (h:VbIn w v) (hn:New w w'):VbIn w' v:=by
 obtain ⟨⟨vs,h1,h2,h3⟩,h4⟩:=h
 exact ⟨⟨vs,h1.new hn,h2,h3⟩,h4⟩
set_option maxHeartbeats 4000000 in
theorem DT {w:World} {fb:Nat} {F:Fa} {N:List bS} {Cl:List CliR} {P:Nat→List bJ} (h:cY w fb F N Cl P) {c i:Nat} (hc:c<Cl.length) {pr:bJ} (hi:(P c)[i]?=some pr) {v:aU} (hnd:pr.Node=v.Node) (hv:VOk v 5 F.lines) (hvm:VbIn w v)
  {Av:Nat→Prop} (hAs:∀ k,Av k→k<w.heap.size) (hA1:Av (F.pb c)) {m:Nat} {ps:List dE} (hq:QAt w Av F.lines m pr.Queue pr.Ql pr.Qc ps) (hlt:ps.length<1024) {s:Nat} (hs:s<m) :
  Does 91 [.pointer (some ⟨F.pb c,i * 4,none⟩),v.val,.int .i64 F.lines,.int .i64 s] w λx w'=>x=.int .i64 0∧∃ (a:Option Addr) (n cap:Nat) (pd:dE),cY w' fb F N Cl (setP P c ((P c).set i ⟨pr.Client,pr.Inc,pr.Node,a,n,cap⟩))∧QAt w' Av F.lines m a n cap (ps++[pd])∧pd.Slot=(s:Int)∧Keep (λk=>k=F.pb c) w w':=by
 refine does Tryz.func91 ?_
 rw [oR]
 have hln:=h.ln
 rintro b1 w1 hb1 hw1
 obtain ⟨hz1,hn1⟩:=aR hb1 hw1
 have hz1:Blk w1 b1 v.cells TVb:=hz1
 clear hw1
 refine aU.mk_ex v ⟨aH hz1 rfl,?_⟩
 refine aC (xS w1 v 5 F.lines) ?_
 rintro x w2 ⟨e,rfl,he,hn2⟩
 have he0:=he.2 hv
 subst he0
 have hz2:=New.blk hn2 hz1
 refine ⟨_,rfl,bQ (λe=>absurd rfl e) (λ_=>?_)⟩
 rintro w3 hw3
 have hn3:New w2 w3:=by rw [hw3];exact aT _
 clear hw3
 have hz3:=New.blk hn3 hz2
 have hn03:=hn1.new (hn2.new hn3)
 have h3:=h.new hn03
 have hq3:=hq.next hn03
 have hql:=hq.len
 have hs03:=hn03.size
 have hqc:∀ {y:World},cY y fb F N Cl P→y.cell? ⟨F.pb c,i * 4+3,none⟩=some (.slice pr.Queue pr.Ql pr.Qc):=λhy=>Owns.row bJ.len (hy.pairs c hc).1 hi (j:=3) rfl
 refine ⟨λy=>New w3 y,Keep.refl _ _,_,λy hy=>(New.blk hy hz3).cell (i:=1) rfl,_,λy hy=>Owns.row bJ.len ((h3.new hy).pairs c hc).1 hi (j:=2) rfl,bQ (λe=>absurd hnd.symm e) (λ_=>⟨_,_,_,hqc h3,aD (λe=>absurd e (by omega)) (λ_=>?_)⟩)⟩
 obtain ⟨⟨vs,hvr,hvl,hvU⟩,hvN,hwl⟩:=hvm.next hn03
 have hsv:=hv.2.2.2.2.2.2.2.1
 refine ⟨_,_,_,hz3.cell (i:=6) rfl,?_⟩
 refine wv hvr hvl hwl λap ac w4 ho4 hn4 hap=>?_
 have hz4:=New.blk hn4 hz3
 refine ⟨⟨_,hz4.cell (i:=6) rfl⟩,hz4.frozen,?_⟩
 rintro w5 hw5
 have hz5:=hz4.setCell (i:=6) (.slice ap v.Wl ac)
 have hk5:Keep (λk=>k=b1) w4 w5:=by rw [hw5];exact aZ _ _ _ _
 have hw5':w5=w4.setCell ⟨b1,6,none⟩ (.slice ap v.Wl ac):=hw5
 rw [←hw5'] at hz5
 clear hw5 hw5'
 obtain ⟨v',hv'⟩:∃ v':aU,v'=⟨v.Kind,v.Node,v.At,v.N,v.Old,v.New,ap,v.Wl,ac,v.Key,v.Boot⟩:=⟨_,rfl⟩
 have hz5:Blk w5 b1 v'.cells TVb:=by rw [hv'];exact hz5
 have ho5:=Owns.keep hk5 ho4 λk hk e=>Owns.noB ho4 hz4 (by decide) (by rw [←e];exact hk)
 have hn05:New w w5:=(hn03.new hn4).trans hk5 λk hlt e=>by omega
 rintro w6 hw6
 have hn6:New w5 w6:=by rw [hw6];exact aT _
 clear hw6
 have hn06:=hn05.new hn6
 have h6:=h.new hn06
 have hq6:=hq.next hn06
 have hz6:=New.blk hn6 hz5
 have ho6:=Owns.new hn6 ho5
 have hs06:=hn06.size
 have hcnt:cntV v'=cntV v:=by rw [hv'];rfl
 obtain ⟨hk1,hkN,hkW,hk5',_,hnode,hat,hc1024,hla,_⟩:=hv
 have hcn1:1≤cntV v:=by
  unfold cntV
  split
  ·exact hkN (by assumption)
  ·split
   ·exact hkW (by assumption)
   ·omega
 obtain ⟨pd,hpd⟩:∃ pd:dE,pd=⟨v',0,none,0,0,s⟩:=⟨_,rfl⟩
 have hnp:0<(npV v').length:=by unfold npV;rw [hcnt];exact DQ (by omega)
 have hPd:∀ {y:World},New w6 y→PdAt y Av F.lines m pd:=λ{y} hy=>by
  have hoy:=Owns.new hy ho6
  rw [hpd]
  refine ⟨⟨⟨vs,?_,?_,hvU⟩,?_,?_,?_⟩,?_,?_,?_,?_,⟨Int.le_refl _,?_⟩,⟨[],.inl rfl,rfl,by simp,by simp⟩,λk hk=>absurd hk noB,λk hk=>absurd hk noB,?_⟩
  ·rw [hv'];exact hoy.rd
  ·rw [hv'];exact hvl
  ·rw [hv'];exact λk hk hA=>by have:=hap k hk;have:=hAs k hA;omega
  ·rw [hv'];exact λk hk=>Owns.lt hoy hk
  ·rw [hv'];exact hvN
  ·rw [hv'];exact hk1
  ·rw [hv'];exact hat.1
  ·show 1≤cntV v'∧cntV v'≤1024
   rw [hcnt]
   exact ⟨hcn1,hc1024⟩
  ·show v'.At+cntV v'≤_
   rw [hcnt,hv']
   show v.At+cntV v≤_
   omega
  ·show (0:Int)<(npV v').length
   omega
  ·exact ⟨by show (0:Int)≤(s:Int);omega,by show (s:Int)<m;omega⟩
 have fin:∀ {u:World} {a:Option Addr} {n cap:Nat},New w6 u→Owns u TPe 12 a n cap ((ps++[pd]).map eR).flatten→(∀ k,isB a k→w6.heap.size≤k)→n=pr.Ql+1→
   (∃ v,u.cell? ⟨F.pb c,i * 4+3,none⟩=some v)∧u.frozen? ⟨F.pb c,i * 4+3,none⟩=false∧∀ w10,w10=u.setCell ⟨F.pb c,i * 4+3,none⟩ (.slice a n cap)→(Value.int .i64 0=.int .i64 0∧∃ (a:Option Addr) (n cap:Nat) (pd:dE),cY w10 fb F N Cl (setP P c ((P c).set i ⟨pr.Client,pr.Inc,pr.Node,a,n,cap⟩))∧QAt w10 Av F.lines m a n cap (ps++[pd])∧pd.Slot=(s:Int)∧Keep (λk=>k=F.pb c) w w10):=by
  intro u a n cap hnu hoa hfr hn
  have hu:=h6.new hnu
  refine ⟨⟨_,hqc hu⟩,Owns.frozen (hu.pairs c hc).1,?_⟩
  rintro w10 hw10
  have hk10:Keep (λk=>k=F.pb c) u w10:=by rw [hw10];exact aZ _ _ _ _
  have hrow:=Owns.setRow bJ.len (hu.pairs c hc).1 hi (j:=3) (r':=⟨pr.Client,pr.Inc,pr.Node,a,n,cap⟩) (v:=.slice a n cap) (by omega) rfl
  rw [←hw10] at hrow
  have hpbl:=hAs _ hA1
  have ho10:=Owns.keep hk10 hoa λk hk e=>by have:=hfr k hk;omega
  refine ⟨rfl,a,n,cap,pd,hu.rePair hc hk10 (by rw [List.length_set];exact (h.pairs c hc).2) hrow,⟨ho10.rd,by rw [List.length_append,hn,hql];rfl,ho10.le,by rw [List.length_append];simp;omega,λk hk hA=>by have:=hfr k hk;have:=hAs k hA;omega,λk hk=>Owns.lt ho10 hk,λp hp=>?_⟩,by rw [hpd],(Keep.of_new (hn06.new hnu)).trans hk10 λ_ _ e=>e⟩
  rcases List.mem_append.1 hp with hp | hp
  ·exact ((hq6.ok p hp).keep hnu λ_ _ e=>e.elim).keep hk10 λk _ e=>by rw [e];exact hA1
  ·rw [List.mem_singleton.1 hp]
   exact (hPd hnu).keep hk10 λk _ e=>by rw [e];exact hA1
 have hfew:=hq.few
 obtain ⟨inf,hif,hzf,hszf,hbyf⟩:=nV (T:=TPe) (z:=.agg #[.int .i64 0,.int .i64 0,.int .i64 0,.int .i64 0,.int .u64 0,.int .u64 0,.slice none 0 0,.int .u64 0,.int .i64 0,.int .i64 0,.slice none 0 0,.int .i64 0]) (n:=12) (m:=128) (by kernel_rfl)
 refine ⟨λy=>New w6 y,Keep.refl _ _,_,_,_,λy hy=>hqc (h6.new hy),aU.mk_ex v' ⟨λy hy=>aH (New.blk hy hz6) rfl,?_,?_⟩⟩
 ·refine yT hq6.rd hql (by omega) λa1 c1 w7 ho7 hn7 hf7=>⟨hn7,?_⟩
  rintro b2 w8 hb2 hw8
  obtain ⟨hz8,hn8⟩:=aR hb2 hw8
  have hz8:Blk w8 b2 (eR pd) TPe:=by rw [hpd];exact hz8
  clear hw8
  refine ⟨hn7.new hn8,?_⟩
  have s7:=hn7.size
  have s8:=hn8.size
  refine lR (cells:=eR) aL.len aL.single Tryz.underlying187 hif hzf (by rw [hszf];rfl) hszf (by omega) (by omega) (Owns.new hn8 ho7) (s:=some ⟨b2,0,none⟩) (m:=1) (c:=1) (l2:=[pd]) (fM hz8 (by simp)) rfl (by omega) λa2 c2 w9 ho9 hk9 hf9=>?_
  have hn9:New w6 w9:=(hn7.new hn8).trans hk9 λk hlt e=>by have:=hf7 k e;omega
  exact ⟨hn9,fin hn9 ho9 (λk hk=>by rcases hf9 k hk with e | e;exact hf7 k e;omega) rfl⟩
 ·rintro b2 w8 hb2 hw8
  obtain ⟨hz8,hn8⟩:=aR hb2 hw8
  have hz8:Blk w8 b2 (eR pd) TPe:=by rw [hpd];exact hz8
  clear hw8
  have s8:=hn8.size
  refine ⟨hn8,?_⟩
  refine yT (hq6.next hn8).rd hql (by omega) λa1 c1 w7 ho7 hn7 hf7=>⟨hn8.new hn7,?_⟩
  have s7:=hn7.size
  refine lR (cells:=eR) aL.len aL.single Tryz.underlying187 hif hzf (by rw [hszf];rfl) hszf (by omega) (by omega) ho7 (s:=some ⟨b2,0,none⟩) (m:=1) (c:=1) (l2:=[pd]) (fM (New.blk hn7 hz8) (by simp)) rfl (by omega) λa2 c2 w9 ho9 hk9 hf9=>?_
  have hn9:New w6 w9:=(hn8.new hn7).trans hk9 λk hlt e=>by have:=hf7 k e;omega
  exact ⟨hn9,fin hn9 ho9 (λk hk=>by rcases hf9 k hk with e | e;have:=hf7 k e;omega;omega) rfl⟩
end Go.Proofs.YtafopfaomkklpaaGreat
namespace Go.Proofs.YtafopfaomkklpaaGreat
open Go.Eng
theorem cY.reClient {w w':World} {fb:Nat} {F:Fa} {N:List bS} {Cl Cl':List CliR} {P:Nat→List bJ} (h:cY w fb F N Cl P) (hk:Keep (λk=>k=F.cb) w w') (hl:Cl'.length=Cl.length) (hn:Owns w' TCl 7 (some ⟨F.cb,0,none⟩) Cl'.length F.cc (Cl'.map CliR.cells).flatten) (hok:∀ r ∈ Cl',r.Alive=true):cY w' fb F N Cl' P:=by
 obtain ⟨cur,hb,_⟩:=Owns.blk h.clients
 have tr:∀ {T:TypeId},T≠TCl→∀ (b:Nat) (cs:List Value),Blk w b cs T→Blk w' b cs T:=λht b cs h=>hk.blk h λe=>h.ne hb ht e
 refine ⟨by rw [hl];exact tr (by decide) _ _ h.fab,Owns.tr (tr (by decide)) h.nodes,λr hr=>?_,hn,hok,by rw [hl];exact Owns.tr (tr (by decide)) h.live,λc hc=>?_,λc d hc hd e=>h.inj c d (by omega) (by omega) e,h.n1,by rw [hl];exact h.c1,h.ln⟩
 ·obtain ⟨b,q1,q2,q3,q4⟩:=h.nok r hr
  exact ⟨b,q1,q2,q3,U64B.tr (tr (by decide)) q4⟩
 ·exact ⟨Owns.tr (tr (by decide)) (h.pairs c (by omega)).1,(h.pairs c (by omega)).2⟩
theorem AG {w:World} {fb:Nat} {F:Fa} {N:List bS} {Cl:List CliR} {P:Nat→List bJ} (h:cY w fb F N Cl P) {c:Nat} (hc:c<Cl.length):Does 89 [.pointer (some ⟨fb,0,none⟩),.int .i64 c] w λx w'=>x=.bool true∧w'=w:=by
 refine does Tryz.func89 ?_
 rw [mF]
 have hg:Cl[c]?=some Cl[c]:=List.getElem?_eq_getElem hc
 have ha:=h.alive _ (List.getElem_mem hc)
 refine aD (λ_=>⟨_,_,_,h.fab.cell (i:=2) rfl,aD (λ_=>⟨_,_,_,h.fab.cell (i:=2) rfl,bI (by omega) (by omega) ⟨Cl[c].Alive,?_,by rw [ha],rfl⟩⟩) (λe=>absurd e (by omega))⟩) (λe=>absurd e (by omega))
 rw [show 0+(c:Int).toNat * 7=c * 7+0 by omega]
 exact Owns.row CliR.len h.clients hg (j:=0) rfl
structure PlSt (u:World) (fb:Nat) (F:Fa) (N:List bS) (Cl:List CliR) (P:Nat→List bJ) (c m:Nat) (Av:Nat→Prop) (Q:Nat→List dE):Prop where
 fab:cY u fb F N Cl P
 hc:c<Cl.length
 pairs:∀ (i:Nat) (pr:bJ),(P c)[i]?=some pr→pr.Node=i∧QAt u Av F.lines m pr.Queue pr.Ql pr.Qc (Q i)
 others:∀ d,d<Cl.length→d≠c→∀ (i:Nat) (p:bJ),(P d)[i]?=some p→p.Ql=0
 ams:∀ k,Av k→k<u.heap.size
 own:∀ k,F.own fb N Cl.length k→Av k
theorem PlSt.next {u z:World} {fb:Nat} {F:Fa} {N:List bS} {Cl:List CliR} {P:Nat→List bJ} {c m:Nat} {Av:Nat→Prop} {Q:Nat→List dE} (h:PlSt u fb F N Cl P c m Av Q) (hn:New u z):PlSt z fb F N Cl P c m Av Q:=
 ⟨h.fab.new hn,h.hc,λi pr hi=>⟨(h.pairs i pr hi).1,(h.pairs i pr hi).2.next hn⟩,h.others,λk hk=>Nat.lt_of_lt_of_le (h.ams k hk) hn.size,h.own⟩
def je (l:List aU):List (List Value):=l.map aU.cells
def setQ (Q:Nat→List dE) (i:Nat) (ps:List dE):Nat→List dE:=λj=>if j=i then ps else Q j
structure Bat (w:World) (Av:Nat→Prop) (a:Option Addr) (l:List aU):Prop where
 rd:Rd w a (je l).flatten
 off:∀ k,isB a k→¬ Av k
 vb:∀ v ∈ l,VbIn w v∧∀ k,isB v.Words k→¬ Av k
theorem Bat.keep {w w':World} {Av M:Nat→Prop} {a:Option Addr} {l:List aU} (h:Bat w Av a l) (hk:Keep M w w') (hM:∀ k,k<w.heap.size→M k→Av k):Bat w' Av a l:=by
 refine ⟨jd hk h.rd λk hlt hb hm=>h.off k hb (hM k hlt hm),h.off,λv hv=>?_⟩
 obtain ⟨⟨⟨vs,h1,h2,h3⟩,h4⟩,h5⟩:=h.vb v hv
 exact ⟨⟨⟨vs,jd hk h1 λk hlt hb hm=>h5 k hb (hM k hlt hm),h2,h3⟩,h4⟩,h5⟩
theorem PlSt.set {u z:World} {fb:Nat} {F:Fa} {N:List bS} {Cl:List CliR} {P:Nat→List bJ} {c m:Nat} {Av:Nat→Prop} {Q:Nat→List dE} (h:PlSt u fb F N Cl P c m Av Q) {M:Nat→Prop} (hk:Keep M u z) (hM:∀ k,k<u.heap.size→M k→Av k) {i:Nat} {pr:bJ} (hi:(P c)[i]?=some pr) {a:Option Addr} {n cap:Nat} {ps:List dE}
  (hf:cY z fb F N Cl (setP P c ((P c).set i ⟨pr.Client,pr.Inc,pr.Node,a,n,cap⟩))) (hq:QAt z Av F.lines m a n cap ps):PlSt z fb F N Cl (setP P c ((P c).set i ⟨pr.Client,pr.Inc,pr.Node,a,n,cap⟩)) c m Av (setQ Q i ps):=by
 refine ⟨hf,h.hc,λj p hp=>?_,λd hd hdc j p hp=>?_,λk hA=>Nat.lt_of_lt_of_le (h.ams k hA) hk.size,h.own⟩
 ·unfold setP at hp
  rw [if_pos rfl] at hp
  unfold setQ
  by_cases e:j=i
  ·subst e
   rw [List.getElem?_set_self (cN hi)] at hp
   cases hp
   rw [if_pos rfl]
   exact ⟨(h.pairs j pr hi).1,hq⟩
  ·rw [List.getElem?_set_ne (λe'=>e e'.symm)] at hp
   rw [if_neg e]
   exact ⟨(h.pairs j p hp).1,(h.pairs j p hp).2.keep hk hM⟩
 ·unfold setP at hp
  rw [if_neg hdc] at hp
  exact h.others d hd hdc j p hp
theorem vt {F:Fa} {n C c:Nat} (hc:c<C):(Au F n C)[c]?=some (.slice (some ⟨F.pb c,0,none⟩) n (F.pc c)):=by
 unfold Au
 rw [List.getElem?_map,List.getElem?_range hc]
 rfl
theorem sR {α:Type} {cells:α→List Value} {sz:Nat} (hsz:∀ x,(cells x).length=sz) (h0:0<sz) {S:World→Prop} {a:Option Addr} {l:List α} (hS:∀ y,S y→Rd y a (l.map cells).flatten) {u:World} (hu:S u) {i:Nat} {x:α} (hx:l[i]?=some x) {z:Int} (hz:z=i) {n:Nat} (hn:n=l.length) {K:Addr→Prop}
  (hk:∀ b o,(∀ y,S y→∀ (q:Nat) (v:Value),(cells x)[q]?=some v→y.cell? ⟨b,o+q,none⟩=some v)→K ⟨b,o,none⟩):idxS a n z sz K:=by
 subst hz hn
 have hlt:=cN hx
 have hs:∀ r ∈ l.map cells,r.length=sz:=λr hr=>by obtain ⟨y,_,rfl⟩:=List.mem_map.1 hr;exact hsz y
 obtain ⟨b,o,rfl,h1,h2⟩:=(hS u hu).row (sz:=sz) hs h0 (i:=i) (r:=cells x) (by simp [hx])
 refine bI (by omega) (by omega) ?_
 have:=hk b (o+i * sz) λy hy q v hv=>by
  obtain ⟨b',o',e,_,g2⟩:=(hS y hy).row (sz:=sz) hs h0 (i:=i) (r:=cells x) (by simp [hx])
  simp at e
  obtain ⟨rfl,rfl⟩:=e
  exact g2 q v hv
 simpa using this
def yU (y:World) (fb:Nat) (F:Fa) (N:List bS) (Cl:List CliR) (c:Nat):Prop:=∃ P,cY y fb F N Cl P
def Cov (N:List bS) (Q:Nat→List dE) (s:Nat):Prop:=∀ t,t<s→∃ (i:Nat) (p:dE),i<N.length∧p ∈ Q i∧p.Slot=(t:Int)
structure tq (u:World) (fb:Nat) (F:Fa) (N:List bS) (Cl:List CliR) (P:Nat→List bJ) (c m:Nat) (Av:Nat→Prop) (Q:Nat→List dE) (db hb:Nat) (dn:List aV) (hv:List Bool):Prop where
 st:PlSt u fb F N Cl P c m Av Q
 row:∃ cr:CliR,Cl[c]?=some cr∧cr.On=true∧cr.Done=some ⟨db,0,none⟩∧cr.Dl=m∧cr.Have=some ⟨hb,0,none⟩∧cr.Hl=m
 done:Blk u db (gI dn).flatten 53
 dlen:dn.length=m
 dok:∀ d ∈ dn,DnAt u Av d
 have_:Blk u hb (bs hv) 4
 hlen:hv.length=m
 cov:∀ t:Nat,hv[t]?=some false→∃ (i:Nat) (p:dE),i<N.length∧p ∈ Q i∧p.Slot=(t:Int)
 avd:Av db∧Av hb
 new_:¬ F.own fb N Cl.length db∧¬ F.own fb N Cl.length hb
def DU (w:World) (fb:Nat) (F:Fa) (N:List bS) (Cl:List CliR) (P:Nat→List bJ) (c m:Nat) (x:Value) (w':World):Prop:=
 (∃ e:Int,x=.int .i64 e∧e≠0∧New w w')∨(x=.int .i64 0∧∃ Cl' P' Av Q db hb dn hv,tq w' fb F N Cl' P' c m Av Q db hb dn hv∧Cl'.length=Cl.length∧w.heap.size≤db∧w.heap.size≤hb∧Keep (λk=>k=F.pb c∨k=F.cb) w w'∧∀ k,Av k→F.own fb N Cl.length k∨w.heap.size≤k)
set_option maxHeartbeats 4000000 in
theorem DV {w:World} {fb:Nat} {F:Fa} {N:List bS} {Cl:List CliR} {P:Nat→List bJ} (h:cY w fb F N Cl P) {c:Nat} (hc:c<Cl.length) (hid:Idle N Cl P) {a:Option Addr} {n cap:Nat} {l:List aU} (hn:n=l.length) (hb:Bat w (F.own fb N Cl.length) a l) (hfew:l.length≤1000000) :
  Does 36 [.pointer (some ⟨fb,0,none⟩),.int .i64 c,.slice a n cap] w (DU w fb F N Cl P c l.length):=by
 refine does Tryz.func36 ?_
 rw [nC]
 have hln:=h.ln
 have hN5:=h.n1
 subst hn
 refine aC (AG h hc) ?_
 rintro x w1 ⟨rfl,rfl⟩
 have hg:Cl[c]?=some Cl[c]:=List.getElem?_eq_getElem hc
 have hon:=hid.1 _ (List.getElem_mem hc)
 have eoff:0+(c:Int).toNat * 7=c * 7:=by omega
 have fl:∀ (e:Int) (u:World),e≠0→New w1 u→DU w1 fb F N Cl P c l.length (.int .i64 e) u:=λe u he hu=>.inl ⟨e,rfl,he,hu⟩
 refine ⟨_,rfl,eE rfl ⟨_,_,_,h.fab.cell (i:=2) rfl,bI (by omega) (by omega) ⟨Cl[c].On,?_,?_⟩⟩⟩
 ·show w1.cell? ⟨F.cb,0+(c:Int).toNat * 7+2,none⟩=_
  rw [eoff]
  exact Owns.row CliR.len h.clients hg (j:=2) rfl
 rw [hon]
 refine eE rfl (bB (λ_=>fl 1 _ (by omega) (Keep.refl _ _)) (λh0=>aD (λ_=>fl 18 _ (by omega) (Keep.refl _ _)) (λh1024=>?_)))
 refine aW mix (λm env u=>∃ (i:Nat) (jj:List Value),m=l.length - i∧i≤l.length∧env=dN ⟨fb,0,none⟩ c a l.length cap i jj∧New w1 u∧∀ v ∈ l.take i,VOk v N.length F.lines) l.length
  ⟨0,_,by omega,by omega,rfl,Keep.refl _ _,by simp⟩ ?_
 rintro m env u ⟨i,jj,rfl,hi,rfl,hnu,hok⟩
 rw [i4]
 refine aD (λhq=>?_) (λhq=>?_)
 ·have hgl:l[i]?=some l[i]:=List.getElem?_eq_getElem (by omega)
  have hst:l.take (i+1)=l.take i++[l[i]]:=by rw [List.take_add_one,hgl];rfl
  rintro u1 hu1
  have hn1:New u u1:=by rw [hu1];exact aT _
  clear hu1
  have hnu1:=hnu.new hn1
  have h1:=h.new hnu1
  refine ⟨λy=>New u1 y,Keep.refl _ _,?_⟩
  refine iL (cells:=aU.cells) aU.len (by omega) (hb.rd.new hnu1) hgl rfl rfl λb o hcc=>aU.mk_ex l[i] ⟨λy hy=>eb (hcc y hy),_,_,_,λy hy=>(h1.new hy).fab.cell (i:=1) rfl,_,λy hy=>(h1.new hy).fab.cell (i:=0) rfl,?_⟩
  refine aC (xS u1 l[i] N.length F.lines) ?_
  rintro x u2 ⟨e,rfl,he,hn2⟩
  rw [w64 (x:=(i:Int)+1) (by omega) (by omega)]
  refine ⟨_,rfl,hn2,bQ (λhne=>fl e _ hne (hnu1.new hn2)) (λhz=>⟨l.length - (i+1),by omega,i+1,_,rfl,by omega,rfl,hnu1.new hn2,λv hv=>?_⟩)⟩
  rw [hst] at hv
  rcases List.mem_append.1 hv with hv | hv
  ·exact hok v hv
  ·rw [List.mem_singleton.1 hv];exact he.1 hz
 have hin:l.take i=l:=List.take_of_length_le (by omega)
 rw [hin] at hok
 clear hin hq hi
 rw [ku]
 have hvok:∀ v ∈ l,VOk v 5 F.lines∧0≤v.Node∧v.Node<N.length:=λv hv=>by
  obtain ⟨q1,q2,q3,q4,q5,q6,q7⟩:=hok v hv
  exact ⟨⟨q1,q2,q3,⟨by omega,by omega⟩,q5,⟨q6.1,by omega⟩,q7⟩,q6⟩
 have hfu:=h.new hnu
 have hbu:=hb.keep hnu λ_ _ e=>e.elim
 have hsu:=hnu.size
 obtain ⟨Av,hAv⟩:∃ A:Nat→Prop,A=F.own fb N Cl.length:=⟨_,rfl⟩
 rw [←hAv] at hbu
 have st0:PlSt u fb F N Cl P c l.length Av (λ_=>[]):=by
  refine ⟨hfu,hc,λj pr hp=>⟨(hid.2 c hc j pr hp).2.1,?_⟩,λd hd hdc j p hp=>(hid.2 d hd j p hp).1,λk hA=>hfu.lt (by rw [←hAv];exact hA),λk hk=>by rw [hAv];exact hk⟩
  obtain ⟨hql,_,hqn⟩:=hid.2 c hc j pr hp
  exact ⟨.inl rfl,hql,by omega,by simp,λk hk=>by rw [hqn] at hk;exact absurd hk noB,λk hk=>by rw [hqn] at hk;exact absurd hk noB,by simp⟩
 refine aW mix (λm env z=>∃ (s:Nat) (P':Nat→List bJ) (Q:Nat→List dE) (jj:List Value),m=l.length - s∧s≤l.length∧env=dO ⟨fb,0,none⟩ c a l.length cap s jj∧PlSt z fb F N Cl P' c l.length Av Q∧Cov N Q s∧(∀ j,(Q j).length≤s)∧Keep (λk=>k=F.pb c) w1 z) l.length
  ⟨0,P,λ_=>[],_,by omega,by omega,rfl,st0,λt ht=>by omega,λj=>by simp,Keep.of_new hnu⟩ ?_
 rintro m env z ⟨s,P',Q,jj,rfl,hs,rfl,hst,hcov,hql,hkz⟩
 rw [i5]
 refine aD (λhq=>?_) (λhq=>?_)
 ·have hgl:l[s]?=some l[s]:=List.getElem?_eq_getElem (by omega)
  have hvl:=hvok _ (List.getElem_mem (by omega:s<l.length))
  have hApb:Av (F.pb c):=by rw [hAv];exact .inr (.inr (.inr (.inr (.inl ⟨c,hc,rfl⟩))))
  have hbz:=hb.keep hkz λk _ e=>by rw [e,←hAv];exact hApb
  have hvb:=(hbz.vb _ (List.getElem_mem (by omega:s<l.length)))
  generalize l[s]=v at hgl hvl hvb
  rintro z1 hz1
  have hn1:New z z1:=by rw [hz1];exact aT _
  clear hz1
  have hst1:=hst.next hn1
  have h1:=hst1.fab
  obtain ⟨i,hi⟩:=Int.eq_ofNat_of_zero_le hvl.2.1
  have hPl:=(h1.pairs c hc).2
  have hgi:(P' c)[i]?=some (P' c)[i]:=List.getElem?_eq_getElem (by omega)
  obtain ⟨hpn,hpq⟩:=hst1.pairs i _ hgi
  have hqli:=hql i
  generalize (P' c)[i]=pr at hgi hpn hpq
  have hrd1:=jd (hkz.new hn1) hb.rd λk _ hbk e=>hb.off k hbk (by rw [e,←hAv];exact hApb)
  have eoff4:0+v.Node.toNat * 4=i * 4:=by omega
  refine ⟨λy=>Keep (λk=>k=F.pb c) z1 y∧yU y fb F N Cl c,⟨Keep.refl _ _,P',h1⟩,_,_,_,λy hy=>by obtain ⟨_,P2,hy2⟩:=hy;exact hy2.fab.cell (i:=3) rfl,bI (by omega) (by omega) ⟨some ⟨F.pb c,0,none⟩,N.length,F.pc c,λy hy=>?_,?_⟩⟩
  ·obtain ⟨_,P2,hy2⟩:=hy
   rw [show 0+(c:Int).toNat * 1=c by omega]
   exact Owns.cell hy2.live (vt hc)
  have hrS:∀ {K:Addr→Prop},(∀ b o,(∀ y,Keep (λk=>k=F.pb c) z1 y∧yU y fb F N Cl c→∀ (q:Nat) (x:Value),(aU.cells v)[q]?=some x→y.cell? ⟨b,o+q,none⟩=some x)→K ⟨b,o,none⟩)→idxS a l.length s 9 K:=by
   intro K hK
   exact sR (cells:=aU.cells) aU.len (by omega) (S:=λy=>Keep (λk=>k=F.pb c) z1 y∧yU y fb F N Cl c) (λy hy=>jd hy.1 hrd1 λk _ hbk e=>hb.off k hbk (by rw [e,←hAv];exact hApb)) ⟨Keep.refl _ _,P',h1⟩ hgl rfl rfl hK
  refine hrS λb o hcc=>⟨_,λy hy=>hcc y hy 1 _ rfl,bI hvl.2.1 hvl.2.2 ?_⟩
  refine hrS λb o hcc=>aU.mk_ex v ⟨λy hy=>eb (hcc y hy),_,λy hy=>by obtain ⟨_,P2,hy2⟩:=hy;exact hy2.fab.cell (i:=0) rfl,?_⟩
  rw [eoff4]
  refine aC (DT h1 hc hgi (by omega) hvl.1 (hvb.1.next hn1) hst1.ams hApb hpq (by omega) (s:=s) (by omega)) ?_
  rintro x z2 ⟨rfl,qa,qn,qc,pd,hf2,hq2,hpd,hk2⟩
  have hst2:=hst1.set hk2 (λk _ e=>by rw [e];exact hApb) hgi hf2 hq2
  rw [w64 (x:=(s:Int)+1) (by omega) (by omega)]
  refine ⟨_,rfl,⟨hk2,_,hf2⟩,l.length - (s+1),by omega,s+1,_,_,_,rfl,by omega,rfl,hst2,λt ht=>?_,λj=>?_,(hkz.new hn1).trans hk2 λ_ _ e=>e⟩
  ·unfold setQ
   rcases Nat.lt_succ_iff_lt_or_eq.1 ht with ht | rfl
   ·obtain ⟨j,p,g1,g2,g3⟩:=hcov t ht
    refine ⟨j,p,g1,?_,g3⟩
    by_cases e:j=i
    ·subst e;rw [if_pos rfl];exact List.mem_append_left _ g2
    ·rw [if_neg e];exact g2
   ·exact ⟨i,pd,by omega,by rw [if_pos rfl];exact List.mem_append_right _ (List.mem_singleton.2 rfl),hpd⟩
  ·unfold setQ
   by_cases e:j=i
   ·rw [if_pos e,List.length_append];simp;omega
   ·rw [if_neg e];have:=hql j;omega
 have hsl:s=l.length:=by omega
 subst hsl
 rw [kv]
 have hz:=hst.fab
 generalize hcr:Cl[c]=cr at hg hon
 have hal:cr.Alive=true:=by rw [←hcr];exact h.alive _ (List.getElem_mem hc)
 have hsz:=hkz.size
 obtain ⟨m,hm⟩:∃ m,m=l.length:=⟨_,rfl⟩
 rw [←hm] at hst hcov hfew h1024 ⊢
 have hset:∀ (r:CliR),(Cl.set c r).length=Cl.length:=λr=>List.length_set ..
 obtain ⟨S,hS⟩:∃ S:World→CliR→Prop,S=λu row=>Keep (λk=>k=F.cb) z u∧Owns u TCl 7 (some ⟨F.cb,0,none⟩) Cl.length F.cc ((Cl.set c row).map CliR.cells).flatten:=⟨_,rfl⟩
 have s0:S z cr:=by
  rw [hS]
  refine ⟨Keep.refl _ _,?_⟩
  have e:Cl.set c cr=Cl:=by
   rw [←hcr]
   exact List.set_getElem_self hc
  rw [e]
  exact hz.clients
 have snew:∀ {u u':World} {row:CliR},S u row→New u u'→S u' row:=λh hn=>by
  rw [hS] at h ⊢
  exact ⟨h.1.new hn,Owns.new hn h.2⟩
 have hgs:∀ (row:CliR),(Cl.set c row)[c]?=some row:=λrow=>List.getElem?_set_self hc
 have stp:∀ {u:World} {row row':CliR} {j:Nat} {x:Value} {K:World→Prop},S u row→j<7→row.cells.set j x=row'.cells→(∀ u',S u' row'→Keep (λk=>k=F.cb) u u'→K u')→(∃ y,u.cell? ⟨F.cb,0+(c:Int).toNat * 7+j,none⟩=some y)∧u.frozen? ⟨F.cb,0+(c:Int).toNat * 7+j,none⟩=false∧∀ u',u'=u.setCell ⟨F.cb,0+(c:Int).toNat * 7+j,none⟩ x→K u':=by
  intro u row row' j x K h hj hx hK
  rw [hS] at h
  rw [eoff]
  refine ⟨⟨_,Owns.row CliR.len h.2 (hgs row) (j:=j) (v:=row.cells[j]'(by rw [CliR.len];exact hj)) (List.getElem?_eq_getElem _)⟩,Owns.frozen h.2,?_⟩
  rintro u' hu'
  have hk:Keep (λk=>k=F.cb) u u':=by rw [hu'];exact aZ _ _ _ _
  have hrow:=Owns.setRow CliR.len h.2 (hgs row) (j:=j) (r':=row') (v:=x) hj hx
  rw [←hu',List.set_set] at hrow
  exact hK u' (by rw [hS];exact ⟨h.1.trans hk λ_ _ e=>e,hrow⟩) hk
 have mkD:∀ {u:World} {row:CliR} {K:Nat→World→Prop},S u row→(∀ b u',z.heap.size≤b→Blk u' b (gI (List.replicate m ⟨0,none,0,0⟩)).flatten 53→S u' row→New u u'→K b u')→mk3 m m 32 (.cells (reps (Int.toNat m) [(.int .i64 0),(.slice none 0 0)]).toArray 53) u K:=by
  intro u row K h hK
  refine ⟨by omega,by omega,by omega,by omega,?_⟩
  rintro b u' hb hu'
  obtain ⟨hbz,hn⟩:=aR hb hu'
  have hs:z.heap.size≤u.heap.size:=by rw [hS] at h;exact h.1.size
  refine hK b u' (by omega) ?_ (snew h hn) hn
  have e:(reps (Int.toNat m) [(.int .i64 0),(.slice none 0 0)])=(gI (List.replicate m ⟨0,none,0,0⟩)).flatten:=by
   rw [Int.toNat_natCast]
   simp [reps,gI,aV.cells]
  rw [←e]
  exact hbz
 have mkH:∀ {u:World} {row:CliR} {K:Nat→World→Prop},S u row→(∀ b u',z.heap.size≤b→Blk u' b (bs (List.replicate m false)) 4→S u' row→New u u'→K b u')→mk3 m m 1 (.cells (reps (Int.toNat m) [(.bool false)]).toArray 4) u K:=by
  intro u row K h hK
  refine ⟨by omega,by omega,by omega,by omega,?_⟩
  rintro b u' hb hu'
  obtain ⟨hbz,hn⟩:=aR hb hu'
  have hs:z.heap.size≤u.heap.size:=by rw [hS] at h;exact h.1.size
  refine hK b u' (by omega) ?_ (snew h hn) hn
  have e:(reps (Int.toNat m) [(.bool false)])=bs (List.replicate m false):=by
   rw [Int.toNat_natCast]
   simp [reps,bs]
  rw [←e]
  exact hbz
 have hcbl:F.cb<z.heap.size:=hz.lt (.inr (.inr (.inl rfl)))
 have keepD:∀ {u u':World} {b:Nat} {cs:List Value} {T:TypeId},z.heap.size≤b→Keep (λk=>k=F.cb) u u'→Blk u b cs T→Blk u' b cs T:=λhb hk h=>hk.blk h (by omega)
 have fin:∀ {u:World} {db hb:Nat},S u ⟨cr.Alive,cr.Inc,true,some ⟨db,0,none⟩,m,m,some ⟨hb,0,none⟩,m,m,cr.Trips,cr.Posted⟩→z.heap.size≤db→z.heap.size≤hb→Blk u db (gI (List.replicate m ⟨0,none,0,0⟩)).flatten 53→Blk u hb (bs (List.replicate m false)) 4→
   ∀ w7,w7=u.drew→∃ Sx:World→Prop,Sx w7∧∃ (Trips:Int),(∀ y,Sx y→y.cell? ⟨F.cb,0+(c:Int).toNat * 7+5,none⟩=some (.int .i64 Trips))∧∃ (Posted:Int),(∀ y,Sx y→y.cell? ⟨F.cb,0+(c:Int).toNat * 7+6,none⟩=some (.int .i64 Posted))∧(∃ y,w7.cell? ⟨F.cb,0+(c:Int).toNat * 7+5,none⟩=some y)∧w7.frozen? ⟨F.cb,0+(c:Int).toNat * 7+5,none⟩=false∧∀ w8,w8=w7.setCell ⟨F.cb,0+(c:Int).toNat * 7+5,none⟩ (.int .i64 (IntKind.i64.wrap (Trips+1)))→
    (∃ y,w8.cell? ⟨F.cb,0+(c:Int).toNat * 7+6,none⟩=some y)∧w8.frozen? ⟨F.cb,0+(c:Int).toNat * 7+6,none⟩=false∧∀ w9,w9=w8.setCell ⟨F.cb,0+(c:Int).toNat * 7+6,none⟩ (.int .i64 (IntKind.i64.wrap (Posted+(m:Int))))→DU w1 fb F N Cl P c m (.int .i64 0) w9:=by
  intro u db hb hs1 hdb hhb hbd hbh
  rintro w7 hw7
  have hn7:New u w7:=by rw [hw7];exact aT _
  clear hw7
  have hs7:=snew hs1 hn7
  have hs7':=hs7
  rw [hS] at hs7'
  refine ⟨λy=>y=w7,rfl,cr.Trips,λy hy=>by rw [hy,eoff];exact Owns.row CliR.len hs7'.2 (hgs _) (j:=5) rfl,cr.Posted,λy hy=>by rw [hy,eoff];exact Owns.row CliR.len hs7'.2 (hgs _) (j:=6) rfl,?_⟩
  refine stp hs7 (row':=⟨cr.Alive,cr.Inc,true,some ⟨db,0,none⟩,m,m,some ⟨hb,0,none⟩,m,m,IntKind.i64.wrap (cr.Trips+1),cr.Posted⟩) (by omega) rfl λw8 hs8 hk8=>?_
  refine stp hs8 (row':=⟨cr.Alive,cr.Inc,true,some ⟨db,0,none⟩,m,m,some ⟨hb,0,none⟩,m,m,IntKind.i64.wrap (cr.Trips+1),IntKind.i64.wrap (cr.Posted+(m:Int))⟩) (by omega) rfl λw9 hs9 hk9=>?_
  rw [hS] at hs9
  obtain ⟨hkz9,hown9⟩:=hs9
  generalize hrow:(⟨cr.Alive,cr.Inc,true,some ⟨db,0,none⟩,m,m,some ⟨hb,0,none⟩,m,m,IntKind.i64.wrap (cr.Trips+1),IntKind.i64.wrap (cr.Posted+(m:Int))⟩:CliR)=row at hown9
  have hbd9:=keepD hdb hk9 (keepD hdb hk8 (New.blk hn7 hbd))
  have hbh9:=keepD hhb hk9 (keepD hhb hk8 (New.blk hn7 hbh))
  have hf9:=hz.reClient (Cl':=Cl.set c row) hkz9 (hset row) (by rw [hset];exact hown9) (λr hr=>by
   rcases List.mem_or_eq_of_mem_set hr with hr | rfl
   ·exact hz.alive r hr
   ·rw [←hrow];exact hal)
  have hcbA:Av F.cb:=hst.own _ (.inr (.inr (.inl rfl)))
  refine .inr ⟨rfl,Cl.set c row,P',λk=>Av k∨k=db∨k=hb,Q,db,hb,List.replicate m ⟨0,none,0,0⟩,List.replicate m false,⟨⟨hf9,by rw [hset];exact hc,λi pr hi=>⟨(hst.pairs i pr hi).1,?_⟩,λd hd=>hst.others d (by rw [hset] at hd;exact hd),λk hA=>?_,λk hk=>.inl (hst.own k (by rw [hset] at hk;exact hk))⟩,⟨row,hgs row,by rw [←hrow],by rw [←hrow],by rw [←hrow],by rw [←hrow],by rw [←hrow]⟩,hbd9,by simp,λd hd=>?_,hbh9,by simp,λt ht=>?_,⟨.inr (.inl rfl),.inr (.inr rfl)⟩,⟨λe=>?_,λe=>?_⟩⟩,hset row,by omega,by omega,(hkz.mono λk _ e=>.inl e).trans hkz9 λk _ e=>.inr e,λk hA=>?_⟩
  ·refine ((hst.pairs i pr hi).2.to (Av':=λk=>Av k∨k=db∨k=hb) λk hlt e=>?_).keep hkz9 λk _ e=>.inl (by rw [e];exact hcbA)
   rcases e with e | e | e
   ·exact e
   ·omega
   ·omega
  ·have:=hkz9.size
   rcases hA with e | e | e
   ·have:=hst.ams k e;omega
   ·rw [e];exact hbd9.lt
   ·rw [e];exact hbh9.lt
  ·rw [List.eq_of_mem_replicate hd]
   exact ⟨⟨[],.inl rfl,rfl,by simp,by simp,Nat.le_refl _⟩,λk hk=>absurd hk noB,λk hk=>absurd hk noB⟩
  ·have htm:=cN ht
   rw [List.length_replicate] at htm
   exact hcov t htm
  ·rw [hset] at e;have:=hz.lt e;omega
  ·rw [hset] at e;have:=hz.lt e;omega
  ·rcases hA with e | e | e
   ·rw [hAv] at e;exact .inl e
   ·exact .inr (by omega)
   ·exact .inr (by omega)
 refine ⟨_,_,_,hz.fab.cell (i:=2) rfl,bI (by omega) (by omega) ?_⟩
 rintro z1 hz1
 have hn1:New z z1:=by rw [hz1];exact aT _
 clear hz1
 have s1:=snew s0 hn1
 exact ⟨mkD s1 λdb u1 hdb hbd q1 hn1=>⟨mkH q1 λhb u2 hhb hbh q2 hn2=>stp q2 (row':=⟨cr.Alive,cr.Inc,true,cr.Done,cr.Dl,cr.Dc,cr.Have,cr.Hl,cr.Hc,cr.Trips,cr.Posted⟩) (by omega) rfl λu3 q3 hk3=>stp q3 (row':=⟨cr.Alive,cr.Inc,true,some ⟨db,0,none⟩,m,m,cr.Have,cr.Hl,cr.Hc,cr.Trips,cr.Posted⟩) (by omega) rfl λu4 q4 hk4=>stp q4 (row':=⟨cr.Alive,cr.Inc,true,some ⟨db,0,none⟩,m,m,some ⟨hb,0,none⟩,m,m,cr.Trips,cr.Posted⟩) (by omega) rfl λu5 q5 hk5=>fin q5 hdb hhb (keepD hdb hk5 (keepD hdb hk4 (keepD hdb hk3 (New.blk hn2 hbd)))) (keepD hhb hk5 (keepD hhb hk4 (keepD hhb hk3 hbh))),stp q1 (row':=⟨cr.Alive,cr.Inc,true,cr.Done,cr.Dl,cr.Dc,cr.Have,cr.Hl,cr.Hc,cr.Trips,cr.Posted⟩) (by omega) rfl λu2 q2 hk2=>⟨mkH q2 λhb u3 hhb hbh q3 hn3=>stp q3 (row':=⟨cr.Alive,cr.Inc,true,some ⟨db,0,none⟩,m,m,cr.Have,cr.Hl,cr.Hc,cr.Trips,cr.Posted⟩) (by omega) rfl λu4 q4 hk4=>stp q4 (row':=⟨cr.Alive,cr.Inc,true,some ⟨db,0,none⟩,m,m,some ⟨hb,0,none⟩,m,m,cr.Trips,cr.Posted⟩) (by omega) rfl λu5 q5 hk5=>fin q5 hdb hhb (keepD hdb hk5 (keepD hdb hk4 (New.blk hn3 (keepD hdb hk2 hbd)))) (keepD hhb hk5 (keepD hhb hk4 hbh)),stp q2 (row':=⟨cr.Alive,cr.Inc,true,some ⟨db,0,none⟩,m,m,cr.Have,cr.Hl,cr.Hc,cr.Trips,cr.Posted⟩) (by omega) rfl λu3 q3 hk3=>mkH q3 λhb u4 hhb hbh q4 hn4=>stp q4 (row':=⟨cr.Alive,cr.Inc,true,some ⟨db,0,none⟩,m,m,some ⟨hb,0,none⟩,m,m,cr.Trips,cr.Posted⟩) (by omega) rfl λu5 q5 hk5=>fin q5 hdb hhb (keepD hdb hk5 (New.blk hn4 (keepD hdb hk3 (keepD hdb hk2 hbd)))) (keepD hhb hk5 hbh)⟩⟩,mkH s1 λhb u1 hhb hbh q1 hn1=>⟨mkD q1 λdb u2 hdb hbd q2 hn2=>stp q2 (row':=⟨cr.Alive,cr.Inc,true,cr.Done,cr.Dl,cr.Dc,cr.Have,cr.Hl,cr.Hc,cr.Trips,cr.Posted⟩) (by omega) rfl λu3 q3 hk3=>stp q3 (row':=⟨cr.Alive,cr.Inc,true,some ⟨db,0,none⟩,m,m,cr.Have,cr.Hl,cr.Hc,cr.Trips,cr.Posted⟩) (by omega) rfl λu4 q4 hk4=>stp q4 (row':=⟨cr.Alive,cr.Inc,true,some ⟨db,0,none⟩,m,m,some ⟨hb,0,none⟩,m,m,cr.Trips,cr.Posted⟩) (by omega) rfl λu5 q5 hk5=>fin q5 hdb hhb (keepD hdb hk5 (keepD hdb hk4 (keepD hdb hk3 hbd))) (keepD hhb hk5 (keepD hhb hk4 (keepD hhb hk3 (New.blk hn2 hbh)))),stp q1 (row':=⟨cr.Alive,cr.Inc,true,cr.Done,cr.Dl,cr.Dc,cr.Have,cr.Hl,cr.Hc,cr.Trips,cr.Posted⟩) (by omega) rfl λu2 q2 hk2=>mkD q2 λdb u3 hdb hbd q3 hn3=>stp q3 (row':=⟨cr.Alive,cr.Inc,true,some ⟨db,0,none⟩,m,m,cr.Have,cr.Hl,cr.Hc,cr.Trips,cr.Posted⟩) (by omega) rfl λu4 q4 hk4=>stp q4 (row':=⟨cr.Alive,cr.Inc,true,some ⟨db,0,none⟩,m,m,some ⟨hb,0,none⟩,m,m,cr.Trips,cr.Posted⟩) (by omega) rfl λu5 q5 hk5=>fin q5 hdb hhb (keepD hdb hk5 (keepD hdb hk4 hbd)) (keepD hhb hk5 (keepD hhb hk4 (New.blk hn3 (keepD hhb hk2 hbh))))⟩,stp s1 (row':=⟨cr.Alive,cr.Inc,true,cr.Done,cr.Dl,cr.Dc,cr.Have,cr.Hl,cr.Hc,cr.Trips,cr.Posted⟩) (by omega) rfl λu1 q1 hk1=>⟨mkD q1 λdb u2 hdb hbd q2 hn2=>⟨mkH q2 λhb u3 hhb hbh q3 hn3=>stp q3 (row':=⟨cr.Alive,cr.Inc,true,some ⟨db,0,none⟩,m,m,cr.Have,cr.Hl,cr.Hc,cr.Trips,cr.Posted⟩) (by omega) rfl λu4 q4 hk4=>stp q4 (row':=⟨cr.Alive,cr.Inc,true,some ⟨db,0,none⟩,m,m,some ⟨hb,0,none⟩,m,m,cr.Trips,cr.Posted⟩) (by omega) rfl λu5 q5 hk5=>fin q5 hdb hhb (keepD hdb hk5 (keepD hdb hk4 (New.blk hn3 hbd))) (keepD hhb hk5 (keepD hhb hk4 hbh)),stp q2 (row':=⟨cr.Alive,cr.Inc,true,some ⟨db,0,none⟩,m,m,cr.Have,cr.Hl,cr.Hc,cr.Trips,cr.Posted⟩) (by omega) rfl λu3 q3 hk3=>mkH q3 λhb u4 hhb hbh q4 hn4=>stp q4 (row':=⟨cr.Alive,cr.Inc,true,some ⟨db,0,none⟩,m,m,some ⟨hb,0,none⟩,m,m,cr.Trips,cr.Posted⟩) (by omega) rfl λu5 q5 hk5=>fin q5 hdb hhb (keepD hdb hk5 (New.blk hn4 (keepD hdb hk3 hbd))) (keepD hhb hk5 hbh)⟩,mkH q1 λhb u2 hhb hbh q2 hn2=>mkD q2 λdb u3 hdb hbd q3 hn3=>stp q3 (row':=⟨cr.Alive,cr.Inc,true,some ⟨db,0,none⟩,m,m,cr.Have,cr.Hl,cr.Hc,cr.Trips,cr.Posted⟩) (by omega) rfl λu4 q4 hk4=>stp q4 (row':=⟨cr.Alive,cr.Inc,true,some ⟨db,0,none⟩,m,m,some ⟨hb,0,none⟩,m,m,cr.Trips,cr.Posted⟩) (by omega) rfl λu5 q5 hk5=>fin q5 hdb hhb (keepD hdb hk5 (keepD hdb hk4 hbd)) (keepD hhb hk5 (keepD hhb hk4 (New.blk hn3 hbh)))⟩⟩
end Go.Proofs.YtafopfaomkklpaaGreat
