/- A part of the proof. -/
import Derived.Test.YtafopfaomkklpaaGreatp18
set_option linter.unusedVariables false
namespace Go.Proofs.YtafopfaomkklpaaGreat
open Go.Proofs.Tryz
open Go.Eng
abbrev dE:=aL
abbrev eR:=aL.cells
theorem DR (w:World) (i:Int):Does 75 [.int .i64 i] w λv w'=>(∃ x:Int,v=.int .i64 x)∧w'=w:=by
 refine does Tryz.func75 ?_
 rw [m7]
 refine aC (i2 w i) ?_
 rintro v w1 ⟨rfl,rfl⟩
 exact ⟨_,rfl,lm (λ_=>⟨⟨_,rfl⟩,rfl⟩) (λ_=>⟨⟨_,rfl⟩,rfl⟩)⟩
theorem Wr.fresh {N:List bS} {w u z:World} (h:Wr N w u) {M:Nat→Prop} (hk:Keep M u z) (hM:∀ k,M k→w.heap.size≤k):Wr N w z:=by
 refine ⟨h.keep.trans hk λk hlt e=>by have:=hM k e;omega,λb n hb=>?_⟩
 exact (h.u64 b n hb).keep hk λe=>by have:=hM b e;have:=hb.lt;omega
structure PdAt (w:World) (Av:Nat→Prop) (L m:Nat) (p:dE):Prop where
 vb:VbAt w Av p.V
 kind:1≤p.V.Kind∧p.V.Kind≤4
 at0:0≤p.V.At
 cnt:1≤cntV p.V∧cntV p.V≤1024
 fit:p.V.At+cntV p.V≤L * 8
 ex:0≤p.Executed∧p.Executed<(npV p.V).length
 words:∃ xs:List Int,Rd w p.Words (us xs)∧p.Words_l=xs.length∧(∀ x ∈ xs,U64 x)∧(xs.length:Int)≤8 * p.Executed
 off:∀ k,isB p.Words k→¬ Av k
 lt:∀ k,isB p.Words k→k<w.heap.size
 slot:0≤p.Slot∧p.Slot<m
theorem PdAt.keep {w w':World} {Av M:Nat→Prop} {L m:Nat} {p:dE} (h:PdAt w Av L m p) (hk:Keep M w w') (hM:∀ k,k<w.heap.size→M k→Av k):PdAt w' Av L m p:=by
 obtain ⟨xs,h1,h2,h3,h4⟩:=h.words
 exact ⟨h.vb.keep hk hM,h.kind,h.at0,h.cnt,h.fit,h.ex,⟨xs,jd hk h1 λk hlt hb hm=>h.off k hb (hM k hlt hm),h2,h3,h4⟩,h.off,λk hb=>Nat.lt_of_lt_of_le (h.lt k hb) hk.size,h.slot⟩
structure QAt (w:World) (Av:Nat→Prop) (L m:Nat) (a:Option Addr) (n cap:Nat) (ps:List dE):Prop where
 rd:Rd w a (ps.map eR).flatten
 len:n=ps.length
 cap:n≤cap
 few:ps.length≤1024
 off:∀ k,isB a k→¬ Av k
 lt:∀ k,isB a k→k<w.heap.size
 ok:∀ p ∈ ps,PdAt w Av L m p
theorem QAt.keep {w w':World} {Av M:Nat→Prop} {L m:Nat} {a:Option Addr} {n cap:Nat} {ps:List dE} (h:QAt w Av L m a n cap ps) (hk:Keep M w w') (hM:∀ k,k<w.heap.size→M k→Av k):QAt w' Av L m a n cap ps:=
 ⟨jd hk h.rd λk hlt hb hm=>h.off k hb (hM k hlt hm),h.len,h.cap,h.few,h.off,λk hb=>Nat.lt_of_lt_of_le (h.lt k hb) hk.size,λp hp=>(h.ok p hp).keep hk hM⟩
theorem QAt.next {w w':World} {Av:Nat→Prop} {L m:Nat} {a:Option Addr} {n cap:Nat} {ps:List dE} (h:QAt w Av L m a n cap ps) (hk:New w w'):QAt w' Av L m a n cap ps:=h.keep hk λ_ _ e=>e.elim
theorem PdAt.to {w:World} {Av Av':Nat→Prop} {L m:Nat} {p:dE} (h:PdAt w Av L m p) (ha:∀ k,k<w.heap.size→Av' k→Av k):PdAt w Av' L m p:=⟨h.vb.to ha,h.kind,h.at0,h.cnt,h.fit,h.ex,h.words,λk hb hA=>h.off k hb (ha k (h.lt k hb) hA),h.lt,h.slot⟩
theorem QAt.to {w:World} {Av Av':Nat→Prop} {L m:Nat} {a:Option Addr} {n cap:Nat} {ps:List dE} (h:QAt w Av L m a n cap ps) (ha:∀ k,k<w.heap.size→Av' k→Av k):QAt w Av' L m a n cap ps:=⟨h.rd,h.len,h.cap,h.few,λk hb hA=>h.off k hb (ha k (h.lt k hb) hA),h.lt,λp hp=>(h.ok p hp).to ha⟩
def setP (P:Nat→List bJ) (c:Nat) (L:List bJ):Nat→List bJ:=λd=>if d=c then L else P d
theorem cY.rePair {w w':World} {fb:Nat} {F:Fa} {N:List bS} {Cl:List CliR} {P:Nat→List bJ} (h:cY w fb F N Cl P) {c:Nat} (hc:c<Cl.length) (hk:Keep (λk=>k=F.pb c) w w') {L:List bJ} (hl:L.length=N.length) (ho:Owns w' TPr 4 (some ⟨F.pb c,0,none⟩) N.length (F.pc c) (L.map bJ.cells).flatten):cY w' fb F N Cl (setP P c L):=by
 obtain ⟨cur,hb,_⟩:=Owns.blk (h.pairs c hc).1
 have tr:∀ {T:TypeId},T≠TPr→∀ (b:Nat) (cs:List Value),Blk w b cs T→Blk w' b cs T:=λht b cs h=>hk.blk h λe=>h.ne hb ht e
 refine ⟨tr (by decide) _ _ h.fab,Owns.tr (tr (by decide)) h.nodes,λr hr=>?_,Owns.tr (tr (by decide)) h.clients,h.alive,Owns.tr (tr (by decide)) h.live,λd hd=>?_,h.inj,h.n1,h.c1,h.ln⟩
 ·obtain ⟨b,q1,q2,q3,q4⟩:=h.nok r hr
  exact ⟨b,q1,q2,q3,q4.keep hk (q4.ne hb (by decide))⟩
 ·unfold setP
  by_cases e:d=c
  ·subst e
   rw [if_pos rfl]
   exact ⟨ho,hl⟩
  ·rw [if_neg e]
   exact ⟨Owns.keep hk (h.pairs d hd).1 λk hk' e'=>e (h.inj d c hd hc (by rw [←lX hk',e'])),(h.pairs d hd).2⟩
theorem cY.lt {w:World} {fb:Nat} {F:Fa} {N:List bS} {Cl:List CliR} {P:Nat→List bJ} (h:cY w fb F N Cl P) {k:Nat} (hk:F.own fb N Cl.length k):k<w.heap.size:=by
 rcases hk with rfl | rfl | rfl | rfl | ⟨c,hc,rfl⟩ | hb
 ·exact h.fab.lt
 ·exact Owns.lt h.nodes ⟨0,rfl⟩
 ·exact Owns.lt h.clients ⟨0,rfl⟩
 ·exact Owns.lt h.live ⟨0,rfl⟩
 ·exact Owns.lt (h.pairs c hc).1 ⟨0,rfl⟩
 ·exact (wC h.nok hb).lt
theorem yT {u:World} {s:Option Addr} {m c:Nat} {l:List dE} (hs:Rd u s (l.map eR).flatten) (hm:m=l.length) (hn:m≤100000) {K:Option Addr→Nat→Nat→World→Prop}
  (hk:∀ ap cap' w3,Owns w3 TPe 12 ap m cap' (l.map eR).flatten→New u w3→(∀ k,isB ap k→u.heap.size≤k)→K ap m cap' w3) :
  ∃ (ap:Option Addr) (ap_len ap_cap:Nat),∃ w3,(Builtin.append_ #[187,187] 187 #[(.slice none 0 0),(.slice s m c)]).run prog u=.ok (.slice ap ap_len ap_cap) w3∧K ap ap_len ap_cap w3:=by
 obtain ⟨inf,hi,hz,hsz,hby⟩:=nV (T:=TPe) (z:=.agg #[.int .i64 0,.int .i64 0,.int .i64 0,.int .i64 0,.int .u64 0,.int .u64 0,.slice none 0 0,.int .u64 0,.int .i64 0,.int .i64 0,.slice none 0 0,.int .i64 0]) (n:=12) (m:=128) (by kernel_rfl)
 refine lR (cells:=eR) aL.len aL.single Tryz.underlying187 hi hz (by rw [hsz];rfl) hsz (by omega) (by omega) (l:=[]) (Owns.nil u TPe 12) hs hm (by omega) λap cap' w3 h1 h2 h3=>?_
 rw [Nat.zero_add] at h1 ⊢
 exact hk ap cap' w3 h1 (h2.mono λk _ h=>noB h) λk hb=>(h3 k hb).resolve_left noB
def DnAt (w:World) (Av:Nat→Prop) (d:aV):Prop:=(∃ xs:List Int,Rd w d.Words (us xs)∧d.Wl=xs.length∧(∀ x ∈ xs,U64 x)∧xs.length≤100000∧d.Wl≤d.Wc)∧(∀ k,isB d.Words k→¬ Av k)∧∀ k,isB d.Words k→k<w.heap.size
theorem EF {u:World} {fb:Nat} {F:Fa} {N:List bS} {Cl:List CliR} {P:Nat→List bJ} (h:cY u fb F N Cl P) {c i:Nat} (hc:c<Cl.length) {pr:bJ} (hi:(P c)[i]?=some pr) {Av:Nat→Prop} {m:Nat} {q:dE} {qs:List dE} (hq:QAt u Av F.lines m pr.Queue pr.Ql pr.Qc (q::qs)) (hAs:∀ k,Av k→k<u.heap.size) (hA1:Av (F.pb c)) {K:World→Prop}
  (hk:∀ w' a n cap,cY w' fb F N Cl (setP P c ((P c).set i ⟨pr.Client,pr.Inc,pr.Node,a,n,cap⟩))→QAt w' Av F.lines m a n cap qs→Keep (λk=>k=F.pb c) u w'→K w') :
  ∃ (Queue:Option Addr) (Ql Qc:Nat),u.cell? ⟨F.pb c,i * 4+3,none⟩=some (.slice Queue Ql Qc)∧sl3 Queue Ql Qc 1 Ql Qc 12 λxa xl xc=>∃ (ap:Option Addr) (al ac:Nat),∃ w5,(Builtin.append_ #[187,187] 187 #[(.slice none 0 0),(.slice xa xl xc)]).run prog u=.ok (.slice ap al ac) w5∧(∃ v,w5.cell? ⟨F.pb c,i * 4+3,none⟩=some v)∧w5.frozen? ⟨F.pb c,i * 4+3,none⟩=false∧∀ w6,w6=w5.setCell ⟨F.pb c,i * 4+3,none⟩ (.slice ap al ac)→K w6:=by
 have hpl:=(h.pairs c hc).2
 refine ⟨_,_,_,Owns.row bJ.len (h.pairs c hc).1 hi (j:=3) rfl,?_⟩
 have hlen:=hq.len
 have hfew:=hq.few
 rw [List.length_cons] at hlen hfew
 refine rU (cells:=eR) aL.len (l:=q::qs) hq.rd hq.len hq.cap (i:=1) (k:=pr.Ql) rfl rfl (by omega) (Nat.le_refl _) λxa hxr hxl=>?_
 have e1:((q::qs).take pr.Ql).drop 1=qs:=by
  rw [List.take_of_length_le (by rw [List.length_cons];omega)]
  rfl
 rw [e1] at hxr hxl
 refine yT hxr (by omega) (by omega) λap cap' w5 ho5 hn5 hap=>?_
 have h5:=h.new hn5
 refine ⟨⟨_,Owns.row bJ.len (h5.pairs c hc).1 hi (j:=3) rfl⟩,Owns.frozen (h5.pairs c hc).1,?_⟩
 rintro w6 hw6
 have hk6:Keep (λk=>k=F.pb c) w5 w6:=by rw [hw6];exact aZ _ _ _ _
 have hrow:=Owns.setRow bJ.len (h5.pairs c hc).1 hi (j:=3) (r':=⟨pr.Client,pr.Inc,pr.Node,ap,pr.Ql - 1,cap'⟩) (v:=.slice ap (pr.Ql - 1) cap') (by omega) rfl
 rw [←hw6] at hrow
 obtain ⟨cur,hbl,_⟩:=Owns.blk (h5.pairs c hc).1
 have ho6:=Owns.keep hk6 ho5 λk hk e=>Owns.noB ho5 hbl (by decide) (by rw [←e];exact hk)
 refine hk w6 ap _ cap' (h5.rePair hc hk6 (by rw [List.length_set];exact hpl) hrow) ⟨ho6.rd,by omega,ho6.le,by omega,λk hk hA=>by have:=hap k hk;have:=hAs k hA;omega,λk hk=>Owns.lt ho6 hk,λp hp=>?_⟩ ((Keep.of_new hn5).trans hk6 λ_ _ e=>e)
 exact ((hq.ok p (List.mem_cons_of_mem _ hp)).keep hn5 λ_ _ e=>e.elim).keep hk6 λk _ e=>by rw [e];exact hA1
end Go.Proofs.YtafopfaomkklpaaGreat
namespace Go.Proofs.YtafopfaomkklpaaGreat
open Go.Proofs.Tryz
open Go.Eng
def StR (w:World) (fb:Nat) (F:Fa) (N:List bS) (Cl:List CliR) (P:Nat→List bJ) (c i m:Nat) (pr:bJ) (Av:Nat→Prop) (q:dE) (qs:List dE) (x:Value) (w':World):Prop:=
 ∃ (dn:aV) (slot:Int) (done:Bool) (a:Option Addr) (n cap:Nat) (ps:List dE),x=.tuple #[dn.val,.int .i64 slot,.bool done,.bool true]∧cY w' fb F N Cl (setP P c ((P c).set i ⟨pr.Client,pr.Inc,pr.Node,a,n,cap⟩))∧QAt w' Av F.lines m a n cap ps∧Keep (λk=>k=F.pb c∨WBk N k) w w'∧
  ((done=true∧ps=qs∧slot=q.Slot∧DnAt w' Av dn)∨(done=false∧∃ q',ps=q'::qs∧q'.Slot=q.Slot∧q'.V=q.V∧q'.Executed=q.Executed+1))
set_option maxHeartbeats 8000000 in
theorem DS {w:World} {fb:Nat} {F:Fa} {N:List bS} {Cl:List CliR} {P:Nat→List bJ} (h:cY w fb F N Cl P) {c i:Nat} (hc:c<Cl.length) {pr:bJ} (hi:(P c)[i]?=some pr) {r:bS} (hr:r ∈ N) {nd:Addr} (had:NdAt fb F N Cl P r nd) (hup:∀ y,cY y fb F N Cl P→y.cell? ⟨nd.block,nd.off+1,none⟩=some (.bool r.Up))
  {Av:Nat→Prop} (hAs:∀ k,Av k→k<w.heap.size) (hA1:Av (F.pb c)) (hA2:∀ k,WBk N k→Av k) {m:Nat} {q:dE} {qs:List dE} (hq:QAt w Av F.lines m pr.Queue pr.Ql pr.Qc (q::qs)) :
  Does 92 [.pointer (some ⟨F.pb c,i * 4,none⟩),.pointer (some nd)] w (StR w fb F N Cl P c i m pr Av q qs):=by
 refine does Tryz.func92 ?_
 rw [oS]
 have hln:=h.ln
 rintro b1 w1 hb1 hw1
 obtain ⟨hz1,hn1⟩:=aR hb1 hw1
 have hz1:Blk w1 b1 (aV.cells ⟨0,none,0,0⟩) 53:=hz1
 clear hw1
 have h1:=h.new hn1
 have hq1:=hq.next hn1
 have hlen:=hq.len
 have hfew:=hq.few
 rw [List.length_cons] at hlen hfew
 have hqc:∀ {y:World} {M:List bS},cY y fb F M Cl P→y.cell? ⟨F.pb c,i * 4+3,none⟩=some (.slice pr.Queue pr.Ql pr.Qc):=λhy=>Owns.row bJ.len (hy.pairs c hc).1 hi (j:=3) rfl
 have hb1w:w.heap.size≤b1:=by omega
 have hb1A:¬ Av b1:=λhA=>by have:=hAs b1 hA;omega
 refine ⟨_,_,_,hqc h1,bB (λe=>absurd e (by omega)) (λ_=>⟨_,_,_,hqc h1,?_⟩)⟩
 refine gN (cells:=eR) aL.len (by omega) (i:=0) (x:=q) (l:=q::qs) hq1.rd rfl rfl hq1.len λb o hcc _=>aL.mk_ex q ⟨hcc,?_⟩
 refine mr (vs:=eR q) rfl (aL.single _) λb2 w4 hb2 hz4 hn4=>?_
 have hz4:Blk w4 b2 (eR q) TPe:=hz4
 have h4:=h1.new hn4
 have hn04:=hn1.new hn4
 have hq4:=hq.next hn04
 have hx4:=New.blk hn4 hz1
 have hs4:=hn04.size
 have hs1:=hn1.size
 have hb12:b1≠b2:=by have:=hz1.lt;omega
 have hb2w:w.heap.size≤b2:=by omega
 have hb1l:=hx4.lt
 have hb2l:=hz4.lt
 obtain ⟨Av',hAv'⟩:∃ A:Nat→Prop,A=λk=>Av k∨k=b1∨k=b2:=⟨_,rfl⟩
 have hq':QAt w Av' F.lines m pr.Queue pr.Ql pr.Qc (q::qs):=hq.to λk hlt e=>by
  rw [hAv'] at e
  rcases e with e | e | e
  ·exact e
  ·omega
  ·omega
 have hAs':∀ k,Av' k→k<w4.heap.size:=λk e=>by
  rw [hAv'] at e
  rcases e with e | e | e
  ·have:=hAs k e;omega
  ·omega
  ·omega
 have hA1':Av' (F.pb c):=by rw [hAv'];exact .inl hA1
 have hAb1:Av' b1:=by rw [hAv'];exact .inr (.inl rfl)
 have hAb2:Av' b2:=by rw [hAv'];exact .inr (.inr rfl)
 have hA2':∀ k,WBk N k→Av' k:=λk e=>by rw [hAv'];exact .inl (hA2 k e)
 have hback:∀ k,Av k→Av' k:=λk e=>by rw [hAv'];exact .inl e
 have hq4:=hq'.next hn04
 have hown1:∀ {y:World} {M:List bS} {PP:Nat→List bJ},cY w fb F M Cl P→∀ k,F.own fb M Cl.length k→k≠b1:=λhf k hk e=>by have:=hf.lt hk;omega
 have fin:∀ {u:World} {a:Option Addr} {n cap:Nat} {ps:List dE} {ddn:Bool} {sl:Int} (cd:Int) (wa:Option Addr) (wl wc:Nat),cY u fb F N Cl (setP P c ((P c).set i ⟨pr.Client,pr.Inc,pr.Node,a,n,cap⟩))→QAt u Av' F.lines m a n cap ps→Keep (λk=>k=F.pb c∨WBk N k) w u→Blk u b1 (aV.cells ⟨0,none,0,0⟩) 53→
   (∀ w8,Keep (λk=>k=b1) u w8→((ddn=true∧ps=qs∧sl=q.Slot∧DnAt w8 Av ⟨cd,wa,wl,wc⟩)∨(ddn=false∧∃ q',ps=q'::qs∧q'.Slot=q.Slot∧q'.V=q.V∧q'.Executed=q.Executed+1)))→
   ∀ {K:World→Prop},(∀ w8,Keep (λk=>k=b1) u w8→K w8)→wrAt u ⟨b1,0,none⟩ 0 [(.int .i64 cd),(.slice wa wl wc)]∧∀ w8,w8=puts u ⟨b1,0,none⟩ 0 [(.int .i64 cd),(.slice wa wl wc)]→K w8∧aV.ex λres1=>aE w8 ⟨b1,0,none⟩ 0 res1.cells∧w8=w8∧StR w fb F N Cl P c i m pr Av q qs (.tuple #[res1.val,(.int .i64 sl),(.bool ddn),(.bool true)]) w8:=by
  intro u a n cap ps ddn sl cd wa wl wc hf6 hq6 hk06 hx7 hd K hK
  refine oG (vs:=aV.cells ⟨cd,wa,wl,wc⟩) hx7 rfl (aV.single _) λw8 hx8 hk8=>⟨hK w8 hk8,?_⟩
  refine aV.mk_ex ⟨cd,wa,wl,wc⟩ ⟨aH hx8 rfl,rfl,⟨cd,wa,wl,wc⟩,_,ddn,a,n,cap,ps,rfl,hf6.keep hk8 (λk hk e=>?_),(hq6.keep hk8 λk _ e=>by rw [e];exact hAb1).to (λk _ e=>hback k e),hk06.trans hk8 λk hlt e=>by omega,hd w8 hk8⟩
  have:F.own fb N Cl.length k:=hk
  have:=h.lt this
  omega
 have hpd:=hq4.ok q List.mem_cons_self
 have k04:∀ {u:World} {M:Nat→Prop},Keep M w4 u→(∀ k,M k→k=F.pb c∨WBk N k∨w.heap.size≤k)→Keep (λk=>k=F.pb c∨WBk N k) w u:=λhk hM=>
  (Keep.of_new hn04).trans hk λk hlt e=>by
   rcases hM k e with e | e | e
   ·exact .inl e
   ·exact .inr e
   ·omega
 have pop:∀ {u:World} (code:Int),New w4 u→cY u fb F N Cl P→∃ (Queue:Option Addr) (Ql Qc:Nat),u.cell? ⟨F.pb c,i * 4+3,none⟩=some (.slice Queue Ql Qc)∧sl3 Queue Ql Qc 1 Ql Qc 12 λxa xl xc=>∃ (ap:Option Addr) (al ac:Nat),∃ w5,(Builtin.append_ #[187,187] 187 #[(.slice none 0 0),(.slice xa xl xc)]).run prog u=.ok (.slice ap al ac) w5∧(∃ v,w5.cell? ⟨F.pb c,i * 4+3,none⟩=some v)∧w5.frozen? ⟨F.pb c,i * 4+3,none⟩=false∧∀ w6,w6=w5.setCell ⟨F.pb c,i * 4+3,none⟩ (.slice ap al ac)→
   ∀ w7,w7=w6.drew→∃ Sx:World→Prop,Sx w7∧∃ (Slot:Int),(∀ y,Sx y→y.cell? ⟨b2,11,none⟩=some (.int .i64 Slot))∧wrAt w7 ⟨b1,0,none⟩ 0 [(.int .i64 code),(.slice none 0 0)]∧∀ w8,w8=puts w7 ⟨b1,0,none⟩ 0 [(.int .i64 code),(.slice none 0 0)]→Sx w8∧aV.ex λres1=>aE w8 ⟨b1,0,none⟩ 0 res1.cells∧w8=w8∧StR w fb F N Cl P c i m pr Av q qs (.tuple #[res1.val,(.int .i64 Slot),(.bool true),(.bool true)]) w8:=by
  intro u code hnu hfu
  have hqu:=hq4.next hnu
  have hsu:=hnu.size
  refine EF hfu hc hi hqu (λk hA=>by have:=hAs' k hA;omega) hA1' λw6 a n cap hf6 hq6 hk6=>?_
  rintro w7 hw7
  have hn7:New w6 w7:=by rw [hw7];exact aT _
  clear hw7
  have hpbl:=hAs _ hA1
  have hx7:=New.blk hn7 (hk6.blk (New.blk hnu hx4) λe=>by omega)
  have hz7:=New.blk hn7 (hk6.blk (New.blk hnu hz4) λe=>by omega)
  have hk7:Keep (λk=>k=F.pb c) w4 w7:=((Keep.of_new hnu).trans hk6 λ_ _ e=>e).new hn7
  refine ⟨λy=>Blk y b2 (eR q) TPe,hz7,_,λy hy=>hy.cell (i:=11) rfl,?_⟩
  exact fin (ps:=qs) (ddn:=true) (sl:=q.Slot) code none 0 0 (hf6.new hn7) (hq6.next hn7) (k04 hk7 λk e=>.inl e) hx7 (λw8 _=>.inl ⟨rfl,rfl,rfl,⟨[],.inl rfl,rfl,by simp,by simp,Nat.le_refl _⟩,λk hk=>absurd hk noB,λk hk=>absurd hk noB⟩) λw8 hk8=>hk8.blk hz7 λe=>hb12 e.symm
 refine ⟨_,hup w4 h4,nj (λ_=>cM rfl (pop 4 (Keep.refl _ _) h4)) (λ_=>?_)⟩
 rintro w5 hw5
 have hn5:New w4 w5:=by rw [hw5];exact aT _
 clear hw5
 have h5:=h4.new hn5
 have hz5:=New.blk hn5 hz4
 refine ⟨λy=>New w5 y,Keep.refl _ _,aU.mk_ex q.V ⟨λy hy=>aH (New.blk hy hz5) rfl,_,_,_,λy hy=>had y (h5.new hy),?_⟩⟩
 refine aC (xS w5 q.V 5 _) ?_
 rintro x w6 ⟨e,rfl,_,hn6⟩
 have hn46:=hn5.new hn6
 have h6:=h4.new hn46
 refine ⟨_,rfl,hn6,bQ (λ_=>cM rfl (pop 2 hn46 h6)) (λ_=>?_)⟩
 rintro w7 hw7
 have hn7:New w6 w7:=by rw [hw7];exact aT _
 clear hw7
 have hn47:=hn46.new hn7
 have h7:=h4.new hn47
 have hz7:=New.blk hn47 hz4
 refine ⟨λy=>New w7 y,Keep.refl _ _,aU.mk_ex q.V ⟨λy hy=>aH (New.blk hy hz7) rfl,_,λy hy=>Owns.row bJ.len ((h7.new hy).pairs c hc).1 hi (j:=1) rfl,_,λy hy=>Owns.row bJ.len ((h7.new hy).pairs c hc).1 hi (j:=0) rfl,?_⟩⟩
 refine aC (DR w7 pr.Client) ?_
 rintro x w8 ⟨⟨dr,rfl⟩,rfl⟩
 refine ⟨_,rfl,Keep.refl _ _,?_⟩
 refine aC (at_w h7 hr had dr) ?_
 rintro x w9 ⟨⟨y1,rfl⟩,rfl⟩
 refine ⟨_,rfl,Keep.refl _ _,?_⟩
 refine aC (at_w h7 hr had 0) ?_
 rintro x w10 ⟨⟨y2,rfl⟩,rfl⟩
 refine ⟨_,rfl,Keep.refl _ _,?_⟩
 refine aC (at_w h7 hr had 1) ?_
 rintro x w11 ⟨⟨y3,rfl⟩,rfl⟩
 refine ⟨_,rfl,Keep.refl _ _,?_⟩
 refine aC (DN w11 q.V pr.Inc y1 y2 y3) ?_
 rintro x w12 ⟨⟨ce,rfl⟩,hn12⟩
 have hn412:=hn47.new hn12
 have h12:=h4.new hn412
 refine ⟨_,rfl,hn12,bQ (λ_=>pop ce hn412 h12) (λ_=>?_)⟩
 have hz12:=New.blk hn412 hz4
 have hpd12:=hpd.keep hn412 λ_ _ e=>e.elim
 have hat:=hpd12.at0
 have hcn:=hpd12.cnt
 have hft:=hpd12.fit
 have hex:=hpd12.ex
 refine aU.mk_ex q.V ⟨aH hz12 rfl,?_⟩
 refine aC (AE w12 ⟨hat,by omega⟩ (by omega)) ?_
 rintro x w13 ⟨pa,pcap,rfl,hpo,hn13⟩
 refine ⟨_,_,_,rfl,?_⟩
 rintro w14 hw14
 have hn14:New w13 w14:=by rw [hw14];exact aT _
 clear hw14
 have hn1214:=hn13.new hn14
 have hn414:=hn412.new hn1214
 have h14:=h4.new hn414
 have hz14:=New.blk hn414 hz4
 have hx14:=New.blk hn414 hx4
 have hpo14:=Owns.new hn14 hpo
 have hpd14:=hpd.keep hn414 λ_ _ e=>e.elim
 obtain ⟨xs,hxr,hxl,hxU,hxn⟩:=hpd14.words
 obtain ⟨g,rfl⟩:=pX hpo14 (by omega)
 obtain ⟨e0,he0⟩:=Int.eq_ofNat_of_zero_le hex.1
 have hnp:e0<(npV q.V).length:=by omega
 have hgp:((npV q.V).map pcR)[e0]?=some (pcR (npV q.V)[e0]):=by rw [List.getElem?_map,List.getElem?_eq_getElem hnp];rfl
 have hin:=EE (l:=cntV q.V) hat (List.getElem_mem hnp)
 refine ⟨λy=>Wr N w14 y,Wr.refl _ _,_,_,_,λy hy=>(hy.tr h14.nok (by decide) _ _ hz14).cell (i:=10) rfl,aU.mk_ex q.V ⟨λy hy=>aH (hy.tr h14.nok (by decide) _ _ hz14) rfl,_,λy hy=>(hy.tr h14.nok (by decide) _ _ hz14).cell (i:=9) rfl,?_⟩⟩
 refine bI hex.1 hex.2 (aS.mk_ex (pcR (npV q.V)[e0]) ⟨λy hy=>eb λj v hv=>?_,?_⟩)
 ·rw [show 0+q.Executed.toNat * 2+0+j=e0 * 2+j by omega]
  exact Owns.row aS.len (Owns.tr (hy.tr h14.nok (by decide)) hpo14) hgp hv
 have hnpl:=DP q.V.At (cntV q.V)
 have hnpl':((npV q.V).length:Int)≤1024:=by unfold npV;omega
 refine wv hxr hxl (by omega) λap1 ac1 w15 ho15 hn15 hap1=>⟨Wr.of_new hn15,?_⟩
 have h15:=h14.new hn15
 have hpd15:=hpd14.keep hn15 λ_ _ e=>e.elim
 have hfitp:(pcR (npV q.V)[e0]).At+(pcR (npV q.V)[e0]).N≤F.lines * 8:=by
  show (npV q.V)[e0].1+(npV q.V)[e0].2≤_
  have:=hin.2.2
  omega
 refine aC (AF h15 hr had (hpd15.vb.to λk _ e=>hA2' k e) (p:=pcR (npV q.V)[e0]) hin.1 ⟨hat,hin.2.1⟩ hfitp (λhk2=>by
  have h2:=hin.2.2
  have:cntV q.V=q.V.Wl:=by unfold cntV;rw [if_neg (by omega),if_pos hk2]
  show (npV q.V)[e0].1+(npV q.V)[e0].2≤_
  omega)) ?_
 rintro x w16 ⟨ea,en,ec,l2,rfl,hwl,hl8,hwr⟩
 have hwr16:Wr N w14 w16:=(Wr.of_new hn15).trans hwr
 have s15:=hn15.size
 have s14:=hn414.size
 refine ⟨_,_,_,rfl,hwr16,?_⟩
 have ho16:=Owns.keep hwr.keep ho15 λk hk e=>by have:=(wC h14.nok e).lt;have:=hap1 k hk;omega
 refine uE ho16 hwl.own.rd hwl.len (by have:=hwl.len;omega) λap2 ac2 w17 ho17 hk17 hap2=>?_
 have hwr17:Wr N w14 w17:=hwr16.fresh hk17 hap1
 have h17:=h14.wr hwr17
 have hz17:=hwr17.tr h14.nok (by decide) _ _ hz14
 have hx17:=hwr17.tr h14.nok (by decide) _ _ hx14
 refine ⟨hwr17,⟨_,hz17.cell (i:=10) rfl⟩,hz17.frozen,?_⟩
 rintro w18 hw18
 have hz18:=hz17.setCell (i:=10) (.slice ap2 (q.Words_l+en) ac2)
 have hk18:Keep (λk=>k=b2) w17 w18:=by rw [hw18];exact aZ _ _ _ _
 have hw18':w18=w17.setCell ⟨b2,10,none⟩ (.slice ap2 (q.Words_l+en) ac2):=hw18
 rw [←hw18'] at hz18
 clear hw18 hw18'
 refine ⟨_,hz18.cell (i:=9) rfl,⟨_,hz18.cell (i:=9) rfl⟩,hz18.frozen,?_⟩
 rintro w19 hw19
 rw [w64 (x:=q.Executed+1) (by omega) (by omega)] at hw19
 have hz19:=hz18.setCell (i:=9) (.int .i64 (q.Executed+1))
 have hk19:Keep (λk=>k=b2) w18 w19:=by rw [hw19];exact aZ _ _ _ _
 have hw19':w19=w18.setCell ⟨b2,9,none⟩ (.int .i64 (q.Executed+1)):=hw19
 rw [←hw19'] at hz19
 clear hw19 hw19'
 obtain ⟨q',hqe⟩:∃ q':dE,q'=⟨q.V,q.Executed+1,ap2,q.Words_l+en,ac2,q.Slot⟩:=⟨_,rfl⟩
 have hz19:Blk w19 b2 (eR q') TPe:=by rw [hqe];exact hz19
 have hk1719:=hk18.trans hk19 λ_ _ e=>e
 have k419:Keep (λk=>WBk N k∨k=b2) w4 w19:=((Keep.of_new hn414).trans (hwr17.keep.mono λk _ e=>.inl e) λ_ _ e=>e).trans (hk1719.mono λk _ e=>.inr e) λ_ _ e=>e
 have h19:cY w19 fb F N Cl P:=h17.keep hk1719 λk hk e=>by have:=h.lt hk;omega
 have hx19:=hk1719.blk hx17 hb12
 have hq19:=hq4.keep k419 λk _ e=>by
  rcases e with e | e
  ·exact hA2' k e
  ·rw [e];exact hAb2
 have s19:=k419.size
 have hap2':∀ k,isB ap2 k→w14.heap.size≤k:=λk hk=>by
  have:=hwr16.keep.size
  rcases hap2 k hk with e | e
  ·exact hap1 k e
  ·omega
 have ho19:=Owns.keep hk1719 ho17 λk hk e=>by have:=hap2' k hk;omega
 have hen:=hwl.len
 have hw19:∃ zs:List Int,Rd w19 ap2 (us zs)∧q.Words_l+en=zs.length∧(∀ x ∈ zs,U64 x)∧(zs.length:Int)≤8 * (q.Executed+1):=⟨xs++l2,ho19.rd,by rw [List.length_append,←hxl,hen],λx hx=>by
  rcases List.mem_append.1 hx with hx | hx
  ·exact hxU x hx
  ·exact hwl.u64 x hx,by rw [List.length_append];omega⟩
 have hoff2:∀ k,isB ap2 k→¬ Av' k:=λk hk e=>by have:=hap2' k hk;have:=hAs' k e;omega
 have hlt2:∀ k,isB ap2 k→k<w19.heap.size:=λk hk=>Owns.lt ho19 hk
 have hqV:q'.V=q.V:=by rw [hqe]
 have hqX:q'.Executed=q.Executed+1:=by rw [hqe]
 have hqS:q'.Slot=q.Slot:=by rw [hqe]
 have hpq:=hq19.ok q List.mem_cons_self
 refine ⟨_,hz19.cell (i:=9) (v:=.int .i64 (q.Executed+1)) (by rw [hqe];rfl),aD (λhmore=>?more) (λhmore=>?last)⟩
 case more=>
  refine ⟨_,_,_,hqc h19,?_⟩
  have hq19l:=hq19.len
  refine yT hq19.rd hq19l (by omega) λap3 ac3 w20 ho20 hn20 hap3=>?_
  have hz20:=New.blk hn20 hz19
  have hx20:=New.blk hn20 hx19
  have h20:=h19.new hn20
  refine aL.mk_ex q' ⟨aH hz20 rfl,?_⟩
  obtain ⟨g3,rfl⟩:=pX ho20 (by omega)
  obtain ⟨cur,hb3,hcl,hct⟩:=Owns.blk ho20
  have hle3:=ho20.le
  have hcur12:12≤cur.length:=by omega
  refine bI (by omega) (by omega) ⟨fF hb3 (by rw [aL.len];simp;omega) (aL.single _),?_⟩
  rintro w21 hw21
  have hb21:=hb3.puts (o:=0) (i:=0) (vs:=eR q')
  have hk21:Keep (λk=>k=g3) w20 w21:=by rw [hw21];exact ej _ _ _ _ _
  have hw21':w21=puts w20 ⟨g3,0,none⟩ 0 (eR q'):=hw21
  rw [←hw21'] at hb21
  clear hw21 hw21'
  have hg3:=hap3 g3 ⟨0,rfl⟩
  have hrows:Rd w21 (some ⟨g3,0,none⟩) ((q'::qs).map eR).flatten:=by
   refine fM hb21 ?_
   have hl12:(eR q').length=12:=rfl
   rw [List.drop_zero,rK (by rw [hl12];omega)]
   have e1:((q'::qs).map eR).flatten=eR q'++(qs.map eR).flatten:=by simp
   have e2:((q::qs).map eR).flatten=eR q++(qs.map eR).flatten:=by simp
   have hql:(eR q).length=12:=rfl
   have hqsl:((qs.map eR).flatten).length=qs.length * 12:=j9 aL.len qs
   rw [e2] at hct
   rw [e1]
   have e3:(cur.drop 12).take (qs.length * 12)=(qs.map eR).flatten:=by
    have:(cur.take (pr.Ql * 12)).drop 12=(qs.map eR).flatten:=by rw [hct,List.drop_append_of_le_length (by omega),List.drop_of_length_le (by omega),List.nil_append]
    rw [List.drop_take] at this
    rw [←this,show pr.Ql * 12 - 12=qs.length * 12 by omega]
   rw [show 0+0=0 from rfl,List.take_zero,List.nil_append,hl12,Nat.zero_add,List.length_append,hl12,hqsl,List.take_append,hl12,List.take_of_length_le (by omega),show 12+qs.length * 12 - 12=qs.length * 12 by omega,e3]
  have h21:cY w21 fb F N Cl P:=h20.keep hk21 λk hk e=>by have:=h.lt hk;have:=hn20.size;omega
  have hz21:=hk21.blk hz20 (by omega)
  have hx21:=hk21.blk hx20 (by omega)
  refine ⟨⟨_,Owns.row bJ.len (h21.pairs c hc).1 hi (j:=3) rfl⟩,Owns.frozen (h21.pairs c hc).1,?_⟩
  rintro w22 hw22
  have hk22:Keep (λk=>k=F.pb c) w21 w22:=by rw [hw22];exact aZ _ _ _ _
  have hrow:=Owns.setRow bJ.len (h21.pairs c hc).1 hi (j:=3) (r':=⟨pr.Client,pr.Inc,pr.Node,some ⟨g3,0,none⟩,pr.Ql,ac3⟩) (v:=.slice (some ⟨g3,0,none⟩) pr.Ql ac3) (by omega) rfl
  have hw22':w22=w21.setCell ⟨F.pb c,i * 4+3,none⟩ (.slice (some ⟨g3,0,none⟩) pr.Ql ac3):=hw22
  rw [←hw22'] at hrow
  clear hw22 hw22'
  have hf22:=h21.rePair hc hk22 (by rw [List.length_set];exact (h.pairs c hc).2) hrow
  have hpbl:=hAs _ hA1
  have k1922:Keep (λk=>k=F.pb c) w19 w22:=((Keep.of_new hn20).trans hk21 λk hlt e=>by omega).trans hk22 λ_ _ e=>e
  have hq22:QAt w22 Av' F.lines m (some ⟨g3,0,none⟩) pr.Ql ac3 (q'::qs):=by
   refine ⟨jd hk22 hrows λk _ hb e=>?_,by rw [List.length_cons];omega,hle3,by rw [List.length_cons];omega,λk hb e=>?_,λk hb=>?_,λp hp=>?_⟩
   ·have:=lX hb;omega
   ·have:=lX hb;have:=hAs' k e;omega
   ·have:=hb21.lt;have:=hk22.size;have:=lX hb;omega
   ·rcases List.mem_cons.1 hp with rfl | hp
    ·have hold:=hpq.keep k1922 λk _ e=>by rw [e];exact hA1'
     obtain ⟨zs,z1,z2,z3,z4⟩:=hw19
     refine ⟨by rw [hqV];exact hold.vb,by rw [hqV];exact hold.kind,by rw [hqV];exact hold.at0,by rw [hqV];exact hold.cnt,by rw [hqV];exact hold.fit,?_,⟨zs,?_,by rw [hqe];exact z2,z3,by rw [hqX];exact z4⟩,?_,?_,by rw [hqS];exact hold.slot⟩
     ·rw [hqV,hqX];exact ⟨by omega,hmore⟩
     ·have:p.Words=ap2:=by rw [hqe]
      rw [this]
      exact jd k1922 z1 λk _ hb e=>hoff2 k hb (by rw [e];exact hA1')
     ·rw [hqe];exact hoff2
     ·rw [hqe];exact λk hk=>Nat.lt_of_lt_of_le (hlt2 k hk) k1922.size
    ·exact (hq19.ok p (List.mem_cons_of_mem _ hp)).keep k1922 λk _ e=>by rw [e];exact hA1'
  have hx22:=hk22.blk hx21 (by omega)
  have hk022:Keep (λk=>k=F.pb c∨WBk N k) w w22:=(k04 k419 λk e=>by rcases e with e | e;exact .inr (.inl e);exact .inr (.inr (by omega))).trans (k1922.mono λk _ e=>.inl e) λ_ _ e=>e
  have:=fin (ps:=q'::qs) (ddn:=false) (sl:=-1) 0 none 0 0 hf22 hq22 hk022 hx22 (λw8 _=>.inr ⟨rfl,q',rfl,hqS,hqV,hqX⟩) (K:=λ_=>True) λ_ _=>trivial
  exact ⟨this.1,λw8 hw8=>(this.2 w8 hw8).2⟩
 case last=>
  refine EF h19 hc hi hq19 (λk hA=>by have:=hAs' k hA;omega) hA1' λw20 a n cap hf20 hq20 hk20=>?_
  rintro w21 hw21
  have hn21:New w20 w21:=by rw [hw21];exact aT _
  clear hw21
  have hpbl:=hAs _ hA1
  have hz21:=New.blk hn21 (hk20.blk hz19 (by omega))
  have hx21:=New.blk hn21 (hk20.blk hx19 (by omega))
  have k1921:Keep (λk=>k=F.pb c) w19 w21:=hk20.new hn21
  refine ⟨λy=>Blk y b2 (eR q') TPe,hz21,ap2,q.Words_l+en,ac2,λy hy=>hy.cell (i:=10) (by rw [hqe];rfl),q.Slot,λy hy=>hy.cell (i:=11) (by rw [hqe];rfl),?_⟩
  have hk021:Keep (λk=>k=F.pb c∨WBk N k) w w21:=(k04 k419 λk e=>by rcases e with e | e;exact .inr (.inl e);exact .inr (.inr (by omega))).trans (k1921.mono λk _ e=>.inl e) λ_ _ e=>e
  exact fin (ps:=qs) (ddn:=true) (sl:=q.Slot) 0 ap2 (q.Words_l+en) ac2 (hf20.new hn21) (hq20.next hn21) hk021 hx21 (λw8 hk8=>.inl ⟨rfl,rfl,rfl,by
   obtain ⟨zs,z1,z2,z3,z4⟩:=hw19
   exact ⟨⟨zs,jd hk8 (jd k1921 z1 λk _ hb e=>hoff2 k hb (by rw [e];exact hA1')) λk _ hb e=>hoff2 k hb (by rw [e];exact hAb1),z2,z3,by omega,Owns.le ho19⟩,λk hb e=>hoff2 k hb (hback k e),λk hb=>Nat.lt_of_lt_of_le (Nat.lt_of_lt_of_le (hlt2 k hb) k1921.size) hk8.size⟩⟩) λw8 hk8=>hk8.blk hz21 λe=>hb12 e.symm
end Go.Proofs.YtafopfaomkklpaaGreat
