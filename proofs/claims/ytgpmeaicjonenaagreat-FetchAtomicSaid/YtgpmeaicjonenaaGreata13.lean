import Derived.Test.YtgpmeaicjonenaaGreata12
set_option linter.unusedVariables false
namespace Go.Proofs.YtgpmeaicjonenaaGreat
open Go.Proofs.Tryz
open Go.Eng
theorem wP {w:World} {a:Option Addr} {n c:Nat} {xs:List Value} (hl:xs.length=n) (hr:Rd w a xs) (h1:∀ u ∈ xs,single u=true) (hb:n≤1000000000) (hn:a=none→n=0) :
  Does 78 [.slice a n c] w λv w'=>∃ a' cap,v=.slice a' n cap∧vj w w' 3 1 a a' n cap xs:=by
 refine does Tryz.func78 ?_
 rw [lH]
 obtain ⟨i,hi,hz,hsz,hby⟩:=iF (T:=3) (z:=.int .i64 0) (n:=1) (m:=8) (by kernel_rfl)
 cases a with
 |none=>
  refine gE rfl ⟨none,0,by rw [hn rfl],Keep.refl _ _,?_,?_,by simp⟩
  ·rw [hn rfl] at hl ⊢
   rw [List.eq_nil_of_length_eq_zero hl]
   exact Owns.nil _ _ _
  ·rintro k ⟨o,ho⟩;cases ho
 |some a=>
  refine er rfl ?_
  rintro b1 w1 rfl rfl
  obtain ⟨a',cap',w',hrun,hc⟩:=nQ (t:=22) (ty:=22) (z:=.int .i64 0) (n:=n) (c:=c) (w:=w) (a:=a) (xs:=xs) Tryz.underlying22 hi hz (by rw [hsz];rfl) (by omega) (by rw [hl,hsz];omega) hr h1 (by omega) (by rw [hby];omega)
  exact ⟨a',n,cap',w',hrun,a',cap',rfl,by rw [hsz] at hc;exact hc⟩
theorem vq {A:Nat→Prop} {χ:Nat→Tag} {w w':World} {b nb nw:Nat} {p:cX} {n:aP} {r:Value} {t tw:Tag} (hpa:bS A w b p) (htag:∀ k,p.mut b k→χ k=t) (hti:t≠.imm) (hlow:∀ k,χ k≠.imm→k<w.heap.size) (hav:∀ k,χ k≠.imm→A k) (hnt:χ nw=tw)
  (S:rm A b nb nw p n w r w') :
  ∃ (χ':Nat→Tag) (d:aY) (p':cX),r=.tuple #[d.val,.bool (p.pure.step n).2.2.isSome]∧p'.pure=(p.pure.step n).1∧bM w' nb nw (p.pure.step n).2.1∧Keep (λk=>χ k=t∨χ k=tw) w w'∧
   (∀ k,k<w.heap.size→χ' k≠.imm→χ k≠.imm)∧(∀ k,k<w.heap.size→χ k≠t→χ' k=χ k)∧(∀ k,χ' k≠.imm→k<w'.heap.size)∧(∀ k,p'.mut b k→χ' k=t)∧bS (iK A χ χ' w) w' b p'∧
   ∀ x,(p.pure.step n).2.2=some x→j9 (iK A χ χ' w) w' d x:=by
 classical
 obtain ⟨d,p',rfl,hpure,hnode,hdone,hdw,hpair,hkeep,hva,hwa,hdt⟩:=S
 have hmlt:∀ k,p.mut b k→k<w.heap.size:=by
  rintro k (rfl | hk | hk)
  ·exact hpa.blk.lt
  ·exact hpa.own.lt hk
  ·exact hpa.wown.lt hk
 have hmut':∀ k,p'.mut b k→p.mut b k∨w.heap.size≤k:=by
  rintro k (hk | hk | hk)
  ·exact .inl (.inl hk)
  ·rcases hva with e | e
   ·exact .inl (.inr (.inl (e▸hk)))
   ·exact .inr (e k hk)
  ·rcases hwa with e | e
   ·exact .inl (.inr (.inr (e▸hk)))
   ·exact .inr (e k hk)
 have hp0:=hpair (λk=>(k<w.heap.size∧A k)∨isB p'.va k∨isB p'.wa k) (λk hk=>hk) (λk hk=>by
  rcases hk with hk | hk | hk
  ·exact .inl ⟨hmlt k (.inl hk),hpa.mine k (.inl hk)⟩
  ·exact .inr (.inl hk)
  ·exact .inr (.inr hk))
 have hmlt':∀ k,p'.mut b k→k<w'.heap.size:=by
  rintro k (rfl | hk | hk)
  ·exact hp0.blk.lt
  ·exact hp0.own.lt hk
  ·exact hp0.wown.lt hk
 let χ':Nat→Tag:=λk=>if p'.mut b k then t else if (p.pure.step n).2.2.isSome=true∧isB d.Words k then .imm else χ k
 have t1:∀ k,p'.mut b k→χ' k=t:=λk hk=>if_pos hk
 have t2:∀ k,¬ p'.mut b k→(p.pure.step n).2.2.isSome=true→isB d.Words k→χ' k=.imm:=λk h1 h2 h3=>by
  show (if p'.mut b k then t else if (p.pure.step n).2.2.isSome=true∧isB d.Words k then Tag.imm else χ k)=_
  rw [if_neg h1,if_pos ⟨h2,h3⟩]
 have t3:∀ k,¬ p'.mut b k→¬ ((p.pure.step n).2.2.isSome=true∧isB d.Words k)→χ' k=χ k:=λk h1 h2=>by
  show (if p'.mut b k then t else if (p.pure.step n).2.2.isSome=true∧isB d.Words k then Tag.imm else χ k)=_
  rw [if_neg h1,if_neg h2]
 have hdl:∀ k,isB d.Words k→k<w.heap.size→χ k=t:=λk hk hlt=>by
  rcases hdw k hk with h1 | h1
  ·exact htag k (.inr (.inr h1))
  ·omega
 have hg:∀ k,k<w.heap.size→χ' k≠.imm→χ k≠.imm:=by
  intro k hlt hc
  by_cases hm:p'.mut b k
  ·rcases hmut' k hm with h1 | h1
   ·rw [htag k h1];exact hti
   ·omega
  ·by_cases hd:(p.pure.step n).2.2.isSome=true∧isB d.Words k
   ·rw [t2 k hm hd.1 hd.2] at hc;exact absurd rfl hc
   ·rw [t3 k hm hd] at hc;exact hc
 have hs:∀ k,k<w.heap.size→χ k≠t→χ' k=χ k:=by
  intro k hlt hc
  by_cases hm:p'.mut b k
  ·rcases hmut' k hm with h1 | h1
   ·exact absurd (htag k h1) hc
   ·omega
  ·by_cases hd:(p.pure.step n).2.2.isSome=true∧isB d.Words k
   ·exact absurd (hdl k hd.2 hlt) hc
   ·exact t3 k hm hd
 have hl:∀ k,χ' k≠.imm→k<w'.heap.size:=by
  intro k hc
  by_cases hm:p'.mut b k
  ·exact hmlt' k hm
  ·by_cases hd:(p.pure.step n).2.2.isSome=true∧isB d.Words k
   ·rw [t2 k hm hd.1 hd.2] at hc;exact absurd rfl hc
   ·rw [t3 k hm hd] at hc
    exact Nat.lt_of_lt_of_le (hlow k hc) hkeep.size
 have hP:bS (iK A χ χ' w) w' b p':=by
  refine hpair _ (λk hk=>?_) (λk hk=>.inl (by rw [t1 k hk];exact hti))
  rcases hk with hk | hk
  ·by_cases hm:p'.mut b k
   ·rcases hm with hm | hm | hm
    ·exact .inl ⟨hmlt k (.inl hm),hpa.mine k (.inl hm)⟩
    ·exact .inr (.inl hm)
    ·exact .inr (.inr hm)
   ·by_cases hd:(p.pure.step n).2.2.isSome=true∧isB d.Words k
    ·rw [t2 k hm hd.1 hd.2] at hk;exact absurd rfl hk
    ·rw [t3 k hm hd] at hk
     exact .inl ⟨hlow k hk,hav k hk⟩
  ·exact .inl ⟨hk.1,hk.2.1⟩
 refine ⟨χ',d,p',rfl,hpure,hnode,hkeep.mono λk _ hk=>?_,hg,hs,hl,t1,hP,λx hx=>?_⟩
 ·rcases hk with hk | hk | hk
  ·exact .inl (htag k (.inl hk))
  ·exact .inl (htag k (.inr (.inr hk)))
  ·exact .inr (by rw [hk];exact hnt)
 ·obtain ⟨d1,d2,d3,d4,d5,d6,d7⟩:=hdone x hx
  refine ⟨d1,d2,d3,d4,?_,d5,d6⟩
  by_cases hx0:x.words=[]
  ·exact .inl hx0
  ·refine .inr ?_
   rcases d3 with hc | ⟨bb,oo,hbo,_⟩
   ·exact absurd (by simpa [us] using hc) hx0
   ·rw [hbo]
    have hib:isB d.Words bb:=⟨oo,hbo⟩
    obtain ⟨cs,hcs⟩:=hdt bb hib
    have hnm:¬ p'.mut b bb:=by
     rintro (hk | hk | ⟨o,ho⟩)
     ·have:=Blk.typ hcs (hk▸hP.blk);revert this;decide
     ·obtain ⟨cs2,hcs2⟩:=dU hP.own hk
      have:=Blk.typ hcs hcs2;revert this;decide
     ·rw [d7] at ho;cases ho
    intro hc
    rcases hc with hc | ⟨h1,_,h3⟩
    ·exact hc (t2 bb hnm (by rw [hx];rfl) hib)
    ·exact hti (by rw [←hdl bb hib h1];exact h3)
theorem aZ.setBatch {A:Nat→Prop} {χ:Nat→Tag} {w:World} {fb:Nat} {X:FabX} (h:aZ A χ w fb X) {i bb q:Nat} {c:aW} {d:aY} {x:Done} (hc:X.clients[i]?=some c) (hbb:c.bb=some bb) (hq:q<c.raw.length) (hd:j9 A w d x) :
  ∃ A',Next A A' χ χ w (puts w ⟨bb,0+q * 2,none⟩ 0 d.cells)∧aZ A' χ (puts w ⟨bb,0+q * 2,none⟩ 0 d.cells) fb { X with clients:=X.clients.set i { c with raw:=c.raw.set q d,batch:=c.batch.set q x } }:=by
 have hcx:=h.client i c hc
 obtain ⟨hb,ht⟩:=hcx.batch bb hbb
 rw [Nat.zero_add]
 have hk:Keep (λk=>χ k=.batch i) w (puts w ⟨bb,q * 2,none⟩ 0 d.cells):=(dD w bb (q * 2) 0 d.cells).mono λk _ e=>by rw [e];exact ht
 have hb':=hb.puts (o:=q * 2) (i:=0) (vs:=d.cells)
 rw [Nat.add_zero,rH (pG _) (by simpa [j1] using hq) rfl,zS] at hb'
 obtain ⟨m,nx⟩:=h.move (χ':=χ) (T:=λt=>t=.batch i) hk (by simp) (λ_ _ h=>h) (λ_ _ _ _=>rfl)
 have f1:=Owns.moved m hcx.own hcx.tag (by simp) (by simp)
 have q1:kY (iK A χ χ w) χ (puts w ⟨bb,q * 2,none⟩ 0 d.cells) i { c with raw:=c.raw.set q d,batch:=c.batch.set q x }:=by
  refine ⟨f1.1,f1.2,λj l hl=>(hcx.lane j l hl).moved m (by simp) (by simp),λhn=>?_,λb hbe=>?_,?_,λk v y hv hy=>?_⟩
  ·have hn':c.bb=none:=hn
   rw [hbb] at hn';cases hn'
  ·have hbe':c.bb=some b:=hbe
   rw [hbb] at hbe'
   simp only [Option.some.injEq] at hbe'
   subst hbe'
   exact ⟨hb',ht⟩
  ·simp [hcx.ds.1]
  ·rw [List.getElem?_set] at hv hy
   by_cases he:q=k
   ·subst he
    rw [if_pos rfl,if_pos (by omega)] at hv
    rw [if_pos rfl,if_pos (by rw [←hcx.ds.1];omega)] at hy
    simp only [Option.some.injEq] at hv hy
    subst hv;subst hy
    exact hd.keep m.keepA m.old
   ·rw [if_neg he] at hv hy
    exact (hcx.ds.2 k v y hv hy).keep m.keepA m.old
 obtain ⟨nx',hF⟩:=h.setClient (χ':=χ) hc (hk.mono λk _ e=>.inr (by rw [e];rfl)) (λ_ _ h=>h) (λ_ _ _ _=>rfl) (λk hc=>Nat.lt_of_lt_of_le (h.lowt hc) hk.size) (by
  have e:(gG X.clients).set i (aW.cells { c with raw:=c.raw.set q d,batch:=c.batch.set q x })=gG X.clients:=iw (by rw [np hc];simp [aW.cells])
  rw [e]
  exact (Blk.moved m h.cls h.ctag (by simp) (by simp)).1) h.ctag q1
 exact ⟨_,nx',hF⟩
theorem aZ.setWaiting {A:Nat→Prop} {χ:Nat→Tag} {w:World} {fb:Nat} {X:FabX} (h:aZ A χ w fb X) {i:Nat} {c:aW} (hc:X.clients[i]?=some c) (n:Nat) :
  ∃ A',Next A A' χ χ w (w.setCell ⟨X.cb,0+i * 7+4,none⟩ (.int .i64 n))∧aZ A' χ (w.setCell ⟨X.cb,0+i * 7+4,none⟩ (.int .i64 n)) fb { X with clients:=X.clients.set i { c with waiting:=n } }:=by
 have hk:Keep (λk=>χ k=.clients) w (w.setCell ⟨X.cb,0+i * 7+4,none⟩ (.int .i64 n)):=(aR w X.cb _ _).mono λk _ e=>by rw [e];exact h.ctag
 obtain ⟨m,nx⟩:=h.move (χ':=χ) (T:=λt=>t=.clients) hk (by simp) (λ_ _ h=>h) (λ_ _ _ _=>rfl)
 have hcx:=(h.client i c hc).moved m (λt ht e=>by rw [e] at ht;exact ht)
 obtain ⟨hb,_⟩:=je (k:=4) (c':={ c with waiting:=n }) h.cls hc (by omega) (v:=.int .i64 n) (by simp [aW.cells])
 obtain ⟨nx',hF⟩:=h.setClient (χ':=χ) (c':={ c with waiting:=n }) hc (hk.mono λk _ e=>.inl e) (λ_ _ h=>h) (λ_ _ _ _=>rfl) (λk hc=>Nat.lt_of_lt_of_le (h.lowt hc) hk.size) (by rw [lN];exact hb) h.ctag
  ⟨hcx.own,hcx.tag,hcx.lane,hcx.none,hcx.batch,hcx.ds⟩
 exact ⟨_,nx',hF⟩
def Comp.done1 (C:Comp) (q:Nat) (p:Pair) (ps:List Nat):Option Done→Comp
 |none=>C
 |some x=>{ C with lanes:=C.lanes.set q ⟨p,ps.tail⟩,batch:=C.batch.map λds=>ds.set (ps.headD 0) x,waiting:=C.waiting - 1 }
set_option maxHeartbeats 1600000 in
theorem vr {R:Value→World→Prop} {A1:Nat→Prop} {χ1:Nat→Tag} {w10:World} {fb:Nat} {X1:FabX} {i q g b2:Nat} {c1:aW} {l1:cJ} {d:aY} (h:aZ A1 χ1 w10 fb X1) (hc:X1.clients[i]?=some c1) (hl:c1.lanes[q]?=some l1) (hg:c1.la=some ⟨g,0,none⟩)
  (hbox:Blk w10 b2 d.cells TD) (od:Option Done) (hd:∀ x,od=some x→j9 A1 w10 d x) (hpl:od.isSome=true→∃ bb p0 ps,l1.places=p0::ps∧p0<c1.raw.length∧c1.bb=some bb∧0<c1.waiting) (hlen:l1.places.length≤1024) (hwb:c1.waiting≤1024)
  (hR:∀ w' A' χ' X',Next A1 A' χ1 χ' w10 w'→aZ A' χ' w' fb X'→X'.pure=X1.pure.setC i (c1.pure.done1 q l1.p.pure l1.places od)→R (.bool true) w') :
  (bif od.isSome then (∀ w11,w11=w10.drew→∃ Sx3:World→Prop,Sx3 w11∧nilP (some ⟨X1.cb,0+i * 7,none⟩) λrclient_a3=>∃ (batch:Option Addr) (pR:Nat) (batch_cap:Nat),(∀ u,Sx3 u→u.cell? ⟨rclient_a3.block,rclient_a3.off+3,none⟩=some (.slice batch pR batch_cap))∧∃ (places:Option Addr) (places_len:Nat) (places_cap:Nat),(∀ u,Sx3 u→u.cell? ⟨g,(0+q * 2)+1,none⟩=some (.slice places places_len places_cap))∧idxS places places_len 0 1 λad3=>∃ (x1:Int),(∀ u,Sx3 u→u.cell? ad3=some (.int .i64 x1))∧∃ (Code:Int) (Words:Option Addr) (Words_len:Nat) (Words_cap:Nat),(∀ u,Sx3 u→aC u ⟨b2,0,none⟩ 0 [(.int .i64 Code),(.slice Words Words_len Words_cap)])∧idxS batch pR x1 2 λad4=>wrAt w11 ad4 0 [(.int .i64 Code),(.slice Words Words_len Words_cap)]∧∀ w12,w12=puts w11 ad4 0 [(.int .i64 Code),(.slice Words Words_len Words_cap)]→∃ (places1:Option Addr) (places1_len:Nat) (places1_cap:Nat),w12.cell? ⟨g,(0+q * 2)+1,none⟩=some (.slice places1 places1_len places1_cap)∧sl3 places1 places1_len places1_cap 1 (places1_len:Nat) (places1_cap:Nat) 1 λxa xl xc=>Calls prog 78 #[(.slice xa xl xc)] w12 λe w13=>∃ (rClone:Option Addr) (rClone_len:Nat) (rClone_cap:Nat),e=.returned (.slice rClone rClone_len rClone_cap)∧(∃ u,w13.cell? ⟨g,(0+q * 2)+1,none⟩=some u)∧w13.frozen? ⟨g,(0+q * 2)+1,none⟩=false∧∀ w14,w14=w13.setCell ⟨g,(0+q * 2)+1,none⟩ (.slice rClone rClone_len rClone_cap)→nilP (some ⟨X1.cb,0+i * 7,none⟩) λrclient_a4=>∃ (waiting:Int),w14.cell? ⟨rclient_a4.block,rclient_a4.off+4,none⟩=some (.int .i64 waiting)∧nilP (some ⟨X1.cb,0+i * 7,none⟩) λrclient_a5=>(∃ u,w14.cell? ⟨rclient_a5.block,rclient_a5.off+4,none⟩=some u)∧w14.frozen? ⟨rclient_a5.block,rclient_a5.off+4,none⟩=false∧∀ w15,w15=w14.setCell ⟨rclient_a5.block,rclient_a5.off+4,none⟩ (.int .i64 (IntKind.i64.wrap (waiting - 1)))→R (.bool true) w15) else (R (.bool true) w10)):=by
 cases hod:od with
 |none=>
  refine hR w10 A1 χ1 X1 (h.refl (Keep.refl _ _)) h ?_
  rw [hod]
  show X1.pure=X1.pure.setC i c1.pure
  have:X1.pure.clients.set i c1.pure=X1.pure.clients:=iw (by simp [FabX.pure,hc])
  simp only [Fab.setC,Int.toNat_natCast,this]
 |some x=>
  obtain ⟨bb,p0,ps,hps,hp0,hbb,hw0⟩:=hpl (by rw [hod];rfl)
  have hdx:=hd x hod
  intro w11 hw11
  have hn11:Go.Eng.New w10 w11:=by rw [hw11];exact aU _
  clear hw11
  have h11:=h.new hn11
  have hbox11:=New.blk hn11 hbox
  have hcx:=h11.client i c1 hc
  have hlx:=hcx.lane q l1 hl
  obtain ⟨g',hga,hgi,⟨gcs,hgb⟩,_,hgk⟩:=Owns.row hcx.own (gH c1.lanes) (by omega) (fQ hl)
  have hgg:g'=g:=by rw [hg] at hga;simp at hga;exact hga.symm
  subst hgg
  have hpget:(is (l1.places.map Int.ofNat))[0]?=some (.int .i64 p0):=by rw [hps];rfl
  refine ⟨λz=>Go.Eng.New w11 z,Keep.refl _ _,some ⟨bb,0,none⟩,c1.raw.length,c1.raw.length,λz hz=>(h11.new hz).ccell (k:=3) hc (by simp [aW.cells,hbb]),l1.pla,l1.places.length,l1.plc,λz hz=>eG hz (hgk 1 _ rfl) id,?_⟩
  refine qu (i:=0) hlx.places hpget rfl λad3 hcell had=>⟨p0,λz hz=>eG hz hcell id,d.Code,d.Words,d.Wl,d.Wc,λz hz=>nR (New.blk hz hbox11),bE (by omega) (by omega) ?_⟩
  rw [Int.toNat_natCast]
  obtain ⟨A2,nx2,h12⟩:=h11.setBatch (q:=p0) hc hbb hp0 (hdx.keep (Keep.of_new hn11) λ_ _ h=>h)
  refine ⟨cK (vs:=d.cells) (hcx.batch bb hbb).1 ?_ (aY.single d),?_⟩
  ·rw [ee (pG _)]
   simp [j1,aY.cells]
   omega
  intro w12 hw12
  have hw12':w12=puts w11 ⟨bb,0+p0 * 2,none⟩ 0 d.cells:=hw12
  rw [←hw12'] at nx2 h12
  clear hw12'
  clear hw12
  have hc12:(X1.clients.set i { c1 with raw:=c1.raw.set p0 d,batch:=c1.batch.set p0 x })[i]?=some { c1 with raw:=c1.raw.set p0 d,batch:=c1.batch.set p0 x }:=by simp [aN hc]
  have hcx12:=h12.client i _ hc12
  have hlx12:=hcx12.lane q l1 hl
  obtain ⟨g2,hga2,_,⟨gcs2,hgb2⟩,_,hgk2⟩:=Owns.row hcx12.own (gH c1.lanes) (by omega) (fQ hl)
  have hgg:g2=g':=by have:c1.la=some ⟨g2,0,none⟩:=hga2;rw [hg] at this;simp at this;exact this.symm
  subst hgg
  refine ⟨l1.pla,l1.places.length,l1.plc,hgk2 1 _ rfl,?_⟩
  have hpl12:=hlx12.places
  rcases hpl12.2 with ⟨_,h0,_⟩ | ⟨pg,pcur,hpa,hpb,hple,hpm,hpc,hpt⟩
  ·rw [hps] at h0;cases h0
  rw [hpa]
  have hpos:0<l1.places.length:=by rw [hps];simp
  refine oC (by omega) (by omega) (by omega) (by omega) hple ?_
  intro xa hxa
  have hrd:Rd w12 xa (is (ps.map Int.ofNat)):=by
   by_cases hps0:ps=[]
   ·rw [hps0];exact .inl rfl
   ·rcases hxa with e | ⟨e,_⟩
    ·rw [e]
     have:=hpl12.rd
     rw [hpa] at this
     have:=this.drop 1
     rw [hps] at this
     simpa [is] using this
    ·exfalso
     rw [hps] at e
     simp at e
     exact hps0 (List.eq_nil_of_length_eq_zero (by omega))
  have hpsl:(Int.toNat (l1.places.length:Int)) - Int.toNat 1=ps.length:=by rw [hps];simp
  rw [hpsl]
  refine aF (wP (by simp [is]) hrd (zu _) (by rw [hps] at hlen;simp at hlen <;> omega) (λe=>by rcases hxa with e' | ⟨_,e'⟩<;>rw [e'] at e<;>cases e)) ?_
  rintro r w13 ⟨ra,rc,rfl,hn13,hown13,hfr13,_⟩
  have h13:=h12.new hn13
  have hcx13:=h13.client i _ hc12
  obtain ⟨g3,hga3,_,⟨gcs3,hgb3⟩,_,hgk3⟩:=Owns.row hcx13.own (gH c1.lanes) (by omega) (fQ hl)
  have hgg:g3=g2:=by have:c1.la=some ⟨g3,0,none⟩:=hga3;rw [hg] at this;simp at this;exact this.symm
  subst hgg
  refine ⟨_,_,_,rfl,⟨_,hgk3 1 _ rfl⟩,hgb3.frozen,?_⟩
  intro w14 hw14
  have hgt:χ1 g3=.lanes i:=hcx13.tag g3 ⟨0,hga3⟩
  have hk14:Keep (λz=>z=g3) w13 w14:=by rw [hw14];exact aR _ _ _ _
  have hrat:∀ z,isB ra z→χ1 z=.places i q∨w13.heap.size≤z∨(w12.heap.size≤z∧z<w13.heap.size):=λz hz=>.inr (by have:=hfr13 z hz;omega)
  have hlan14:Owns w14 TL 2 c1.la c1.lanes.length c1.lc ((j4 c1.lanes).set q (cJ.cells { l1 with places:=ps,pla:=ra,plc:=rc })).flatten:=by
   have hown:=hcx13.own
   have hown':Owns w13 TL 2 c1.la c1.lanes.length c1.lc (j4 c1.lanes).flatten:=hown
   rw [hg] at hown' ⊢
   rw [hw14]
   have:=Owns.setCell hown' (i:=q * 2+1) (by have:=aN hl;omega) (.slice ra ps.length rc)
   rw [tU (gH _) _ (fQ hl) (by omega)] at this
   simpa [cJ.cells] using this
  have hown14:Owns w14 TI 1 ra ps.length rc (is (ps.map Int.ofNat)):=hown13.keep hk14 λz hz e=>by
   have h1:=hfr13 z hz
   have h2:=hgb2.lt
   omega
  clear hw14
  have hk1214:Keep (λz=>tpl i q (χ1 z)) w12 w14:=(Keep.of_new hn13).trans hk14 λz _ e=>.inr (by rw [e];exact hgt)
  obtain ⟨A3,χ3,nx3,h14⟩:=h12.setPlaces hc12 hl hk1214 (λz hz=>.inr (hfr13 z hz)) hown14 hlan14
  rw [bP] at h14
  have hc14:(X1.clients.set i { c1 with raw:=c1.raw.set p0 d,batch:=c1.batch.set p0 x,lanes:=c1.lanes.set q { l1 with places:=ps,pla:=ra,plc:=rc } })[i]?=some { c1 with raw:=c1.raw.set p0 d,batch:=c1.batch.set p0 x,lanes:=c1.lanes.set q { l1 with places:=ps,pla:=ra,plc:=rc } }:=by simp [aN hc]
  refine ⟨c1.waiting,h14.ccell (k:=4) hc14 rfl,⟨_,h14.ccell (k:=4) hc14 rfl⟩,h14.cls.frozen,?_⟩
  rw [show IntKind.i64.wrap ((c1.waiting:Int) - 1)=((c1.waiting - 1:Nat):Int) by rw [w64 (by omega) (by omega)];omega]
  obtain ⟨A4,nx4,h15⟩:=h14.setWaiting hc14 (c1.waiting - 1)
  intro w15 hw15
  rw [bP] at h15
  have hw15':w15=w14.setCell ⟨X1.cb,0+i * 7+4,none⟩ (.int .i64 (c1.waiting - 1:Nat)):=hw15
  rw [hw15']
  refine hR _ _ _ _ ((((h.refl hn11).trans nx2).trans nx3).trans nx4) h15 ?_
  refine (FabX.set_pure X1 i _).trans ?_
  congr 1
  rw [hod]
  simp [aW.pure,Comp.done1,hbb,hps,List.map_set,cJ.pure]
end Go.Proofs.YtgpmeaicjonenaaGreat
