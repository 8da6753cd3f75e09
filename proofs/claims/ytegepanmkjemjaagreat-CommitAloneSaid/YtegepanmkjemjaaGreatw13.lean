import Derived.Test.YtegepanmkjemjaaGreatw12
set_option linter.unusedVariables false
namespace Go.Proofs.YtegepanmkjemjaaGreat
open Go.Proofs.Tryz
open Go.Eng
theorem xQ {w:World} {a:Option Addr} {n c:Nat} {xs:List Value} (hl:xs.length=n) (hr:Rd w a xs) (h1:∀ u ∈ xs,single u=true) (hb:n≤1000000000) (hn:a=none→n=0) :
  Does 83 [.slice a n c] w λv w'=>∃ a' cap,v=.slice a' n cap∧vZ w w' 3 1 a a' n cap xs:=by
 refine does Tryz.func83 ?_
 rw [mb]
 obtain ⟨i,hi,hz,hsz,hby⟩:=j8 (T:=3) (z:=.int .i64 0) (n:=1) (m:=8) (by kernel_rfl)
 cases a with
 |none=>
  refine jt rfl ⟨none,0,by rw [hn rfl],Keep.refl _ _,?_,?_,by simp⟩
  ·rw [hn rfl] at hl ⊢
   rw [List.eq_nil_of_length_eq_zero hl]
   exact Owns.nil _ _ _
  ·rintro k ⟨o,ho⟩;cases ho
 |some a=>
  refine cU rfl ?_
  rintro b1 w1 rfl rfl
  obtain ⟨a',cap',w',hrun,hc⟩:=oH (t:=22) (ty:=22) (z:=.int .i64 0) (n:=n) (c:=c) (w:=w) (a:=a) (xs:=xs) Tryz.underlying22 hi hz (by rw [hsz];rfl) (by omega) (by rw [hl,hsz];omega) hr h1 (by omega) (by rw [hby];omega)
  exact ⟨a',n,cap',w',hrun,a',cap',rfl,by rw [hsz] at hc;exact hc⟩
theorem wj {A:Nat→Prop} {χ:Nat→Tag} {w w':World} {b nb nw:Nat} {p:cX} {n:aP} {r:Value} {t tw:Tag} (hpa:bP A w b p) (htag:∀ k,p.mut b k→χ k=t) (hti:t≠.imm) (hlow:∀ k,χ k≠.imm→k<w.heap.size) (hav:∀ k,χ k≠.imm→A k) (hnt:χ nw=tw)
  (S:sx A b nb nw p n w r w') :
  ∃ (χ':Nat→Tag) (d:bF) (p':cX),r=.tuple #[d.val,.bool (p.pure.step n).2.2.isSome]∧p'.pure=(p.pure.step n).1∧bM w' nb nw (p.pure.step n).2.1∧Keep (λk=>χ k=t∨χ k=tw) w w'∧
   (∀ k,k<w.heap.size→χ' k≠.imm→χ k≠.imm)∧(∀ k,k<w.heap.size→χ k≠t→χ' k=χ k)∧(∀ k,χ' k≠.imm→k<w'.heap.size)∧(∀ k,p'.mut b k→χ' k=t)∧bP (iQ A χ χ' w) w' b p'∧
   ∀ x,(p.pure.step n).2.2=some x→kq (iQ A χ χ' w) w' d x:=by
 classical
 obtain ⟨d,p',rfl,hpure,hnode,hdone,hdw,hpair,hkeep,hva,hwa,hdt⟩:=S
 have hmlt:∀ k,p.mut b k→k<w.heap.size:=by
  rintro k (rfl | hk | hk)
  ·exact hpa.blk.lt
  ·exact hpa.own.lt hk
  ·exact hpa.wown.lt hk
 have hmut':∀ k,p'.mut b k→p.mut b k∨w.heap.size≤k:=by
  rintro k (hk | hk | hk)
  ·exact .inl (.inl hk)
  ·rcases hva with e | e
   ·exact .inl (.inr (.inl (e▸hk)))
   ·exact .inr (e k hk)
  ·rcases hwa with e | e
   ·exact .inl (.inr (.inr (e▸hk)))
   ·exact .inr (e k hk)
 have hp0:=hpair (λk=>(k<w.heap.size∧A k)∨isB p'.va k∨isB p'.wa k) (λk hk=>hk) (λk hk=>by
  rcases hk with hk | hk | hk
  ·exact .inl ⟨hmlt k (.inl hk),hpa.mine k (.inl hk)⟩
  ·exact .inr (.inl hk)
  ·exact .inr (.inr hk))
 have hmlt':∀ k,p'.mut b k→k<w'.heap.size:=by
  rintro k (rfl | hk | hk)
  ·exact hp0.blk.lt
  ·exact hp0.own.lt hk
  ·exact hp0.wown.lt hk
 let χ':Nat→Tag:=λk=>if p'.mut b k then t else if (p.pure.step n).2.2.isSome=true∧isB d.Words k then .imm else χ k
 have t1:∀ k,p'.mut b k→χ' k=t:=λk hk=>if_pos hk
 have t2:∀ k,¬ p'.mut b k→(p.pure.step n).2.2.isSome=true→isB d.Words k→χ' k=.imm:=λk h1 h2 h3=>by
  show (if p'.mut b k then t else if (p.pure.step n).2.2.isSome=true∧isB d.Words k then Tag.imm else χ k)=_
  rw [if_neg h1,if_pos ⟨h2,h3⟩]
 have t3:∀ k,¬ p'.mut b k→¬ ((p.pure.step n).2.2.isSome=true∧isB d.Words k)→χ' k=χ k:=λk h1 h2=>by
  show (if p'.mut b k then t else if (p.pure.step n).2.2.isSome=true∧isB d.Words k then Tag.imm else χ k)=_
  rw [if_neg h1,if_neg h2]
 have hdl:∀ k,isB d.Words k→k<w.heap.size→χ k=t:=λk hk hlt=>by
  rcases hdw k hk with h1 | h1
  ·exact htag k (.inr (.inr h1))
  ·omega
 have hg:∀ k,k<w.heap.size→χ' k≠.imm→χ k≠.imm:=by
  intro k hlt hc
  by_cases hm:p'.mut b k
  ·rcases hmut' k hm with h1 | h1
   ·rw [htag k h1];exact hti
   ·omega
  ·by_cases hd:(p.pure.step n).2.2.isSome=true∧isB d.Words k
   ·rw [t2 k hm hd.1 hd.2] at hc;exact absurd rfl hc
   ·rw [t3 k hm hd] at hc;exact hc
 have hs:∀ k,k<w.heap.size→χ k≠t→χ' k=χ k:=by
  intro k hlt hc
  by_cases hm:p'.mut b k
  ·rcases hmut' k hm with h1 | h1
   ·exact absurd (htag k h1) hc
   ·omega
  ·by_cases hd:(p.pure.step n).2.2.isSome=true∧isB d.Words k
   ·exact absurd (hdl k hd.2 hlt) hc
   ·exact t3 k hm hd
 have hl:∀ k,χ' k≠.imm→k<w'.heap.size:=by
  intro k hc
  by_cases hm:p'.mut b k
  ·exact hmlt' k hm
  ·by_cases hd:(p.pure.step n).2.2.isSome=true∧isB d.Words k
   ·rw [t2 k hm hd.1 hd.2] at hc;exact absurd rfl hc
   ·rw [t3 k hm hd] at hc
    exact Nat.lt_of_lt_of_le (hlow k hc) hkeep.size
 have hP:bP (iQ A χ χ' w) w' b p':=by
  refine hpair _ (λk hk=>?_) (λk hk=>.inl (by rw [t1 k hk];exact hti))
  rcases hk with hk | hk
  ·by_cases hm:p'.mut b k
   ·rcases hm with hm | hm | hm
    ·exact .inl ⟨hmlt k (.inl hm),hpa.mine k (.inl hm)⟩
    ·exact .inr (.inl hm)
    ·exact .inr (.inr hm)
   ·by_cases hd:(p.pure.step n).2.2.isSome=true∧isB d.Words k
    ·rw [t2 k hm hd.1 hd.2] at hk;exact absurd rfl hk
    ·rw [t3 k hm hd] at hk
     exact .inl ⟨hlow k hk,hav k hk⟩
  ·exact .inl ⟨hk.1,hk.2.1⟩
 refine ⟨χ',d,p',rfl,hpure,hnode,hkeep.mono λk _ hk=>?_,hg,hs,hl,t1,hP,λx hx=>?_⟩
 ·rcases hk with hk | hk | hk
  ·exact .inl (htag k (.inl hk))
  ·exact .inl (htag k (.inr (.inr hk)))
  ·exact .inr (by rw [hk];exact hnt)
 ·obtain ⟨d1,d2,d3,d4,d5,d6,d7⟩:=hdone x hx
  refine ⟨d1,d2,d3,d4,?_,d5,d6⟩
  by_cases hx0:x.words=[]
  ·exact .inl hx0
  ·refine .inr ?_
   rcases d3 with hc | ⟨bb,oo,hbo,_⟩
   ·exact absurd (by simpa [us] using hc) hx0
   ·rw [hbo]
    have hib:isB d.Words bb:=⟨oo,hbo⟩
    obtain ⟨cs,hcs⟩:=hdt bb hib
    have hnm:¬ p'.mut b bb:=by
     rintro (hk | hk | ⟨o,ho⟩)
     ·have:=Blk.typ hcs (hk▸hP.blk);revert this;decide
     ·obtain ⟨cs2,hcs2⟩:=eX hP.own hk
      have:=Blk.typ hcs hcs2;revert this;decide
     ·rw [d7] at ho;cases ho
    intro hc
    rcases hc with hc | ⟨h1,_,h3⟩
    ·exact hc (t2 bb hnm (by rw [hx];rfl) hib)
    ·exact hti (by rw [←hdl bb hib h1];exact h3)
theorem aY.setBatch {A:Nat→Prop} {χ:Nat→Tag} {w:World} {fb:Nat} {X:FabX} (h:aY A χ w fb X) {i bb q:Nat} {c:aZ} {d:bF} {x:Done} (hc:X.clients[i]?=some c) (hbb:c.bb=some bb) (hq:q<c.raw.length) (hd:kq A w d x) :
  ∃ A',Next A A' χ χ w (puts w ⟨bb,0+q * 2,none⟩ 0 d.cells)∧aY A' χ (puts w ⟨bb,0+q * 2,none⟩ 0 d.cells) fb { X with clients:=X.clients.set i { c with raw:=c.raw.set q d,batch:=c.batch.set q x } }:=by
 have hcx:=h.client i c hc
 obtain ⟨hb,ht⟩:=hcx.batch bb hbb
 rw [Nat.zero_add]
 have hk:Keep (λk=>χ k=.batch i) w (puts w ⟨bb,q * 2,none⟩ 0 d.cells):=(cT w bb (q * 2) 0 d.cells).mono λk _ e=>by rw [e];exact ht
 have hb':=hb.puts (o:=q * 2) (i:=0) (vs:=d.cells)
 rw [Nat.add_zero,sM (qz _) (by simpa [kA] using hq) rfl,AL] at hb'
 obtain ⟨m,nx⟩:=h.move (χ':=χ) (T:=λt=>t=.batch i) hk (by simp) (λ_ _ h=>h) (λ_ _ _ _=>rfl)
 have f1:=Owns.moved m hcx.own hcx.tag (by simp) (by simp)
 have q1:lD (iQ A χ χ w) χ (puts w ⟨bb,q * 2,none⟩ 0 d.cells) i { c with raw:=c.raw.set q d,batch:=c.batch.set q x }:=by
  refine ⟨f1.1,f1.2,λj l hl=>(hcx.lane j l hl).moved m (by simp) (by simp),λhn=>?_,λb hbe=>?_,?_,λk v y hv hy=>?_⟩
  ·have hn':c.bb=none:=hn
   rw [hbb] at hn';cases hn'
  ·have hbe':c.bb=some b:=hbe
   rw [hbb] at hbe'
   simp only [Option.some.injEq] at hbe'
   subst hbe'
   exact ⟨hb',ht⟩
  ·simp [hcx.ds.1]
  ·rw [List.getElem?_set] at hv hy
   by_cases he:q=k
   ·subst he
    rw [if_pos rfl,if_pos (by omega)] at hv
    rw [if_pos rfl,if_pos (by rw [←hcx.ds.1];omega)] at hy
    simp only [Option.some.injEq] at hv hy
    subst hv;subst hy
    exact hd.keep m.keepA m.old
   ·rw [if_neg he] at hv hy
    exact (hcx.ds.2 k v y hv hy).keep m.keepA m.old
 obtain ⟨nx',hF⟩:=h.setClient (χ':=χ) hc (hk.mono λk _ e=>.inr (by rw [e];rfl)) (λ_ _ h=>h) (λ_ _ _ _=>rfl) (λk hc=>Nat.lt_of_lt_of_le (h.lowt hc) hk.size) (by
  have e:(gY X.clients).set i (aZ.cells { c with raw:=c.raw.set q d,batch:=c.batch.set q x })=gY X.clients:=iJ (by rw [oq hc];simp [aZ.cells])
  rw [e]
  exact (Blk.moved m h.cls h.ctag (by simp) (by simp)).1) h.ctag q1
 exact ⟨_,nx',hF⟩
theorem aY.setWaiting {A:Nat→Prop} {χ:Nat→Tag} {w:World} {fb:Nat} {X:FabX} (h:aY A χ w fb X) {i:Nat} {c:aZ} (hc:X.clients[i]?=some c) (n:Nat) :
  ∃ A',Next A A' χ χ w (w.setCell ⟨X.cb,0+i * 7+4,none⟩ (.int .i64 n))∧aY A' χ (w.setCell ⟨X.cb,0+i * 7+4,none⟩ (.int .i64 n)) fb { X with clients:=X.clients.set i { c with waiting:=n } }:=by
 have hk:Keep (λk=>χ k=.clients) w (w.setCell ⟨X.cb,0+i * 7+4,none⟩ (.int .i64 n)):=(aR w X.cb _ _).mono λk _ e=>by rw [e];exact h.ctag
 obtain ⟨m,nx⟩:=h.move (χ':=χ) (T:=λt=>t=.clients) hk (by simp) (λ_ _ h=>h) (λ_ _ _ _=>rfl)
 have hcx:=(h.client i c hc).moved m (λt ht e=>by rw [e] at ht;exact ht)
 obtain ⟨hb,_⟩:=jw (k:=4) (c':={ c with waiting:=n }) h.cls hc (by omega) (v:=.int .i64 n) (by simp [aZ.cells])
 obtain ⟨nx',hF⟩:=h.setClient (χ':=χ) (c':={ c with waiting:=n }) hc (hk.mono λk _ e=>.inl e) (λ_ _ h=>h) (λ_ _ _ _=>rfl) (λk hc=>Nat.lt_of_lt_of_le (h.lowt hc) hk.size) (by rw [mg];exact hb) h.ctag
  ⟨hcx.own,hcx.tag,hcx.lane,hcx.none,hcx.batch,hcx.ds⟩
 exact ⟨_,nx',hF⟩
def Comp.done1 (C:Comp) (q:Nat) (p:Pair) (ps:List Nat):Option Done→Comp
 |none=>C
 |some x=>{ C with lanes:=C.lanes.set q ⟨p,ps.tail⟩,batch:=C.batch.map λds=>ds.set (ps.headD 0) x,waiting:=C.waiting - 1 }
set_option maxHeartbeats 1600000 in
theorem wk {R:Value→World→Prop} {A1:Nat→Prop} {χ1:Nat→Tag} {w10:World} {fb:Nat} {X1:FabX} {i q g b2:Nat} {c1:aZ} {l1:cE} {d:bF} (h:aY A1 χ1 w10 fb X1) (hc:X1.clients[i]?=some c1) (hl:c1.lanes[q]?=some l1) (hg:c1.la=some ⟨g,0,none⟩)
  (hbox:Blk w10 b2 d.cells TD) (od:Option Done) (hd:∀ x,od=some x→kq A1 w10 d x) (hpl:od.isSome=true→∃ bb p0 ps,l1.places=p0::ps∧p0<c1.raw.length∧c1.bb=some bb∧0<c1.waiting) (hlen:l1.places.length≤1024) (hwb:c1.waiting≤1024)
  (hR:∀ w' A' χ' X',Next A1 A' χ1 χ' w10 w'→aY A' χ' w' fb X'→X'.pure=X1.pure.setC i (c1.pure.done1 q l1.p.pure l1.places od)→R (.bool true) w') :
  (bif od.isSome then (∀ w11,w11=w10.drew→∃ Sx3:World→Prop,Sx3 w11∧nilP (some ⟨X1.cb,0+i * 7,none⟩) λrclient_a3=>∃ (batch:Option Addr) (qL:Nat) (batch_cap:Nat),(∀ u,Sx3 u→u.cell? ⟨rclient_a3.block,rclient_a3.off+3,none⟩=some (.slice batch qL batch_cap))∧∃ (places:Option Addr) (places_len:Nat) (places_cap:Nat),(∀ u,Sx3 u→u.cell? ⟨g,(0+q * 2)+1,none⟩=some (.slice places places_len places_cap))∧idxS places places_len 0 1 λad3=>∃ (x1:Int),(∀ u,Sx3 u→u.cell? ad3=some (.int .i64 x1))∧∃ (Code:Int) (Words:Option Addr) (Words_len:Nat) (Words_cap:Nat),(∀ u,Sx3 u→aG u ⟨b2,0,none⟩ 0 [(.int .i64 Code),(.slice Words Words_len Words_cap)])∧idxS batch qL x1 2 λad4=>wrAt w11 ad4 0 [(.int .i64 Code),(.slice Words Words_len Words_cap)]∧∀ w12,w12=puts w11 ad4 0 [(.int .i64 Code),(.slice Words Words_len Words_cap)]→∃ (places1:Option Addr) (places1_len:Nat) (places1_cap:Nat),w12.cell? ⟨g,(0+q * 2)+1,none⟩=some (.slice places1 places1_len places1_cap)∧sl3 places1 places1_len places1_cap 1 (places1_len:Nat) (places1_cap:Nat) 1 λxa xl xc=>Calls prog 83 #[(.slice xa xl xc)] w12 λe w13=>∃ (rClone:Option Addr) (rClone_len:Nat) (rClone_cap:Nat),e=.returned (.slice rClone rClone_len rClone_cap)∧(∃ u,w13.cell? ⟨g,(0+q * 2)+1,none⟩=some u)∧w13.frozen? ⟨g,(0+q * 2)+1,none⟩=false∧∀ w14,w14=w13.setCell ⟨g,(0+q * 2)+1,none⟩ (.slice rClone rClone_len rClone_cap)→nilP (some ⟨X1.cb,0+i * 7,none⟩) λrclient_a4=>∃ (waiting:Int),w14.cell? ⟨rclient_a4.block,rclient_a4.off+4,none⟩=some (.int .i64 waiting)∧nilP (some ⟨X1.cb,0+i * 7,none⟩) λrclient_a5=>(∃ u,w14.cell? ⟨rclient_a5.block,rclient_a5.off+4,none⟩=some u)∧w14.frozen? ⟨rclient_a5.block,rclient_a5.off+4,none⟩=false∧∀ w15,w15=w14.setCell ⟨rclient_a5.block,rclient_a5.off+4,none⟩ (.int .i64 (IntKind.i64.wrap (waiting - 1)))→R (.bool true) w15) else (R (.bool true) w10)):=by
 cases hod:od with
 |none=>
  refine hR w10 A1 χ1 X1 (h.refl (Keep.refl _ _)) h ?_
  rw [hod]
  show X1.pure=X1.pure.setC i c1.pure
  have:X1.pure.clients.set i c1.pure=X1.pure.clients:=iJ (by simp [FabX.pure,hc])
  simp only [Fab.setC,Int.toNat_natCast,this]
 |some x=>
  obtain ⟨bb,p0,ps,hps,hp0,hbb,hw0⟩:=hpl (by rw [hod];rfl)
  have hdx:=hd x hod
  intro w11 hw11
  have hn11:Go.Eng.New w10 w11:=by rw [hw11];exact aV _
  clear hw11
  have h11:=h.new hn11
  have hbox11:=New.blk hn11 hbox
  have hcx:=h11.client i c1 hc
  have hlx:=hcx.lane q l1 hl
  obtain ⟨g',hga,hgi,⟨gcs,hgb⟩,_,hgk⟩:=Owns.row hcx.own (gZ c1.lanes) (by omega) (gA hl)
  have hgg:g'=g:=by rw [hg] at hga;simp at hga;exact hga.symm
  subst hgg
  have hpget:(is (l1.places.map Int.ofNat))[0]?=some (.int .i64 p0):=by rw [hps];rfl
  refine ⟨λz=>Go.Eng.New w11 z,Keep.refl _ _,some ⟨bb,0,none⟩,c1.raw.length,c1.raw.length,λz hz=>(h11.new hz).ccell (k:=3) hc (by simp [aZ.cells,hbb]),l1.pla,l1.places.length,l1.plc,λz hz=>eF hz (hgk 1 _ rfl) id,?_⟩
  refine rn (i:=0) hlx.places hpget rfl λad3 hcell had=>⟨p0,λz hz=>eF hz hcell id,d.Code,d.Words,d.Wl,d.Wc,λz hz=>oI (New.blk hz hbox11),bB (by omega) (by omega) ?_⟩
  rw [Int.toNat_natCast]
  obtain ⟨A2,nx2,h12⟩:=h11.setBatch (q:=p0) hc hbb hp0 (hdx.keep (Keep.of_new hn11) λ_ _ h=>h)
  refine ⟨bZ (vs:=d.cells) (hcx.batch bb hbb).1 ?_ (bF.single d),?_⟩
  ·rw [dQ (qz _)]
   simp [kA,bF.cells]
   omega
  intro w12 hw12
  have hw12':w12=puts w11 ⟨bb,0+p0 * 2,none⟩ 0 d.cells:=hw12
  rw [←hw12'] at nx2 h12
  clear hw12'
  clear hw12
  have hc12:(X1.clients.set i { c1 with raw:=c1.raw.set p0 d,batch:=c1.batch.set p0 x })[i]?=some { c1 with raw:=c1.raw.set p0 d,batch:=c1.batch.set p0 x }:=by simp [aO hc]
  have hcx12:=h12.client i _ hc12
  have hlx12:=hcx12.lane q l1 hl
  obtain ⟨g2,hga2,_,⟨gcs2,hgb2⟩,_,hgk2⟩:=Owns.row hcx12.own (gZ c1.lanes) (by omega) (gA hl)
  have hgg:g2=g':=by have:c1.la=some ⟨g2,0,none⟩:=hga2;rw [hg] at this;simp at this;exact this.symm
  subst hgg
  refine ⟨l1.pla,l1.places.length,l1.plc,hgk2 1 _ rfl,?_⟩
  have hpl12:=hlx12.places
  rcases hpl12.2 with ⟨_,h0,_⟩ | ⟨pg,pcur,hpa,hpb,hple,hpm,hpc,hpt⟩
  ·rw [hps] at h0;cases h0
  rw [hpa]
  have hpos:0<l1.places.length:=by rw [hps];simp
  refine pu (by omega) (by omega) (by omega) (by omega) hple ?_
  intro xa hxa
  have hrd:Rd w12 xa (is (ps.map Int.ofNat)):=by
   by_cases hps0:ps=[]
   ·rw [hps0];exact .inl rfl
   ·rcases hxa with e | ⟨e,_⟩
    ·rw [e]
     have:=hpl12.rd
     rw [hpa] at this
     have:=this.drop 1
     rw [hps] at this
     simpa [is] using this
    ·exfalso
     rw [hps] at e
     simp at e
     exact hps0 (List.eq_nil_of_length_eq_zero (by omega))
  have hpsl:(Int.toNat (l1.places.length:Int)) - Int.toNat 1=ps.length:=by rw [hps];simp
  rw [hpsl]
  refine aE (xQ (by simp [is]) hrd (Ap _) (by rw [hps] at hlen;simp at hlen <;> omega) (λe=>by rcases hxa with e' | ⟨_,e'⟩<;>rw [e'] at e<;>cases e)) ?_
  rintro r w13 ⟨ra,rc,rfl,hn13,hown13,hfr13,_⟩
  have h13:=h12.new hn13
  have hcx13:=h13.client i _ hc12
  obtain ⟨g3,hga3,_,⟨gcs3,hgb3⟩,_,hgk3⟩:=Owns.row hcx13.own (gZ c1.lanes) (by omega) (gA hl)
  have hgg:g3=g2:=by have:c1.la=some ⟨g3,0,none⟩:=hga3;rw [hg] at this;simp at this;exact this.symm
  subst hgg
  refine ⟨_,_,_,rfl,⟨_,hgk3 1 _ rfl⟩,hgb3.frozen,?_⟩
  intro w14 hw14
  have hgt:χ1 g3=.lanes i:=hcx13.tag g3 ⟨0,hga3⟩
  have hk14:Keep (λz=>z=g3) w13 w14:=by rw [hw14];exact aR _ _ _ _
  have hrat:∀ z,isB ra z→χ1 z=.places i q∨w13.heap.size≤z∨(w12.heap.size≤z∧z<w13.heap.size):=λz hz=>.inr (by have:=hfr13 z hz;omega)
  have hlan14:Owns w14 TL 2 c1.la c1.lanes.length c1.lc ((ki c1.lanes).set q (cE.cells { l1 with places:=ps,pla:=ra,plc:=rc })).flatten:=by
   have hown:=hcx13.own
   have hown':Owns w13 TL 2 c1.la c1.lanes.length c1.lc (ki c1.lanes).flatten:=hown
   rw [hg] at hown' ⊢
   rw [hw14]
   have:=Owns.setCell hown' (i:=q * 2+1) (by have:=aO hl;omega) (.slice ra ps.length rc)
   rw [oF (gZ _) _ (gA hl) (by omega)] at this
   simpa [cE.cells] using this
  have hown14:Owns w14 TI 1 ra ps.length rc (is (ps.map Int.ofNat)):=hown13.keep hk14 λz hz e=>by
   have h1:=hfr13 z hz
   have h2:=hgb2.lt
   omega
  clear hw14
  have hk1214:Keep (λz=>tpl i q (χ1 z)) w12 w14:=(Keep.of_new hn13).trans hk14 λz _ e=>.inr (by rw [e];exact hgt)
  obtain ⟨A3,χ3,nx3,h14⟩:=h12.setPlaces hc12 hl hk1214 (λz hz=>.inr (hfr13 z hz)) hown14 hlan14
  rw [bN] at h14
  have hc14:(X1.clients.set i { c1 with raw:=c1.raw.set p0 d,batch:=c1.batch.set p0 x,lanes:=c1.lanes.set q { l1 with places:=ps,pla:=ra,plc:=rc } })[i]?=some { c1 with raw:=c1.raw.set p0 d,batch:=c1.batch.set p0 x,lanes:=c1.lanes.set q { l1 with places:=ps,pla:=ra,plc:=rc } }:=by simp [aO hc]
  refine ⟨c1.waiting,h14.ccell (k:=4) hc14 rfl,⟨_,h14.ccell (k:=4) hc14 rfl⟩,h14.cls.frozen,?_⟩
  rw [show IntKind.i64.wrap ((c1.waiting:Int) - 1)=((c1.waiting - 1:Nat):Int) by rw [w64 (by omega) (by omega)];omega]
  obtain ⟨A4,nx4,h15⟩:=h14.setWaiting hc14 (c1.waiting - 1)
  intro w15 hw15
  rw [bN] at h15
  have hw15':w15=w14.setCell ⟨X1.cb,0+i * 7+4,none⟩ (.int .i64 (c1.waiting - 1:Nat)):=hw15
  rw [hw15']
  refine hR _ _ _ _ ((((h.refl hn11).trans nx2).trans nx3).trans nx4) h15 ?_
  refine (FabX.set_pure X1 i _).trans ?_
  congr 1
  rw [hod]
  simp [aZ.pure,Comp.done1,hbb,hps,List.map_set,cE.pure]
end Go.Proofs.YtegepanmkjemjaaGreat
namespace Go.Proofs.YtegepanmkjemjaaGreat
open Go.Proofs.Tryz
open Go.Eng
theorem Owns.append_room {P:Program} {w:World} {t ty e:TypeId} {i:TypeInfo} (ht:P.underlying t=some (.slice e)) (hi:P.info? e=some i) (hsz:0<i.size)
  {g n cap:Nat} {xs:List Value} (ho:Owns w e i.size (some ⟨g,0,none⟩) n cap xs) {s:Addr} {m c:Nat} {news:List Value} (hl:news.length=m * i.size) (hs:Rd w (some s) news) (h1:∀ u ∈ news,single u=true) (hroom:n+m≤cap) :
  ∃ w',(Builtin.append_ #[t,t] ty #[.slice (some ⟨g,0,none⟩) n cap,.slice (some s) m c]).run P w=.ok (.slice (some ⟨g,0,none⟩) (n+m) cap) w'∧Owns w' e i.size (some ⟨g,0,none⟩) (n+m) cap (xs++news)∧Keep (λk=>k=g) w w':=by
 have hlen:(xs++news).length=(n+m) * i.size:=by rw [List.length_append,ho.1,hl,Nat.add_mul]
 by_cases hm:m=0
 ·subst hm
  have hn:news=[]:=List.eq_nil_of_length_eq_zero (by simpa using hl)
  subst hn
  refine ⟨w,?_,by simpa using ho,Keep.refl _ _⟩
  have hle:=ho.le
  simp [Builtin.append_,run_underlying ht,sizeOf,typeInfo,hi,Builtin.lenOf,hle,Builtin.firstCells,loadCells,loadCellsFrom,storeCells]
 ·have hne:news≠[]:=by
   intro hc
   have h0:m * i.size=0:=by rw [←hl,hc];rfl
   rcases Nat.mul_eq_zero.1 h0 with h | h<;>omega
  rcases hs with hc | ⟨sb,so,he,hcell⟩
  ·exact absurd hc hne
  simp at he
  subst he
  have hnews:∀ j u,news[j]?=some u→w.cell? ((⟨sb,so,none⟩:Addr).add j)=some u:=λj u hu=>by rw [m7];exact hcell j u hu
  have h1':∀ u ∈ news,u.oneCell'=true:=λu hu=>p9 (h1 u hu)
  rcases ho.2 with ⟨h0,_⟩ | ⟨g',cur,he,hg,hnc,hcm,hcs,htake⟩
  ·cases h0
  simp at he
  subst he
  have hfit:n * i.size+news.length≤cur.toArray.size:=by
   rw [hl,List.size_toArray,hcs,←Nat.add_mul];exact Nat.mul_le_mul_right _ hroom
  have hr:=run_append_room (P:=P) w t ty e i ht hi g n cap cur.toArray hg ⟨sb,so,none⟩ m c news hl hnews h1' hroom hfit
  refine ⟨_,hr,⟨hlen,.inr ⟨g,_,rfl,setRow_heap w g cur.toArray _ e _ hg,hroom,hcm,?_,?_⟩⟩,⟨rfl,rfl,rfl,by simp,λk _ hk=>setRow_other w g k _ (λe=>hk e)⟩⟩
  ·simp only [List.length_append,List.length_take,List.length_drop] at *
   simp at hfit <;> omega
  ·rw [htake,←hlen]
   exact List.take_left
theorem zu {P:Program} {w:World} {t ty e:TypeId} {i:TypeInfo} {z:Value} (ht:P.underlying t=some (.slice e)) (hi:P.info? e=some i) (hz:i.zero=some z) (hzc:z.cells=#[z]) {b o c:Nat} (hw:wrAt w ⟨b,o,none⟩ 0 [z]) :
  (Builtin.clear_ #[t] ty #[.slice (some ⟨b,o,none⟩) 1 c]).run P w=.ok (.tuple #[]) (puts w ⟨b,o,none⟩ 0 [z]):=by
 have hst:=gW (P:=P) hw
 have hzz:(Builtin.zeroCells z.cells 1).toList=[z]:=by rw [hzc];simp [Builtin.zeroCells]
 simp [Builtin.clear_,run_underlying ht,zeroValue,typeInfo,hi,hz,hzz,hst]
theorem Owns.take_n {w:World} {e n cap:Nat} {a:Option Addr} {xs:List Value} (h:Owns w e 1 a n cap xs) (ha:a≠none) {m:Nat} (hm:m≤n):Owns w e 1 a m cap (xs.take m):=by
 rcases h.2 with ⟨h0,_⟩ | ⟨g,cur,he,hg,hnc,hcm,hcs,htake⟩
 ·exact absurd h0 ha
 ·refine ⟨by have:=h.1;simp;omega,.inr ⟨g,cur,he,hg,by omega,hcm,hcs,?_⟩⟩
  rw [←htake,List.take_take,Nat.min_eq_left (by omega),Nat.mul_one]
theorem CC {w:World} {a:Option Addr} {n cap i:Nat} {xs:List Value} (h:Owns w TPP 1 a n cap xs) (hi:i<n) (h1:∀ u ∈ xs,single u=true) :
  Does 73 [.slice a n cap,.int .i64 i,.int .i64 (i+1:Nat)] w λv w'=>v=.slice a (n - 1) cap∧Owns w' TPP 1 a (n - 1) cap (xs.eraseIdx i)∧Keep (isB a) w w':=by
 refine does Tryz.func73 ?_
 rw [eA]
 have hxl:=h.1
 rcases h.2 with ⟨_,h0,_⟩ | ⟨g,cur,rfl,hg,hnc,hcm,hcs,htake⟩
 ·omega
 have hcm':cap≤9223372036854775807:=hcm
 refine pu (by omega) (by omega) (by omega) (by omega) hnc ?_
 intro xa _
 refine bH (λhe=>by omega) (λ_=>?_)
 intro w1 hw1
 have hn1:New w w1:=by rw [hw1];exact aV _
 clear hw1
 refine pu (by omega) (by omega) (by omega) (by omega) hnc ?_
 intro xa1 hxa1
 refine pu (by omega) (by omega) (by omega) (by omega) hnc ?_
 intro xa2 hxa2
 have e1:xa1=some ⟨g,0,none⟩:=by rcases hxa1 with e | ⟨_,e⟩<;>simpa using e
 subst e1
 simp only [Int.toNat_natCast,Int.toNat_zero,Nat.sub_zero]
 obtain ⟨s2,rfl⟩:∃ s,xa2=some s:=by rcases hxa2 with e | ⟨_,e⟩<;>exact ⟨_,e⟩
 obtain ⟨ti,hti,hz,hsz,hby⟩:=j8 (T:=137) (z:=.pointer none) (n:=1) (m:=8) (by kernel_rfl)
 have ho1:Owns w1 TPP ti.size (some ⟨g,0,none⟩) i cap (xs.take i):=by rw [hsz];exact Owns.take_n (h.new hn1) (by simp) (by omega)
 have hs2:Rd w1 (some s2) (xs.drop (i+1)):=by
  by_cases hd:xs.drop (i+1)=[]
  ·rw [hd];exact .inl rfl
  ·rcases hxa2 with e | ⟨e,_⟩
   ·rw [e]
    have:=(h.new hn1).rd.drop (i+1)
    simpa using this
   ·exfalso
    apply hd
    apply List.drop_eq_nil_of_le
    omega
 obtain ⟨w2,hrun,hown2,hk2⟩:=Owns.append_room (P:=prog) (t:=111) (ty:=111) Tryz.underlying111 hti (by omega) ho1 (s:=s2) (m:=n - (i+1)) (c:=cap - (i+1)) (news:=xs.drop (i+1)) (by rw [hsz];simp;omega) hs2
  (λu hu=>h1 u (List.mem_of_mem_drop hu)) (by omega)
 rw [hsz] at hown2
 have hin:i+(n - (i+1))=n - 1:=by omega
 rw [hin] at hrun hown2
 refine ⟨_,_,_,w2,hrun,?_⟩
 refine pu (by omega) (by omega) (by omega) (by omega) (by omega) ?_
 intro xa3 hxa3
 have e3:xa3=some ⟨g,0+(n - 1) * 1,none⟩:=by
  rcases hxa3 with e | ⟨e,_⟩
  ·simpa using e
  ·omega
 subst e3
 have hl3:(Int.toNat (n:Int)) - Int.toNat ((n - 1:Nat):Int)=1:=by omega
 rw [hl3]
 rcases hown2.2 with ⟨h0,_⟩ | ⟨g2,cur2,he2,hg2,hnc2,hcm2,hcs2,htake2⟩
 ·cases h0
 simp at he2
 subst he2
 have hwr:wrAt w2 ⟨g,0+(n - 1) * 1,none⟩ 0 [.pointer none]:=bZ hg2 (by simp;omega) (by simp [single])
 refine ⟨_,_,zu (P:=prog) Tryz.underlying111 hti hz rfl hwr,rfl,?_,?_⟩
 ·have hb:=hg2.puts (o:=0+(n - 1) * 1) (i:=0) (vs:=[.pointer none])
  have hx:xs.take i++xs.drop (i+1)=xs.eraseIdx i:=(List.eraseIdx_eq_take_drop_succ ..).symm
  rw [hx] at hown2 htake2
  refine ⟨hown2.1,.inr ⟨g,_,rfl,hb,hnc2,hcm2,by rw [p8];exact hcs2,?_⟩⟩
  rw [jW (by simp;omega)]
  rw [←htake2]
  rw [List.append_assoc,List.take_append_of_le_length (by simp;omega),List.take_take,Nat.min_eq_left (by omega)]
 ·exact ((Keep.of_new hn1).trans hk2 λk _ e=>⟨0,by rw [e]⟩).trans (cT _ _ _ _ _) λk _ e=>⟨0,by rw [e]⟩
def sj (b n:Nat) (t:Tag):Prop:=t=.orph b∨t=.word n
theorem AQ {α:Type} {l:List α} (h:l.Nodup) {i j:Nat} {x:α} (hi:l[i]?=some x) (hj:l[j]?=some x):i=j:=by
 obtain ⟨h1,h2⟩:=List.getElem?_eq_some_iff.1 hi
 obtain ⟨h3,h4⟩:=List.getElem?_eq_some_iff.1 hj
 have hp:=List.pairwise_iff_getElem.1 h
 rcases Nat.lt_trichotomy i j with hl | hl | hl
 ·exact absurd (h2.trans h4.symm) (hp i j h1 h3 hl)
 ·exact hl
 ·exact absurd (h4.trans h2.symm) (hp j i h3 h1 hl)
theorem qF {α β:Type} (f:α→β):∀ (l:List α) (i:Nat),(l.map f).eraseIdx i=(l.eraseIdx i).map f
 | [],_=>rfl
 | _::_,0=>rfl
 |x::l,i+1=>by simp [qF f l i]
theorem aY.setOrphan {A:Nat→Prop} {χ χ':Nat→Tag} {w w':World} {fb:Nat} {X:FabX} (h:aY A χ w fb X) {i n b:Nat} {p:cX} {y:kg} (ho:X.orphans[i]?=some (b,p)) (hy:X.nodes[n]?=some y)
  (hk:Keep (λk=>sj b n (χ k)) w w') (hg:∀ k,k<w.heap.size→χ' k≠.imm→χ k≠.imm) (hs:∀ k,k<w.heap.size→χ k≠.orph b→χ' k=χ k) (hlow:∀ k,χ' k≠.imm→k<w'.heap.size)
  {n':aP} (hn:bM w' y.b y.bw n') {p':cX} (hp:bP (iQ A χ χ' w) w' b p') (ht:∀ k,p'.mut b k→χ' k=.orph b) :
  Next A (iQ A χ χ' w) χ χ' w w'∧aY (iQ A χ χ' w) χ' w' fb { X with nodes:=X.nodes.set n { y with n:=n' },orphans:=X.orphans.set i (b,p') }:=by
 obtain ⟨m,nx⟩:=h.move (T:=sj b n) hk (by simp [sj]) hg (λk hlt hn _=>hs k hlt λe=>hn (.inl e))
 have f1:=Blk.moved m h.fab h.ftag (by simp [sj]) (by simp)
 have f2:=Owns.moved m h.nodes h.ntag (by simp [sj]) (by simp)
 have f3:=Owns.moved m h.orphs h.otag (by simp [sj]) (by simp)
 have f4:=Blk.moved m h.cls h.ctag (by simp [sj]) (by simp)
 have hya:=h.node n y hy
 have e1:(X.orphans.set i (b,p')).map Prod.fst=X.orphans.map Prod.fst:=by rw [List.map_set];exact iJ (by simp [ho])
 refine ⟨nx,m.avoid',λk hc=>?_,?_,f1.2,?_,f2.2,?_,f4.1,f4.2,λq z hz=>(h.client q z hz).moved m (λt h1 h2=>?_),?_,f3.2,λx hx=>?_,?_⟩
 ·rcases hc with hc | hc
  ·exact hlow k hc
  ·exact Nat.lt_of_lt_of_le hc.1 hk.size
 ·simpa [FabX.cells] using f1.1
 ·have e:((X.nodes.set n { y with n:=n' }).map λx=>ptr x.b)=X.nodes.map λx=>ptr x.b:=by
   rw [List.map_set]
   exact iJ (by simp [hy])
  rw [e]
  simpa using f2.1
 ·intro q z hz
  simp only [List.getElem?_set] at hz
  split at hz
  ·rename_i he
   subst he
   split at hz
   ·simp only [Option.some.injEq] at hz
    subst hz
    exact ⟨hn,by rw [hs _ hya.node.node.lt (by rw [hya.tag];simp)];exact hya.tag,by rw [hs _ hya.node.words.lt (by rw [hya.wtag];simp)];exact hya.wtag⟩
   ·cases hz
  ·rename_i he
   exact (h.node q z hz).moved m (by simp [sj]) (by simp [sj];exact λe=>he e.symm)
 ·rcases h2 with e | e<;>(rw [e] at h1;cases h1)
 ·have e:((X.orphans.set i (b,p')).map λp=>ptr p.1)=X.orphans.map λp=>ptr p.1:=by
   rw [List.map_set]
   exact iJ (by simp [ho])
  rw [e]
  simpa using f3.1
 ·obtain ⟨k,hk⟩:=List.mem_iff_getElem?.1 hx
  simp only [List.getElem?_set] at hk
  split at hk
  ·rename_i he
   subst he
   split at hk
   ·simp only [Option.some.injEq] at hk
    subst hk
    exact ⟨hp,ht⟩
   ·cases hk
  ·rename_i he
   have hxo:=h.orphan x (List.mem_of_getElem? hk)
   refine bP.moved m hxo.1 hxo.2 ?_ (by simp)
   rintro (e | e)
   ·simp at e
    exact he (AQ (x:=b) h.nodup (by simp [ho]) (by simp [hk,e]))
   ·cases e
 ·show ((X.orphans.set i (b,p')).map Prod.fst).Nodup
  rw [e1]
  exact h.nodup
theorem aY.dropOrphan {A:Nat→Prop} {χ:Nat→Tag} {w w':World} {fb:Nat} {X:FabX} (h:aY A χ w fb X) {i:Nat} (hi:i<X.orphans.length) (hk:Keep (λk=>χ k=.orphs∨χ k=.fab) w w')
  (ho:Owns w' TPP 1 X.oa (X.orphans.length - 1) X.oc ((X.orphans.map λp=>ptr p.1).eraseIdx i)) (hf:Blk w' fb (X.cells.set 3 (.slice X.oa (X.orphans.length - 1) X.oc)) TF) :
  ∃ A',Next A A' χ χ w w'∧aY A' χ w' fb { X with orphans:=X.orphans.eraseIdx i }:=by
 obtain ⟨m,nx⟩:=h.move (T:=λt=>t=.orphs∨t=.fab) (χ':=χ) hk (by simp) (λ_ _ h=>h) (λ_ _ _ _=>rfl)
 have hl:(X.orphans.eraseIdx i).length=X.orphans.length - 1:=List.length_eraseIdx_of_lt hi
 refine ⟨_,nx,m.avoid',λk hc=>?_,?_,h.ftag,(Owns.moved m h.nodes h.ntag (by simp) (by simp)).1,h.ntag,λq z hz=>(h.node q z hz).moved m (by simp) (by simp),(Blk.moved m h.cls h.ctag (by simp) (by simp)).1,h.ctag,λq z hz=>(h.client q z hz).moved m (λt h1 h2=>?_),?_,h.otag,λx hx=>?_,?_⟩
 ·rcases hc with hc | hc
  ·exact Nat.lt_of_lt_of_le (h.lowt hc) hk.size
  ·exact Nat.lt_of_lt_of_le hc.1 hk.size
 ·simpa [FabX.cells,hl] using hf
 ·rcases h2 with e | e<;>(rw [e] at h1;cases h1)
 ·show Owns w' TPP 1 X.oa (X.orphans.eraseIdx i).length X.oc ((X.orphans.eraseIdx i).map λp=>ptr p.1)
  rw [hl,←qF]
  exact ho
 ·have hxo:=h.orphan x (List.mem_of_mem_eraseIdx hx)
  exact bP.moved m hxo.1 hxo.2 (by simp) (by simp)
 ·show ((X.orphans.eraseIdx i).map Prod.fst).Nodup
  rw [←qF]
  exact (List.eraseIdx_sublist ..).nodup h.nodup
theorem zv (l:List (Nat×cX)):∀ u ∈ l.map (λp=>ptr p.1),single u=true:=by
 intro u hu
 simp only [List.mem_map] at hu
 obtain ⟨p,_,rfl⟩:=hu
 rfl
theorem DZ {A:Nat→Prop} {χ:Nat→Tag} {w:World} {fb:Nat} {X:FabX} (h:aY A χ w fb X) (c:Int) (hc:c<9223372036854775807):Does 57 [ptr fb,.int .i64 c] w λv w'=>
  v=.bool (X.pure.drop c).1∧dD A χ w fb (X.pure.drop c).2 w' λ_=>True:=by
 refine does Tryz.func57 ?_
 rw [ptr,kQ]
 have hol:X.pure.orphans.length=X.orphans.length:=by simp [FabX.pure]
 refine aJ (λh0=>?_) (λh0=>⟨_,_,_,h.fab.cell rfl,aJ (λh1=>?_) (λh1=>?_)⟩)
 ·have hd:X.pure.drop c=(false,X.pure):=by unfold Fab.drop;rw [if_pos (.inl h0)]
  rw [hd]
  exact ⟨rfl,dD.same h (Keep.refl _ _) trivial⟩
 ·have hd:X.pure.drop c=(false,X.pure):=by unfold Fab.drop;rw [if_pos (.inr (by omega))]
  rw [hd]
  exact ⟨rfl,dD.same h (Keep.refl _ _) trivial⟩
 ·have hd:X.pure.drop c=(true,{ X.pure with orphans:=X.pure.orphans.eraseIdx c.toNat }):=by unfold Fab.drop;rw [if_neg (by omega)]
  rw [hd]
  obtain ⟨i,rfl⟩:∃ i:Nat,c=i:=⟨c.toNat,by omega⟩
  refine ⟨_,_,_,h.fab.cell rfl,?_⟩
  rw [show IntKind.i64.wrap ((i:Int)+1)=((i+1:Nat):Int) by rw [w64 (by omega) (by omega)];rfl]
  refine aE (CC h.orphs (by omega) (zv _)) ?_
  rintro v w1 ⟨rfl,ho1,hk1⟩
  have hk1':Keep (λk=>χ k=.orphs) w w1:=hk1.mono λk _ hb=>h.otag k hb
  have hf1:=hk1'.blk h.fab (by rw [h.ftag];simp)
  refine ⟨_,_,_,rfl,⟨_,hf1.cell (i:=3) rfl⟩,hf1.frozen,?_⟩
  intro w2 hw2
  have hk2:Keep (λk=>k=fb) w1 w2:=by rw [hw2];exact aR _ _ _ _
  have hf2:Blk w2 fb (X.cells.set 3 (.slice X.oa (X.orphans.length - 1) X.oc)) TF:=by rw [hw2];exact hf1.setCell _
  clear hw2
  obtain ⟨A',nx,hF⟩:=h.dropOrphan (i:=i) (by omega) ((hk1'.mono λk _ e=>.inl e).trans hk2 λk _ e=>.inr (by rw [e];exact h.ftag)) (ho1.keep hk2 λk hb e=>by have:=h.otag k hb;rw [e,h.ftag] at this;cases this) hf2
  refine ⟨rfl,_,_,_,nx,hF,?_,trivial⟩
  simp [FabX.pure,qF]
theorem dD.trans {A A1:Nat→Prop} {χ χ1:Nat→Tag} {w w1 w2:World} {fb:Nat} {F:Fab} {K:(Nat→Prop)→Prop} (n:Next A A1 χ χ1 w w1) (h:dD A1 χ1 w1 fb F w2 K):dD A χ w fb F w2 K:=by
 obtain ⟨A2,χ2,X2,n2,h2,hp,hK⟩:=h
 exact ⟨A2,χ2,X2,n.trans n2,h2,hp,hK⟩
theorem Es {w:World} {e sz n cap:Nat} {a:Option Addr} {xs:List Value} (h:Owns w e sz a n cap xs):n≤9223372036854775807:=by
 rcases h.2 with ⟨_,h0,_⟩ | ⟨g,cur,_,_,h1,h2,_⟩
 ·omega
 ·have:cap≤9223372036854775807:=h2
  omega
theorem wm {α:Type} {l:List α} {i:Nat} {x y:α} (h:l[i]?=some x):(l.set i y)[i]?=some y:=by simp [aO h]
theorem wn {α:Type}:∀ (l:List α) (i:Nat) (x:α),(l.set i x).eraseIdx i=l.eraseIdx i
 | [],_,_=>rfl
 | _::_,0,_=>rfl
 |y::l,i+1,x=>by simp [wn l i x]
set_option maxHeartbeats 1600000 in
theorem wo {A:Nat→Prop} {χ:Nat→Tag} {w:World} {fb:Nat} {X:FabX} (h:aY A χ w fb X) (hok:vj X.pure) (i:Nat):Does 81 [ptr fb,.int .i64 i] w λv w'=>
  v=.bool (X.pure.stepOrphan i).1∧dD A χ w fb (X.pure.stepOrphan i).2 w' λ_=>True:=by
 refine does Tryz.func81 ?_
 rw [ptr,kR]
 have hol:X.pure.orphans.length=X.orphans.length:=by simp [FabX.pure]
 refine ⟨_,_,_,h.fab.cell rfl,aJ (λh1=>?_) (λh1=>?_)⟩
 ·have hd:X.pure.stepOrphan i=(false,X.pure):=by
   unfold Fab.stepOrphan
   rw [List.getElem?_eq_none (by omega)]
  rw [hd]
  exact ⟨rfl,dD.same h (Keep.refl _ _) trivial⟩
 have hil:i<X.orphans.length:=by omega
 obtain ⟨b,p,ho⟩:∃ b p,X.orphans[i]?=some (b,p):=⟨X.orphans[i].1,X.orphans[i].2,by simp [hil]⟩
 have hop:=h.orphan _ (List.mem_of_getElem? ho)
 obtain ⟨hn0,hn1,hrdy⟩:=hok.orphan p.pure (List.mem_of_getElem? (i:=i) (by simp [FabX.pure,ho]))
 obtain ⟨n,hn⟩:∃ n:Nat,p.node=n:=⟨p.node.toNat,by have:p.pure.node=p.node:=rfl;omega⟩
 have hnl:n<X.nodes.length:=by
  have e:p.pure.node=p.node:=rfl
  have e2:X.pure.nodes.length=X.nodes.length:=by simp [FabX.pure]
  omega
 obtain ⟨y,hy⟩:∃ y,X.nodes[n]?=some y:=⟨X.nodes[n],by simp [hnl]⟩
 have hya:=h.node n y hy
 refine ⟨_,_,_,h.fab.cell rfl,?_⟩
 refine rn (v:=ptr b) (i:=i) h.orphs (by simp [ho]) rfl λad hcell _=>⟨some ⟨b,0,none⟩,hcell,?_⟩
 intro w1 hw1
 have hnw1:New w w1:=by rw [hw1];exact aV _
 clear hw1
 have hF1:=h.new hnw1
 have hop1:=hF1.orphan _ (List.mem_of_getElem? ho)
 have hya1:=hF1.node n y hy
 refine ⟨λu=>Keep (λk=>sj b n (χ k)) w1 u,Keep.refl _ _,_,_,_,λu hu=>(hu.blk hF1.fab (by rw [hF1.ftag];simp [sj])).cell (i:=1) rfl,?_⟩
 refine aE (AC hop1.1) ?_
 rintro r w2 ⟨rfl,rfl⟩
 refine ⟨_,rfl,Keep.refl _ _,?_⟩
 refine rn (v:=ptr y.b) (i:=n) hF1.nodes (by simp [hy]) hn λad1 hcell1 had1=>⟨some ⟨y.b,0,none⟩,λu hu=>eF hu hcell1 ?_,?_⟩
 ·obtain ⟨g,hg,rfl⟩:=had1
  rw [show χ _=_ from hF1.ntag g ⟨0,hg⟩]
  simp [sj]
 refine aE (AI hop1.1 hya1.node (hF1.avoid _ (by rw [hya1.wtag];simp)) (hF1.avoid _ (by rw [hya1.tag];simp)) (λhb=>by have:=hop1.2 _ (.inr (.inr hb));rw [hya1.wtag] at this;cases this) hrdy) ?_
 intro r w3 hS
 obtain ⟨χ',d,p',rfl,hp',hnode',hk3,hg3,hs3,hl3,ht3,hP3,hd3⟩:=wj hop1.1 hop1.2 (by simp) (λk hc=>hF1.lowt hc) hF1.avoid hya1.wtag hS
 obtain ⟨nx,hF3⟩:=hF1.setOrphan ho hy hk3 hg3 hs3 hl3 hnode' hP3 ht3
 refine ⟨_,_,_,_,_,rfl,?_⟩
 have ho3:(X.orphans.set i (b,p'))[i]?=some (b,p'):=wm ho
 refine aE (qA (hF3.orphan _ (List.mem_of_getElem? ho3)).1) ?_
 rintro r w4 ⟨rfl,rfl⟩
 have hst:X.pure.stepOrphan i=(true,{ X.pure with nodes:=X.pure.nodes.set n (p.pure.step y.n).2.1,orphans:=if (p.pure.step y.n).1.verbs.length=0 then X.pure.orphans.eraseIdx i else X.pure.orphans.set i (p.pure.step y.n).1 }):=by
  unfold Fab.stepOrphan
  have e1:X.pure.orphans[i]?=some p.pure:=by simp [FabX.pure,ho]
  have e2:p.pure.node.toNat=n:=by show p.node.toNat=n;omega
  have e3:X.pure.nodes[n]?=some y.n:=by simp [FabX.pure,hy]
  simp only [e1,e2,e3]
 rw [hst]
 have hv:p'.verbs=(p.pure.step y.n).1.verbs:=by rw [←hp'];rfl
 refine ⟨_,rfl,bH (λhz=>?_) (λhz=>?_)⟩
 ·have hz':(p.pure.step y.n).1.verbs.length=0:=by rw [←hv];have hz0:(p'.verbs.length:Int)=0:=hz;omega
  refine aE (DZ hF3 i (by have:=Es h.orphs;omega)) ?_
  rintro v w5 ⟨rfl,hpost⟩
  refine ⟨_,rfl,rfl,?_⟩
  have hpost':=dD.trans ((h.refl hnw1).trans nx) hpost
  have e:(FabX.pure { X with nodes:=X.nodes.set n { y with n:=(p.pure.step y.n).2.1 },orphans:=X.orphans.set i (b,p') }).drop i=(true,{ X.pure with nodes:=X.pure.nodes.set n (p.pure.step y.n).2.1,orphans:=X.pure.orphans.eraseIdx i }):=by
   unfold Fab.drop
   rw [if_neg (by simp [FabX.pure];omega)]
   simp [FabX.pure,List.map_set,wn]
  rw [e] at hpost'
  rw [if_pos hz']
  exact hpost'
 ·have hz':¬ (p.pure.step y.n).1.verbs.length=0:=by rw [←hv];have hz0:¬ (p'.verbs.length:Int)=0:=hz;omega
  rw [if_neg hz']
  refine ⟨rfl,_,_,_,(h.refl hnw1).trans nx,hF3,?_,trivial⟩
  simp [FabX.pure,List.map_set,hp']
theorem FabX.setPair_pure {X:FabX} {n i j:Nat} {y:kg} {c:aZ} {l:cE} {n':aP} {p':cX} :
  (FabX.pure { X with nodes:=X.nodes.set n { y with n:=n' },clients:=X.clients.set i { c with lanes:=c.lanes.set j { l with p:=p' } } }) =
   {X.pure with nodes:=X.pure.nodes.set n n',clients:=X.pure.clients.set i { c.pure with lanes:=c.pure.lanes.set j ⟨p'.pure,l.places⟩ } }:=by
 simp [FabX.pure,List.map_set,aZ.pure,cE.pure]
end Go.Proofs.YtegepanmkjemjaaGreat
