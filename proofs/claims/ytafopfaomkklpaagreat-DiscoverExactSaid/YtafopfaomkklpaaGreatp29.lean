/- A part of the proof. -/
import Derived.Test.YtafopfaomkklpaaGreatp28
set_option linter.unusedVariables false
namespace Go.Proofs.YtafopfaomkklpaaGreat
open Go.Eng
def FStR (u:World) (fb:Nat) (F:Fa) (N:List cB) (Cl:List CliR) (c m:Nat) (Av:Nat→Prop) (Q:Nat→List dR) (db hb:Nat) (x:Value) (u':World):Prop:=
 (∃ b:Bool,x=.bool b)∧∃ P' Av' Q' dn' hv',uX u' fb F N Cl P' c m Av' Q' db hb dn' hv'∧msr Q' N.length<msr Q N.length∧Keep (λk=>F.own fb N Cl.length k∨k=db∨k=hb) u u'∧∀ k,Av' k→Av k∨u.heap.size≤k
set_option maxHeartbeats 4000000 in
theorem Gp {u:World} {fb:Nat} {F:Fa} {N:List cB} {Cl:List CliR} {P:Nat→List bS} {c m:Nat} {Av:Nat→Prop} {Q:Nat→List dR} {db hb:Nat} {dn:List aY} {hv:List Bool} (h:uX u fb F N Cl P c m Av Q db hb dn hv) (hm:m≤1000000) {i:Nat} (hiN:i<N.length) (hQ:Q i≠[]) :
  Does 38 [.pointer (some ⟨fb,0,none⟩),(⟨-1,c,i⟩:aL).val] u (FStR u fb F N Cl c m Av Q db hb):=by
 refine does Tryz.func38 ?_
 rw [pj]
 have hc:=h.st.hc
 rintro b1 w1 hb1 hw1
 obtain ⟨hz1,hn1⟩:=aR hb1 hw1
 have hz1:Blk w1 b1 [.int .i64 (-1),.int .i64 c,.int .i64 i] TCh:=hz1
 clear hw1
 have h1:=h.mid.next hn1
 refine ⟨_,hz1.cell (i:=0) rfl,aE (λe=>absurd e (by omega)) (λ_=>?_)⟩
 rintro w7 hw7
 have hn7:New w1 w7:=by rw [hw7];exact aW _
 clear hw7
 have hz7:=New.blk hn7 hz1
 have h7:=h1.next hn7
 have hn07:=hn1.new hn7
 refine ⟨λy=>y=w7,rfl,_,λy hy=>by rw [hy];exact hz7.cell (i:=0) rfl,bE (λe=>absurd rfl e) (λ_=>?_)⟩
 refine ⟨_,λy hy=>by rw [hy];exact hz7.cell (i:=1) rfl,aE (λe=>absurd e (by omega)) (λ_=>?_)⟩
 refine ⟨_,λy hy=>by rw [hy];exact hz7.cell (i:=1) rfl,_,_,_,λy hy=>by rw [hy];exact h7.st.fab.fab.cell (i:=3) rfl,aE (λe=>absurd e (by omega)) (λ_=>?_)⟩
 refine ⟨_,λy hy=>by rw [hy];exact hz7.cell (i:=2) rfl,aE (λe=>absurd e (by omega)) (λ_=>?_)⟩
 refine ⟨_,λy hy=>by rw [hy];exact hz7.cell (i:=2) rfl,_,_,_,λy hy=>by rw [hy];exact h7.st.fab.fab.cell (i:=1) rfl,aE (λe=>absurd e (by omega)) (λ_=>?_)⟩
 rintro w8 hw8
 have hn8:New w7 w8:=by rw [hw8];exact aW _
 clear hw8
 have hz8:=New.blk hn8 hz7
 have h8:=h7.next hn8
 have hn08:=hn07.new hn8
 clear h1 h7 hz1 hz7 hn1 hn7 hn8 hn07
 have hPl:=(h8.st.fab.pairs c hc).2
 have hgi:(P c)[i]?=some (P c)[i]:=List.getElem?_eq_getElem (by omega)
 generalize (P c)[i]=pr at hgi
 obtain ⟨q,qs,hq⟩:∃ q qs,Q i=q::qs:=by
  cases hQi:Q i with
  |nil=>exact absurd hQi hQ
  |cons q qs=>exact ⟨q,qs,rfl⟩
 have hgn:N[i]?=some N[i]:=List.getElem?_eq_getElem hiN
 have hrm:=List.getElem_mem hiN
 generalize N[i]=r at hgn hrm
 have had:∀ (P':Nat→List bS),NdAt fb F N Cl P' r ⟨F.nb,0+(i:Int).toNat * 2,none⟩:=λP' y hy=>by
  rw [show 0+(i:Int).toNat * 2=i * 2+0 by omega]
  exact Owns.row aQ.len hy.nodes hgn (j:=0) rfl
 have hup:∀ (P':Nat→List bS),∀ y,dC y fb F N Cl P'→y.cell? ⟨F.nb,0+(i:Int).toNat * 2+1,none⟩=some (.bool r.Up):=λP' y hy=>by
  rw [show 0+(i:Int).toNat * 2+1=i * 2+1 by omega]
  exact Owns.row aQ.len hy.nodes hgn (j:=1) rfl
 obtain ⟨Sx,hSx⟩:∃ S:World→Prop,S=λy=>Ba y fb F N Cl c∧Blk y b1 [.int .i64 (-1),.int .i64 c,.int .i64 i] TCh:=⟨_,rfl⟩
 have sF:∀ {y:World} {j:Nat} {v:Value},Sx y→(fabC F.lines F.nb N.length F.nc F.cb Cl.length F.cc F.lb Cl.length F.lc)[j]?=some v→y.cell? ⟨fb,j,none⟩=some v:=λhy hv=>by
  rw [hSx] at hy
  obtain ⟨⟨P2,hy2⟩,_⟩:=hy
  exact hy2.fab.cell hv
 have sC:∀ {y:World} {j:Nat} {v:Value},Sx y→([.int .i64 (-1),.int .i64 c,.int .i64 i]:List Value)[j]?=some v→y.cell? ⟨b1,j,none⟩=some v:=λhy hv=>by
  rw [hSx] at hy
  exact hy.2.cell hv
 have sI:∀ {y:World} {P':Nat→List bS},dC y fb F N Cl P'→Blk y b1 [.int .i64 (-1),.int .i64 c,.int .i64 i] TCh→Sx y:=λhf hb=>by rw [hSx];exact ⟨⟨_,hf⟩,hb⟩
 have hb1u:u.heap.size≤b1:=by omega
 have hb1o:¬ F.own fb N Cl.length b1:=λe=>by have:=h.st.fab.lt e;omega
 have hdbu:=h.st.ams _ h.avd.1
 have hhbu:=h.st.ams _ h.avd.2
 obtain ⟨cr,hgc,hon,hcd,hcdl,hch,hchl⟩:=h.row
 have fin:∀ {w11:World} {P':Nat→List bS} {Av':Nat→Prop} {Q':Nat→List dR} {sl slot:Int} {done:Bool} {d:aY} {bx:Nat},Mid w11 fb F N Cl P' c m Av' Q' db hb dn hv sl→msr Q' N.length<msr Q N.length→Keep (λk=>F.own fb N Cl.length k) u w11→(∀ k,Av' k→Av k∨u.heap.size≤k)→Blk w11 b1 [.int .i64 (-1),.int .i64 c,.int .i64 i] TCh→Blk w11 bx d.cells 53→u.heap.size≤bx→
   ((done=true∧sl=slot∧0≤slot∧slot<m∧DnAt w11 Av' d)∨(done=false∧sl=-1))→∀ b:Bool,
   (bif done then (∀ w12,w12=w11.drew→∃ Sx5:World→Prop,Sx5 w12∧∃ (Client3:Option Addr) (Client3_len Client3_cap:Nat),(∀ u,Sx5 u→u.cell? ⟨fb,2,none⟩=some (.slice Client3 Client3_len Client3_cap))∧∃ (Client4:Int),(∀ u,Sx5 u→u.cell? ⟨b1,1,none⟩=some (.int .i64 Client4))∧idxS Client3 Client3_len Client4 7 λad5=>∃ (Done:Option Addr) (Done_len Done_cap:Nat),(∀ u,Sx5 u→u.cell? ⟨ad5.block,ad5.off+3,none⟩=some (.slice Done Done_len Done_cap))∧∃ (Client5:Option Addr) (Client5_len Client5_cap:Nat),(∀ u,Sx5 u→u.cell? ⟨fb,2,none⟩=some (.slice Client5 Client5_len Client5_cap))∧∃ (Client6:Int),(∀ u,Sx5 u→u.cell? ⟨b1,1,none⟩=some (.int .i64 Client6))∧idxS Client5 Client5_len Client6 7 λad6=>∃ (Have:Option Addr) (Have_len Have_cap:Nat),(∀ u,Sx5 u→u.cell? ⟨ad6.block,ad6.off+4,none⟩=some (.slice Have Have_len Have_cap))∧aY.ex λr=>(∀ u,Sx5 u→aH u ⟨bx,0,none⟩ 0 r.cells)∧idxS Done Done_len slot 2 λad7=>wrAt w12 ad7 0 r.cells∧∀ w13,w13=puts w12 ad7 0 r.cells→Sx5 w13∧idxS Have Have_len slot 1 λad8=>(∃ u,w13.cell? ad8=some u)∧w13.frozen? ad8=false∧∀ w14,w14=w13.setCell ad8 (.bool true)→FStR u fb F N Cl c m Av Q db hb (.bool b) w14) else (FStR u fb F N Cl c m Av Q db hb (.bool b) w11)):=by
  intro w11 P' Av' Q' sl slot done d bx hM hms hkp hAv hb1z hbx hbxu hcase b
  rcases hcase with ⟨rfl,rfl,hs0,hsm,hdn⟩ | ⟨rfl,rfl⟩
  ·refine cG rfl ?_
   rintro w12 hw12
   have hn12:New w11 w12:=by rw [hw12];exact aW _
   clear hw12
   have hM12:=hM.next hn12
   have hz12:=New.blk hn12 hb1z
   have hx12:=New.blk hn12 hbx
   have hdn12:=hdn.keep hn12 λ_ _ e=>e.elim
   obtain ⟨s,rfl⟩:=Int.eq_ofNat_of_zero_le hs0
   have hsm':s<m:=by omega
   have es2:0+(s:Int).toNat * 2=s * 2:=by omega
   have es1:0+(s:Int).toNat * 1=s:=by omega
   have hD:∀ {y:World} {P2:Nat→List bS},dC y fb F N Cl P2→y.cell? ⟨F.cb,0+(c:Int).toNat * 7+3,none⟩=some (.slice (some ⟨db,0,none⟩) m cr.Dc):=λhy=>by
    have:=hy.ccell hgc (j:=3) rfl
    rw [hcd,hcdl] at this
    exact this
   have hH:∀ {y:World} {P2:Nat→List bS},dC y fb F N Cl P2→y.cell? ⟨F.cb,0+(c:Int).toNat * 7+4,none⟩=some (.slice (some ⟨hb,0,none⟩) m cr.Hc):=λhy=>by
    have:=hy.ccell hgc (j:=4) rfl
    rw [hch,hchl] at this
    exact this
   refine ⟨λy=>(∃ P2,dC y fb F N Cl P2)∧Blk y b1 [.int .i64 (-1),.int .i64 c,.int .i64 i] TCh∧Blk y bx d.cells 53,⟨⟨_,hM12.st.fab⟩,hz12,hx12⟩,?_⟩
   refine ⟨_,_,_,λy hy=>by obtain ⟨⟨P2,hy2⟩,_⟩:=hy;exact hy2.fab.cell (i:=2) rfl,_,λy hy=>hy.2.1.cell (i:=1) rfl,bG (by omega) (by omega) ?_⟩
   refine ⟨_,_,_,λy hy=>by obtain ⟨⟨P2,hy2⟩,_⟩:=hy;exact hD hy2,?_⟩
   refine ⟨_,_,_,λy hy=>by obtain ⟨⟨P2,hy2⟩,_⟩:=hy;exact hy2.fab.cell (i:=2) rfl,_,λy hy=>hy.2.1.cell (i:=1) rfl,bG (by omega) (by omega) ?_⟩
   refine ⟨_,_,_,λy hy=>by obtain ⟨⟨P2,hy2⟩,_⟩:=hy;exact hH hy2,?_⟩
   refine aY.mk_ex d ⟨λy hy=>aK hy.2.2 rfl,bG (by omega) (by omega) ?_⟩
   rw [es2]
   have hdl:(gS dn).flatten.length=m * 2:=by rw [←hM12.dlen];exact lh aY.len dn
   refine ⟨eZ hM12.done (by rw [aY.len,hdl];omega) (aY.single d),?_⟩
   rintro w13 hw13
   have hk13:Keep (λk=>k=db) w12 w13:=by rw [hw13];exact dU _ _ _ _ _
   have hM13:=hM12.put hsm' hdn12 hw13
   clear hw13
   refine ⟨⟨⟨_,hM13.st.fab⟩,hk13.blk hz12 (by omega),hk13.blk hx12 (by omega)⟩,bG (by omega) (by omega) ?_⟩
   rw [es1]
   obtain ⟨bv,hgv⟩:∃ v,hv[s]?=some v:=⟨_,List.getElem?_eq_getElem (by rw [hM13.hlen];exact hsm')⟩
   refine ⟨⟨_,hM13.have_.cell (Fw hgv)⟩,hM13.have_.frozen,?_⟩
   rintro w14 hw14
   have hk14:Keep (λk=>k=hb) w13 w14:=by rw [hw14];exact aN _ _ _ _
   have hM14:=hM13.mark hsm' hw14
   refine ⟨⟨_,rfl⟩,P',Av',Q',_,_,hM14.run,hms,?_,hAv⟩
   refine ((hkp.mono λk _ e=>.inl e).new hn12).trans ((hk13.mono λk _ e=>.inr (.inl e)).trans (hk14.mono λk _ e=>.inr (.inr e)) λ_ _ e=>e) λ_ _ e=>e
  ·exact dM rfl ⟨⟨_,rfl⟩,P',Av',Q',_,_,hM.run,hms,hkp.mono λk _ e=>.inl e,hAv⟩
 have eoff4:0+(i:Int).toNat * 4=i * 4:=by omega
 have hAo:∀ {y:World} {A:Nat→Prop},Mid y fb F N Cl P c m A Q db hb dn hv (-1)→A (F.pb c)∧∀ k,WBk N k→A k:=λhy=>⟨hy.st.own _ (.inr (.inr (.inr (.inr (.inl ⟨c,hc,rfl⟩))))),λk ⟨r,hr,hb⟩=>hy.st.own _ (.inr (.inr (.inr (.inr (.inr ⟨r,hr,hb⟩)))))⟩
 have stepC:∀ {y:World} {A:Nat→Prop} (hy:Mid y fb F N Cl P c m A Q db hb dn hv (-1)),Does 92 [.pointer (some ⟨F.pb c,i * 4,none⟩),.pointer (some ⟨F.nb,0+(i:Int).toNat * 2,none⟩)] y (StR y fb F N Cl P c i m pr A q qs):=λhy=>by
  have hpq:=(hy.st.pairs i pr hgi).2
  rw [hq] at hpq
  exact Gk hy.st.fab hc hgi hrm (had P) (hup P) hy.st.ams (hAo hy).1 (hAo hy).2 hpq
 have hlb:∀ y,Sx y→y.cell? ⟨F.lb,0+(c:Int).toNat * 1,none⟩=some (.slice (some ⟨F.pb c,0,none⟩) N.length (F.pc c)):=λy hy=>by
  rw [hSx] at hy
  obtain ⟨⟨P2,hy2⟩,_⟩:=hy
  rw [show 0+(c:Int).toNat * 1=c by omega]
  exact Owns.cell hy2.live (xO hc)
 have hs08:=hn08.size
 refine ⟨Sx,sI h8.st.fab hz8,_,_,_,λy hy=>sF hy (j:=3) rfl,_,λy hy=>sC hy (j:=1) rfl,bG (by omega) (by omega) ⟨_,_,_,hlb,_,λy hy=>sC hy (j:=2) rfl,bG (by omega) (by omega) ⟨_,_,_,λy hy=>sF hy (j:=1) rfl,_,λy hy=>sC hy (j:=2) rfl,bG (by omega) (by omega) ?_⟩⟩⟩
 rw [eoff4]
 refine ⟨?_,?_⟩
 ·refine aG (stepC h8) ?_
  rintro x w9 hst
  obtain ⟨d,slot,done,P',Q',sl,rfl,hM9,hms,hk9,hcase⟩:=uX.step h8 hgi hq hst
  clear hst
  have hz9:=hk9.blk hz8 hb1o
  refine aY.mk_ex d ⟨_,_,_,rfl,sI hM9.st.fab hz9,?_⟩
  rintro b2 w10 hb2 hw10
  obtain ⟨hx10,hn10⟩:=aR hb2 hw10
  have hx10:Blk w10 b2 (aY.cells ⟨0,none,0,0⟩) 53:=hx10
  clear hw10
  have hs9:=hk9.size
  have hM10:=hM9.box hn10 (b:=b2) (by omega) hx10.lt
  have hz10:=New.blk hn10 hz9
  refine ⟨sI hM10.st.fab hz10,eZ hx10 (by rw [aY.len];simp [aY.cells]) (aY.single d),?_⟩
  rintro w11 hw11
  have hk11:Keep (λk=>k=b2) w10 w11:=by rw [hw11];exact dU _ _ _ _ _
  have hx11:=hx10.puts (o:=0) (i:=0) (vs:=d.cells)
  rw [pA (by rfl)] at hx11
  have hw11':w11=puts w10 ⟨b2,0,none⟩ 0 d.cells:=hw11
  rw [←hw11'] at hx11
  clear hw11 hw11'
  have hO2:∀ k,F.own fb N Cl.length k→¬ k=b2:=λk hk e=>by have:=h.st.fab.lt hk;omega
  have hM11:=hM10.keep hk11 (λk _ e=>.inr e) hO2 (by omega) (by omega)
  have hb1l:=hz9.lt
  refine fin (sl:=sl) (slot:=slot) (done:=done) (d:=d) (bx:=b2) hM11 hms ?_ (λk hk=>?_) (hk11.blk hz10 (by omega)) hx11 (by omega) ?_ true
  ·exact (((Keep.of_new hn08).trans hk9 λ_ _ e=>e).new hn10).trans hk11 λk hlt e=>by omega
  ·rcases hk with e | e
   ·exact .inl e
   ·exact .inr (by omega)
  ·rcases hcase with ⟨q1,q2,q3,q4,q5⟩ | q1
   ·refine .inl ⟨q1,q2,q3,q4,?_⟩
    have hsz:=hx10.lt
    exact ((q5.to (Av':=λk=>Av k∨k=b2) λk hlt e=>e.elim id λe=>by omega).keep hn10 λ_ _ e=>e.elim).keep hk11 λk _ e=>.inr e
   ·exact .inr q1
 ·rintro b3 w15 hb3 hw15
  obtain ⟨hx15,hn15⟩:=aR hb3 hw15
  have hx15:Blk w15 b3 (aY.cells ⟨0,none,0,0⟩) 53:=hx15
  clear hw15
  have hM15:=h8.box hn15 (b:=b3) (by omega) hx15.lt
  have hz15:=New.blk hn15 hz8
  have hb1l:=hz8.lt
  refine ⟨sI hM15.st.fab hz15,?_⟩
  refine aG (stepC hM15) ?_
  rintro x w16 hst
  obtain ⟨d,slot,done,P',Q',sl,rfl,hM16,hms,hk16,hcase⟩:=uX.step hM15 hgi hq hst
  clear hst
  have hO2:∀ k,F.own fb N Cl.length k→¬ k=b3:=λk hk e=>by have:=h.st.fab.lt hk;omega
  have hz16:=hk16.blk hz15 hb1o
  have hx16:=hk16.blk hx15 (λe=>hO2 _ e rfl)
  refine aY.mk_ex d ⟨_,_,_,rfl,sI hM16.st.fab hz16,eZ hx16 (by rw [aY.len];simp [aY.cells]) (aY.single d),?_⟩
  rintro w17 hw17
  have hk17:Keep (λk=>k=b3) w16 w17:=by rw [hw17];exact dU _ _ _ _ _
  have hx17:=hx16.puts (o:=0) (i:=0) (vs:=d.cells)
  rw [pA (by rfl)] at hx17
  have hw17':w17=puts w16 ⟨b3,0,none⟩ 0 d.cells:=hw17
  rw [←hw17'] at hx17
  clear hw17 hw17'
  have hM17:=hM16.keep hk17 (λk _ e=>.inr e) hO2 (by omega) (by omega)
  refine fin (sl:=sl) (slot:=slot) (done:=done) (d:=d) (bx:=b3) hM17 hms ?_ (λk hk=>?_) (hk17.blk hz16 (by omega)) hx17 (by omega) ?_ true
  ·exact (((Keep.of_new hn08).new hn15).trans hk16 λ_ _ e=>e).trans hk17 λk hlt e=>by omega
  ·rcases hk with e | e
   ·exact .inl e
   ·exact .inr (by omega)
  ·rcases hcase with ⟨q1,q2,q3,q4,q5⟩ | q1
   ·exact .inl ⟨q1,q2,q3,q4,q5.keep hk17 λk _ e=>.inr e⟩
   ·exact .inr q1
def Ih (w:World) (fb:Nat) (F:Fa) (N:List cB) (Cl:List CliR) (m:Nat) (x:Value) (w':World):Prop:=
 Keep (λk=>F.own fb N Cl.length k) w w'∧(x=.slice none 0 0∨∃ (db cap:Nat) (dn:List aY),x=.slice (some ⟨db,0,none⟩) m cap∧Blk w' db (gS dn).flatten 53∧dn.length=m∧w.heap.size≤db∧∀ d ∈ dn,DnAt w' (λk=>k=db) d)
theorem Hv {w:World} {fb:Nat} {F:Fa} {N:List cB} {Cl:List CliR} {P:Nat→List bS} (h:dC w fb F N Cl P) {c:Nat} (hc:c<Cl.length) (hid:Idle N Cl P) {a:Option Addr} {n cap:Nat} {l:List bA} (hn:n=l.length) (hb:Bat w (F.own fb N Cl.length) a l) (hfew:l.length≤1000000) :
  Does 13 [.pointer (some ⟨fb,0,none⟩),.int .i64 c,.slice a n cap] w (Ih w fb F N Cl l.length):=by
 refine does Tryz.func13 ?_
 rw [tX]
 refine aG (Gn h hc hid hn hb hfew) ?_
 rintro x w1 (⟨e,rfl,he,hn1⟩ | ⟨rfl,Cl',P',Av,Q,db,hb',dn,hv,hrun,hlen,hdb,hhb,hk1,hav⟩)
 ·exact ⟨_,rfl,bE (λ_=>⟨Keep.of_new hn1,.inl rfl⟩) (λe'=>absurd e' he)⟩
 refine ⟨_,rfl,bE (λe=>absurd rfl e) (λ_=>?_)⟩
 generalize hmm:l.length=m at hrun hfew
 have hO:∀ k,F.own fb N Cl'.length k→F.own fb N Cl.length k:=λk hk=>by rw [hlen] at hk;exact hk
 refine aS mix (λq env u=>∃ (P':Nat→List bS) (Av:Nat→Prop) (Q:Nat→List dR) (dn:List aY) (hv:List Bool) (jj:List Value),q=msr Q N.length∧env=gM ⟨fb,0,none⟩ c jj∧uX u fb F N Cl' P' c m Av Q db hb' dn hv∧Keep (λk=>F.own fb N Cl.length k) w u) (msr Q N.length)
  ⟨P',Av,Q,dn,hv,_,rfl,rfl,hrun,hk1.mono λk _ e=>?_⟩ ?_
 ·rcases e with e | e
  ·exact .inr (.inr (.inr (.inr (.inl ⟨c,hc,e⟩))))
  ·exact .inr (.inr (.inl e))
 rintro q env u ⟨P2,Av2,Q2,dn2,hv2,jj,rfl,rfl,hr,hku⟩
 rw [ox]
 refine aG (yO hr hfew) ?_
 rintro x w2 ⟨rfl,k,rfl,hk⟩
 refine ⟨_,rfl,aE (λhpos=>?_) (λhz=>?_)⟩
 ·obtain ⟨t,ht⟩:=hk (by omega)
  obtain ⟨j,p,g1,g2,_⟩:=hr.cov t ht
  refine aG (C9 hr.st) ?_
  rintro x w3 ⟨ca,ccap,cs,rfl,hn3,hrd,hall,hne⟩
  have hcs:=hne ⟨j,g1,λe=>by rw [e] at g2;cases g2⟩
  obtain ⟨ch,cs',rfl⟩:∃ ch cs',cs=ch::cs':=by
   cases cs with
   |nil=>exact absurd rfl hcs
   |cons ch cs'=>exact ⟨ch,cs',rfl⟩
  obtain ⟨i,hch,hiN,hQi⟩:=hall ch (List.mem_cons_self ..)
  have hr3:=(hr.mid.next hn3).run
  refine ⟨_,_,_,rfl,fY (cells:=aL.cells) aL.len (by omega) (i:=0) (x:=ch) (l:=ch::cs') hrd rfl rfl rfl λb o hcc _=>aL.mk_ex ch ⟨hcc,?_⟩⟩
  rw [hch]
  refine aG (Gp hr3 hfew hiN hQi) ?_
  rintro x w4 ⟨⟨bb,rfl⟩,P4,Av4,Q4,dn4,hv4,hr4,hms,hk4,_⟩
  refine ⟨_,rfl,msr Q4 N.length,hms,P4,Av4,Q4,dn4,hv4,_,rfl,rfl,hr4,(hku.new hn3).trans hk4 λk hlt e=>?_⟩
  rcases e with e | e | e
  ·exact hO k e
  ·omega
  ·omega
 ·rw [qq]
  refine aG (Hu hr hfew) ?_
  rintro x w3 (⟨rfl,rfl⟩ | ⟨tc,rfl,hk3⟩)
  ·exact ⟨_,_,_,_,rfl,hku,.inl rfl⟩
  ·refine ⟨_,_,_,_,rfl,hku.trans hk3 λk _ e=>by rw [e];exact .inr (.inr (.inl rfl)),.inr ⟨db,tc,dn2,rfl,?_,hr.dlen,hdb,λd hd=>?_⟩⟩
   ·exact hk3.blk hr.done λe=>hr.new_.1 (by rw [e];exact .inr (.inr (.inl rfl)))
   ·have hM:∀ k,k<w2.heap.size→k=F.cb→Av2 k:=λk _ e=>by rw [e];exact hr.st.own _ (.inr (.inr (.inl rfl)))
    exact ((hr.dok d hd).keep hk3 hM).to λk _ e=>by rw [e];exact hr.avd.1
end Go.Proofs.YtafopfaomkklpaaGreat
