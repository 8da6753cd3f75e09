import Derived.Test.YtegepanmkjemjaaGreatq42
import Derived.Test.YtegepanmkjemjaaGreatq43
import Derived.Test.YtegepanmkjemjaaGreatq44
set_option linter.unusedVariables false
namespace Go.Proofs.YtegepanmkjemjaaGreat
open Go.Proofs.Tryz
open Go.Eng C12
attribute [local irreducible] drive
theorem n1 {P:Program} {fn:Func} {R:Value→World→Prop} {Q:Exit→List Value→World→Prop} {c:Code} {env:List Value} {w:World} (h':∀ env w,Q .ret env w=retQ P fn R .ret env w) (h:Go.Eng.W P c env (Qr P fn R Q) w):Go.Eng.W P c env Q w:=(W_qr h').mp h
def uj (ls:List Int) (x:Int) (k:Nat):Int:=if x ∈ ls.take k then 2 else 1
theorem wX {a l:Nat}:uj (ns (aS a)) (l:Int) (ns (aS a)).length=lD a false l:=by
 unfold uj lD strI
 rw [List.take_length]
 by_cases h:l ∈ aS a
 ·have hm:(l:Int) ∈ ns (aS a):=List.mem_map.2 ⟨l,h,rfl⟩
  rw [if_pos hm]
  simp [h]
 ·rw [if_neg λhm=>by
   obtain ⟨q,hq,e⟩:=List.mem_map.1 hm
   have e:q=l:=by have e:(q:Int)=l:=e;omega
   exact h (e▸hq)]
  simp [h]
structure Da (w0 w13:World) (n a b:Nat) (c:Bool) (e:Fab×Tk conv) (A2:Nat→Prop) (ξ:Nat→Tag) (fb:Nat) (X':FabX) (p b1:Nat) (rv:aN) (r':TR) (tW:List aG):Prop where
 fab:aW A2 ξ w13 fb X'
 new:New w0 w13
 own:∀ k,A2 k→w0.heap.size≤k
 pure:X'.pure=e.1
 fine:Fine e.1
 box:Blk w13 p (fofC fb 100 rv) TFo
 pout:¬ A2 p
 view:ViewAt A2 w13 rv (uX n)
 rvl:rv.Members_l=n
 talk:Blk w13 b1 r'.cells 49
 tw:Rd w13 r'.Commit.Writes (fK tW).flatten
 twl:r'.Commit.Writes_l=tW.length
 lines:tW.map aG.Line=ns (aS a)
 n3:1≤n∧n≤3
set_option maxRecDepth 20000 in
set_option maxHeartbeats 4000000 in
theorem vi {w0 w13 u:World} {n a b:Nat} {c:Bool} {e:Fab×Tk conv} {A2:Nat→Prop} {ξ:Nat→Tag} {fb p b1 b3:Nat} {X':FabX} {rv:aN} {r':TR} {tW:List aG} (h:Da w0 w13 n a b c e A2 ξ fb X' p b1 rv r' tW)
  (ha14:a<14) (hb14:b<14) (hu:New w13 u) {wb:Option Addr} {wbc:Nat} (hb3:Blk u b3 (rA 1 1 100 rv none 0 0 wb (aS b).length wbc).cells 49) (hb3lo:w13.heap.size≤b3) (how:Owns u TPg 9 wb (aS b).length wbc (fK (cws 1 (eI e.1 0) (aS b))).flatten) (hwb:∀ k,isB wb k→w13.heap.size≤k∧k≠b3)
  (hWu:∀ q ∈ cws 1 (eI e.1 0) (aS b),PgU q) (hdat:(cws 1 (eI e.1 0) (aS b)).map aG.Data0=(aS b).map (lD a c))
  {sch:List Int} {p4:Option Addr} {c4:Nat} (hs:Rd w0 p4 (is sch)) (hi:∀ x ∈ sch,I64 x) (hrun:∃ e2:Fab×Tk conv,drive e.1 [strU n b e.1] sch [] 3000=(e2.1,[e2.2])∧Fine e2.1∧(outM e2.2).1=0∧(outM e2.2).2=3∧EqF e2.1 n 100 (strE a b c)) (jj:List Value)
  {Q:Exit→List Value→World→Prop} (hQ:∀ env z,Q .ret env z=retQ prog f9 (λv z=>v=.bool true∧New w0 z) .ret env z):cA prog (.loop (sub (aF f9) [1,1,1,1,1,1,1,1,1,1,1,0,1,0,0])) (aU c p4 sch.length c4 (some ⟨p,0,none⟩) ⟨b1,0,none⟩ ⟨b3,0,none⟩ 0 jj) (aI 0 (seqQ (λenv z=>Go.Eng.W prog (sub (aF f9) [1,1,1,1,1,1,1,1,1,1,1,1]) env Q z) Q)) u:=by
 obtain ⟨hF,hnw,hown,hX,hfe,hbox,hpA,hv,hrvl,hb1,htw,htl,hlines,hn3⟩:=h
 have hWl:(cws 1 (eI e.1 0) (aS b)).length=(aS b).length:=by simp [cws]
 obtain ⟨hl1,hl3⟩:=mP b hb14
 obtain ⟨hla,hla3⟩:=mP a ha14
 have htWl:tW.length=(aS a).length:=by
  have:=congrArg List.length hlines
  simpa [ns] using this
 refine aQ mix (λq env z=>∃ (i:Nat) (jj:List Value),q=(aS b).length - i∧i≤(aS b).length∧env=aU c p4 sch.length c4 (some ⟨p,0,none⟩) ⟨b1,0,none⟩ ⟨b3,0,none⟩ i jj∧New u z) (aS b).length ⟨0,_,rfl,by omega,rfl,Keep.refl _ _⟩ ?_
 rintro q env z ⟨i,jj,rfl,hi2,rfl,hz⟩
 refine n1 (P:=prog) (fn:=f9) (R:=(λv z=>v=.bool true∧New w0 z)) (λ_ _=>by first | rfl | exact hQ _ _) ?_
 rw [gy]
 refine ⟨wb,(aS b).length,wbc,(New.blk hz hb3).cell (i:=14) rfl,aH (λhlt=>?_) (λhge=>?_)⟩
 ·have hlt:i<(aS b).length:=by omega
  obtain ⟨l,hl⟩:∃ l,(aS b)[i]?=some l:=⟨_,List.getElem?_eq_getElem hlt⟩
  have hpg:(cws 1 (eI e.1 0) (aS b))[i]?=some (bump 1 ((eI e.1 0).page l)):=by simp [cws,hl]
  have hd0:(bump 1 ((eI e.1 0).page l)).Data0=lD a c l:=by
   have h1:((cws 1 (eI e.1 0) (aS b)).map aG.Data0)[i]?=some (bump 1 ((eI e.1 0).page l)).Data0:=by rw [List.getElem?_map,hpg];rfl
   rw [hdat,List.getElem?_map,hl] at h1
   simpa using h1.symm
  have hout:∀ (Q2:Exit→List Value→World→Prop),(∀ env z,Q2 .ret env z=retQ prog f9 (λv z=>v=.bool true∧New w0 z) .ret env z)→(∀ (jj:List Value) (z:World),New u z→Q2 .normal (aU c p4 sch.length c4 (some ⟨p,0,none⟩) ⟨b1,0,none⟩ ⟨b3,0,none⟩ ((i+1:Nat):Int) jj) z)→∀ (jj:List Value) (z:World) (s:Int),New u z→s=lD a c l→
    Go.Eng.W prog (sub (aF f9) [1,1,1,1,1,1,1,1,1,1,1,0,1,0,0,1,0,0,1,1]) (dD c p4 sch.length c4 (some ⟨p,0,none⟩) ⟨b1,0,none⟩ ⟨b3,0,none⟩ i s jj) (aI 1 (seqQ (λenv z=>Go.Eng.W prog (sub (aF f9) [1,1,1,1,1,1,1,1,1,1,1,0,1,0,0,1,1]) env Q2 z) Q2)) z:=by
   rintro Q2 hQ2 hq jj z s hz rfl
   refine n1 (P:=prog) (fn:=f9) (R:=(λv z=>v=.bool true∧New w0 z)) (λ_ _=>hQ2 _ _) ?_
   rw [gS]
   refine ⟨wb,(aS b).length,wbc,(New.blk hz hb3).cell (i:=14) rfl,?_⟩
   refine eS (cells:=aG.cells) aG.len (by omega) ((how.new hz).rd) hpg rfl hWl.symm λb' o' _ hc=>?_
   refine jK (by omega) (by omega) ⟨_,hc 2 _ rfl,cF (λhne=>absurd hd0 hne) λ_=>yZ (jh ?_)⟩
   refine n1 (P:=prog) (fn:=f9) (R:=(λv z=>v=.bool true∧New w0 z)) hQ2 ?_
   rw [gT]
   rw [w64 (x:=(i:Int)+1) (by omega) (by omega)]
   exact hq _ _ hz
  have hstep:∀ (jj:List Value) (z:World),New u z→∃ m,m<(aS b).length - i∧∃ (q:Nat) (jj':List Value),m=(aS b).length - q∧q≤(aS b).length∧aU c p4 sch.length c4 (some ⟨p,0,none⟩) ⟨b1,0,none⟩ ⟨b3,0,none⟩ ((i+1:Nat):Int) jj=aU c p4 sch.length c4 (some ⟨p,0,none⟩) ⟨b1,0,none⟩ ⟨b3,0,none⟩ q jj'∧New u z:=λjj z hz=>⟨(aS b).length - (i+1),by omega,i+1,jj,rfl,by omega,rfl,hz⟩
  cases c with
  |true=>
   refine aQ mix (λq env z=>∃ (jj:List Value),q=0∧env=bK true p4 sch.length c4 (some ⟨p,0,none⟩) ⟨b1,0,none⟩ ⟨b3,0,none⟩ i 1 0 jj∧New u z) 0 ⟨_,rfl,rfl,hz⟩ ?_
   rintro q env z ⟨jj,rfl,rfl,hz⟩
   refine n1 (P:=prog) (fn:=f9) (R:=(λv z=>v=.bool true∧New w0 z)) (λ_ _=>by first | rfl | exact hQ _ _) ?_
   rw [dP]
   refine ⟨r'.Commit.Writes,r'.Commit.Writes_l,r'.Commit.Writes_c,(New.blk (hu.new hz) hb1).cell (i:=14) rfl,aH (λhlt=>?_) (λhge=>?_)⟩
   ·refine n1 (P:=prog) (fn:=f9) (R:=(λv z=>v=.bool true∧New w0 z)) (λ_ _=>by first | rfl | exact hQ _ _) ?_
    rw [cM]
    refine dE rfl (sQ (Qr_x (sQ (sd (jh (hout _ ?_ ?_ _ _ _ hz rfl))))))
    ·exact λ_ _=>rfl
    ·exact λjj z hz=>Qr_n (jh (hstep jj z hz))
   ·omega
  |false=>
   refine aQ mix (λq env z=>∃ (k:Nat) (s:Int) (jj:List Value),q=tW.length - k∧k≤tW.length∧env=bK false p4 sch.length c4 (some ⟨p,0,none⟩) ⟨b1,0,none⟩ ⟨b3,0,none⟩ i s k jj∧New u z∧s=uj (ns (aS a)) l k) tW.length ⟨0,1,_,rfl,by omega,rfl,hz,rfl⟩ ?_
   rintro q env z ⟨k,s,jj,rfl,hk,rfl,hz,hsk⟩
   refine n1 (P:=prog) (fn:=f9) (R:=(λv z=>v=.bool true∧New w0 z)) (λ_ _=>by first | rfl | exact hQ _ _) ?_
   rw [dP]
   refine ⟨r'.Commit.Writes,r'.Commit.Writes_l,r'.Commit.Writes_c,(New.blk (hu.new hz) hb1).cell (i:=14) rfl,aH (λhlt=>?_) (λhge=>?_)⟩
   ·have hlt':k<tW.length:=by rw [htl] at hlt;omega
    obtain ⟨t,ht⟩:∃ t,tW[k]?=some t:=⟨_,List.getElem?_eq_getElem hlt'⟩
    have htl2:(ns (aS a))[k]?=some t.Line:=by rw [←hlines,List.getElem?_map,ht];rfl
    refine n1 (P:=prog) (fn:=f9) (R:=(λv z=>v=.bool true∧New w0 z)) (λ_ _=>by first | rfl | exact hQ _ _) ?_
    rw [cM]
    refine iL rfl (jh ?_)
    rw [gR]
    rintro w1 hw1
    have hn1:New z w1:=by rw [hw1];exact aT _
    clear hw1
    refine ⟨λy=>New w1 y,Keep.refl _ _,r'.Commit.Writes,r'.Commit.Writes_l,r'.Commit.Writes_c,λv hv=>(New.blk ((hu.new hz).new (hn1.new hv)) hb1).cell (i:=14) rfl,?_⟩
    refine kq (cells:=aG.cells) aG.len (by omega) (htw.new ((hu.new hz).new hn1)) ht rfl htl λb' o' hc=>⟨_,λv hv=>hc v hv 0 _ rfl,?_⟩
    refine ⟨wb,(aS b).length,wbc,λv hv=>(New.blk (hz.new (hn1.new hv)) hb3).cell (i:=14) rfl,?_⟩
    refine kq (cells:=aG.cells) aG.len (by omega) ((how.new (hz.new hn1)).rd) hpg rfl hWl.symm λb' o' hc=>⟨_,λv hv=>hc v hv 0 _ rfl,?_⟩
    have hln:(bump 1 ((eI e.1 0).page l)).Line=(l:Int):=rfl
    rw [hln,w64 (x:=(k:Int)+1) (by omega) (by omega)]
    have htk:(ns (aS a)).take (k+1)=(ns (aS a)).take k++[t.Line]:=by rw [List.take_add_one,htl2];rfl
    refine bI (λhe=>?_) (λhe=>?_)
    ·refine jh ⟨tW.length - (k+1),by omega,k+1,2,_,rfl,by omega,rfl,hz.new hn1,?_⟩
     unfold uj
     rw [if_pos (by rw [htk,he];simp)]
    ·refine jh ⟨tW.length - (k+1),by omega,k+1,s,_,rfl,by omega,rfl,hz.new hn1,?_⟩
     rw [hsk]
     unfold uj
     rw [htk]
     by_cases hm:(l:Int) ∈ (ns (aS a)).take k
     ·rw [if_pos hm,if_pos (List.mem_append_left _ hm)]
     ·rw [if_neg hm,if_neg]
      intro hm2
      rcases List.mem_append.1 hm2 with h1 | h1
      ·exact hm h1
      ·simp at h1;exact he h1.symm
   ·have hke:k=tW.length:=by rw [htl] at hge;omega
    have hsw:s=lD a false l:=by
     rw [hsk,hke,htWl]
     have:=wX (a:=a) (l:=l)
     simpa [ns] using this
    refine n1 (P:=prog) (fn:=f9) (R:=(λv z=>v=.bool true∧New w0 z)) (λ_ _=>by first | rfl | exact hQ _ _) ?_
    rw [cM]
    refine dE rfl (sQ (Qr_x (sQ (sd (jh (hout _ ?_ ?_ _ _ _ hz hsw))))))
    ·exact λ_ _=>rfl
    ·exact λjj z hz=>Qr_n (jh (hstep jj z hz))
 ·refine sQ (sd (jh ?_))
  refine n1 (P:=prog) (fn:=f9) (R:=(λv z=>v=.bool true∧New w0 z)) hQ ?_
  rw [il]
  obtain ⟨e2,hd2,hf2,hcode,hfate,heq⟩:=hrun
  rintro w1 hw1
  have hn1:New u w1:=by rw [hw1];exact hz.new (aT _)
  clear hw1
  refine ⟨λy=>New w1 y,Keep.refl _ _,some ⟨fb,0,none⟩,λv hv=>(New.blk (hu.new (hn1.new hv)) hbox).cell (i:=0) rfl,aB.mk_ex (rA 1 1 100 rv none 0 0 wb (aS b).length wbc) ⟨λv hv=>aJ (New.blk (hn1.new hv) hb3) rfl,?_⟩⟩
  rintro b5 w2 hb5 hw2
  obtain ⟨hz5,hn2⟩:=aM hb5 hw2
  clear hw2
  refine ⟨hn2,?_⟩
  have hnA:New w13 w2:=hu.new (hn1.new hn2)
  have hlt3:=hb3.lt
  have hs1:=(hn1.new hn2).size
  have hsu:=hu.size
  have htk:eM (λk=>A2 k∨k=b3) w2 (rA 1 1 100 rv none 0 0 wb (aS b).length wbc) (strU n b e.1):=by
   refine q7 (ViewAt.new (hv.mono λj hj h=>?_) hnA) (.inl rfl) rfl (by simp) (.inl rfl) ((how.new (hn1.new hn2)).rd) hWl.symm (by omega) (og (how.new (hn1.new hn2)).rd λj hj h=>?_) hWu
   ·rcases h with h | h
    ·exact h
    ·omega
   ·obtain ⟨h4,h5⟩:=hwb j hj
    rcases h with h | h
    ·have:=hF.low j h;omega
    ·exact h5 h
  have hcall:=vP hF hnA ⟨hb3lo,by omega⟩ (by rw [hX];exact hfe) htk (nZ _ _ _ _ _ _) (pa:=some ⟨b5,0,none⟩) (eJ hz5 (by simp [aB.cells])) (yI (A:=λk=>A2 k∨k=b3) hs (hnw.new hnA) λj hj=>hj.elim (hown j) λh=>by have:=hnw.size;omega) hi (sc:=c4) (most:=3000) (by omega) (e:=e2) (by rw [hX];exact hd2) rfl
  refine aE hcall ?_
  rintro v w17 ⟨la,lc,r2,B,ξ2,X2,rfl,hT,hX2,htx,hidx,hblk,hkz,hMz⟩
  refine ⟨_,_,_,rfl,hidx _ λb o hcell=>?_⟩
  refine aB.mk_ex r2 ⟨hcell,?_⟩
  have hb17:=hblk.trans (New.blk (hn1.new hn2) hb3)
  refine fN (vs:=r2.cells) hb17 rfl (aB.single _) λw18 hz18 hk18=>?_
  have hT18:=hT.local hk18 λ_ e=>e
  have hc0:r2.Code=0:=htx.out.1.trans hcode
  have hf3:r2.Fate=3:=htx.out.2.trans hfate
  have hkA:Keep A2 w13 w18:=hT18.next.keep.mono λk _ hc=>hF.avoid k hc
  have hbox18:=hkA.blk hbox hpA
  have hmem18:Rd w18 rv.Members (gZ (stM n)).flatten:=hv.rd.keep hkA hv.off
  have hnew18:New w0 w18:=hT18.mine hF hnw hown
  rintro w5 hw5
  have hn5:New w18 w5:=by rw [hw5];exact aT _
  clear hw5
  refine ⟨λy=>New w5 y,Keep.refl _ _,_,λv hv=>(New.blk (hn5.new hv) hz18).cell (i:=18) rfl,iL (by rw [hc0];rfl) ⟨_,λv hv=>(New.blk (hn5.new hv) hz18).cell (i:=24) rfl,iL (by rw [hf3];rfl) ?_⟩⟩
  refine ⟨some ⟨fb,0,none⟩,λv hv=>(New.blk (hn5.new hv) hbox18).cell (i:=0) rfl,rv.Members,rv.Members_l,rv.Members_c,λv hv=>(New.blk (hn5.new hv) hbox18).cell (i:=3) rfl,100,λv hv=>(New.blk (hn5.new hv) hbox18).cell (i:=1) rfl,?_⟩
  have hEq:=BT (hT18.fab.new hn5) (EqX.of (n:=n) (lines:=100) (by rw [hX2];exact hf2) (by rw [hX2];exact heq) (by omega) (by omega)) (hmem18.new hn5) (mc:=rv.Members_c) (by omega)
  rw [hrvl]
  refine aE hEq ?_
  rintro v u2 ⟨rfl,hn6⟩
  exact ⟨_,rfl,hn6,rfl,hnew18.new (hn5.new hn6)⟩
end Go.Proofs.YtegepanmkjemjaaGreat
namespace Go.Proofs.YtegepanmkjemjaaGreat
open Go.Proofs.Tryz
open Go.Eng C12
attribute [local irreducible] drive
theorem An (n a:Nat) (c:Bool):(strW n a c).length=(aS a).length:=by
 cases c<;>simp [strW,BY,pJ,n0,cws]
set_option maxRecDepth 20000 in
set_option maxHeartbeats 4000000 in
theorem q8 (hrun:AP) (w:World) {x0 x1 x2:Int} {c:Bool} {p4:Option Addr} {c4:Nat} {sch:List Int} (h0:I64 x0) (h1:I64 x1) (h2:I64 x2) (hs:Rd w p4 (is sch)) (hi:∀ x ∈ sch,I64 x) :
  Does 9 [.int .i64 x0,.int .i64 x1,.int .i64 x2,.bool c,.slice p4 sch.length c4] w λv u=>v=.bool true∧New w u:=by
 refine does Tryz.func9 ?_
 rw [j0]
 refine aH (λh=>⟨rfl,Keep.refl _ _⟩) (λ_=>?_)
 refine aE (nt _ _ _ h0 (by omega)) ?_
 rintro v u1 ⟨rfl,hu1⟩
 obtain rfl:w=u1:=hu1.symm
 rw [if_neg (by omega)]
 refine ⟨_,rfl,?_⟩
 obtain ⟨n,hn,hn3⟩:∃ n:Nat,x0 % 3+1=n∧1≤n∧n≤3:=⟨(x0 % 3+1).toNat,by omega,by omega⟩
 rw [w64 (x:=x0 % 3+1) (by omega) (by omega),hn]
 refine aE (BR (n:=n) (by omega) (x:=2) ⟨by omega,by omega⟩) ?_
 rintro v w2 ⟨fb,p,A,χ,X,rv,rfl,hm⟩
 have hm:Made _ w2 n 100 fb p A χ X rv:=hm
 obtain ⟨num,mem,ml,mc⟩:=rv
 have hml:n=ml:=(hm.view.len.trans (lm n)).symm
 subst hml
 refine ⟨_,_,rfl,?_⟩
 rw [fY,fU]
 refine n1 (P:=prog) (fn:=f9) (R:=(λv z=>v=.bool true∧New w z)) (λ_ _=>rfl) ?_
 rw [ia]
 refine dE rfl ?_
 refine aE (BX _) ?_
 rintro v w3 ⟨rfl,hn3'⟩
 refine ⟨_,rfl,jh ?_⟩
 refine n1 (P:=prog) (fn:=f9) (R:=(λv z=>v=.bool true∧New w z)) (λ_ _=>rfl) ?_
 rw [ib]
 refine dE rfl (jh ?_)
 refine n1 (P:=prog) (fn:=f9) (R:=(λv z=>v=.bool true∧New w z)) (λ_ _=>rfl) ?_
 rw [ic]
 obtain ⟨y,hy,hy14⟩:∃ y:Nat,(x1 % 14).toNat=y∧y<14:=⟨_,rfl,by omega⟩
 obtain ⟨y2,hy2,hy214⟩:∃ y:Nat,(x2 % 14).toNat=y∧y<14:=⟨_,rfl,by omega⟩
 refine aE (vJ h1) ?_
 rw [hy]
 rintro v w4 ⟨ca,cc,rfl,hrc,hn4⟩
 refine ⟨_,_,_,rfl,?_⟩
 have hf0:Fine (Fab.fresh n 6 100):=Fine.fresh (by omega) (by omega) (by omega)
 obtain ⟨x,hx,hxm⟩:=BW hm.pure (i:=0) (by simp [Fab.fresh];omega)
 have hlong:x.n.words.length=800:=yG hm.pure hf0 hx
 have hup:x.n.down=false:=by rw [←hxm,wU (by omega)]
 have hu:∀ i,U64 (x.n.get i):=λi=>(hm.fab.node 0 x hx).node.wf_get i
 obtain ⟨hl1,hl3⟩:=mP y hy14
 obtain ⟨hl1',hl3'⟩:=mP y2 hy214
 have hn24:=hn3'.new hn4
 have hcnt:=rS (hm.fab.new hn24) (New.blk hn24 hm.box) hx hup (L:=aS y) (λl hl=>by have:=rR hl;omega) (by omega) hrc (cc:=cc) 0 1
 refine aE hcnt ?_
 rintro v w5 ⟨wa,wc,rfl,hn5,hown,hfr⟩
 refine aB.mk_ex (t9 0 1 100 ⟨num,mem,n,mc⟩ wa (aS y).length wc) ⟨true,rfl,?_⟩
 refine gF (vs:=(rA 0 1 100 ⟨num,mem,n,mc⟩ none 0 0 wa (aS y).length wc).cells) rfl (aB.single _) λb1 w6 hb1 hz6 hn6=>?_
 refine dE rfl ?_
 have hW:cws 0 x.n (aS y)=pJ n y:=by unfold pJ;rw [hxm]
 have hWu0:∀ q ∈ pJ n y,PgU q:=by rw [←hW];exact C7 hu 0 _
 rw [hW] at hown
 have hl0:=yJ n y
 have hsz2:=hm.new.size
 have hsz4:=hn24.size
 have hsz5:=hn5.size
 have hfr2:∀ j,isB wa j→w2.heap.size≤j:=λj hj=>by have:=hfr j hj;omega
 have hnb1:¬ isB wa b1:=λh=>by have:=hown.lt h;omega
 have hWu:∀ q ∈ strW n y c,PgU q:=by
  cases c
  ·exact hWu0
  ·exact yH hWu0 (by omega) (Ae _)
 obtain ⟨e,hd,hfe,hov,hcode,hjw,hup1,hnl,hll,hdat,hrun2⟩:=hrun n y y2 hn3 hy14 hy214 c sch
 have hjoin:∀ (jj:List Value) (z:World) (Q:Exit→List Value→World→Prop),(∀ env u,Q .ret env u=retQ prog f9 (λv z=>v=.bool true∧New w z) .ret env u)→New w2 z→Blk z b1 (rA 0 1 100 ⟨num,mem,n,mc⟩ none 0 0 wa (aS y).length wc).cells 49→Owns z TPg 9 wa (aS y).length wc (fK (strW n y c)).flatten→
   Go.Eng.W prog (sub (aF f9) [1,1,1,1,1,1,1]) (bJ x2 c p4 sch.length c4 (some ⟨p,0,none⟩) ⟨b1,0,none⟩ jj) (Qr prog f9 (λv z=>v=.bool true∧New w z) Q) z:=by
  intro jj z Q hQ hnz hzz hoz
  rw [ig]
  rintro w15 hw15
  have hn15:New z w15:=by rw [hw15];exact aT _
  clear hw15
  refine ⟨λy=>New w15 y,Keep.refl _ _,some ⟨fb,0,none⟩,λu hu=>(New.blk ((hnz.new hn15).new hu) hm.box).cell (i:=0) rfl,aB.mk_ex (rA 0 1 100 ⟨num,mem,n,mc⟩ none 0 0 wa (aS y).length wc) ⟨λu hu=>aJ (New.blk (hn15.new hu) hzz) rfl,?_⟩⟩
  rintro b3 w16 hb3 hw16
  obtain ⟨hz16,hn16⟩:=aM hb3 hw16
  clear hw16
  refine ⟨hn16,?_⟩
  have hlenW:(aS y).length=(strW n y c).length:=by rw [An]
  have hnA:=(hnz.new hn15).new hn16
  have hb1A:b1<w16.heap.size:=by have:=hzz.lt;have:=(hn15.new hn16).size;omega
  have hvA:ViewAt (λk=>A k∨k=b1) w16 ⟨num,mem,n,mc⟩ (uX n):=by
   refine ViewAt.new (hm.view.mono λj hj h=>?_) hnA
   rcases h with h | h
   ·exact h
   ·omega
  have htk:eM (λk=>A k∨k=b1) w16 (rA 0 1 100 ⟨num,mem,n,mc⟩ none 0 0 wa (aS y).length wc) (strT n y c):=by
   refine q7 hvA (.inl rfl) rfl (by simp) (.inl rfl) ((hoz.new (hn15.new hn16)).rd) hlenW (by omega) (og (hoz.new (hn15.new hn16)).rd λj hj h=>?_) hWu
   have h4:=hfr j hj
   have h5:=hown.lt hj
   rcases h with h | h
   ·have:=hm.fab.low j h;omega
   ·omega
  have hcall:=vP hm.fab hnA ⟨by omega,hb1A⟩ (by rw [hm.pure];exact hf0) htk (nZ _ _ _ _ _ _) (pa:=some ⟨b3,0,none⟩) (eJ hz16 (by simp [aB.cells])) (yI (A:=λk=>A k∨k=b1) hs (hm.new.new hnA) λj hj=>hj.elim (hm.own j) λh=>by omega) hi (sc:=c4) (most:=3000) (by omega) (e:=e) (by rw [hm.pure];exact hd) rfl
  refine aE hcall ?_
  rintro v w17 ⟨la,lc,r',B,ξ,X',rfl,hT,hX',htx,hidx,hblk,hkz,hMz⟩
  refine ⟨_,_,_,rfl,hidx _ λb o hcell=>?_⟩
  refine aB.mk_ex r' ⟨hcell,?_⟩
  have hb17:=hblk.trans (New.blk (hn15.new hn16) hzz)
  refine fN (vs:=r'.cells) hb17 rfl (aB.single _) λw18 hz18 hk18=>?_
  have hT18:=hT.local hk18 λ_ e=>e
  have hcr:r'.Code=sK c:=htx.out.1.trans hcode
  have hvB:ViewAt (λk=>B k∨k=b1) w17 ⟨num,mem,n,mc⟩ (uX n):=C12.ViewAt.keep hvA hkz hMz
  have hv18:ViewAt (λk=>B k∨k=b1) w18 ⟨num,mem,n,mc⟩ (uX n):=C12.ViewAt.keep hvB (hk18.mono λ_ _ e=>.inr e) λ_ _ h=>h
  have hpl:=hm.box.lt
  have hpne:¬ (A p∨p=b1):=λh=>h.elim hm.out λh=>by omega
  have hpB:¬ (B p∨p=b1):=λh=>hpne (hMz p (by have:=hnA.size;omega) h)
  have hbox17:Blk w17 p (fofC fb 100 ⟨num,mem,n,mc⟩) TFo:=hkz.blk (New.blk hnA hm.box) hpne
  have hbox18:Blk w18 p (fofC fb 100 ⟨num,mem,n,mc⟩) TFo:=hk18.blk hbox17 (by omega)
  have hnew18:New w w18:=hT18.mine hm.fab hm.new hm.own
  have hjob:C12.JAtC (λk=>B k∨k=b1) w17 r'.Commit (jobM e.2):=htx.job
  have htw17:Rd w17 r'.Commit.Writes (fK (jobM e.2).writes).flatten:=hjob.at_.pg.rd
  have htw18:Rd w18 r'.Commit.Writes (fK (jobM e.2).writes).flatten:=htw17.keep (hk18.mono (M':=λk=>B k∨k=b1) λ_ _ e=>.inr e) hjob.woff
  have hstr:Da w w18 n y y2 c e (λk=>B k∨k=b1) ξ fb X' p b1 ⟨num,mem,n,mc⟩ r' (jobM e.2).writes:=by
   refine ⟨hT18.fab,hnew18,λj hj=>?_,hX',hfe,hbox18,hpB,hv18,rfl,hz18,htw18,hjob.at_.pg.len,hjw,hn3⟩
   by_cases hlt:j<w16.heap.size
   ·rcases hMz j hlt hj with h | h
    ·exact hm.own j h
    ·omega
   ·have:=(hm.new.new hnA).size;omega
  rw [gx,fV]
  refine n1 (P:=prog) (fn:=f9) (R:=(λv z=>v=.bool true∧New w z)) (λ_ _=>rfl) ?_
  rw [ii]
  have key:∀ (jj:List Value),Go.Eng.W prog (sub (aF f9) [1,1,1,1,1,1,1,1,0,1]) (bQ x2 c p4 sch.length c4 (some ⟨p,0,none⟩) ⟨b1,0,none⟩ false jj) (seqQ (λenv z=>Go.Eng.W prog (sub (aF f9) [1,1,1,1,1,1,1,1,1]) env (Qr prog f9 (λv z=>v=.bool true∧New w z) Q) z) (Qr prog f9 (λv z=>v=.bool true∧New w z) Q)) w18:=by
   intro jj
   refine n1 (P:=prog) (fn:=f9) (R:=(λv z=>v=.bool true∧New w z)) (λ_ _=>rfl) ?_
   rw [ij]
   refine dE rfl (jh ?_)
   rw [ik]
   refine aE (vJ h2) ?_
   rw [hy2]
   rintro v u4 ⟨cb,ccb,rfl,hrb,hnb⟩
   refine ⟨_,_,_,rfl,?_⟩
   obtain ⟨x',hx',hxm'⟩:=BW hX' (i:=0) (by omega)
   have hlong':x'.n.words.length=800:=by rw [yG hX' hfe hx',hll]
   rw [hxm'] at hup1
   have hu':∀ i,U64 (x'.n.get i):=λi=>(hT18.fab.node 0 x' hx').node.wf_get i
   have hcnt2:=rS (hT18.fab.new hnb) (New.blk hnb hbox18) hx' hup1 (L:=aS y2) (λl hl=>by have:=rR hl;omega) (by omega) hrb (cc:=ccb) 1 1
   refine aE hcnt2 ?_
   rintro v u5 ⟨wb,wbc,rfl,hnb5,hownb,hfrb⟩
   refine aB.mk_ex (t9 1 1 100 ⟨num,mem,n,mc⟩ wb (aS y2).length wbc) ⟨true,rfl,?_⟩
   refine gF (vs:=(rA 1 1 100 ⟨num,mem,n,mc⟩ none 0 0 wb (aS y2).length wbc).cells) rfl (aB.single _) λb5 u6 hb5 hz66 hnb6=>?_
   refine dE rfl ?_
   have hs4:=hnb.size
   have hs5:=hnb5.size
   rw [←hxm'] at hownb
   exact vi hstr hy14 hy214 ((hnb.new hnb5).new hnb6) hz66 (by omega) (hownb.new hnb6) (λk hk=>⟨by have:=hfrb k hk;omega,λe=>by have:=hownb.lt hk;omega⟩) (by rw [hxm'];exact C7 hu' 1 _) hdat hs hi hrun2 _ (λ_ _=>rfl)
  refine ⟨_,hz18.cell (i:=16) rfl,dE (by rw [htx.over,hov];rfl) ⟨_,hz18.cell (i:=18) rfl,?_⟩⟩
  rw [hcr]
  cases c
  ·refine dE rfl ⟨_,hz18.cell (i:=18) rfl,jh ?_⟩
   rw [hcr]
   exact key _
  ·refine dE rfl ⟨_,hz18.cell (i:=18) rfl,jh ?_⟩
   rw [hcr]
   exact key _
 rw [fZ]
 refine n1 (P:=prog) (fn:=f9) (R:=(λv z=>v=.bool true∧New w z)) (λ_ _=>rfl) ?_
 rw [ie]
 cases c
 ·refine dE rfl (jh (hjoin _ _ _ (λ_ _=>rfl) ((hn24.new hn5).new hn6) hz6 (hown.new hn6)))
 ·refine iL rfl ?_
  rintro w9 hw9
  have hn9:New w6 w9:=by rw [hw9];exact aT _
  clear hw9
  refine ⟨λy=>New w9 y,Keep.refl _ _,wa,(aS y).length,wc,λu hu=>(New.blk (hn9.new hu) hz6).cell (i:=14) rfl,wa,(aS y).length,wc,λu hu=>(New.blk (hn9.new hu) hz6).cell (i:=14) rfl,?_⟩
  have hown9:=hown.new (hn6.new hn9)
  obtain ⟨q,hg⟩:∃ q,(pJ n y)[0]?=some q:=⟨_,List.getElem?_eq_getElem (by omega)⟩
  have hq:q.Head=vO (pJ n y) 0:=by unfold vO;rw [BZ hg]
  refine kq (cells:=aG.cells) aG.len (by omega) hown9.rd hg rfl hl0.symm λb o hc=>⟨_,λu hu=>hc u hu 1 _ rfl,?_⟩
  rw [hq]
  refine C5 (i:=0) hown9 (by omega) hl0.symm rfl λ_ w10 ho10 hk10=>?_
  have ho10:Owns w10 TPg 9 wa (aS y).length wc (fK (strW n y true)).flatten:=ho10
  have hn10:New w2 w10:=(((hn24.new hn5).new hn6).new hn9).trans hk10 λj hlt hj=>by have:=hfr2 j hj;omega
  exact jh (hjoin _ _ _ (λ_ _=>rfl) hn10 (hk10.blk (New.blk hn9 hz6) hnb1) ho10)
end Go.Proofs.YtegepanmkjemjaaGreat
namespace Go.Proofs.YtegepanmkjemjaaGreat
open Go.Eng C12
set_option maxRecDepth 100000 in
theorem B3:((List.range 4).all λq=>strA 1 (0+q) true)=true:=by kernel_rfl
set_option maxRecDepth 100000 in
theorem B4:((List.range 4).all λq=>strA 1 (4+q) true)=true:=by kernel_rfl
set_option maxRecDepth 100000 in
theorem B5:((List.range 3).all λq=>strA 1 (8+q) true)=true:=by kernel_rfl
set_option maxRecDepth 100000 in
theorem Ao:((List.range 3).all λq=>strA 1 (11+q) true)=true:=by kernel_rfl
theorem Db {a:Nat} (ha:a<14):strA 1 a true=true:=by
 have h0:=B3
 have h4:=B4
 have h8:=B5
 have h11:=Ao
 simp only [List.all_eq_true,List.mem_range] at h0 h4 h8 h11
 by_cases h:a<4
 ·have:=h0 a h
  rwa [Nat.zero_add] at this
 ·by_cases h2:a<8
  ·have:=h4 (a - 4) (by omega)
   rwa [show 4+(a - 4)=a by omega] at this
  ·by_cases h3:a<11
   ·have:=h8 (a - 8) (by omega)
    rwa [show 8+(a - 8)=a by omega] at this
   ·have:=h11 (a - 11) (by omega)
    rwa [show 11+(a - 11)=a by omega] at this
set_option maxRecDepth 100000 in
theorem B6:((List.range 4).all λq=>strA 1 (0+q) false)=true:=by kernel_rfl
set_option maxRecDepth 100000 in
theorem B7:((List.range 4).all λq=>strA 1 (4+q) false)=true:=by kernel_rfl
set_option maxRecDepth 100000 in
theorem B8:((List.range 3).all λq=>strA 1 (8+q) false)=true:=by kernel_rfl
set_option maxRecDepth 100000 in
theorem Ap:((List.range 3).all λq=>strA 1 (11+q) false)=true:=by kernel_rfl
theorem Dc {a:Nat} (ha:a<14):strA 1 a false=true:=by
 have h0:=B6
 have h4:=B7
 have h8:=B8
 have h11:=Ap
 simp only [List.all_eq_true,List.mem_range] at h0 h4 h8 h11
 by_cases h:a<4
 ·have:=h0 a h
  rwa [Nat.zero_add] at this
 ·by_cases h2:a<8
  ·have:=h4 (a - 4) (by omega)
   rwa [show 4+(a - 4)=a by omega] at this
  ·by_cases h3:a<11
   ·have:=h8 (a - 8) (by omega)
    rwa [show 8+(a - 8)=a by omega] at this
   ·have:=h11 (a - 11) (by omega)
    rwa [show 11+(a - 11)=a by omega] at this
end Go.Proofs.YtegepanmkjemjaaGreat
namespace Go.Proofs.YtegepanmkjemjaaGreat
open Go.Eng C12
set_option maxRecDepth 100000 in
theorem B9:((List.range 4).all λq=>strA 2 (0+q) true)=true:=by kernel_rfl
set_option maxRecDepth 100000 in
theorem Ca:((List.range 4).all λq=>strA 2 (4+q) true)=true:=by kernel_rfl
set_option maxRecDepth 100000 in
theorem Cb:((List.range 3).all λq=>strA 2 (8+q) true)=true:=by kernel_rfl
set_option maxRecDepth 100000 in
theorem Aq:((List.range 3).all λq=>strA 2 (11+q) true)=true:=by kernel_rfl
theorem Dd {a:Nat} (ha:a<14):strA 2 a true=true:=by
 have h0:=B9
 have h4:=Ca
 have h8:=Cb
 have h11:=Aq
 simp only [List.all_eq_true,List.mem_range] at h0 h4 h8 h11
 by_cases h:a<4
 ·have:=h0 a h
  rwa [Nat.zero_add] at this
 ·by_cases h2:a<8
  ·have:=h4 (a - 4) (by omega)
   rwa [show 4+(a - 4)=a by omega] at this
  ·by_cases h3:a<11
   ·have:=h8 (a - 8) (by omega)
    rwa [show 8+(a - 8)=a by omega] at this
   ·have:=h11 (a - 11) (by omega)
    rwa [show 11+(a - 11)=a by omega] at this
set_option maxRecDepth 100000 in
theorem Cc:((List.range 4).all λq=>strA 2 (0+q) false)=true:=by kernel_rfl
set_option maxRecDepth 100000 in
theorem Cd:((List.range 4).all λq=>strA 2 (4+q) false)=true:=by kernel_rfl
set_option maxRecDepth 100000 in
theorem Ce:((List.range 3).all λq=>strA 2 (8+q) false)=true:=by kernel_rfl
set_option maxRecDepth 100000 in
theorem Ar:((List.range 3).all λq=>strA 2 (11+q) false)=true:=by kernel_rfl
theorem De {a:Nat} (ha:a<14):strA 2 a false=true:=by
 have h0:=Cc
 have h4:=Cd
 have h8:=Ce
 have h11:=Ar
 simp only [List.all_eq_true,List.mem_range] at h0 h4 h8 h11
 by_cases h:a<4
 ·have:=h0 a h
  rwa [Nat.zero_add] at this
 ·by_cases h2:a<8
  ·have:=h4 (a - 4) (by omega)
   rwa [show 4+(a - 4)=a by omega] at this
  ·by_cases h3:a<11
   ·have:=h8 (a - 8) (by omega)
    rwa [show 8+(a - 8)=a by omega] at this
   ·have:=h11 (a - 11) (by omega)
    rwa [show 11+(a - 11)=a by omega] at this
end Go.Proofs.YtegepanmkjemjaaGreat
namespace Go.Proofs.YtegepanmkjemjaaGreat
open Go.Eng C12
set_option maxRecDepth 100000 in
theorem Cf:((List.range 4).all λq=>strA 3 (0+q) true)=true:=by kernel_rfl
set_option maxRecDepth 100000 in
theorem Cg:((List.range 4).all λq=>strA 3 (4+q) true)=true:=by kernel_rfl
set_option maxRecDepth 100000 in
theorem Ch:((List.range 3).all λq=>strA 3 (8+q) true)=true:=by kernel_rfl
set_option maxRecDepth 100000 in
theorem As:((List.range 3).all λq=>strA 3 (11+q) true)=true:=by kernel_rfl
theorem Df {a:Nat} (ha:a<14):strA 3 a true=true:=by
 have h0:=Cf
 have h4:=Cg
 have h8:=Ch
 have h11:=As
 simp only [List.all_eq_true,List.mem_range] at h0 h4 h8 h11
 by_cases h:a<4
 ·have:=h0 a h
  rwa [Nat.zero_add] at this
 ·by_cases h2:a<8
  ·have:=h4 (a - 4) (by omega)
   rwa [show 4+(a - 4)=a by omega] at this
  ·by_cases h3:a<11
   ·have:=h8 (a - 8) (by omega)
    rwa [show 8+(a - 8)=a by omega] at this
   ·have:=h11 (a - 11) (by omega)
    rwa [show 11+(a - 11)=a by omega] at this
set_option maxRecDepth 100000 in
theorem Ci:((List.range 4).all λq=>strA 3 (0+q) false)=true:=by kernel_rfl
set_option maxRecDepth 100000 in
theorem Cj:((List.range 4).all λq=>strA 3 (4+q) false)=true:=by kernel_rfl
set_option maxRecDepth 100000 in
theorem Ck:((List.range 3).all λq=>strA 3 (8+q) false)=true:=by kernel_rfl
set_option maxRecDepth 100000 in
theorem Au:((List.range 3).all λq=>strA 3 (11+q) false)=true:=by kernel_rfl
theorem Dg {a:Nat} (ha:a<14):strA 3 a false=true:=by
 have h0:=Ci
 have h4:=Cj
 have h8:=Ck
 have h11:=Au
 simp only [List.all_eq_true,List.mem_range] at h0 h4 h8 h11
 by_cases h:a<4
 ·have:=h0 a h
  rwa [Nat.zero_add] at this
 ·by_cases h2:a<8
  ·have:=h4 (a - 4) (by omega)
   rwa [show 4+(a - 4)=a by omega] at this
  ·by_cases h3:a<11
   ·have:=h8 (a - 8) (by omega)
    rwa [show 8+(a - 8)=a by omega] at this
   ·have:=h11 (a - 11) (by omega)
    rwa [show 11+(a - 11)=a by omega] at this
end Go.Proofs.YtegepanmkjemjaaGreat
namespace Go.Proofs.YtegepanmkjemjaaGreat
open Go.Eng C12
theorem Cl {n a:Nat} (hn:1≤n∧n≤3) (ha:a<14) (c:Bool):strA n a c=true:=by
 obtain rfl | rfl | rfl:n=1∨n=2∨n=3:=by omega
 ·cases c
  ·exact Dc ha
  ·exact Db ha
 ·cases c
  ·exact De ha
  ·exact Dd ha
 ·cases c
  ·exact Dg ha
  ·exact Df ha
theorem Cm:AP:=λn a b hn ha hb c sch=>C9 hn (Cl hn ha c) hb sch
end Go.Proofs.YtegepanmkjemjaaGreat
