/- A part of the proof. -/
import Derived.Test.YtafopfaomkklpaaGreatp16
import Derived.Test.YtafopfaomkklpaaGreatp01
import Derived.Laws.StructEq
set_option linter.unusedVariables false
namespace Go.Proofs.YtafopfaomkklpaaGreat
open Go.Proofs.Tryz
open Go.Eng
theorem F5 (l:List Int) (i:Nat) (x:Int):(us l).set i (.int .u64 x)=us (l.set i x):=by simp [us,List.map_set]
theorem CY {w0:World} {raw:List aY} {ds:List Done} (hd:Ds w0 raw ds) {i:Nat} (hi:i<ds.length):∃ r d,raw[i]?=some r∧ds[i]?=some d∧wP w0 r d∧(ds.map ans1)[i]?=some (ans1 d):=by
 have hrl:=hd.1
 have h1:raw[i]?=some raw[i]:=List.getElem?_eq_getElem (by omega)
 have h2:ds[i]?=some ds[i]:=List.getElem?_eq_getElem hi
 exact ⟨_,_,h1,h2,hd.2 i _ _ h1 h2,by rw [List.getElem?_map,h2];rfl⟩
set_option maxHeartbeats 2000000 in
theorem Hh {w0 w:World} {a:Option Addr} {c:Nat} {raw:List aY} {ds:List Done} (hr:Rd w0 a (gS raw).flatten) (hd:Ds w0 raw ds) (hl:ds.length≤5) (h1:1≤ds.length) (hok:ds.all qO=true) (hcor:(ds.map ans1).any dY=false) {nodes:Int} (hnd:nodes=ds.length)
  {b1 bo bB bK:Nat} (hs:RSt w0 w b1 bo bB bK ds.length (fD (ds.map ans1)) ((ds.map ans1).map gI) ((ds.map ans1).map keyW)) {F:Fnd} (hF:vP nodes (ds.map ans1)=F) (jj:List Value) :
  W prog (sub (aA f16) [1,1,1,1,1,1,1]) (iZ nodes a raw.length c ⟨b1,0,none⟩ ⟨bo,0,none⟩ jj) (retQ prog f16 (qS w0 F)) w:=by
 rw [pN]
 have hrl:=hd.1
 have hctlU:∀ xs,some xs ∈ ds.map ans1→0≤xs.getD 0 0:=by
  intro xs hxs
  obtain ⟨d,hd1,hd2⟩:=List.mem_map.1 hxs
  obtain ⟨i,hi,e⟩:=List.getElem_of_mem hd1
  have hda:=hd.2 i raw[i] d (List.getElem?_eq_getElem (by omega)) (by rw [List.getElem?_eq_getElem hi,e])
  unfold ans1 at hd2
  split at hd2
  ·cases hd2
  ·cases hd2
   rw [List.getD_eq_getElem?_getD]
   cases hg:d.words[0]? with
   |none=>simp
   |some y=>exact (hda.wf y (List.mem_of_getElem? hg)).1
 have hnum:=xJ hcor hctlU
 generalize hN:fD (ds.map ans1)=num at hs hnum
 obtain ⟨o1,o2,o3,o4⟩:=hs.old
 refine aS mix (λm env u=>∃ (i:Nat) (wa:Option Addr) (wc:Nat) (jj:List Value),m=ds.length - i∧i≤ds.length∧env=eJ nodes a raw.length c ⟨b1,0,none⟩ ⟨bo,0,none⟩ wa (dT num ((ds.map ans1).take i)).length wc i jj∧RSt w0 u b1 bo bB bK ds.length num ((ds.map ans1).map gI) ((ds.map ans1).map keyW)∧Owns u 32 1 wa (dT num ((ds.map ans1).take i)).length wc (us (dT num ((ds.map ans1).take i)))∧(∀ k,isB wa k→w0.heap.size≤k∧k≠b1∧k≠bo∧k≠bB∧k≠bK)∧∀ x ∈ dT num ((ds.map ans1).take i),U64 x) ds.length
  ⟨0,none,0,_,by omega,by omega,rfl,hs,Owns.nil _ _ _,(λk hk=>by obtain ⟨o,ho⟩:=hk;cases ho),(by intro x hx;simp [dT] at hx)⟩ ?_
 clear hs
 rintro m env u ⟨i,wa,wc,jj,rfl,hi,rfl,hs,hown,hfr,hwU⟩
 rw [mZ]
 have hnu:=hs.new
 refine aE (λhp=>?_) (λhp=>?_)
 ·have hlt:i<ds.length:=by omega
  obtain ⟨r,d,hgr,hgd,hda,hLi⟩:=CY hd hlt
  have hst:(ds.map ans1).take (i+1)=(ds.map ans1).take i++[ans1 d]:=by rw [List.take_add_one,hLi];rfl
  have hwl1:=qh num ((ds.map ans1).take i)
  rw [List.length_take,List.length_map] at hwl1
  have hcode:=hda.code
  rw [w64 (x:=(i:Int)+1) (by omega) (by omega)]
  refine fY (cells:=aY.cells) aY.len (by omega) (hr.new hnu) hgr rfl rfl λb o _ hc=>⟨_,hc 0 _ rfl,bC (λh0=>?_) (λh0=>?_)⟩
  ·have hcd:d.code=0:=by omega
   have hans:ans1 d=some d.words:=by unfold ans1;rw [if_neg (λe=>e hcd)]
   rw [hans] at hst
   have hw32:d.words.length=32:=by
    have h2:=List.all_eq_true.1 hok _ (List.mem_of_getElem? hgd)
    unfold qO at h2
    rw [hcd] at h2
    simpa using h2
   have hws:=oE num ((ds.map ans1).take i) (some d.words)
   rw [←hst] at hws
   rintro u1 hu1
   have hn1:New u u1:=by rw [hu1];exact aW _
   clear hu1
   have hs1:=hs.next hn1
   have hnu1:=hs1.new
   refine ⟨λy=>New w0 y∧Blk y bo _ TFo,⟨hnu1,hs1.blk⟩,?_⟩
   refine iN (cells:=aY.cells) aY.len (by omega) hr hgr rfl rfl λb' o' hcD=>⟨_,_,_,λy hy=>hcD y hy.1 1 _ rfl,_,λy hy=>hy.2.cell (i:=1) rfl,?_⟩
   refine aG (oT u1 (i:=num) (by omega) (by omega)) ?_
   rintro x u2 ⟨rfl,rfl⟩
   have hwk:d.words[(8+num).toNat]?=some (conW num d.words):=by unfold conW;rw [List.getD_eq_getElem?_getD,List.getElem?_eq_getElem (by omega)];rfl
   have hu:=hda.wf _ (List.mem_of_getElem? hwk)
   refine ⟨_,rfl,⟨hnu1,hs1.blk⟩,rd_w hda.rd hwk (by omega) hda.len λb5 o5 hc5=>⟨_,λy hy=>hc5 y hy.1,?_⟩⟩
   rintro b6 u3 hb6 hu3
   obtain ⟨hz6,hn3⟩:=aR hb6 hu3
   have hz6:Blk u3 b6 [.int .u64 (conW num d.words)] 32:=hz6
   clear hu3
   have hs3:=hs1.next hn3
   refine ⟨⟨hs3.new,hs3.blk⟩,?_⟩
   refine CQ (Owns.new (hn1.new hn3) hown) hz6 (by omega) ?_
   intro ap cap' u4 ho4 hk4 hap
   have hn4:New w0 u4:=hs3.new.trans hk4 λk hlt e=>by have:=(hfr k e).1;omega
   have hb4:∀ {b:Nat} {cs:List Value} {T:TypeId},Blk u3 b cs T→(∀ k,isB wa k→k≠b)→Blk u4 b cs T:=λh hb=>hk4.blk h λe=>hb _ e rfl
   have q1:=hb4 hs3.res λk hk=>(hfr k hk).2.1
   have q2:=hb4 hs3.blk λk hk=>(hfr k hk).2.2.1
   have q3:=hb4 hs3.B λk hk=>(hfr k hk).2.2.2.1
   have q4:=hb4 hs3.K λk hk=>(hfr k hk).2.2.2.2
   have hlen1:(dT num ((ds.map ans1).take i)).length+1=(dT num ((ds.map ans1).take (i+1))).length:=by rw [hws,List.length_append];rfl
   refine ⟨⟨hn4,q2⟩,?_⟩
   rw [hlen1] at ho4 ⊢
   have hsz3:=hs3.new.size
   refine ⟨ds.length - (i+1),by omega,i+1,ap,cap',_,rfl,by omega,rfl,⟨q1,q2,q3,q4,hs3.lB,hs3.lK,hn4,hs3.old,hs3.ne⟩,?_,λk hk=>?_,?_⟩
   ·rw [hws] at ho4 ⊢
    exact ho4
   ·rcases hap k hk with e | e
    ·exact hfr k e
    ·have l1:=hs3.res.lt
     have l2:=hs3.blk.lt
     have l3:=hs3.B.lt
     have l4:=hs3.K.lt
     exact ⟨by omega,by omega,by omega,by omega,by omega⟩
   ·rw [hws]
    intro y hy
    rcases List.mem_append.1 hy with hy | hy
    ·exact hwU y hy
    ·rw [List.mem_singleton.1 hy];exact hu
  ·have hans:ans1 d=none:=by unfold ans1;rw [if_pos (by omega)]
   rw [hans] at hst
   have hws:=oE num ((ds.map ans1).take i) none
   rw [←hst,List.append_nil] at hws
   rw [←hws] at hown hwU ⊢
   exact ⟨ds.length - (i+1),by omega,i+1,wa,wc,_,rfl,by omega,rfl,hs,hown,hfr,hwU⟩
 ·have hin:(ds.map ans1).take i=ds.map ans1:=List.take_of_length_le (by rw [List.length_map];omega)
  rw [hin] at hown hwU ⊢
  rw [←hN] at hs hown hwU ⊢
  exact Ib hr hd hl h1 hok hcor hnd hs rfl hown.rd hwU hF _
set_option maxHeartbeats 2000000 in
theorem Ic {w0 w:World} {a:Option Addr} {c:Nat} {raw:List aY} {ds:List Done} (hr:Rd w0 a (gS raw).flatten) (hd:Ds w0 raw ds) (hl:ds.length≤5) (h1:1≤ds.length) (hok:ds.all qO=true) {nodes:Int} (hnd:nodes=ds.length)
  {b1 bo bB bK:Nat} (hs:RSt w0 w b1 bo bB bK ds.length 0 (List.replicate ds.length 0) (List.replicate ds.length 0)) {F:Fnd} (hF:(if (ds.map ans1).any dY=true then Fnd.err 14 else vP nodes (ds.map ans1))=F) (jj:List Value) :
  bT prog (.loop (sub (aA f16) [1,1,1,1,1,1,0,1,0,0])) (bN nodes a raw.length c ⟨b1,0,none⟩ ⟨bo,0,none⟩ 0 jj) (aI 2 (seqQ (λenv w=>W prog (sub (aA f16) [1,1,1,1,1,1,1]) env (retQ prog f16 (qS w0 F)) w) (retQ prog f16 (qS w0 F)))) w:=by
 have hrl:=hd.1
 obtain ⟨o1,o2,o3,o4⟩:=hs.old
 have hLl:(ds.map ans1).length=ds.length:=by simp
 refine aS mix (λm env u=>∃ (i:Nat) (jj:List Value),m=ds.length - i∧i≤ds.length∧env=bN nodes a raw.length c ⟨b1,0,none⟩ ⟨bo,0,none⟩ i jj∧RSt w0 u b1 bo bB bK ds.length (fD ((ds.map ans1).take i)) (((ds.map ans1).take i).map gI++List.replicate (ds.length - i) 0) (((ds.map ans1).take i).map keyW++List.replicate (ds.length - i) 0)∧((ds.map ans1).take i).any dY=false) ds.length
  ⟨0,_,by omega,by omega,rfl,by rw [List.take_zero,Nat.sub_zero];exact hs,rfl⟩ ?_
 clear hs
 rintro m env u ⟨i,jj,rfl,hi,rfl,hs,hno⟩
 rw [mY]
 have hnu:=hs.new
 refine aE (λhp=>?_) (λhp=>?_)
 ·have hlt:i<ds.length:=by omega
  obtain ⟨r,d,hgr,hgd,hda,hLi⟩:=CY hd hlt
  have hst:(ds.map ans1).take (i+1)=(ds.map ans1).take i++[ans1 d]:=by rw [List.take_add_one,hLi];rfl
  have hcode:=hda.code
  have hm1:ds.length - i=(ds.length - (i+1))+1:=by omega
  have hlm:∀ f:Option (List Int)→Int,(((ds.map ans1).take i).map f).length=i:=by intro f;rw [List.length_map,List.length_take,hLl];omega
  rw [w64 (x:=(i:Int)+1) (by omega) (by omega)]
  have hN:=wS ((ds.map ans1).take i) (ans1 d)
  rw [←hst] at hN
  rw [hm1] at hs
  refine fY (cells:=aY.cells) aY.len (by omega) (hr.new hnu) hgr rfl rfl λb o _ hc=>⟨_,hc 0 _ rfl,bE (λh0=>?_) (λh0=>?_)⟩
  ·have hans:ans1 d=none:=by unfold ans1;rw [if_pos (by omega)]
   rw [hans] at hst hN
   have eN:fD ((ds.map ans1).take (i+1))=fD ((ds.map ans1).take i):=by
    rw [hN]
    have:0≤fD ((ds.map ans1).take i):=by
     have:∀ (L:Ctl) (n:Int),0≤n→0≤L.foldl (λn x=>max n (keyW x / 2)) n:=by
      intro L
      induction L with
      |nil=>intro n h;exact h
      |cons x L ih=>intro n h;exact ih _ (by show 0≤max n (keyW x / 2);omega)
     exact this _ 0 (by omega)
    show max _ (0 / 2)=_
    omega
   have eB:((ds.map ans1).take (i+1)).map gI++List.replicate (ds.length - (i+1)) 0=((ds.map ans1).take i).map gI++List.replicate (ds.length - (i+1)+1) 0:=by
    rw [yE,hst,List.map_append]
    rfl
   have eK:((ds.map ans1).take (i+1)).map keyW++List.replicate (ds.length - (i+1)) 0=((ds.map ans1).take i).map keyW++List.replicate (ds.length - (i+1)+1) 0:=by
    rw [yE,hst,List.map_append]
    rfl
   refine ⟨ds.length - (i+1),by omega,i+1,_,rfl,by omega,rfl,?_,?_⟩
   ·rw [eN,eB,eK]
    exact hs
   ·rw [hst,List.any_append,hno]
    rfl
  have hcd:d.code=0:=by omega
  have hans:ans1 d=some d.words:=by unfold ans1;rw [if_neg (λe=>e hcd)]
  rw [hans] at hst hN hLi
  have hmem:some d.words ∈ ds.map ans1:=List.mem_of_getElem? hLi
  have hw32:d.words.length=32:=by
   have h2:=List.all_eq_true.1 hok _ (List.mem_of_getElem? hgd)
   unfold qO at h2
   rw [hcd] at h2
   simpa using h2
  have hw1:d.words[1]?=some (d.words.getD 1 0):=by rw [List.getD_eq_getElem?_getD,List.getElem?_eq_getElem (by omega)];rfl
  have hw0:d.words[0]?=some (d.words.getD 0 0):=by rw [List.getD_eq_getElem?_getD,List.getElem?_eq_getElem (by omega)];rfl
  have hwl:=hda.len
  have hrd:∀ y,New w0 y→Rd y r.Words (us d.words):=λy hy=>hda.rd.new hy
  have bad:dY (some d.words)=true→F=Fnd.err 14:=λe=>by rw [←hF,if_pos (List.any_eq_true.2 ⟨_,hmem,e⟩)]
  have errR:dY (some d.words)=true→∀ w',Keep (λk=>k=b1) u w'→qS w0 F (aD.val ⟨14,0,⟨0,none,0,0⟩,0,false,0,none,0,0,none,0,0,none,0,0⟩) w':=λe w' hk=>
   ⟨_,rfl,by rw [bad e];exact ⟨zE w' 14,FZ _ 14⟩,hnu.trans hk λk hlt e=>by omega⟩
  refine fY (cells:=aY.cells) aY.len (by omega) (hr.new hnu) hgr rfl rfl λb' o' _ hc'=>⟨_,_,_,hc' 1 _ rfl,?_⟩
  refine rd_w (hrd u hnu) hw1 rfl hwl λb5 o5 hc5=>⟨_,hc5 u (Keep.refl _ _),aE (λhx1=>rG hs.res (errR ((gZ _).2 (.inl hx1)))) (λhx1=>?_)⟩
  refine rd_w (hrd u hnu) hw1 rfl hwl λb5 o5 hc5=>⟨_,hc5 u (Keep.refl _ _),aE (λhx2=>rG hs.res (errR ((gZ _).2 (.inr (.inl hx2))))) (λhx2=>?_)⟩
  refine rd_w (hrd u hnu) hw0 rfl hwl λb5 o5 hc5=>⟨_,hc5 u (Keep.refl _ _),aE (λhx3=>rG hs.res (errR ((gZ _).2 (.inr (.inr hx3))))) (λhx3=>?_)⟩
  clear bad errR
  have hu0:=hda.wf _ (List.mem_of_getElem? hw0)
  have hu00:=hu0.1
  generalize hX:d.words.getD 1 0=x at hx1 hx2 hw1
  generalize hY:d.words.getD 0 0=y0 at hx3 hw0 hu00
  rintro u4 hu4
  have hn4:New u u4:=by rw [hu4];exact aW _
  clear hu4
  have hs4:=hs.next hn4
  have hn04:=hs4.new
  have hBbo:bB≠bo:=hs4.B.ne hs4.blk (by decide)
  have hBb1:bB≠b1:=hs4.B.ne hs4.res (by decide)
  have hBK:bB≠bK:=hs4.B.ne hs4.K (by decide)
  have hKbo:bK≠bo:=hs4.K.ne hs4.blk (by decide)
  have hKb1:bK≠b1:=hs4.K.ne hs4.res (by decide)
  have hne:=hs4.ne
  have hat:0+(i:Int).toNat * 1=i:=by omega
  have hlB:=hs4.lB
  have hlK:=hs4.lK
  refine ⟨λy=>New w0 y∧Blk y bo _ TFo,⟨hn04,hs4.blk⟩,_,_,_,λy hy=>hy.2.cell (i:=7) rfl,_,_,_,λy hy=>hy.2.cell (i:=8) rfl,?_⟩
  refine rd_w hda.rd hw1 rfl hwl λb6 o6 hc6=>⟨_,λy hy=>hc6 y hy.1,rd_w hda.rd hw0 rfl hwl λb7 o7 hc7=>⟨_,λy hy=>hc7 y hy.1,?_⟩⟩
  have hgB:(is (((ds.map ans1).take i).map gI++List.replicate (ds.length - (i+1)+1) 0))[i]?=some (.int .i64 (((((ds.map ans1).take i).map gI++List.replicate (ds.length - (i+1)+1) 0)).getD i 0)):=CM (by rw [hlB];exact hlt)
  refine bG (by omega) (show (i:Int)<(ds.length:Int) by omega) ⟨⟨_,by rw [hat];exact hs4.B.cell hgB⟩,by rw [hat];exact hs4.B.frozen,?_⟩
  rintro u5 hu5
  rw [hat,w64 (x:=x) (by omega) (by omega)] at hu5
  have hk5:Keep (λk=>k=bB) u4 u5:=by rw [hu5];exact aN _ _ _ _
  have hB5:=hs4.B.setCell (i:=i) (.int .i64 x)
  rw [CN,←hu5] at hB5
  clear hu5
  have hn05:New w0 u5:=hn04.trans hk5 λk hlt e=>by omega
  have hbo5:=hk5.blk hs4.blk (λe=>hBbo e.symm)
  have hK5:=hk5.blk hs4.K (λe=>hBK e.symm)
  have hres5:=hk5.blk hs4.res (λe=>hBb1 e.symm)
  refine ⟨⟨hn05,hbo5⟩,?_⟩
  have hgK:∃ v,(us (((ds.map ans1).take i).map keyW++List.replicate (ds.length - (i+1)+1) 0))[i]?=some v:=⟨_,List.getElem?_eq_getElem (by rw [GV,hlK];exact hlt)⟩
  obtain ⟨vK,hgK⟩:=hgK
  refine bG (by omega) (show (i:Int)<(ds.length:Int) by omega) ⟨⟨_,by rw [hat];exact hK5.cell hgK⟩,by rw [hat];exact hK5.frozen,?_⟩
  rintro u6 hu6
  rw [hat] at hu6
  have hk6:Keep (λk=>k=bK) u5 u6:=by rw [hu6];exact aN _ _ _ _
  have hK6:=hK5.setCell (i:=i) (.int .u64 y0)
  rw [F5,←hu6] at hK6
  clear hu6
  have hn06:New w0 u6:=hn05.trans hk6 λk hlt e=>by omega
  have hbo6:=hk6.blk hbo5 (λe=>hKbo e.symm)
  have hB6:=hk6.blk hB5 hBK
  have hres6:=hk6.blk hres5 (λe=>hKb1 e.symm)
  rintro u7 hu7
  have hn7:New u6 u7:=by rw [hu7];exact aW _
  clear hu7
  have hn07:=hn06.new hn7
  have hbo7:=New.blk hn7 hbo6
  refine ⟨λy=>New w0 y∧Blk y bo _ TFo,⟨hn07,hbo7⟩,_,λy hy=>hy.2.cell (i:=1) rfl,rd_w hda.rd hw0 rfl hwl λb8 o8 hc8=>⟨_,λy hy=>hc8 y hy.1,⟨_,hbo7.cell (i:=1) rfl⟩,hbo7.frozen,?_⟩⟩
  rintro u8 hu8
  have hd2:IntKind.i64.wrap (IntKind.u64.wrap (Int.tdiv y0 2))=y0 / 2:=by
   rw [Int.tdiv_eq_ediv_of_nonneg hu00,wu64 (by omega) (by omega),w64 (by omega) (by omega)]
  have hmx:(if fD ((ds.map ans1).take i)<y0 / 2 then y0 / 2 else fD ((ds.map ans1).take i))=fD ((ds.map ans1).take (i+1)):=by
   rw [hN]
   show _=max _ (d.words.getD 0 0 / 2)
   rw [hY]
   split<;>omega
  rw [hd2,hmx] at hu8
  have hk8:Keep (λk=>k=bo) u7 u8:=by rw [hu8];exact aN _ _ _ _
  have hbo8:=hbo7.setCell (i:=1) (.int .i64 (fD ((ds.map ans1).take (i+1))))
  have hu8':u8=u7.setCell ⟨bo,1,none⟩ (.int .i64 (fD ((ds.map ans1).take (i+1)))):=hu8
  rw [←hu8'] at hbo8
  clear hu8 hu8'
  have eB:(((ds.map ans1).take i).map gI++List.replicate (ds.length - (i+1)+1) 0).set i x=((ds.map ans1).take (i+1)).map gI++List.replicate (ds.length - (i+1)) 0:=by
   have h:=AS (((ds.map ans1).take i).map gI) (ds.length - (i+1)) x
   rw [hlm] at h
   rw [h,hst,List.map_append,←hX]
   rfl
  have eK:(((ds.map ans1).take i).map keyW++List.replicate (ds.length - (i+1)+1) 0).set i y0=((ds.map ans1).take (i+1)).map keyW++List.replicate (ds.length - (i+1)) 0:=by
   have h:=AS (((ds.map ans1).take i).map keyW) (ds.length - (i+1)) y0
   rw [hlm] at h
   rw [h,hst,List.map_append,←hY]
   rfl
  rw [eB] at hB6
  rw [eK] at hK6
  refine ⟨ds.length - (i+1),by omega,i+1,_,rfl,by omega,rfl,⟨hk8.blk (New.blk hn7 hres6) hne,hbo8,hk8.blk (New.blk hn7 hB6) hBbo,hk8.blk (New.blk hn7 hK6) hKbo,?_,?_,hn07.trans hk8 λk hlt e=>by omega,hs4.old,hne⟩,?_⟩
  ·rw [←eB,List.length_set];exact hlB
  ·rw [←eK,List.length_set];exact hlK
  ·rw [hst,List.any_append,hno]
   have:dY (some d.words)=false:=by
    cases hcc:dY (some d.words) with
    |false=>rfl
    |true=>rcases (gZ _).1 hcc with e | e | e<;>omega
   simp [this]
 ·have hin:(ds.map ans1).take i=ds.map ans1:=List.take_of_length_le (by rw [List.length_map];omega)
  have h0:ds.length - i=0:=by omega
  rw [hin,h0,List.replicate_zero,List.append_nil,List.append_nil] at hs
  rw [hin] at hno
  rw [if_neg (by rw [hno];simp)] at hF
  exact Hh hr hd hl h1 hok hno hnd hs hF _
theorem F6 (n:Nat):reps n [.int .i64 0]=is (List.replicate n 0):=by simp [reps,is]
theorem zJ (n:Nat):reps n [.int .u64 0]=us (List.replicate n 0):=by simp [reps,us]
theorem uv {w0 u:World} {b1 bo bB bK n:Nat} (hres:Blk u b1 out0 TFo) (ho:Blk u bo out0 TFo) (hB:Blk u bB (is (List.replicate n 0)) TI) (hK:Blk u bK (us (List.replicate n 0)) 32) (hn:New w0 u) (hold:w0.heap.size≤b1∧w0.heap.size≤bo∧w0.heap.size≤bB∧w0.heap.size≤bK) (hne:b1≠bo) {K:World→Prop}
  (hk:∀ w',RSt w0 w' b1 bo bB bK n 0 (List.replicate n 0) (List.replicate n 0)→K w') :
  wrAt u ⟨bo,0,none⟩ 0 [(.int .i64 0),(.int .i64 0),(.int .i64 0),(.slice none 0 0),(.int .i64 0),(.bool false),(.int .u64 0),(.slice (some ⟨bB,0,none⟩) n n),(.slice (some ⟨bK,0,none⟩) n n),(.slice none 0 0)]∧∀ w7,w7=puts u ⟨bo,0,none⟩ 0 [(.int .i64 0),(.int .i64 0),(.int .i64 0),(.slice none 0 0),(.int .i64 0),(.bool false),(.int .u64 0),(.slice (some ⟨bB,0,none⟩) n n),(.slice (some ⟨bK,0,none⟩) n n),(.slice none 0 0)]→K w7:=by
 refine ⟨eZ ho (by simp [aB.cells]) (aD.single ⟨0,0,⟨0,none,0,0⟩,0,false,0,some ⟨bB,0,none⟩,n,n,some ⟨bK,0,none⟩,n,n,none,0,0⟩),?_⟩
 rintro w7 hw7
 have hp:=ho.puts (o:=0) (i:=0) (vs:=aD.cells ⟨0,0,⟨0,none,0,0⟩,0,false,0,some ⟨bB,0,none⟩,n,n,some ⟨bK,0,none⟩,n,n,none,0,0⟩)
 have hk7:Keep (λk=>k=bo) u w7:=by rw [hw7];exact dU _ _ _ _ _
 have hw7':w7=puts u ⟨bo,0,none⟩ 0 (aD.cells ⟨0,0,⟨0,none,0,0⟩,0,false,0,some ⟨bB,0,none⟩,n,n,some ⟨bK,0,none⟩,n,n,none,0,0⟩):=hw7
 rw [←hw7'] at hp
 exact hk w7 ⟨hk7.blk hres hne,hp,hk7.blk hB (hB.ne ho (by decide)),hk7.blk hK (hK.ne ho (by decide)),by simp,by simp,hn.trans hk7 λk hlt e=>by omega,hold,hne⟩
set_option maxHeartbeats 4000000 in
theorem Ek {w:World} {a:Option Addr} {c:Nat} {raw:List aY} {ds:List Done} (hr:Rd w a (gS raw).flatten) (hd:Ds w raw ds) (hl:ds.length≤1000000) (nodes:Int) :
  Does 16 [.int .i64 nodes,.slice a raw.length c] w (qS w (qH nodes ds)):=by
 refine does Tryz.func16 ?_
 rw [sR]
 rintro b1 w1 hb1 hw1
 obtain ⟨hz1,hn1⟩:=aR hb1 hw1
 have hz1:Blk w1 b1 out0 TFo:=hz1
 clear hw1
 have hrl:=hd.1
 generalize hF:qH nodes ds=F
 unfold qH at hF
 have err:∀ (cc:Int) (w':World),F=Fnd.err cc→Keep (λk=>k=b1) w1 w'→qS w F (aD.val ⟨cc,0,⟨0,none,0,0⟩,0,false,0,none,0,0,none,0,0,none,0,0⟩) w':=
  λcc w' e hk=>⟨_,rfl,by rw [e];exact ⟨zE w' cc,FZ _ cc⟩,hn1.trans hk λk hlt e=>by omega⟩
 have no:(nodes<1∨5<nodes∨(ds.length:Int)≠nodes)→F=Fnd.err 6:=λh=>by
  rw [←hF]
  unfold oR
  rw [if_pos h]
 refine aE (λh=>rG (R:=qS w F) hz1 (λw' hk=>err 6 w' (no (.inl h)) hk)) (λg1=>aE (λh=>rG (R:=qS w F) hz1 (λw' hk=>err 6 w' (no (.inr (.inl h))) hk)) (λg2=>bE (λh=>rG (R:=qS w F) hz1 (λw' hk=>err 6 w' (no (.inr (.inr (by omega)))) hk)) (λg3=>?_)))
 have hnd:nodes=ds.length:=by omega
 subst hnd
 have hl5:ds.length≤5:=by omega
 have hl1:1≤ds.length:=by omega
 clear g1 g2 g3 no
 unfold oR at hF
 rw [if_neg (by omega)] at hF
 refine aS mix (λm env u=>∃ (i:Nat) (jj:List Value),m=ds.length - i∧i≤ds.length∧env=cV ds.length a raw.length c ⟨b1,0,none⟩ (ansN (ds.take i)) i jj∧u=w1∧(ds.take i).all qO=true) ds.length
  ⟨0,_,by omega,by omega,rfl,rfl,rfl⟩ ?_
 rintro m env u ⟨i,jj,rfl,hi,rfl,rfl,hall⟩
 rw [mX]
 have hru:=hr.new hn1
 refine aE (λhp=>?_) (λhp=>?_)
 ·have hlt:i<ds.length:=by omega
  obtain ⟨r,d,hgr,hgd,hda,_⟩:=CY hd hlt
  have hcode:=hda.code
  have hwl:=hda.len
  have hns:=yC hgd
  have hnl:=CO (ds.take i)
  have hnl2:(ds.take i).length≤ds.length:=by rw [List.length_take];omega
  have hst:ds.take (i+1)=ds.take i++[d]:=by rw [List.take_add_one,hgd];rfl
  rw [w64 (x:=(i:Int)+1) (by omega) (by omega),w64 (x:=(ansN (ds.take i):Int)+1) (by omega) (by omega)]
  have row:∀ {K:Addr→Prop},(∀ b o,u.cell? ⟨b,o,none⟩=some (.int .i64 r.Code)→u.cell? ⟨b,o+1,none⟩=some (.slice r.Words r.Wl r.Wc)→K ⟨b,o,none⟩)→idxS a raw.length i 2 K:=λh=>
   fY (cells:=aY.cells) aY.len (by omega) hru hgr rfl rfl λb o _ hc=>h b o (hc 0 _ rfl) (hc 1 _ rfl)
  refine row λb o h1 h2=>⟨_,h1,bC (λh0=>row λb o h1 h2=>⟨_,_,_,h2,bE (λhw=>?_) (λhw=>row λb o h1 h2=>⟨_,h1,bC (λ_=>?_) (λe=>absurd h0 e)⟩)⟩) (λh0=>row λb o h1 h2=>⟨_,h1,bC (λe=>absurd e h0) (λ_=>?_)⟩)⟩
  ·have hbad:ds.all qO=false:=by
    rw [List.all_eq_false]
    refine ⟨d,List.mem_of_getElem? hgd,?_⟩
    unfold qO
    rw [show d.code=0 by omega]
    simp
    omega
   rw [if_neg (by rw [hbad];simp)] at hF
   exact rG (R:=qS w F) hz1 (λw' hk=>err 6 w' hF.symm hk)
  ·rw [show (ansN (ds.take i):Int)+1=(ansN (ds.take (i+1)):Nat) by rw [hns,if_pos (by omega)];omega]
   refine ⟨ds.length - (i+1),by omega,i+1,_,rfl,by omega,rfl,rfl,?_⟩
   rw [hst,List.all_append,hall]
   simp [qO]
   right
   omega
  ·rw [show ansN (ds.take i)=ansN (ds.take (i+1)) by rw [hns,if_neg (by omega)];rfl]
   refine ⟨ds.length - (i+1),by omega,i+1,_,rfl,by omega,rfl,rfl,?_⟩
   rw [hst,List.all_append,hall]
   have:d.code≠0:=by omega
   simp [qO,this]
 have hin:ds.take i=ds:=List.take_of_length_le (by omega)
 rw [hin] at hall ⊢
 rw [if_pos hall] at hF
 dsimp only at hF
 rw [pM]
 refine aG (vS u ds.length (by omega)) ?_
 rintro x w2 ⟨rfl,rfl⟩
 refine ⟨_,rfl,aE (λhm=>?_) (λhm=>?_)⟩
 ·rw [if_pos hm] at hF
  exact rG (R:=qS w F) hz1 (λw' hk=>err 9 w' hF.symm hk)
 rw [if_neg hm] at hF
 rintro w3 hw3
 have hn3:New w2 w3:=by rw [hw3];exact aW _
 clear hw3
 have hz3:=New.blk hn3 hz1
 have hn03:=hn1.new hn3
 have hs1:=hn1.size
 have hs03:=hn03.size
 have l1:=hz3.lt
 clear err
 have go:∀ {w':World} {bo bB bK:Nat},RSt w w' b1 bo bB bK ds.length 0 (List.replicate ds.length 0) (List.replicate ds.length 0)→∀ jj,bT prog (.loop (sub (aA f16) [1,1,1,1,1,1,0,1,0,0])) (bN ds.length a raw.length c ⟨b1,0,none⟩ ⟨bo,0,none⟩ 0 jj) (aI 2 (seqQ (λenv w=>W prog (sub (aA f16) [1,1,1,1,1,1,1]) env (retQ prog f16 (qS _ F)) w) (retQ prog f16 (qS _ F)))) w':=λhs jj=>
  Ic hr hd hl5 hl1 hall rfl hs hF jj
 have mk:∀ {u:World} (K:Nat→World→Prop),(∀ b u',b=u.heap.size→Blk u' b (is (List.replicate ds.length 0)) TI→New u u'→K b u')→mk3 ds.length ds.length 8 (.cells (reps (Int.toNat ds.length) [(.int .i64 0)]).toArray TI) u K:=λK h=>by
  refine ⟨by omega,by omega,by omega,by omega,?_⟩
  rintro b u' hb hu'
  obtain ⟨hz,hn⟩:=aR hb hu'
  exact h b u' hb (by rw [←F6];exact hz) hn
 have mkU:∀ {u:World} (K:Nat→World→Prop),(∀ b u',b=u.heap.size→Blk u' b (us (List.replicate ds.length 0)) 32→New u u'→K b u')→mk3 ds.length ds.length 8 (.cells (reps (Int.toNat ds.length) [(.int .u64 0)]).toArray 32) u K:=λK h=>by
  refine ⟨by omega,by omega,by omega,by omega,?_⟩
  rintro b u' hb hu'
  obtain ⟨hz,hn⟩:=aR hb hu'
  exact h b u' hb (by rw [←zJ];exact hz) hn
 have bx:∀ {u:World} {K:Nat→World→Prop},(∀ b u',b=u.heap.size→Blk u' b out0 TFo→New u u'→K b u')→∀ b u',b=u.heap.size→u'=u.alloc (.cells #[(.int .i64 0),(.int .i64 0),(.int .i64 0),(.slice none 0 0),(.int .i64 0),(.bool false),(.int .u64 0),(.slice none 0 0),(.slice none 0 0),(.slice none 0 0)] TFo)→K b u':=λh b u' hb hu'=>by
  obtain ⟨hz,hn⟩:=aR hb hu'
  exact h b u' hb hz hn
 refine ⟨mk _ λbB u4 hbB hB4 hn4=>?_,mkU _ λbK u4 hbK hK4 hn4=>?_,?_⟩
 ·have s4:=hn4.size
  have t4:=hB4.lt
  refine ⟨mkU _ λbK u5 hbK hK5 hn5=>?_,?_⟩
  ·have s5:=hn5.size
   have t5:=hK5.lt
   refine bx λbo u6 hbo ho6 hn6=>?_
   exact uv (New.blk hn6 (New.blk hn5 (New.blk hn4 hz3))) ho6 (New.blk hn6 (New.blk hn5 hB4)) (New.blk hn6 hK5) (((hn03.new hn4).new hn5).new hn6) (by omega) (by omega) λw' h=>go h _
  ·refine bx λbo u5 hbo ho5 hn5=>?_
   have s5:=hn5.size
   have t5:=ho5.lt
   refine mkU _ λbK u6 hbK hK6 hn6=>?_
   exact uv (New.blk hn6 (New.blk hn5 (New.blk hn4 hz3))) (New.blk hn6 ho5) (New.blk hn6 (New.blk hn5 hB4)) hK6 (((hn03.new hn4).new hn5).new hn6) (by omega) (by omega) λw' h=>go h _
 ·have s4:=hn4.size
  have t4:=hK4.lt
  refine ⟨mk _ λbB u5 hbB hB5 hn5=>?_,?_⟩
  ·have s5:=hn5.size
   have t5:=hB5.lt
   refine bx λbo u6 hbo ho6 hn6=>?_
   exact uv (New.blk hn6 (New.blk hn5 (New.blk hn4 hz3))) ho6 (New.blk hn6 hB5) (New.blk hn6 (New.blk hn5 hK4)) (((hn03.new hn4).new hn5).new hn6) (by omega) (by omega) λw' h=>go h _
  ·refine bx λbo u5 hbo ho5 hn5=>?_
   have s5:=hn5.size
   have t5:=ho5.lt
   refine mk _ λbB u6 hbB hB6 hn6=>?_
   exact uv (New.blk hn6 (New.blk hn5 (New.blk hn4 hz3))) (New.blk hn6 ho5) hB6 (New.blk hn6 (New.blk hn5 hK4)) (((hn03.new hn4).new hn5).new hn6) (by omega) (by omega) λw' h=>go h _
 ·refine bx λbo u4 hbo ho4 hn4=>?_
  have s4:=hn4.size
  have t4:=ho4.lt
  refine ⟨mk _ λbB u5 hbB hB5 hn5=>?_,mkU _ λbK u5 hbK hK5 hn5=>?_⟩
  ·have s5:=hn5.size
   have t5:=hB5.lt
   refine mkU _ λbK u6 hbK hK6 hn6=>?_
   exact uv (New.blk hn6 (New.blk hn5 (New.blk hn4 hz3))) (New.blk hn6 (New.blk hn5 ho4)) (New.blk hn6 hB5) hK6 (((hn03.new hn4).new hn5).new hn6) (by omega) (by omega) λw' h=>go h _
  ·have s5:=hn5.size
   have t5:=hK5.lt
   refine mk _ λbB u6 hbB hB6 hn6=>?_
   exact uv (New.blk hn6 (New.blk hn5 (New.blk hn4 hz3))) (New.blk hn6 (New.blk hn5 ho4)) hB6 (New.blk hn6 hK5) (((hn03.new hn4).new hn5).new hn6) (by omega) (by omega) λw' h=>go h _
end Go.Proofs.YtafopfaomkklpaaGreat
namespace Go.Mx
open Go.Eng
def AT (sz:TypeId→Nat) (f:TypeId→Option (List Bool)):List Field→Nat→Option (List Bool)
 | [],off=>some []
 |fd::fs,off=>match f fd.type with
  |some ks=>match fd.name != "_" && (Nat.beq fd.offset off && Nat.beq (sz fd.type) ks.length) with
   |true=>match AT sz f fs (off+ks.length) with
    |some r=>some (ks++r)
    |none=>none
   |false=>none
  |none=>none
def vT (P:Program):Nat→TypeId→Option (List Bool)
 | 0,_=>none
 |d+1,t=>match P.underlying t with
  |some (.int _)=>some [false]
  |some .bool=>some [true]
  |some (.struct fs)=>match P.stoodInHeld t with
   |true=>none
   |false=>AT (zr P) (vT P d) fs.toList 0
  |some (.array len e)=>match vT P d e with
   |some ks=>match Nat.beq (zr P e) ks.length with
    |true=>some (List.replicate len ks).flatten
    |false=>none
   |none=>none
  | _=>none
def cmp1:Bool→Value→Value→Prop
 |false,.int k _,.int j _=>k=j
 |true,.bool _,.bool _=>True
 | _,_,_=>False
def sS:List Bool→List Value→List Value→Prop
 | [],[],[]=>True
 |k::ks,x::xs,y::ys=>cmp1 k x y∧sS ks xs ys
 | _,_,_=>False
def eqv1:Value→Value→Bool
 | .int _ a,.int _ b=>a == b
 | .bool a,.bool b=>a == b
 | _,_=>true
def eqvL:List Value→List Value→Bool
 |x::xs,y::ys=>eqv1 x y && eqvL xs ys
 | _,_=>true
theorem sS.len:∀ {ks:List Bool} {xs ys:List Value},sS ks xs ys→xs.length=ks.length∧ys.length=ks.length
 | [],[],[],_=>⟨rfl,rfl⟩
 | _::_,_::_,_::_,⟨_,h⟩=>by simp [sS.len h]
theorem sS.split:∀ {ks ls:List Bool} {xs ys:List Value},sS (ks++ls) xs ys→sS ks (xs.take ks.length) (ys.take ks.length)∧sS ls (xs.drop ks.length) (ys.drop ks.length)∧
  eqvL xs ys=(eqvL (xs.take ks.length) (ys.take ks.length) && eqvL (xs.drop ks.length) (ys.drop ks.length))
 | [],ls,xs,ys,h=>⟨trivial,h,rfl⟩
 |k::ks,ls,x::xs,y::ys,⟨a,h⟩=>by
  obtain ⟨h1,h2,h3⟩:=sS.split h
  refine ⟨⟨a,h1⟩,h2,?_⟩
  show (eqv1 x y && eqvL xs ys)=((eqv1 x y && eqvL (xs.take ks.length) (ys.take ks.length)) && eqvL (xs.drop ks.length) (ys.drop ks.length))
  rw [h3,Bool.and_assoc]
theorem CZ {k:Bool}:∀ {xs ys:List Value},sS [k] xs ys→∃ x y,xs=[x]∧ys=[y]∧cmp1 k x y
 | [],[],h=>h.elim
 | [],_::_,h=>h.elim
 | _::_,[],h=>h.elim
 | [x],[y],h=>⟨x,y,rfl,rfl,h.1⟩
 | _::_::_,[_],h=>h.2.elim
 | [_],_::_::_,h=>h.2.elim
 | _::_::_,_::_::_,h=>h.2.elim
section
variable {P:Program}
def vU (P:Program) (t:TypeId) (xs:List Value):Value:=if isAgg? P t=true then .agg xs.toArray else xs.headD undef
theorem AU {t:TypeId} {i:TypeInfo} {dsc:TypeDesc} (hi:P.info? t=some i) (hd:P.underlying t=some dsc) {cs:List Value} {off n:Nat} (hn:i.size=n) (hl:off+n≤cs.length) (h1:isAgg? P t=false→n=1) (w:World) :
  (part t cs.toArray off).run P w=.ok (vU P t ((cs.drop off).take n)) w:=by
 unfold part vU
 rw [Sem.run_bind,iy hd]
 simp only [Result.andThen_ok]
 split
 ·simp only [Sem.run_bind,Eng.run_sizeOf hi,Result.andThen_ok,Sem.run_pure,hn]
  congr 2
  apply Array.ext'
  simp [List.extract]
 ·rename_i ha
  have hn1:=h1 (by simpa using ha)
  subst hn1
  have hlt:off<cs.length:=by omega
  have hx:(cs.drop off).take 1=[cs[off]]:=by
   rw [List.drop_eq_getElem_cons hlt]
   rfl
  have hg:cs.toArray[off]?=some cs[off]:=by simp [hlt]
  rw [hx]
  simp only [hg]
  rfl
theorem yF {d:Nat} {t:TypeId} {n:List Bool} (h:vT P d t=some n):∃ i dsc,P.info? t=some i∧P.underlying t=some dsc:=by
 cases d with
 |zero=>cases h
 |succ d=>
  unfold vT at h
  cases hu:P.underlying t with
  |none=>rw [hu] at h;cases h
  |some dsc=>
   cases hi:P.info? t with
   |some i=>exact ⟨i,dsc,rfl,rfl⟩
   |none=>simp [Program.underlying,hi] at hu
theorem vV {d:Nat} {t:TypeId} {n:List Bool} (h:vT P d t=some n) (ha:isAgg? P t=false):n.length=1:=by
 cases d with
 |zero=>cases h
 |succ d=>
  unfold vT at h
  unfold isAgg? at ha
  split at h
  ·cases h;rfl
  ·cases h;rfl
  ·rename_i hu;rw [hu] at ha;cases ha
  ·rename_i hu;rw [hu] at ha;cases ha
  ·cases h
def EqOk (P:Program) (D:Nat) (t:TypeId) (ks:List Bool):Prop:=∀ xs ys:List Value,sS ks xs ys→∀ w,(Op.equalIn D t (vU P t xs) (vU P t ys)).run P w=.ok (eqvL xs ys) w
theorem C0 {t:TypeId} {ks:List Bool} {D off:Nat} {xs ys:List Value} (hE:EqOk P D t ks) {i:TypeInfo} {dsc:TypeDesc} (hi:P.info? t=some i) (hd:P.underlying t=some dsc) (hn:i.size=ks.length) (h1:isAgg? P t=false→ks.length=1)
  (hc:sS ks ((xs.drop off).take ks.length) ((ys.drop off).take ks.length)) (w:World) {α:Type} (K:Bool→Sem α) :
  ((do K (← Op.equalIn D t (← part t xs.toArray off) (← part t ys.toArray off))):Sem α).run P w=(K (eqvL ((xs.drop off).take ks.length) ((ys.drop off).take ks.length))).run P w:=by
 obtain ⟨l1,l2⟩:=hc.len
 rw [List.length_take,List.length_drop] at l1 l2
 cases hk:ks.length with
 |zero=>
  have:i.size=0:=by omega
  cases ha:isAgg? P t with
  |false=>have:=h1 ha;omega
  |true=>
   have run0:∀ cs:List Value,(part t cs.toArray off).run P w=.ok (vU P t []) w:=by
    intro cs
    unfold part vU
    rw [Sem.run_bind,iy hd,ha]
    simp only [Result.andThen_ok,if_true,Sem.run_bind,Eng.run_sizeOf hi,Sem.run_pure,this]
    congr 2
    apply Array.ext'
    simp [List.extract]
   rw [hk] at hc
   simp only [Sem.run_bind,run0,Result.andThen_ok]
   rw [hE [] [] hc]
   rfl
 |succ n=>
  rw [←hk]
  simp only [Sem.run_bind,AU (cs:=xs) (off:=off) hi hd hn (by omega) h1 w,AU (cs:=ys) (off:=off) hi hd hn (by omega) h1 w,Result.andThen_ok]
  rw [hE _ _ hc]
  rfl
theorem yG {d D:Nat} (hE:∀ t ks,vT P d t=some ks→EqOk P D t ks) {xs ys:List Value}:∀ (fs:List Field) (off:Nat) (ks:List Bool),AT (zr P) (vT P d) fs off=some ks→sS ks (xs.drop off) (ys.drop off)→
  ∀ w,(Op.eqFields D xs.toArray ys.toArray fs).run P w=.ok (eqvL (xs.drop off) (ys.drop off)) w
 | [],off,ks,h,hc=>by
  cases h
  intro w
  have h0:=hc.len
  rw [List.eq_nil_of_length_eq_zero h0.1]
  simp [Op.eqFields,eqvL]
 |fd::fs,off,ks,h,hc=>by
  unfold AT at h
  split at h
  rotate_left
  ·cases h
  rename_i ks1 hm
  split at h
  rotate_left
  ·cases h
  rename_i hb
  split at h
  rotate_left
  ·cases h
  rename_i ks2 hr
  cases h
  simp only [Bool.and_eq_true,bne_iff_ne,ne_eq] at hb
  obtain ⟨hnm,ho,hs⟩:=hb
  have ho:fd.offset=off:=Nat.eq_of_beq_eq_true ho
  have hs:zr P fd.type=ks1.length:=Nat.eq_of_beq_eq_true hs
  obtain ⟨c1,c2,c3⟩:=hc.split
  rw [List.drop_drop,List.drop_drop] at c2 c3
  have ih:=yG hE fs (off+ks1.length) ks2 hr c2
  intro w
  obtain ⟨i,dsc,hi,hd⟩:=yF hm
  have hsz:i.size=ks1.length:=by unfold zr at hs;rw [hi] at hs;exact hs
  unfold Op.eqFields
  rw [if_pos (by simpa using hnm),ho]
  have:=C0 (K:=λr=>if (!r)=true then pure false else Op.eqFields D xs.toArray ys.toArray fs) (hE _ _ hm) hi hd hsz (vV hm) c1 w
  refine Eq.trans this ?_
  rw [c3]
  cases hq:eqvL ((xs.drop off).take ks1.length) ((ys.drop off).take ks1.length) with
  |false=>rfl
  |true=>
   simp only [Bool.not_true,Bool.false_eq_true,if_false,Bool.true_and]
   exact ih w
theorem AV {D:Nat} {e:TypeId} {ks:List Bool} (hE:EqOk P D e ks) {i:TypeInfo} {dsc:TypeDesc} (hi:P.info? e=some i) (hd:P.underlying e=some dsc) (hn:i.size=ks.length) (h1:isAgg? P e=false→ks.length=1) {xs ys:List Value} (w:World) :
  ∀ (l:List Nat) (a:Nat),l=List.range' a l.length→sS (List.replicate l.length ks).flatten (xs.drop (a * ks.length)) (ys.drop (a * ks.length))→
   (forIn l ((none,()):Option Bool×Unit) (λi _=>do
    let r ← Op.equalIn D e (← part e xs.toArray (i * ks.length)) (← part e ys.toArray (i * ks.length))
    if (!r)=true then pure (ForInStep.done (some false,())) else pure (ForInStep.yield (none,()))):Sem (Option Bool×Unit)).run P w=.ok ((if eqvL (xs.drop (a * ks.length)) (ys.drop (a * ks.length))=true then none else some false),()) w
 | [],a,_,hc=>by
  have h0:=hc.len
  rw [List.eq_nil_of_length_eq_zero h0.1]
  simp [eqvL]
 |j::l,a,hr,hc=>by
  rw [List.length_cons,List.range'_succ] at hr
  simp only [List.cons.injEq] at hr
  obtain ⟨rfl,hr⟩:=hr
  rw [List.length_cons,List.replicate_succ,List.flatten_cons] at hc
  obtain ⟨c1,c2,c3⟩:=hc.split
  rw [List.drop_drop,List.drop_drop,←Nat.succ_mul] at c2 c3
  rw [List.forIn_cons,Sem.run_bind]
  have:=C0 (K:=λr=>if (!r)=true then (pure (ForInStep.done (some false,())):Sem (ForInStep (Option Bool×Unit))) else pure (ForInStep.yield (none,()))) hE hi hd hn h1 c1 w
  rw [this,c3]
  have ih:=AV hE hi hd hn h1 w l (j+1) hr c2
  cases hq:eqvL ((xs.drop (j * ks.length)).take ks.length) ((ys.drop (j * ks.length)).take ks.length) with
  |false=>rfl
  |true=>
   simp only [Bool.not_true,Bool.false_eq_true,if_false,Bool.true_and]
   exact ih
theorem zK:∀ (d:Nat) (t:TypeId) (ks:List Bool),vT P d t=some ks→∀ D,d≤D→EqOk P D t ks
 | 0,_,_,h=>by cases h
 |d+1,t,ks,h=>by
  intro D hD xs ys hc w
  obtain ⟨D,rfl⟩:∃ D',D=D'+1:=⟨D - 1,by omega⟩
  have hD':d≤D:=by omega
  unfold vT at h
  split at h
  ·rename_i k hu
   cases h
   have ha:isAgg? P t=false:=by unfold isAgg?;rw [hu]
   obtain ⟨x,y,rfl,rfl,hxy⟩:=CZ hc
   unfold vU
   rw [ha]
   cases x<;>cases y<;>first | exact hxy.elim | skip
   have hk:_=_:=hxy
   subst hk
   refine (run_equalIn_int w D t _ k _ _ hu).trans ?_
   simp [eqvL,eqv1]
  ·rename_i hu
   cases h
   have ha:isAgg? P t=false:=by unfold isAgg?;rw [hu]
   obtain ⟨x,y,rfl,rfl,hxy⟩:=CZ hc
   unfold vU
   rw [ha]
   cases x<;>cases y<;>first | exact hxy.elim | skip
   refine (run_equalIn_bool' w D t _ _ hu).trans ?_
   simp [eqvL,eqv1]
  ·rename_i fs hu
   split at h
   ·cases h
   rename_i hst
   have ha:isAgg? P t=true:=by unfold isAgg?;rw [hu]
   have hf:P.fieldsOf t=fs:=by unfold Program.fieldsOf;rw [hu]
   have:=yG (λt ks h=>zK d t ks h D hD') fs.toList 0 ks h hc w
   unfold vU
   rw [if_pos ha,if_pos ha,run_equalIn_struct w D t _ _ (by rw [hf];exact hu) hst,hf]
   exact this
  ·rename_i len e hu
   split at h
   rotate_left
   ·cases h
   rename_i ks1 hm
   split at h
   rotate_left
   ·cases h
   rename_i hs
   cases h
   have hs:zr P e=ks1.length:=Nat.eq_of_beq_eq_true hs
   obtain ⟨i,dsc,hi,hd⟩:=yF hm
   have hsz:i.size=ks1.length:=by unfold zr at hs;rw [hi] at hs;exact hs
   have ha:isAgg? P t=true:=by unfold isAgg?;rw [hu]
   have:=AV (zK d e ks1 hm D hD') hi hd hsz (vV hm) (xs:=xs) (ys:=ys) w (List.range' 0 len) 0 (by simp) (by simpa using hc)
   unfold vU
   rw [if_pos ha,if_pos ha]
   simp only [Op.equalIn,Sem.run_bind,run_underlying hu,Result.andThen_ok,Eng.run_sizeOf hi,hsz]
   simp only [Nat.zero_mul,List.drop_zero] at this
   rw [Std.Legacy.Range.forIn_eq_forIn_range']
   simp only [Std.Legacy.Range.size,Nat.sub_zero,Nat.add_one_sub_one,Nat.div_one]
   rw [this]
   cases eqvL xs ys<;>rfl
  ·cases h
end
end Go.Mx
