import Derived.Test.YtegepanmkjemjaaGreatw40
import Derived.Test.YtegepanmkjemjaaGreatw41
import Derived.Test.YtegepanmkjemjaaGreatw02
import Derived.Test.YtegepanmkjemjaaGreatRows
import Derived.WalkKit
import Derived.ProofKit
import Derived.OpenShut
import Derived.Deep.Slices
set_option linter.unusedVariables false
namespace Go.Proofs.YtegepanmkjemjaaGreat.Pg
open Go.Proofs.Tryz
open Go.Eng C12
attribute [local irreducible] drive alone
noncomputable abbrev fAL:Func:=f3
def RA (w:World) (v:Value) (u:World):Prop:=v=.bool true∧New w u
structure AlAt (w u:World) (n i fb p:Nat) (rv:aM) (sq:Int) (P Y:List aB) (b1 b2:Nat) (q:aH) (r:TR):Prop where
 law:∃ A χ X t,Law w u n 104 fb p A χ X rv∧AlR n i sq P Y (X.pure,[t])∧r.Over=t.over∧r.Bad=t.bad∧r.Code=t.out.1∧r.Fate=t.out.2
 job:Blk u b1 q.cells TCJ
 talk:Blk u b2 r.cells TTa
 seq:q.Seq=sq
 wl:q.Writes_l=Y.length
 rl:q.Reads_l=(kp P Y).length
 wr:Rd u q.Writes (eI (Y.map setH)).flatten
 nn:1≤n∧n≤5
 i6:i<6
 s1:1≤sq∧sq<1073741824
 yy:ss 104 Y
theorem AlAt.noop {w u u':World} {n i fb p:Nat} {rv:aM} {sq:Int} {P Y:List aB} {b1 b2:Nat} {q:aH} {r:TR} (h:AlAt w u n i fb p rv sq P Y b1 b2 q r) (hn:New u u'):AlAt w u' n i fb p rv sq P Y b1 b2 q r:=by
 obtain ⟨⟨A,χ,X,t,h1,h2⟩,h3,h4,h5,h6,h7,h8,h9,h10,h11,h12⟩:=h
 exact ⟨⟨A,χ,X,t,h1.noop hn,h2⟩,New.blk hn h3,New.blk hn h4,h5,h6,h7,h8.new hn,h9,h10,h11,h12⟩
set_option maxHeartbeats 2000000 in
theorem Fy {w u:World} {n i fb p:Nat} {rv:aM} {sq:Int} {P Y:List aB} {b1 b2:Nat} {q:aH} {r:TR} (h:AlAt w u n i fb p rv sq P Y b1 b2 q r) (jj:List Value) {QX:Exit→List Value→World→Prop} :
  W prog (sub (aD fAL) [1,1,1,1,1,1,1,1,1,1,1,1,1]) (dS i (some ⟨p,0,none⟩) ⟨b1,0,none⟩ jj) (Qr prog fAL (RA w) QX) u:=by
 rw [iY]
 rintro u1 hu1
 have hn1:New u u1:=by rw [hu1];exact aV _
 clear hu1
 have h1:=h.noop hn1
 obtain ⟨⟨A,χ,X,t,hL,hA,_⟩,hj,_,hsq,hwl,_,_,hnn,hi6,hs1,_⟩:=h1
 obtain ⟨base,bc,hst,hpg,hbc⟩:=hA.still
 refine ⟨λy=>New u1 y,Keep.refl _ _,some ⟨fb,0,none⟩,λy hy=>(New.blk hy hL.box).cell (i:=0) rfl,?_⟩
 refine aE (x7 _ hi6) ?_
 rintro v u2 ⟨rfl,hu2⟩
 obtain rfl:u1=u2:=hu2.symm
 refine ⟨_,rfl,Keep.refl _ _,?_⟩
 obtain ⟨x,hx,hxm⟩:=Fg (X:=X) rfl (i:=0) (by have:X.pure.nodes.length=n:=hst.len;omega)
 have hxp:X.pure.nodes[0]?=some x.n:=by simp [FabX.pure,hx]
 have hfx:NFix 104 x.n:=hst.fix 0 _ hxp
 refine aE (wH hL.fab hx (at_:=32+i) (by rw [hfx.len];omega) hfx.up) ?_
 rintro v u3 ⟨rfl,hn3⟩
 have hck:x.n.get (32+i)=if Y=[] then 0 else sq:=(hst.clock i hi6 0 _ hxp).trans hbc
 have hj3:=New.blk hn3 hj
 have hfin:New w u3:=hL.new.new hn3
 refine ⟨_,_,rfl,jt rfl ⟨q.Writes,q.Writes_l,q.Writes_c,hj3.cell (i:=6) rfl,?_⟩⟩
 rw [hck,hwl]
 by_cases hY:Y=[]
 ·subst hY
  rw [if_pos rfl]
  refine jt rfl (jt rfl ?_)
  rw [eP]
  exact ⟨rfl,hfin⟩
 ·have hpos:0<Y.length:=List.length_pos_iff.2 hY
  rw [if_neg hY]
  refine cU (by simp;omega) ⟨q.Writes,q.Writes_l,q.Writes_c,hj3.cell (i:=6) rfl,?_⟩
  rw [hwl]
  refine jt (by simp;omega) ⟨q.Seq,hj3.cell (i:=1) rfl,?_⟩
  rw [eP,hsq,sO (x:=sq) (by omega) (by omega)]
  exact ⟨by simp,hfin⟩
def curP (Y:List aB) (l k:Nat):aB:=su (Y.take k) l
theorem B9 {Y:List aB} (hY:ss 104 Y) {l k:Nat} {y:aB} (h:Y[k]?=some y):curP Y l (k+1)=if y.Line=(l:Int) then { y with Head:=512 } else curP Y l k:=by
 have hy:=(hY.ok y (List.mem_of_getElem? h)).2.1
 unfold curP su
 rw [List.take_add_one,h,List.find?_append]
 by_cases e:y.Line=(l:Int)
 ·rw [if_pos e]
  have hno:(Y.take k).find? (λy=>y.Line.toNat == l)=none:=by
   rw [List.find?_eq_none]
   intro z hz hzl
   have hzl:z.Line.toNat=l:=by simpa using hzl
   obtain ⟨m,hm,rfl⟩:=List.getElem_of_mem hz
   rw [List.length_take] at hm
   rw [List.getElem_take] at hzl
   have hk:=aO h
   have hlt:=List.pairwise_iff_getElem.1 hY.asc m k (by omega) hk (by omega)
   have hyk:Y[k]=y:=by rw [List.getElem?_eq_getElem hk] at h;exact Option.some.inj h
   rw [hyk] at hlt
   have:=(hY.ok Y[m] (List.getElem_mem _)).2.1
   omega
  rw [hno]
  have hb:(y.Line.toNat == l)=true:=by rw [e];simp
  simp [hb]
 ·rw [if_neg e]
  have hb:(y.Line.toNat == l)=false:=by
   rw [beq_eq_false_iff_ne]
   omega
  simp [hb]
set_option maxHeartbeats 4000000 in
theorem Fz {w u:World} {n i fb p:Nat} {rv:aM} {sq:Int} {P Y:List aB} {b1 b2:Nat} {q:aH} {r:TR} (h:AlAt w u n i fb p rv sq P Y b1 b2 q r) (jj:List Value) {QX:Exit→List Value→World→Prop} :
  W prog (sub (aD fAL) [1,1,1,1,1,1,1,1,1,1,1,1]) (dR n i (some ⟨p,0,none⟩) ⟨b1,0,none⟩ jj) (Qr prog fAL (RA w) QX) u:=by
 rw [iX]
 refine aQ mix (λm env z=>∃ (l:Nat) (jj:List Value),m=104 - l∧96≤l∧l≤104∧env=cQ n i (some ⟨p,0,none⟩) ⟨b1,0,none⟩ l jj∧New u z) 8 ⟨96,_,rfl,by omega,by omega,rfl,Keep.refl _ _⟩ ?_
 rintro m env z ⟨l,jj2,rfl,hl96,hl104,rfl,hz⟩
 refine lu (P:=prog) (fn:=fAL) (R:=RA w) (λ_ _=>rfl) ?_
 rw [ix]
 have hzz:=h.noop hz
 obtain ⟨⟨A,χ,X,t,hL,hA,_⟩,hj,_,hsq,hwl,_,hwr,hnn,hi6,hs1,hyy⟩:=hzz
 obtain ⟨base,bc,hst,hpg,hbc⟩:=hA.still
 refine ⟨104,hL.box.cell (i:=1) rfl,aJ (λhlt=>?_) (λhge=>?_)⟩
 rotate_left
 ·exact uo (p6 (fQ (Fy (h.noop hz) _)))
 have hlt:l<104:=by omega
 have hYl:=hyy.few
 refine gX (vs:=(curP Y l 0).cells) rfl (aB.single _) λb3 z1 hb3 hbz hz1=>?_
 have hnz:=hz.new hz1
 have hb3w:z.heap.size≤b3:=by omega
 refine aQ mix (λm env y=>∃ (k:Nat) (jj:List Value),m=Y.length - k∧k≤Y.length∧env=bW n i (some ⟨p,0,none⟩) ⟨b1,0,none⟩ l ⟨b3,0,none⟩ k jj∧New z y∧Blk y b3 (curP Y l k).cells TPg) Y.length
  ⟨0,_,by omega,by omega,rfl,hz1,hbz⟩ ?_
 rintro m env y ⟨k,jj3,rfl,hk,rfl,hy,hby⟩
 refine lu (P:=prog) (fn:=fAL) (R:=RA w) (λ_ _=>rfl) ?_
 rw [iy]
 have hjy:=New.blk hy hj
 have hwy:=hwr.new hy
 refine ⟨q.Writes,q.Writes_l,q.Writes_c,hjy.cell (i:=6) rfl,?_⟩
 rw [hwl]
 refine aJ (λhkl=>⟨q.Writes,q.Writes_l,q.Writes_c,hjy.cell (i:=6) rfl,?_⟩) (λhkl=>?_)
 ·have hkl:k<Y.length:=by omega
  have hgk:Y[k]?=some Y[k]:=List.getElem?_eq_getElem hkl
  have hgs:(Y.map setH)[k]?=some (setH Y[k]):=by simp [hkl]
  have hcs:=B9 hyy (l:=l) hgk
  have hml:q.Writes_l=(Y.map setH).length:=by rw [hwl,List.length_map]
  refine fR (cells:=aB.cells) aB.len (by omega) hwy hgs rfl hml λb o _ hc=>⟨Y[k].Line,hc 0 _ rfl,?_⟩
  refine bH (λhe=>?_) (λhe=>?_)
  ·refine ⟨q.Writes,q.Writes_l,q.Writes_c,hjy.cell (i:=6) rfl,?_⟩
   refine fR (cells:=aB.cells) aB.len (by omega) hwy hgs rfl hml λb' o' hc' _=>aB.mk_ex (setH Y[k]) ⟨hc',?_⟩
   refine gJ (vs:=(setH Y[k]).cells) hby rfl (aB.single _) λy1 hby1 hk1=>?_
   refine rN hby1 (o:=1) (by simp [aB.cells]) λy2 hby2 hk2=>?_
   rw [w64 (x:=(k:Int)+1) (by omega) (by omega)]
   refine ⟨Y.length - (k+1),by omega,k+1,_,rfl,by omega,rfl,(hy.trans hk1 λk' hlt' e=>by have e:k'=b3:=e;omega).trans hk2 λk' hlt' e=>by have e:k'=b3:=e;omega,?_⟩
   rw [hcs,if_pos he]
   exact hby2
  ·rw [w64 (x:=(k:Int)+1) (by omega) (by omega)]
   refine ⟨Y.length - (k+1),by omega,k+1,_,rfl,by omega,rfl,hy,?_⟩
   rw [hcs,if_neg he]
   exact hby
 ·have hke:k=Y.length:=by omega
  subst hke
  have hby:Blk y b3 (su Y l).cells TPg:=by
   have e:curP Y l Y.length=su Y l:=by unfold curP;rw [List.take_length]
   rw [e] at hby
   exact hby
  refine uo (p6 (fQ ?_))
  refine lu (P:=prog) (fn:=fAL) (R:=RA w) (λ_ _=>rfl) ?_
  rw [iZ]
  have hLy:=hL.noop hy
  obtain ⟨x,hx,hxm⟩:=Fg (X:=X) rfl (i:=n - 1) (by have:X.pure.nodes.length=n:=hst.len;omega)
  have hxp:X.pure.nodes[n - 1]?=some x.n:=by simp [FabX.pure,hx]
  have hfx:NFix 104 x.n:=hst.fix (n - 1) _ hxp
  refine ⟨some ⟨fb,0,none⟩,hLy.box.cell (i:=0) rfl,?_⟩
  rw [w64 (x:=(n:Int) - 1) (by omega) (by omega),show ((n:Int) - 1)=((n - 1:Nat):Int) by omega]
  refine aE (yF hLy.fab hx (l:=l) (by omega) (by rw [hfx.len];omega) hfx.up) ?_
  rintro v y1 ⟨rfl,hy1⟩
  have hpage:x.n.page l=su Y l:=(hst.page hxp hl96 (by show l<104;omega)).trans (hpg l hl96 hlt).1
  rw [hpage]
  refine aB.mk_ex (su Y l) ⟨true,rfl,?_⟩
  refine gX (vs:=(su Y l).cells) rfl (aB.single _) λb4 y2 hb4 hby4 hy2=>?_
  rw [ik]
  refine lu (P:=prog) (fn:=fAL) (R:=RA w) (λ_ _=>rfl) ?_
  rw [i0]
  refine cU rfl (aB.mk_ex (su Y l) ⟨aK hby4 rfl,aB.mk_ex (su Y l) ⟨aK (New.blk (hy1.new hy2) hby) rfl,?_⟩⟩)
  refine uM _ (fQ ?_)
  refine lu (P:=prog) (fn:=fAL) (R:=RA w) (λ_ _=>rfl) ?_
  rw [ja]
  refine cU rfl (Qr_n (uT (fQ ?_)))
  refine lu (P:=prog) (fn:=fAL) (R:=RA w) (λ_ _=>rfl) ?_
  rw [jc]
  rw [w64 (x:=(l:Int)+1) (by omega) (by omega)]
  exact ⟨104 - (l+1),by omega,l+1,_,rfl,by omega,by omega,rfl,((hz.new hy).new hy1).new hy2⟩
end Go.Proofs.YtegepanmkjemjaaGreat.Pg
namespace Go.Proofs.YtegepanmkjemjaaGreat.Pg
open Go.Proofs.Tryz
open Go.Eng C12
attribute [local irreducible] drive alone
def DL (n:Nat) (P Y:List aB):Int:=if Y=[] then (if kp P Y=[] then 0 else 1) else if n=1 then 4 else 5
set_option maxHeartbeats 4000000 in
theorem y6 {w u:World} {n i fb p:Nat} {rv:aM} {sq:Int} {P Y:List aB} {b1 b2:Nat} {q:aH} {r:TR} (h:AlAt w u n i fb p rv sq P Y b1 b2 q r) (jj:List Value) {want:Int} (hw:want=DL n P Y) {QX:Exit→List Value→World→Prop} :
  W prog (sub (aD fAL) [1,1,1,1,1,1,1,1,1,1,1]) (cP n i (some ⟨p,0,none⟩) ⟨b1,0,none⟩ ⟨b2,0,none⟩ want jj) (Qr prog fAL (RA w) QX) u:=by
 subst hw
 rw [iw,ij]
 refine lu (P:=prog) (fn:=fAL) (R:=RA w) (λ_ _=>rfl) ?_
 rw [jL]
 rintro u1 hu1
 have hn1:New u u1:=by rw [hu1];exact aV _
 clear hu1
 have h1:=h.noop hn1
 have h1':=h1
 obtain ⟨⟨A,χ,X,t,hL,hA,ho,hb,hc,hf⟩,hj,ht,hsq,hwl,hrl,hwr,hnn,hi6,hs1,hyy⟩:=h1
 obtain ⟨t',ht',tb,to,tout⟩:=hA.talk
 obtain rfl:t=t':=by cases ht';rfl
 obtain ⟨C,hC,htr⟩:=hA.trips
 obtain ⟨base,bc,hst,hpg,hbc⟩:=hA.still
 have htc:∀ y,New u1 y→Blk y b2 r.cells TTa:=λy hy=>New.blk hy ht
 have hbx:∀ y,New u1 y→Blk y p (fofC fb 104 rv) TFo:=λy hy=>New.blk hy hL.box
 refine ⟨λy=>New u1 y,Keep.refl _ _,r.Over,λy hy=>(htc y hy).cell (i:=16) rfl,?_⟩
 rw [ho,to]
 refine cU rfl ⟨r.Bad,λy hy=>(htc y hy).cell (i:=17) rfl,?_⟩
 rw [hb,tb]
 refine cU rfl ⟨r.Code,λy hy=>(htc y hy).cell (i:=18) rfl,?_⟩
 rw [hc,tout]
 refine cU rfl ⟨r.Fate,λy hy=>(htc y hy).cell (i:=24) rfl,?_⟩
 rw [hf,tout]
 refine cU rfl ⟨some ⟨fb,0,none⟩,λy hy=>(hbx y hy).cell (i:=0) rfl,?_⟩
 refine aE (AO hL.fab _) ?_
 rintro v u2 ⟨rfl,hu2⟩
 obtain rfl:u1=u2:=hu2.symm
 have htrips:X.pure.trips (i:Int)=DL n P Y:=by
  unfold Fab.trips
  have hC':X.pure.clients[i]?=some C:=hC
  rw [nf,hC']
  exact htr
 refine ⟨_,rfl,Keep.refl _ _,cR (λhh=>absurd htrips hh) λ_=>?_⟩
 have hv:=hL.view
 have heq:EqX X n 104:=nA.eqX hst (by omega) λl l1 l2=>(hpg l l1 l2).2
 refine ⟨some ⟨fb,0,none⟩,λy hy=>(hbx y hy).cell (i:=0) rfl,rv.Members,rv.Members_l,rv.Members_c,λy hy=>(hbx y hy).cell (i:=3) rfl,104,λy hy=>(hbx y hy).cell (i:=1) rfl,?_⟩
 have hml:rv.Members_l=n:=hv.len.trans (mM n)
 rw [hml]
 refine aE (Fb hL.fab heq (a:=rv.Members) (mc:=rv.Members_c) hv.rd hnn.2) ?_
 rintro v u3 ⟨rfl,hn3⟩
 refine ⟨_,rfl,hn3,fQ ?_⟩
 refine lu (P:=prog) (fn:=fAL) (R:=RA w) (λ_ _=>rfl) ?_
 rw [jM]
 refine cU rfl ?_
 refine fQ ?_
 exact Fz (h1'.noop hn3) _
set_option maxHeartbeats 4000000 in
theorem GF {w u:World} {n i fb p:Nat} {rv:aM} {sq:Int} {P Y:List aB} {b1 b2:Nat} {q:aH} {r:TR} (h:AlAt w u n i fb p rv sq P Y b1 b2 q r) (jj:List Value) {QX:Exit→List Value→World→Prop} :
  W prog (sub (aD fAL) [1,1,1,1,1,1,1,1,1]) (bV n i (some ⟨p,0,none⟩) ⟨b1,0,none⟩ ⟨b2,0,none⟩ 5 jj) (Qr prog fAL (RA w) QX) u:=by
 have hj:=h.job
 have hwl:=h.wl
 have hrl:=h.rl
 have hnn:=h.nn
 rw [it]
 refine lu (P:=prog) (fn:=fAL) (R:=RA w) (λ_ _=>rfl) ?_
 rw [jJ]
 have hgo:∀ (x:Int) (jj:List Value),x=(if n=1 then 4 else 5)→W prog (sub (aD fAL) [1,1,1,1,1,1,1,1,1,1]) (cO n i (some ⟨p,0,none⟩) ⟨b1,0,none⟩ ⟨b2,0,none⟩ x jj) (Qr prog fAL (RA w) QX) u:=by
  intro x jj hx
  rw [iu]
  refine lu (P:=prog) (fn:=fAL) (R:=RA w) (λ_ _=>rfl) ?_
  rw [jK]
  refine ⟨q.Writes,q.Writes_l,q.Writes_c,hj.cell (i:=6) rfl,?_⟩
  rw [hwl]
  refine bH (λhe=>?_) (λhe=>?_)
  ·have hY:Y=[]:=List.length_eq_zero_iff.1 (by omega)
   refine ⟨q.Reads,q.Reads_l,q.Reads_c,hj.cell (i:=5) rfl,fQ (y6 h _ ?_)⟩
   unfold DL
   rw [if_pos hY,hrl]
   by_cases hr:kp P Y=[]
   ·rw [if_pos hr,hr]
    rfl
   ·have:=List.length_pos_iff.2 hr
    rw [if_neg hr,if_neg (by omega)]
  ·have hY:Y≠[]:=λe=>he (by rw [e];rfl)
   refine fQ (y6 h _ ?_)
   unfold DL
   rw [if_neg hY]
   exact hx
 refine bH (λhe=>?_) (λhe=>?_)
 ·exact fQ (hgo _ _ (by rw [if_pos (by omega)]))
 ·exact fQ (hgo _ _ (by rw [if_neg (by omega)]))
end Go.Proofs.YtegepanmkjemjaaGreat.Pg
namespace Go.Proofs.YtegepanmkjemjaaGreat.Pg
open Go.Eng C12
attribute [local irreducible] drive alone
theorem Law.alone_c {w z:World} {n:Nat} {lines:Int} {fb p:Nat} {A:Nat→Prop} {χ:Nat→Tag} {X:FabX} {rv:aM} (h:Law w z n lines fb p A χ X rv) (hf:Fine X.pure) {r:TR} {t:Tk conv} (hx:fL A z r t) (hsh:uf t) {F:Fab} (hF:X.pure=F) :
  Does 15 [ptr fb,r.val] z λv u=>∃ t' r' A' χ' X',v=r'.val∧(alone F t).2=[t']∧Law w u n lines fb p A' χ' X' rv∧X'.pure=(alone F t).1∧fL A' u r' t'∧Keep A z u∧∀ k,k<z.heap.size→A' k→A k:=by
 subst hF
 refine aE (x8 h.fab hf hx hsh) ?_
 rintro v u ⟨A',χ',X',hN,hF,hX,t',r',hal,rfl,htx⟩
 have hkA:Keep A z u:=hN.keep.mono λk _ hc=>h.fab.avoid k hc
 have hmono:∀ k,k<z.heap.size→A' k→A k:=λk hlt hk=>by
  rcases (hN.iff k).1 hk with h1 | ⟨_,h1,_⟩
  ·exact h.fab.avoid k (hN.grow k hlt h1)
  ·exact h1
 refine ⟨_,rfl,t',r',A',χ',X',rfl,hal,⟨hF,h.new.trans hkA λk hlt hk=>by have:=h.own k hk;omega,λk hk=>?_,hkA.blk h.box h.out,λhk=>h.out (hmono p h.box.lt hk),C12.ViewAt.keep h.view hkA hmono⟩,hX,htx,hkA,hmono⟩
 have:=h.new.size
 by_cases hlt:k<z.heap.size
 ·exact h.own k (hmono k hlt hk)
 ·omega
theorem Law.alone_l {w z z7:World} {n:Nat} {lines:Int} {fb p b2:Nat} {A:Nat→Prop} {χ:Nat→Tag} {X:FabX} {rv:aM} (h:Law w z n lines fb p A χ X rv) (hn:New z z7) (hb:z.heap.size≤b2∧b2<z7.heap.size) (hf:Fine X.pure) {r:TR} {t:Tk conv} (hx:fL (λk=>A k∨k=b2) z7 r t) (hsh:uf t) {F:Fab} (hF:X.pure=F) :
  Does 15 [ptr fb,r.val] z7 λv u=>∃ (t':Tk conv) (r':TR) (A':Nat→Prop) (χ':Nat→Tag) (X':FabX),v=r'.val∧(alone F t).2=[t']∧X'.pure=(alone F t).1∧(r'.Over=t'.over∧r'.Bad=t'.bad∧r'.Code=t'.out.1∧r'.Fate=t'.out.2)∧u.heap[b2]?=z7.heap[b2]?∧Keep A z u∧∀ u',Keep (λk=>k=b2) u u'→Law w u' n lines fb p A' χ' X' rv:=by
 subst hF
 have hT:TW A χ z fb (λk=>k=b2) z7 A χ X:=TW.start h.fab hn λk hk=>by subst hk;exact hb
 refine aE (x8 hT.fab hf hx hsh) ?_
 rintro v u hp
 obtain ⟨B,ξ,X',h3,hX,hK,hk3,hM3,hL3⟩:=hT.op hp
 obtain ⟨t',r',hal,rfl,htx⟩:=hK
 have hkA:∀ {u'},TW A χ z fb (λk=>k=b2) u' B ξ X'→Keep A z u':=λt=>t.next.keep.mono λk _ hc=>h.fab.avoid k hc
 refine ⟨_,rfl,t',r',B,ξ,X',rfl,hal,hX,⟨htx.over,htx.bad,htx.out.1,htx.out.2⟩,hL3 b2 rfl,hkA h3,λu' hk=>?_⟩
 have h4:=h3.local hk λ_ e=>e
 have hmono:∀ k,k<z.heap.size→B k→A k:=λk hlt hk=>by
  rcases (h4.next.iff k).1 hk with g | g
  ·exact h.fab.avoid k (h4.next.grow k hlt g)
  ·exact g.2.1
 refine ⟨h4.fab.recolor (λk hk=>.inl hk) (λk hk=>(h4.next.iff k).2 (.inl hk)),h4.mine h.fab h.new h.own,λk hk=>?_,(hkA h4).blk h.box h.out,λhk=>h.out (hmono p h.box.lt hk),C12.ViewAt.keep h.view (hkA h4) hmono⟩
 have:=h.new.size
 by_cases hlt:k<z.heap.size
 ·exact h.own k (hmono k hlt hk)
 ·omega
end Go.Proofs.YtegepanmkjemjaaGreat.Pg
namespace Go.Proofs.YtegepanmkjemjaaGreat.Pg
open Go.Proofs.Tryz
open Go.Eng C12
attribute [local irreducible] drive alone
set_option maxRecDepth 20000 in
set_option maxHeartbeats 4000000 in
theorem CommitAlone_of (w:World) {x0 x1 x2:Int} {p3 p4:Option Addr} {c3 c4:Nat} {raw reads:List Int} (h0:I64 x0) (h1:I64 x1) (h2:I64 x2) (hr:Rd w p3 (is raw)) (hri:∀ x ∈ raw,I64 x) (hs:Rd w p4 (is reads)) (hi:∀ x ∈ reads,I64 x) :
  Does 3 [.int .i64 x0,.int .i64 x1,.int .i64 x2,.slice p3 raw.length c3,.slice p4 reads.length c4] w (RA w):=by
 refine does Tryz.func3 ?_
 rw [lw]
 have hskip:∀ (b:Bool) (jj:List Value),(b=false→raw.length≤8∧reads.length≤8)→W prog (sub (aD fAL) [1,0,1]) (cM x0 x1 x2 p3 raw.length c3 p4 reads.length c4 b jj) (seqQ (λenv z=>W prog (sub (aD fAL) [1,1]) env (retQ prog fAL (RA w)) z) (retQ prog fAL (RA w))) w:=by
  intro b jj hb
  refine lu (P:=prog) (fn:=fAL) (R:=RA w) (λ_ _=>rfl) ?_
  rw [jE]
  refine rX (λhb1=>⟨rfl,Keep.refl _ _⟩) λhb1=>fQ ?_
  obtain ⟨hw8,hr8⟩:=hb hb1
  clear hb hb1
  refine lu (P:=prog) (fn:=fAL) (R:=RA w) (λ_ _=>rfl) ?_
  rw [jF]
  refine aE (fS _ _ _ h0 (by omega)) ?_
  rintro v u1 ⟨rfl,hu1⟩
  obtain rfl:w=u1:=hu1.symm
  rw [if_neg (by omega)]
  refine ⟨_,rfl,?_⟩
  refine aE (fS _ _ _ h1 (by omega)) ?_
  rintro v u1 ⟨rfl,hu1⟩
  obtain rfl:w=u1:=hu1.symm
  rw [if_neg (by omega)]
  refine ⟨_,rfl,?_⟩
  obtain ⟨n,hn,hn4⟩:∃ n:Nat,x0 % 4+1=n∧1≤n∧n≤4:=⟨(x0 % 4+1).toNat,by omega,by omega⟩
  obtain ⟨i,hie,hi6⟩:∃ i:Nat,x1 % 6=i∧i<6:=⟨(x1 % 6).toNat,by omega,by omega⟩
  rw [w64 (x:=x0 % 4+1) (by omega) (by omega),hn,hie]
  refine aE (E7 (n:=n) (by omega) (x:=6) ⟨by omega,by omega⟩) ?_
  rintro v w2 ⟨fb,p,A,χ,X,rv,rfl,hm⟩
  have hm:Made _ w2 n 104 fb p A χ X rv:=hm
  have hpure:=hm.pure
  have hm:=hm.law
  refine ⟨_,_,rfl,?_⟩
  rw [ir,ii]
  refine lu (P:=prog) (fn:=fAL) (R:=RA w) (λ_ _=>rfl) ?_
  rw [jG]
  refine cU rfl ?_
  refine aE (Fh _) ?_
  rintro v w3 ⟨rfl,hn3'⟩
  refine ⟨_,rfl,fQ ?_⟩
  have hm:=hm.noop hn3'
  clear hn3'
  refine lu (P:=prog) (fn:=fAL) (R:=RA w) (λ_ _=>rfl) ?_
  rw [jH]
  refine cU rfl (fQ ?_)
  refine lu (P:=prog) (fn:=fAL) (R:=RA w) (λ_ _=>rfl) ?_
  rw [jI]
  have hst:nA n 104 Ab (λ_=>0) X.pure:=by rw [hpure];exact tO (by omega) (by omega) (tQ (by omega))
  have hcr:CRaw w3 ⟨i,x2,6,0,23,1,p4,reads.length,c4,p3,raw.length,c3⟩ reads raw:=⟨⟨by show -9223372036854775808≤(i:Int);omega,by show (i:Int)<_;omega⟩,h2,(show I64 6 from ⟨by omega,by omega⟩),(show I64 0 from ⟨by omega,by omega⟩),(show I64 23 from ⟨by omega,by omega⟩),(show I64 1 from ⟨by omega,by omega⟩),hs.new hm.new,rfl,hr8,hi,hr.new hm.new,rfl,hw8,hri⟩
  have hof:=Of_c w3 hcr (n:=n) (by omega) (by omega) rfl rfl rfl rfl
  refine aE hof ?_
  rintro v z1 ⟨Y,P,cl,sq,vw,hcl,hsq,hY,hP,rv0,ra,wa,rl,rc,wl,wc,rfl,hz1,hrl,hwl,hro,hwo,hfr,hfw⟩
  have hcl:cl=(i:Int):=by rw [hcl];show (i:Int) % 6=i;omega
  have hsq:1≤sq∧sq<1073741824:=by rw [hsq];show 1≤x2 % 50+1∧x2 % 50+1<1073741824;omega
  subst hcl
  refine aH.mk_ex ⟨i,sq,104,rv0,ra,rl,rc,wa,wl,wc⟩ ⟨rfl,?_⟩
  refine gX (vs:=aH.cells ⟨i,sq,104,rv0,ra,rl,rc,wa,wl,wc⟩) rfl (aH.single _) λb1 z2 hb1 hbz hz2=>?_
  rintro z3 hz3'
  have hz3:New z2 z3:=by rw [hz3'];exact aV _
  clear hz3'
  have hs1:=hz1.size
  have hplt:=hm.box.lt
  have hpb:p≠b1:=by omega
  have hbz3:=New.blk hz3 hbz
  have hn33:=(hz1.new hz2).new hz3
  have hm3:=hm.noop hn33
  have hbx:∀ y,Keep (λk=>k=b1) z3 y→Blk y p (fofC fb 104 rv) TFo:=λy hy=>hy.blk hm3.box hpb
  refine ⟨λy=>Keep (λk=>k=b1) z3 y,Keep.refl _ _,104,λy hy=>(hbx y hy).cell (i:=1) rfl,?_⟩
  unfold nilP
  refine aM.mk_ex rv ⟨λy hy=>aK (hbx y hy) (o:=2) rfl,?_⟩
  refine rN hbz3 (o:=2) (by simp [aH.cells]) λz4 hb4 hk4=>⟨hk4,?_⟩
  refine ⟨bZ hb4 (by simp [aH.cells,aM.cells]) (aM.single _),λz5 hz5=>?_⟩
  have hk5:Keep (λk=>k=b1) z4 z5:=by rw [hz5];exact cT _ _ _ _ _
  have hb5:Blk z5 b1 (aH.cells ⟨i,sq,104,rv,ra,rl,rc,wa,wl,wc⟩) TCJ:=by rw [hz5];exact hb4.puts
  clear hz5
  have hk35:Keep (λk=>k=b1) z3 z5:=hk4.trans hk5 λ_ _ e=>e
  rintro z6 hz6'
  have hz6:New z5 z6:=by rw [hz6'];exact aV _
  clear hz6'
  have hn36:New w3 z6:=(hn33.trans hk35 λk hlt e=>by omega).new hz6
  have hm6:=hm.noop hn36
  have hb6:=New.blk hz6 hb5
  have hAlow:∀ k,A k→k<w3.heap.size:=λk hk=>hm.fab.low k hk
  have hnA:¬ A b1:=λe=>by have:=hAlow _ e;omega
  have hro6:=((hro.new (hz2.new hz3)).keep hk35 λk hk e=>by have:=hro.lt hk;omega).new hz6
  have hwo6:=((hwo.new (hz2.new hz3)).keep hk35 λk hk e=>by have:=hwo.lt hk;omega).new hz6
  have hrn:=yg P Y
  have hPf:=hP.few
  have hYf:=hY.few
  have hwl':wl=Y.length:=by rw [hwl,List.length_map]
  have hwoff:=qg hwo6.rd λj hj (hA:A j)=>by have:=hfw j hj;have:=hAlow j hA;omega
  have htk:fL A z6 (Fe i sq 104 rv ra rl rc wa wl wc) (ui i sq 104 n (kp P Y) (Y.map setH)):=xk hm6.view hro6.rd hrl (by omega) (qg hro6.rd λj hj hA=>by have:=hfr j hj;have:=hAlow j hA;omega) hwo6.rd hwl (by rw [List.length_map];omega) hwoff λq hq=>by
   obtain ⟨y,hy,rfl⟩:=List.mem_map.1 hq
   exact GE (hY.ok y hy)
  have hal:=Fx (n:=n) (i:=i) (P:=P) (Y:=Y) hi6 (by omega) hsq hY hP (t:=ui i sq 104 n (kp P Y) (Y.map setH)) rfl rfl rfl rfl rfl
  have hend:∀ {y:World} {b2:Nat} {t':Tk conv} {r':TR} {A':Nat→Prop} {χ':Nat→Tag} {X':FabX} (jj:List Value) {Q:Exit→List Value→World→Prop} (hret:∀ env w',Q .ret env w'=retQ prog fAL (RA w) .ret env w'),Keep A z6 y→Law w y n 104 fb p A' χ' X' rv→X'.pure=(alone (Fab.fresh n 6 104) (ui i sq 104 n (kp P Y) (Y.map setH))).1→(alone (Fab.fresh n 6 104) (ui i sq 104 n (kp P Y) (Y.map setH))).2=[t']→r'.Over=t'.over∧r'.Bad=t'.bad∧r'.Code=t'.out.1∧r'.Fate=t'.out.2→Blk y b2 r'.cells TTa→W prog (sub (aD fAL) [1,1,1,1,1,1,1,1,1]) (bV n i (some ⟨p,0,none⟩) ⟨b1,0,none⟩ ⟨b2,0,none⟩ 5 jj) Q y:=by
   intro y b2 t' r' A' χ' X' jj Q hret hk hL hX hT hrr hb2
   have hAl:AlR n i sq P Y (X'.pure,[t']):=by rw [hX,←hT];exact hal
   refine lu (P:=prog) (fn:=fAL) (R:=RA w) (λ_ _=>hret _ _) ?_
   exact GF (q:=⟨i,sq,104,rv,ra,rl,rc,wa,wl,wc⟩) (r:=r') ⟨⟨A',χ',X',t',hL,hAl,hrr⟩,hk.blk hb6 hnA,hb2,rfl,hwl',hrl,hwo6.rd.keep hk hwoff,by omega,hi6,hsq,hY⟩ jj
  refine ⟨λy=>Keep A z6 y,Keep.refl _ _,some ⟨fb,0,none⟩,λy hy=>(hy.blk hm6.box hm6.out).cell (i:=0) rfl,aH.mk_ex ⟨i,sq,104,rv,ra,rl,rc,wa,wl,wc⟩ ⟨λy hy=>aK (hy.blk hb6 hnA) rfl,?_,?_⟩⟩
  ·refine aE (Law.alone_c hm6 hst.fine htk (pW _ _ _ _ _ _) hpure) ?_
   rintro v z7 ⟨t',r',A',χ',X',rfl,hT,hL,hX,htx,hk7,hmono⟩
   refine aC.mk_ex r' ⟨rfl,hk7,?_⟩
   rintro b2 z8 hb2 hz8'
   obtain ⟨hzb,hz8⟩:=aN hb2 hz8'
   refine ⟨hk7.new hz8,?_⟩
   refine gJ (vs:=r'.cells) hzb rfl (aC.single _) λz9 hb9 hk9=>?_
   have hn9:New z7 z9:=hz8.trans hk9 λk hlt e=>by omega
   exact hend _ (λ_ _=>rfl) (hk7.new hn9) (hL.noop hn9) hX hT ⟨htx.over,htx.bad,htx.out.1,htx.out.2⟩ hb9
  ·rintro b2 z7 hb2 hz7'
   obtain ⟨hzb,hz7⟩:=aN hb2 hz7'
   have hlt7:=hzb.lt
   refine ⟨Keep.of_new hz7,?_⟩
   have hx2:=htk.keep (A':=λk=>A k∨k=b2) (Keep.of_new hz7) λk hk e=>e.resolve_right (by omega)
   refine aE (Law.alone_l hm6 hz7 ⟨by omega,hlt7⟩ hst.fine hx2 (pW _ _ _ _ _ _) hpure) ?_
   rintro v z8 ⟨t',r',A',χ',X',rfl,hT,hX,hrr,hhp,hk8,hL⟩
   refine aC.mk_ex r' ⟨rfl,hk8,?_⟩
   have hb28:Blk z8 b2 _ TTa:=hhp.trans hzb
   refine gJ (vs:=r'.cells) hb28 rfl (aC.single _) λz9 hb9 hk9=>?_
   exact hend _ (λ_ _=>rfl) (hk8.trans hk9 λk hlt e=>by omega) (hL z9 hk9) hX hT hrr hb9
 refine aJ (λh=>?_) (λh4=>?_)
 ·exact hskip true _ λe=>by cases e
 ·exact hskip _ _ λe=>by
   have:=of_decide_eq_false e
   omega
end Go.Proofs.YtegepanmkjemjaaGreat.Pg
namespace Go.Proofs.YtegepanmkjemjaaGreat
open Go.Proofs.Tryz
open Go.ChangeShapes Go.WideShapes Go.ChangeAt Go.RowKit
theorem laid:laidOutB prog=true:=by kernel_rfl
theorem G5:ownKnob prog.godebug=none:=by kernel_rfl
theorem q0 {H:Type} {enc:TypeId×Value→H} {W W':World} {sp:Nat→Bool}:∀ {ts:List TypeId} {vs:List Value} {ds:List (DataW H)} {ps:List MemPlace},(∀ t ∈ ts,prog.readableRec t=true∧t<prog.types.size)→DataW.TrodAll enc prog W 0 (λ_=>true) true ts vs ds ps→
  (∀ p ∈ ps,W.sameAt W' p)→(∀ p ∈ ps,sp p.block=true)→DataW.TrodAll enc prog W' 0 sp true ts vs ds ps
 | [],_,_,_,_,h,_,_=>by
  obtain ⟨rfl,rfl,rfl⟩:=trodAll_nil h
  exact trodAll_mk0
 |t::ts,_,_,_,ht,h,hs,hp=>by
  obtain ⟨v,vs1,d,ds1,a,b,rfl,rfl,rfl,h1,h2⟩:=trodAll_cons h
  refine trodAll_cons_mk (WideElems.Trod_stays laid (ht t List.mem_cons_self).1 (ht t List.mem_cons_self).2 h1 (λp hq=>hs p (List.mem_append_left _ hq)) λp hq=>hp p (List.mem_append_left _ hq)) ?_
  exact q0 (λt h=>ht t (List.mem_cons_of_mem _ h)) h2 (λp hq=>hs p (List.mem_append_right _ hq)) λp hq=>hp p (List.mem_append_right _ hq)
theorem DM {H:Type} {enc:TypeId×Value→H} {f:Func} {s:ChangeSpec} {apart:Bool} {W W':World} {args:Array Value} {ds gs:List (DataW H)} {before:List MemPlace} {tb:TypeId} (hW:DataW.Whole enc prog f.params.toList s.vars apart W args.toList ds gs before)
  (hb:Go.Eng.New W W') (hts:∀ t ∈ f.params.toList,prog.readableRec t=true∧t<prog.types.size) (hv:s.vars=[]) (hfn:s.fn H (ds++gs)={ results:=[.lit (.bool true)],args:=ds }) (hr:f.resultTypes=#[tb]) (htb:prog.underlying tb=some .bool) :
  s.post enc prog f apart true false false W args (.bool true) W':=by
 have hB:Go.RowKit.Below W.heap.size W W':=hb.below (Nat.le_refl _) λ_ _ h=>h
 have hlt:=hW.lt
 have hW0:=hW
 obtain ⟨p,q,hA,hV,rfl,hfz,hnd⟩:=hW
 refine ⟨ds,gs,p++q,[],p,[],hW0,?_,?_,?_,hB.frame _,λh=>by cases h⟩
 ·rw [hfn,hr]
  exact trodAll_cons_mk (shut_bool htb _) trodAll_mk0
 ·rw [hfn]
  exact q0 hts hA (λx hx=>hB.same (hlt x (List.mem_append_left _ hx))) λx hx=>by simpa using hlt x (List.mem_append_left _ hx)
 ·rw [hfn,hv]
  rfl
theorem y7 {n:Int} (h:(Lit.int .i64 n).wf=true):I64 n:=by have:=bounds_i64 h;exact ⟨this.1,by omega⟩
end Go.Proofs.YtegepanmkjemjaaGreat
namespace Go.Proofs.YtegepanmkjemjaaGreat
open Go.ChangeShapes Go.WideShapes Go.ChangeAt Go.RowKit Go.Eng
theorem y8 {sz:Nat} (h0:0<sz):∀ {rows:List (List Value)} {j:Nat} {u:Value},(∀ r ∈ rows,r.length=sz)→rows.flatten[j]?=some u→∃ r,rows[j / sz]?=some r∧r[j % sz]?=some u
 | [],j,u,_,h=>by simp at h
 |r::rows,j,u,hr,h=>by
  have hl:=hr r List.mem_cons_self
  rw [List.flatten_cons,List.getElem?_append] at h
  by_cases hj:j<sz
  ·rw [if_pos (by omega)] at h
   exact ⟨r,by rw [Nat.div_eq_of_lt hj];rfl,by rw [Nat.mod_eq_of_lt hj];exact h⟩
  ·rw [if_neg (by omega),hl] at h
   obtain ⟨r',h1,h2⟩:=y8 h0 (λr hr'=>hr r (List.mem_cons_of_mem _ hr')) h
   have e1:j / sz=(j - sz) / sz+1:=by
    rw [Nat.div_eq_sub_div h0 (by omega)]
   have e2:j % sz=(j - sz) % sz:=by rw [Nat.mod_eq_sub_mod (by omega)]
   exact ⟨r',by rw [e1];simpa using h1,by rw [e2];exact h2⟩
theorem Ca {w:World} {a:Addr} {v:Value} (h:w.cell? a=some v):a.spot=none:=by
 cases hs:a.spot with
 |none=>rfl
 |some s=>
  exfalso
  unfold World.cell? at h
  simp only [hs,Option.isSome_some,if_true] at h
  split at h<;>simp_all
theorem Ad {H:Type} {enc:TypeId×Value→H} {P:Program} {W:World} {k fuel:Nat} {t e:TypeId} {cs:List Value} {x:DataW H×List MemPlace} {held:Bool} (ht:P.underlying t=some (.slice e)) (hc:P.cellsOf e=k) (hk:0<k)
  (hf:DataW.trod enc P W 0 (λ_=>true) held fuel t cs=some x):∃ a cap rows,cs=[.slice a (List.length rows) cap]∧rows.length≤cap∧Rd W a rows.flatten∧∀ r ∈ rows,r.length=k∧∃ fuel x,DataW.trod enc P W 0 (λ_=>true) held fuel e r=some x:=by
 rcases Deep.open_slice ht hf with ⟨h1,_⟩ | ⟨ad,len,cap,m,n,D,Pl,h1,_,h3,_,h5,_,h7⟩
 ·exact ⟨none,0,[],h1,Nat.le_refl _,.inl rfl,λx hx=>by cases hx⟩
 ·subst h1
  have hm:len≤m:=by rw [h5];simp;omega
  obtain ⟨f,hf'⟩:=Deep.choose_lt (α:=List Value) (p:=λi cs=>W.cells? 0 (ad.add (i * k)) k=some cs∧DataW.trod enc P W 0 (λ_=>true) held n e cs=some (D i,Pl i)) (n:=m) (λi hi=>by
   obtain ⟨cs,g1,g2⟩:=h7 i hi
   rw [hc] at g1
   exact ⟨cs,g1,g2⟩)
  have hrow:∀ (i:Nat) (r:List Value),((List.range len).map f)[i]?=some r→i<len∧r=f i:=by
   intro i r hr
   have hi:=aO hr
   simp at hi
   simp [hi] at hr
   exact ⟨hi,hr.symm⟩
  have hlens:∀ r ∈ (List.range len).map f,r.length=k:=by
   intro r hr
   obtain ⟨i,hi⟩:=List.mem_iff_getElem?.1 hr
   obtain ⟨hi,rfl⟩:=hrow i r hi
   exact (World.cells?_some (hf' i (by omega)).1).2.1
  refine ⟨some ad,cap,(List.range len).map f,by simp,by simpa using h3,?_,λr hr=>⟨hlens r hr,?_⟩⟩
  ·by_cases h0:len=0
   ·subst h0;exact .inl rfl
   ·have hcell:∀ (i q:Nat) (u:Value),i<len→(f i)[q]?=some u→q<k→W.cell? (ad.add (i * k+q))=some u:=by
     intro i q u hi hq hqk
     have:=(World.cells?_some (hf' i (by omega)).1).2.2 q hqk
     rw [Deep.add_add] at this
     rw [this,hq]
    have hf0:=(World.cells?_some (hf' 0 (by omega)).1).2.1
    have hs:ad.spot=none:=by
     have h8:=hcell 0 0 _ (by omega) (List.getElem?_eq_getElem (by omega)) hk
     have:=Ca h8
     simpa [Addr.add] using this
    refine .inr ⟨ad.block,ad.off,by cases ad;simp_all,λj u hu=>?_⟩
    obtain ⟨r,g1,g2⟩:=y8 hk hlens hu
    obtain ⟨hi,rfl⟩:=hrow _ _ g1
    have h8:=hcell (j / k) (j % k) u hi g2 (Nat.mod_lt _ hk)
    rw [Nat.mul_comm,Nat.div_add_mod] at h8
    rw [←h8]
    unfold Addr.add
    split
    ·rename_i h0;subst h0;cases ad;simp_all
    ·cases ad;simp_all
  ·obtain ⟨i,hi⟩:=List.mem_iff_getElem?.1 hr
   obtain ⟨hi,rfl⟩:=hrow i r hi
   exact ⟨n,_,(hf' i (by omega)).2⟩
theorem Cb {H:Type} {enc:TypeId×Value→H} {P:Program} {W:World} {r:Reach} {b0 k:Nat} {t e:TypeId} {v:Value} {d:DataW H} {ps:List MemPlace} {held:Bool} (ht:P.underlying t=some (.slice e)) (hc:P.cellsOf e=k) (hk:0<k) (hval:Value.okWide P W r b0 t v)
  (hd:DataW.Trod enc P W 0 (λ_=>true) held t v d ps):∃ a cap rows,v=.slice a (List.length rows) cap∧Rd W a rows.flatten∧∀ r ∈ rows,r.length=k∧∃ fuel x,DataW.trod enc P W 0 (λ_=>true) held fuel e r=some x:=by
 obtain ⟨a,len,cap,rfl⟩:=okWide_slice ht hval
 obtain ⟨fuel,hf⟩:=hd
 obtain ⟨a',cap',rows,h1,_,h2,h3⟩:=Ad ht hc hk hf
 have h1':[Value.slice a len cap]=[.slice a' rows.length cap']:=h1
 simp at h1'
 obtain ⟨rfl,rfl,rfl⟩:=h1'
 exact ⟨_,_,_,rfl,h2,h3⟩
theorem xv {H:Type} {enc:TypeId×Value→H} {P:Program} {W:World} {r:Reach} {b0:Nat} {t e:TypeId} {v:Value} {d:DataW H} {ps:List MemPlace} {held:Bool} (ht:P.underlying t=some (.slice e)) (he:P.underlying e=some (.int .i64)) (hc:P.cellsOf e=1) (hval:Value.okWide P W r b0 t v)
  (hd:DataW.Trod enc P W 0 (λ_=>true) held t v d ps):∃ a cap xs,v=.slice a (List.length xs) cap∧Rd W a (is xs)∧∀ x ∈ xs,I64 x:=by
 obtain ⟨a,cap,rows,rfl,h1,h2⟩:=Cb ht hc (by omega) hval hd
 have hint:∀ r ∈ rows,∃ n,r=[.int .i64 n]∧I64 n:=by
  intro r hr
  obtain ⟨_,fuel,x,hx⟩:=h2 r hr
  obtain ⟨n,e,_,w⟩:=DataW.trod_int he hx
  exact ⟨n,e,y7 w⟩
 clear h2
 have key:∀ rows:List (List Value),(∀ r ∈ rows,∃ n,r=[Value.int .i64 n]∧I64 n)→∃ xs:List Int,rows.length=xs.length∧rows.flatten=is xs∧∀ x ∈ xs,I64 x:=by
  intro rows
  induction rows with
  |nil=>intro _;exact ⟨[],rfl,rfl,λx hx=>by cases hx⟩
  |cons r rows ih=>
   intro h
   obtain ⟨n,rfl,hn⟩:=h r List.mem_cons_self
   obtain ⟨xs,g1,g2,g3⟩:=ih λr hr=>h r (List.mem_cons_of_mem _ hr)
   refine ⟨n::xs,by simp [g1],by simp [is,g2],λx hx=>?_⟩
   rcases List.mem_cons.1 hx with rfl | hx
   ·exact hn
   ·exact g3 x hx
 obtain ⟨xs,g1,g2,g3⟩:=key rows hint
 exact ⟨a,cap,xs,by rw [g1],by rw [←g2];exact h1,g3⟩
end Go.Proofs.YtegepanmkjemjaaGreat
namespace Go.Proofs.YtegepanmkjemjaaGreat
open Go.Proofs.Tryz
open Go.ChangeShapes Go.WideShapes Go.ChangeAt Go.RowKit Go.Eng
theorem xx {H:Type} {enc:TypeId×Value→H} {P:Program} {w:World} {base:Nat} {spare:Nat→Bool} {held:Bool} {t t' t'' t3 t4:TypeId} {args:Array Value} {ds:List (DataW H)} {ps:List MemPlace} (h:DataW.TrodAll enc P w base spare held [t,t',t'',t3,t4] args.toList ds ps) :
  ∃ v v' v'' v3 v4 d d' d'' d3 d4 p p' p'' p3 p4,args=#[v,v',v'',v3,v4]∧ds=[d,d',d'',d3,d4]∧ps=p++p'++p''++p3++p4∧DataW.Trod enc P w base spare held t v d p∧DataW.Trod enc P w base spare held t' v' d' p'∧DataW.Trod enc P w base spare held t'' v'' d'' p''∧DataW.Trod enc P w base spare held t3 v3 d3 p3∧DataW.Trod enc P w base spare held t4 v4 d4 p4:=by
 obtain ⟨v,vs,d,ds',p,q,hargs,rfl,rfl,hd,hrest⟩:=trodAll_cons h
 obtain ⟨v',vs',d',ds'',p',q',rfl,rfl,rfl,hd',hrest'⟩:=trodAll_cons hrest
 obtain ⟨v'',vs'',d'',dsa,p'',q'',rfl,rfl,rfl,hd'',hrest''⟩:=trodAll_cons hrest'
 obtain ⟨v3,vs3,d3,ds3,p3,q3,rfl,rfl,rfl,hd3,hrest3⟩:=trodAll_cons hrest''
 obtain ⟨v4,vs4,d4,ds4,p4,q4,rfl,rfl,rfl,hd4,hrest4⟩:=trodAll_cons hrest3
 obtain ⟨rfl,rfl,rfl⟩:=trodAll_nil hrest4
 exact ⟨v,v',v'',v3,v4,d,d',d'',d3,d4,p,p',p'',p3,p4,by cases args;simp_all,rfl,by simp,hd,hd',hd'',hd3,hd4⟩
set_option maxRecDepth 100000 in
theorem DN (os:Os) (started:os.Started) (H:Type) (enc:TypeId×Value→H) :
  ReturnsInHanded {} Tryz.checked os 3 .any (Rows.commitAloneSpec.pre6 enc prog f3 Rows.commitAloneRow.domain false) (Rows.commitAloneSpec.post enc prog f3 false true false false):=by
 refine returnsInHanded_of_change (C:=Tryz.checked) G5 started (by kernel_rfl) Tryz.func3
  (ChangeSpec.witness6 (enc:=enc) (C:=Tryz.checked) false ⟨#[],#[.int .i64 0,.int .i64 0,.int .i64 0,.slice none 0 0,.slice none 0 0],[]⟩ 8 (by kernel_rfl) (by kernel_rfl) (by kernel_rfl) (by kernel_rfl)) ?_
 intro W base args ds gs before hval0 hW hcnd _
 have hval:∀ (j:Nat) t v,f3.params[j]?=some t→args[j]?=some v→Value.okWide prog W .any base t v:=hval0
 have hW':=hW
 obtain ⟨p,q,hA0,hV,rfl,hfz,hnd⟩:=hW
 have hA:DataW.TrodAll enc prog W 0 (λ_=>true) true f3.params.toList args.toList ds p:=hA0
 rw [Tryz.params3] at hA hval
 obtain ⟨v0,v1,v2,v3,v4,d0,d1,d2,d3,d4,p0,p1,p2,p3,p4,rfl,rfl,rfl,h0,h1,h2,h3,h4⟩:=xx hA
 obtain ⟨rfl,rfl⟩:=trodVars_none hV
 obtain ⟨a0,rfl,_,_,w0⟩:=open_int Tryz.underlying3 (hval 0 _ v0 rfl rfl) h0
 obtain ⟨a1,rfl,_,_,w1⟩:=open_int Tryz.underlying3 (hval 1 _ v1 rfl rfl) h1
 obtain ⟨a2,rfl,_,_,w2⟩:=open_int Tryz.underlying3 (hval 2 _ v2 rfl rfl) h2
 obtain ⟨a3,c3,l3,rfl,r3,w3⟩:=xv Tryz.underlying22 Tryz.underlying3 (by kernel_rfl) (hval 3 _ v3 rfl rfl) h3
 obtain ⟨a4,c4,l4,rfl,r4,w4⟩:=xv Tryz.underlying22 Tryz.underlying3 (by kernel_rfl) (hval 4 _ v4 rfl rfl) h4
 refine (Pg.CommitAlone_of W (y7 w0) (y7 w1) (y7 w2) r3 w3 r4 w4).mono λe W' ⟨x,he,hx,hg⟩=>?_
 subst he hx
 refine ⟨_,rfl,DM hW' hg (by rw [Tryz.params3];decide +kernel) rfl rfl (tb:=4) (by kernel_rfl) Tryz.underlying4⟩
theorem G6:Rows.commitAloneRow.wf (OpenSpec.ofChange Rows.commitAloneSpec)=true:=by kernel_rfl
theorem G7:mapsRowed prog=true:=by kernel_rfl
theorem G8:f3.params.all (prog.readableRec ·)=true:=by kernel_rfl
theorem G9:namedTie prog Rows.commitAloneRow.named Rows.commitAloneSpec.vars=true:=by kernel_rfl
theorem Ha:(Rows.commitAloneRow.inPlace == prog.inPlace 3)=true:=by kernel_rfl
theorem Hb:(Rows.commitAloneRow.unfollowed == prog.unfollowed 3)=true:=by kernel_rfl
theorem Hc:(Rows.commitAloneRow.recurses == prog.recurses 3)=true:=by kernel_rfl
theorem Hd:(Rows.commitAloneRow.named == prog.varsNamed 3)=true:=by kernel_rfl
theorem DO:joinedFacts prog 3 f3 Rows.commitAloneSpec Rows.commitAloneRow=true:=by
 unfold joinedFacts
 rw [G6,laid,G7,G8,G9,Ha,Hb,Hc,Hd]
 kernel_rfl
theorem GH:Rows.commitAloneRow.holds Tryz.pinned (OpenSpec.ofChange Rows.commitAloneSpec):=
 OpenClaim.holds_of_wide 3 f3 rfl rfl rfl rfl rfl rfl rfl ⟨rfl,rfl,rfl,rfl,rfl⟩ rfl rfl rfl rfl rfl (by kernel_rfl) Tryz.func3 DO
  (of_decide_eq_true (by kernel_rfl)) (by unfold Func.isWrapper;first | (rw [if_pos (by decide +kernel)];kernel_rfl) | (rw [if_neg (by decide +kernel)];exact ⟨rfl,rfl⟩))
  (λos started H enc _=>DN os started H enc)
theorem commitAlone_holds:Rows.CommitAloneSaid:=GH
#print axioms commitAlone_holds
end Go.Proofs.YtegepanmkjemjaaGreat
