import Derived.Test.YtegepanmkjemjaaGreatu42
import Derived.Test.YtegepanmkjemjaaGreatu43
import Derived.Test.YtegepanmkjemjaaGreatu03
import Derived.Test.YtegepanmkjemjaaGreatRows
import Derived.WalkKit
import Derived.ProofKit
import Derived.OpenShut
set_option linter.unusedVariables false
namespace Go.Proofs.YtegepanmkjemjaaGreat
open Go.Proofs.Tryz
open Go.Eng C12
attribute [local irreducible] drive
noncomputable abbrev fRI:Func:=f4
def RP (w:World) (v:Value) (u:World):Prop:=v=.bool true∧New w u
def riE (n m:Nat) (ys:Nat→Nat):Env:=cEnv n 100 sX (λ_=>0) m (λ_=>1) ys
def riC (i:Nat) (dn:Nat→Bool) (ys:Nat→Nat) (q:Nat):Nat:=cntW i dn ys (96+q)
def riD (i:Nat) (dn:Nat→Bool):Nat:=((List.range i).filter dn).length
theorem CY (i:Nat) (dn:Nat→Bool):riD (i+1) dn=riD i dn+if dn i=true then 1 else 0:=by
 unfold riD
 rw [List.range_succ,List.filter_append,List.length_append]
 congr 1
 rw [List.filter_cons]
 split<;>rfl
theorem FO (i:Nat) (dn:Nat→Bool):riD i dn≤i:=by
 unfold riD
 exact Nat.le_trans (List.length_filter_le _ _) (by simp)
theorem FP (i:Nat) (dn:Nat→Bool) (ys:Nat→Nat) (q:Nat):riC i dn ys q≤i:=EM i dn ys _
abbrev T4u:TypeId:=66
set_option maxHeartbeats 2000000 in
theorem EO {w u:World} {n fb p m:Nat} {rv:aM} {ys:Nat→Nat} {dn:Nat→Bool} {la:Option Addr} {ts:List (TR×Tk conv)} (h:Ran w u n fb p rv (riE n m ys) dn la ts) (hn:1≤n∧n≤5) (hm:1≤m∧m≤6) {b1:Nat} (hb:Blk u b1 (jV (riC m dn ys)) T4u) {a1:Option Addr} {c1:Nat} (jj:List Value) {QX:Exit→List Value→World→Prop} :
  W prog (sub (aD fRI) [1,1,1,1,1,1,1,1,1,1]) (dS a1 m c1 (some ⟨p,0,none⟩) (riD m dn:Nat) ⟨b1,0,none⟩ jj) (Qr prog fRI (RP w) QX) u:=by
 rw [jc]
 obtain ⟨hcnt,hle⟩:Cnt 100 (pu (riE n m ys) dn) (λl=>0+cntW m dn ys l)∧∀ l,cntW m dn ys l≤1:=by
  obtain ⟨⟨A,χ,X,h1,h2,h3⟩,h4⟩:=h
  exact Bw wC (by omega) (λ_ _ _=>by omega) h2
 refine aR mix (λq env z=>∃ (k:Nat) (jj:List Value),q=4 - k∧k≤4∧env=cJ a1 m c1 (some ⟨p,0,none⟩) (riD m dn:Nat) ⟨b1,0,none⟩ k jj∧New u z) 4 ⟨0,_,by omega,by omega,rfl,Keep.refl _ _⟩ ?_
 rintro q env z ⟨k,jj2,rfl,hk,rfl,hz⟩
 refine mG (P:=prog) (fn:=fRI) (R:=RP w) (λ_ _=>rfl) ?_
 rw [hO]
 have h':=h.noop hz
 obtain ⟨⟨A,χ,X,h1,h2,h3⟩,h4⟩:=h'
 have hst:=h2.still
 have hlen:X.pure.nodes.length=n:=hst.len
 obtain ⟨x,hx,hxm⟩:=EC (X:=X) rfl (i:=0) (by omega)
 have hxp:X.pure.nodes[0]?=some x.n:=by simp [FabX.pure,hx]
 have hfx:NFix 100 x.n:=hst.fix 0 _ hxp
 refine aH (λhlt=>?_) (λhge=>?_)
 ·have hlt:k<4:=by omega
  refine ⟨some ⟨fb,0,none⟩,h1.box.cell (i:=0) rfl,?_⟩
  rw [w64 (x:=96+(k:Int)) (by omega) (by omega)]
  have e96:(96+(k:Int))=((96+k:Nat):Int):=by omega
  rw [e96]
  refine aF (tS h1.fab hx (l:=96+k) (by omega) (by rw [hfx.len];omega) hfx.up) ?_
  rintro v z1 ⟨rfl,hz1⟩
  have hpg:x.n.page (96+k)=pgOf (pu (riE n m ys) dn) (96+k):=hst.page hxp (by omega) (by show 96+k<100;omega)
  have hhd:=hcnt.head (96+k) (by omega) (by omega)
  have hdt:=hcnt.data (96+k) (by omega) (by omega)
  refine aG.mk_ex (x.n.page (96+k)) ⟨true,rfl,?_⟩
  refine ii (vs:=(x.n.page (96+k)).cells) rfl (aG.single _) λb2 z2 hb2 hbz hz2=>?_
  rw [gU]
  refine mG (P:=prog) (fn:=fRI) (R:=RP w) (λ_ _=>rfl) ?_
  rw [iD]
  rintro z3 hz3'
  have hz3:New z2 z3:=by rw [hz3'];exact aT _
  clear hz3'
  have hbz3:∀ y,New z3 y→Blk y b2 (x.n.page (96+k)).cells TPg:=λy hy=>New.blk (hz3.new hy) hbz
  have hcb:∀ y,New z3 y→Blk y b1 (jV (riC m dn ys)) T4u:=λy hy=>New.blk ((((hz.new hz1).new hz2).new hz3).new hy) hb
  have e1:0+((k:Nat):Int).toNat * 1=k:=by simp
  have hcell:∀ y,New z3 y→y.cell? ⟨b1,0+((k:Nat):Int).toNat * 1,none⟩=some (.int .u64 (riC m dn ys k:Nat)):=λy hy=>by
   rw [e1]
   exact (hcb y hy).cell (t7 hlt)
  have hz03:New u z3:=(((hz.new hz1).new hz2).new hz3)
  have hc1:riC m dn ys k≤1:=hle _
  have hd0:(x.n.page (96+k)).Data0=(riC m dn ys k:Nat):=by
   rw [hpg]
   exact hdt.trans (by rw [Nat.zero_add];rfl)
  have hh0:(x.n.page (96+k)).Head=((256 * (1+riC m dn ys k):Nat):Int):=by
   rw [hpg]
   exact hhd.trans (by rw [Nat.zero_add];rfl)
  refine ⟨λy=>New z3 y,Keep.refl _ _,dO rfl (gF (by omega) (by omega) ⟨_,λy hy=>(hbz3 y hy).cell (i:=2) rfl,gF (by omega) (by omega) ⟨_,hcell,cM (λhh=>absurd hd0 hh) λ_=>?_⟩⟩)⟩
  refine ⟨_,λy hy=>(hbz3 y hy).cell (i:=1) rfl,gF (by omega) (by omega) ⟨_,hcell,cM (λhh=>absurd ?_ hh) λ_=>?_⟩⟩
  ·rw [hh0,m7 (x:=1+((riC m dn ys k:Nat):Int)) (by omega) (by omega),m7 (by omega) (by omega)]
   omega
  refine gF (by omega) (by omega) ⟨_,hcell,kZ ?_⟩
  refine mG (P:=prog) (fn:=fRI) (R:=RP w) (λ_ _=>rfl) ?_
  rw [iF]
  refine dO (by simp;omega) ?_
  refine uf ?_
  refine kZ ?_
  refine mG (P:=prog) (fn:=fRI) (R:=RP w) (λ_ _=>rfl) ?_
  rw [iG]
  rw [w64 (x:=(k:Int)+1) (by omega) (by omega)]
  exact ⟨4 - (k+1),by omega,k+1,_,rfl,by omega,rfl,hz03⟩
 ·refine rS (pz (kZ ?_))
  refine mG (P:=prog) (fn:=fRI) (R:=RP w) (λ_ _=>rfl) ?_
  rw [iE]
  rintro z1 hz1'
  have hz1:New z z1:=by rw [hz1'];exact aT _
  clear hz1'
  have h1':=h1.noop hz1
  have hbx:∀ y,New z1 y→Blk y p (fofC fb 100 rv) TFo:=λy hy=>New.blk hy h1'.box
  have heq:EqX X n 100:=hst.eqX (by show 98≤100∧100≤256;omega) λl l1 l2=>by
   have:=hcnt.head l l1 l2
   omega
  have hv:=h1'.view
  refine ⟨λy=>New z1 y,Keep.refl _ _,some ⟨fb,0,none⟩,λy hy=>(hbx y hy).cell (i:=0) rfl,rv.Members,rv.Members_l,rv.Members_c,λy hy=>(hbx y hy).cell (i:=3) rfl,100,λy hy=>(hbx y hy).cell (i:=1) rfl,?_⟩
  have hml:rv.Members_l=n:=hv.len.trans (ml n)
  rw [hml]
  refine aF (Ey h1'.fab heq (a:=rv.Members) (mc:=rv.Members_c) hv.rd hn.2) ?_
  rintro v z2 ⟨rfl,hz2⟩
  have hfin:New w z2:=h1'.new.new hz2
  refine ⟨_,rfl,kf rfl (aH (λ_=>⟨rfl,hfin⟩) λhno=>?_)⟩
  have hd:riD m dn=0:=by omega
  refine ⟨?_,hfin⟩
  congr 1
  apply decide_eq_true
  rcases Nat.lt_or_ge 1 m with h1m | h1m
  ·omega
  ·exfalso
   have hm1:m=1:=by omega
   subst hm1
   have:=h2.one 0 rfl
   unfold riD at hd
   simp [this] at hd
set_option maxHeartbeats 2000000 in
theorem Dt {w u0:World} {n fb p m:Nat} {rv:aM} {ys:Nat→Nat} {dn:Nat→Bool} {la:Option Addr} {ts:List (TR×Tk conv)} (h:Ran w u0 n fb p rv (riE n m ys) dn la ts) (hm:1≤m∧m≤6) (hy:∀ i,i<m→ys i<14) {b1:Nat} (hb1:u0.heap.size≤b1) {a1:Option Addr} {c1 lc:Nat} {z:World} (hz:New u0 z) {i:Nat} (hi:i<m) (hb:Blk z b1 (jV (riC i dn ys)) T4u) {jj:List Value} {fl:Bool} (hfl:fl=false)
  {Q:Exit→List Value→World→Prop} (hQ:∀ jj z',New u0 z'→Blk z' b1 (jV (riC (i+1) dn ys)) T4u→Q .normal (bH a1 m c1 (some ⟨p,0,none⟩) la m lc (riD (i+1) dn:Nat) ⟨b1,0,none⟩ ((i+1:Nat):Int) jj) z') :
  W prog (sub (aD fRI) [1,1,1,1,1,1,1,1,1,0,1,0,0,1,0,0,0,1]) (aY a1 m c1 (some ⟨p,0,none⟩) la m lc (riD i dn:Nat) ⟨b1,0,none⟩ i fl jj) (seqQ (λenv w'=>W prog (sub (aD fRI) [1,1,1,1,1,1,1,1,1,0,1,0,0,1,0,0,1]) env (aI 3 (seqQ (λenv w'=>W prog (sub (aD fRI) [1,1,1,1,1,1,1,1,1,0,1,0,0,1,1]) env (Qr prog fRI (RP w) Q) w') (Qr prog fRI (RP w) Q))) w') (aI 3 (seqQ (λenv w'=>W prog (sub (aD fRI) [1,1,1,1,1,1,1,1,1,0,1,0,0,1,1]) env (Qr prog fRI (RP w) Q) w') (Qr prog fRI (RP w) Q)))) z:=by
 subst hfl
 have hids:(riE n m ys).ids[i]?=some i:=by
  show (List.range m)[i]?=some i
  simp [hi]
 have hlen:ts.length=m:=h.len.trans (by simp [riE,cEnv])
 have hD:=CY i dn
 have hDl:=FO i dn
 have hrow:∀ {z':World},New u0 z'→∃ r t,ts[i]?=some (r,t)∧FN z' r (dn i) (cW sX i (ys i)):=λ{z'} hz'=>(h.noop hz').row hids
 have hat:∀ {z':World} (hz':New u0 z') {r:TR} {t:Tk conv} (hg:ts[i]?=some (r,t)) {K:Addr→Prop},(∀ b o,(∀ y,New z' y→∀ (q:Nat) (v:Value),r.cells[q]?=some v→y.cell? ⟨b,o+q,none⟩=some v)→K ⟨b,o,none⟩)→idxS la m (i:Int) 25 K:=λ{z'} hz' {r t} hg {K} hk=>
  lq (cells:=λx:TR×Tk conv=>x.1.cells) (λx=>aB.len x.1) (by omega) (h.noop hz').rd hg rfl hlen.symm hk
 refine mG (P:=prog) (fn:=fRI) (R:=RP w) (λ_ _=>rfl) ?_
 rw [ja]
 refine dO rfl (kZ ?_)
 refine mG (P:=prog) (fn:=fRI) (R:=RP w) (λ_ _=>rfl) ?_
 rw [jd]
 have hlast:∀ (jj:List Value) (z':World),New u0 z'→Blk z' b1 (jV (riC (i+1) dn ys)) T4u→W prog (sub (aD fRI) [1,1,1,1,1,1,1,1,1,0,1,0,0,1,0,0,1,1]) (dN a1 m c1 (some ⟨p,0,none⟩) la m lc (riD i dn:Nat) ⟨b1,0,none⟩ i jj) (Qr prog fRI (RP w) (aI 3 (seqQ (λenv w'=>W prog (sub (aD fRI) [1,1,1,1,1,1,1,1,1,0,1,0,0,1,1]) env (Qr prog fRI (RP w) Q) w') (Qr prog fRI (RP w) Q)))) z':=by
  intro jj z' hz' hb'
  rw [iI]
  obtain ⟨r,t,hg,hr⟩:=hrow hz'
  refine hat hz' hg λb o hc=>⟨r.Code,hc z' (Keep.refl _ _) 18 _ rfl,?_⟩
  have hc:=hr.code
  have hnx:∀ (d:Int) (jj:List Value),d=(riD (i+1) dn:Nat)→W prog (sub (aD fRI) [1,1,1,1,1,1,1,1,1,0,1,0,0,1,1]) (cC a1 m c1 (some ⟨p,0,none⟩) la m lc d ⟨b1,0,none⟩ i jj) (Qr prog fRI (RP w) Q) z':=by
   rintro d jj rfl
   rw [iJ]
   rw [w64 (x:=(i:Int)+1) (by omega) (by omega)]
   exact hQ _ z' hz' hb'
  refine rm (λhb=>?_) (λhb=>?_)
  ·have hb:r.Code=0:=by simpa using hb
   have hd:dn i=true:=by
    cases hd:dn i with
    |true=>rfl
    |false=>rw [hd,hb] at hc;simp at hc
   rw [w64 (x:=((riD i dn:Nat):Int)+1) (by omega) (by omega)]
   refine uf (kZ (hnx _ _ ?_))
   rw [hD,if_pos hd]
   omega
  ·have hb:r.Code≠0:=by simpa using hb
   have hd:¬ dn i=true:=λhd=>by rw [if_pos hd] at hc;exact hb hc
   refine uf (kZ (hnx _ _ ?_))
   rw [hD,if_neg hd]
   rfl
 have hyi:=hy i hi
 have hWl:(cW sX i (ys i)).length=(bU (ys i)).length:=by simp [cW]
 have hcs:=(kN (ys i) hyi).2
 have hrc:=λq=>FP i dn ys q
 refine aR mix (λq env z'=>∃ (s:Nat) (jj:List Value),q=(bU (ys i)).length - s∧s≤(bU (ys i)).length∧env=cK a1 m c1 (some ⟨p,0,none⟩) la m lc (riD i dn:Nat) ⟨b1,0,none⟩ i s jj∧New u0 z'∧Blk z' b1 (jV (amid (riC i dn ys) (ys i) s)) T4u∧(dn i=true∨s=0)) (bU (ys i)).length
  ⟨0,_,by omega,by omega,rfl,hz,by rw [t8 (g:=amid (riC i dn ys) (ys i) 0) λk _=>wF _ _ _] at hb;exact hb,.inr rfl⟩ ?_
 rintro q env z' ⟨s,jj2,rfl,hs,rfl,hz',hb',hor⟩
 refine mG (P:=prog) (fn:=fRI) (R:=RP w) (λ_ _=>rfl) ?_
 rw [hU]
 obtain ⟨r,t,hg,hr⟩:=hrow hz'
 have hc:=hr.code
 refine hat hz' hg λb o hcl=>⟨r.Code,hcl z' (Keep.refl _ _) 18 _ rfl,?_⟩
 have hexit:(∀ k,k<4→riC (i+1) dn ys k=amid (riC i dn ys) (ys i) s k)→Blk z' b1 (jV (riC (i+1) dn ys)) T4u:=λhe=>by
  rw [←t8 he]
  exact hb'
 refine rm (λhb0=>?_) (λhb0=>?_)
 ·have hb0:r.Code=0:=by simpa using hb0
  have hd:dn i=true:=by
   cases hd:dn i with
   |true=>rfl
   |false=>rw [hd,hb0] at hc;simp at hc
  refine hat hz' hg λb2 o2 hcl2=>⟨r.Commit.Writes,r.Commit.Writes_l,r.Commit.Writes_c,hcl2 z' (Keep.refl _ _) 14 _ rfl,?_⟩
  rw [hr.len,hWl]
  refine mG (P:=prog) (fn:=fRI) (R:=RP w) (λ_ _=>rfl) ?_
  rw [eE]
  refine aH (λhlt=>?_) (λhge=>?_)
  ·have hlt:s<(bU (ys i)).length:=by omega
   refine kZ ?_
   refine mG (P:=prog) (fn:=fRI) (R:=RP w) (λ_ _=>rfl) ?_
   rw [iH]
   obtain ⟨l,hl⟩:∃ l,(bU (ys i))[s]?=some l:=⟨_,List.getElem?_eq_getElem hlt⟩
   obtain ⟨l1,l2⟩:=md (List.mem_of_getElem? hl)
   have hgw:(cW sX i (ys i))[s]?=some (bump i (pgOf sX l)):=by simp [cW,hl]
   refine hat hz' hg λb3 o3 hcl3=>⟨r.Commit.Writes,r.Commit.Writes_l,r.Commit.Writes_c,hcl3 z' (Keep.refl _ _) 14 _ rfl,?_⟩
   refine lq (cells:=aG.cells) aG.len (by omega) hr.rd hgw rfl hr.len λb4 o4 hcl4=>⟨(l:Int),hcl4 z' (Keep.refl _ _) 0 _ rfl,?_⟩
   rw [w64 (x:=(l:Int) - 96) (by omega) (by omega)]
   have e1:0+((l:Int) - 96).toNat * 1=l - 96:=by omega
   have hq4:l - 96<4:=by omega
   have hget:=t7 (f:=amid (riC i dn ys) (ys i) s) hq4
   have ham:=EN (riC i dn ys) (ys i) s (l - 96) hyi
   refine gF (by omega) (by omega) ⟨_,by rw [e1];exact hb'.cell hget,gF (by omega) (by omega) ?_⟩
   rw [e1]
   refine mI hb' (o:=l - 96) (by show l - 96<4;omega) λz2 hb2 hk2=>?_
   have hcc:=hrc (l - 96)
   rw [m7 (x:=((amid (riC i dn ys) (ys i) s (l - 96):Nat):Int)+1) (by omega) (by omega),w64 (x:=(s:Int)+1) (by omega) (by omega)]
   have hb2:Blk z2 b1 ((jV (amid (riC i dn ys) (ys i) s)).set (l - 96) (.int .u64 ((amid (riC i dn ys) (ys i) s (l - 96)+1:Nat):Int))) T4u:=by
    rw [show (((amid (riC i dn ys) (ys i) s (l - 96)+1:Nat)):Int)=((amid (riC i dn ys) (ys i) s (l - 96):Nat):Int)+1 by omega]
    rw [m7 (x:=((amid (riC i dn ys) (ys i) s (l - 96):Nat):Int)+1) (by omega) (by omega)] at hb2
    exact hb2
   rw [zm hq4 (g:=amid (riC i dn ys) (ys i) (s+1)) λk _=>Bx hl k] at hb2
   exact ⟨(bU (ys i)).length - (s+1),by omega,s+1,_,rfl,by omega,rfl,hz'.trans hk2 λk hlt e=>by omega,hb2,.inl hd⟩
  ·have hse:s=(bU (ys i)).length:=by omega
   refine rS (Qr_x (rS (pz (kZ (hlast _ z' hz' (hexit λk _=>?_))))))
   rw [hse,CX]
   unfold riC
   rw [wD,hd,Bool.true_and]
 ·have hb0:r.Code≠0:=by simpa using hb0
  have hd:dn i=false:=by
   cases hd:dn i with
   |false=>rfl
   |true=>rw [if_pos hd] at hc;exact absurd hc hb0
  refine mG (P:=prog) (fn:=fRI) (R:=RP w) (λ_ _=>rfl) ?_
  rw [eE]
  refine dO rfl ?_
  have hs0:s=0:=hor.resolve_left (by rw [hd];simp)
  refine rS (Qr_x (rS (pz (kZ (hlast _ z' hz' (hexit λk _=>?_))))))
  rw [hs0,wF]
  unfold riC
  rw [wD,hd,Bool.false_and,if_neg (by simp)]
  rfl
set_option maxHeartbeats 2000000 in
theorem CZ {w u0:World} {n fb p m:Nat} {rv:aM} {ys:Nat→Nat} {dn:Nat→Bool} {la:Option Addr} {ts:List (TR×Tk conv)} (h:Ran w u0 n fb p rv (riE n m ys) dn la ts) (hn:1≤n∧n≤5) (hm:1≤m∧m≤6) (hy:∀ i,i<m→ys i<14) {b1:Nat} (hb1:u0.heap.size≤b1) {a1:Option Addr} {c1 lc:Nat} {z:World} (hz:New u0 z) (hb:Blk z b1 (jV λ_=>0) T4u) (jj:List Value) {QX:Exit→List Value→World→Prop} :
  cD prog (.loop (sub (aD fRI) [1,1,1,1,1,1,1,1,1,0,1,0,0])) (bH a1 m c1 (some ⟨p,0,none⟩) la m lc 0 ⟨b1,0,none⟩ 0 jj) (aI 2 (seqQ (λenv w'=>W prog (sub (aD fRI) [1,1,1,1,1,1,1,1,1,1]) env (Qr prog fRI (RP w) QX) w') (Qr prog fRI (RP w) QX))) z:=by
 have hlen:ts.length=m:=h.len.trans (by simp [riE,cEnv])
 refine aR mix (λq env z'=>∃ (i:Nat) (d:Int) (jj:List Value),q=m - i∧i≤m∧d=(riD i dn:Nat)∧env=bH a1 m c1 (some ⟨p,0,none⟩) la m lc d ⟨b1,0,none⟩ i jj∧New u0 z'∧Blk z' b1 (jV (riC i dn ys)) T4u) m
  ⟨0,0,_,by omega,by omega,rfl,rfl,hz,hb⟩ ?_
 rintro q env z' ⟨i,d,jj2,rfl,hi,rfl,rfl,hz',hb'⟩
 refine mG (P:=prog) (fn:=fRI) (R:=RP w) (λ_ _=>rfl) ?_
 rw [hH]
 refine aH (λhlt=>?_) (λhge=>?_)
 ·have hlt:i<m:=by omega
  have hids:(riE n m ys).ids[i]?=some i:=by
   show (List.range m)[i]?=some i
   simp [hlt]
  rintro z1 hz1'
  have hz1:New z' z1:=by rw [hz1'];exact aT _
  clear hz1'
  have hz01:=hz'.new hz1
  obtain ⟨r,t,hg,hr⟩:=(h.noop hz01).row hids
  have hat:∀ {K:Addr→Prop},(∀ b o,(∀ y,New z1 y→∀ (q:Nat) (v:Value),r.cells[q]?=some v→y.cell? ⟨b,o+q,none⟩=some v)→K ⟨b,o,none⟩)→idxS la m (i:Int) 25 K:=λ{K} hk=>
   lq (cells:=λx:TR×Tk conv=>x.1.cells) (λx=>aB.len x.1) (by omega) (h.noop hz01).rd hg rfl hlen.symm hk
  refine ⟨λy=>New z1 y,Keep.refl _ _,hat λb o hc=>⟨r.Over,λy hy=>hc y hy 16 _ rfl,?_⟩⟩
  rw [hr.over]
  refine dO rfl (hat λb o hc=>⟨r.Bad,λy hy=>hc y hy 17 _ rfl,?_⟩)
  rw [hr.bad]
  refine dO rfl (hat λb o hc=>⟨r.Code,λy hy=>hc y hy 18 _ rfl,?_⟩)
  have hc:=hr.code
  have hf:=hr.fate
  cases hd:dn i with
  |true=>
   rw [hd,if_pos rfl] at hc hf
   refine dO (by rw [hc];rfl) (hat λb o hc1=>⟨r.Code,λy hy=>hc1 y hy 18 _ rfl,hat λb o hc2=>⟨r.Fate,λy hy=>hc2 y hy 24 _ rfl,?_⟩⟩)
   refine Dt h hm hy hb1 hz01 hlt (New.blk hz1 hb') (by rw [hc,hf];rfl) λjj z2 k1 k2=>?_
   exact ⟨m - (i+1),by omega,i+1,_,_,rfl,by omega,rfl,rfl,k1,k2⟩
  |false=>
   rw [hd,if_neg (by simp)] at hc hf
   refine kf (by rw [hc];rfl) (hat λb o hc1=>⟨r.Code,λy hy=>hc1 y hy 18 _ rfl,dO (by rw [hc];rfl) (hat λb o hc1=>⟨r.Code,λy hy=>hc1 y hy 18 _ rfl,hat λb o hc2=>⟨r.Fate,λy hy=>hc2 y hy 24 _ rfl,?_⟩⟩)⟩)
   refine Dt h hm hy hb1 hz01 hlt (New.blk hz1 hb') (by rw [hc,hf];rfl) λjj z2 k1 k2=>?_
   exact ⟨m - (i+1),by omega,i+1,_,_,rfl,by omega,rfl,rfl,k1,k2⟩
 ·have hie:i=m:=by omega
  subst hie
  refine rS (pz (kZ (EO (h.noop hz') hn hm hb' _)))
end Go.Proofs.YtegepanmkjemjaaGreat
namespace Go.Proofs.YtegepanmkjemjaaGreat
open Go.Proofs.Tryz
open Go.Eng C12
attribute [local irreducible] drive
structure qZ (w3 z:World) (n:Nat) (A:Nat→Prop) (B:Nat→Nat→Int) (sq:Nat→Int) (ys:Nat→Nat) (i:Nat) (ap:Option Addr) (cap:Nat) (ts:List (TR×Tk conv)):Prop where
 new:Keep A w3 z
 own:Owns z TTa 25 ap i cap (jU ts).flatten
 fr:∀ k,isB ap k→w3.heap.size≤k
 len:ts.length=i
 tx:∀ x ∈ ts,eQ (λk=>A k∨isB ap k) z x.1 x.2∧sB x.2
 it:∀ (k:Nat) (x:TR×Tk conv),ts[k]?=some x→x.2=uV k (sq k) 100 n [] (cW B k (ys k))
theorem qZ.nil {w3:World} {n:Nat} {A:Nat→Prop} {B:Nat→Nat→Int} {sq:Nat→Int} {ys:Nat→Nat}:qZ w3 w3 n A B sq ys 0 none 0 []:=
 ⟨Keep.refl _ _,Owns.nil _ _ _,λk hk=>(mn hk).elim,rfl,(λx hx=>by cases hx),λk x h=>by cases h⟩
theorem qZ.noop {w3 z z':World} {n:Nat} {A:Nat→Prop} {B:Nat→Nat→Int} {sq:Nat→Int} {ys:Nat→Nat} {i:Nat} {ap:Option Addr} {cap:Nat} {ts:List (TR×Tk conv)} (h:qZ w3 z n A B sq ys i ap cap ts) (hn:New z z'):qZ w3 z' n A B sq ys i ap cap ts:=
 ⟨h.new.new hn,h.own.new hn,h.fr,h.len,λx hx=>⟨(h.tx x hx).1.keep (Keep.of_new hn) λ_ _ h=>h,(h.tx x hx).2⟩,h.it⟩
theorem qZ.talks {w3 z:World} {n:Nat} {A:Nat→Prop} {B:Nat→Nat→Int} {sq:Nat→Int} {ys:Nat→Nat} {i:Nat} {ap:Option Addr} {cap:Nat} {ts:List (TR×Tk conv)} (h:qZ w3 z n A B sq ys i ap cap ts):∀ x ∈ ts,eQ A z x.1 x.2∧sB x.2:=λx hx=>⟨(h.tx x hx).1.keep (Keep.refl _ _) λ_ _ h=>.inl h,(h.tx x hx).2⟩
theorem qZ.push {w3 z:World} {n:Nat} {A:Nat→Prop} {rv:aM} {B:Nat→Nat→Int} {sq:Nat→Int} {ys:Nat→Nat} {i:Nat} {ap:Option Addr} {cap:Nat} {ts:List (TR×Tk conv)} (hv:ViewAt A w3 rv (tA n)) (hlow:∀ k,A k→k<w3.heap.size) (h:qZ w3 z n A B sq ys i ap cap ts)
  {wa:Option Addr} {wl wc:Nat} (how:Owns z TPg 9 wa wl wc (lk (cW B i (ys i))).flatten) (hwl:wl=(cW B i (ys i)).length) (hw:∀ k,isB wa k→w3.heap.size≤k∧¬ isB ap k) (hu:∀ q ∈ cW B i (ys i),PgU q) (hy:ys i<14) (hi:i≤1000)
  {K:Nat→Option Addr→Nat→Nat→World→Prop} (hk:∀ b ap' cap' z' ts',qZ w3 z' n A B sq ys (i+1) ap' cap' ts'→Keep (isB ap) z z'→K b ap' (i+1) cap' z') :
  ∀ b1 w2,b1=z.heap.size→w2=z.alloc (.cells (qt i (sq i) 100 rv wa wl wc).cells.toArray TTa)→∃ (ap':Option Addr) (ap_len ap_cap:Nat),∃ w3,(Builtin.append_ #[61,61] 61 #[(.slice ap i cap),(.slice (some ⟨b1,0,none⟩) 1 1)]).run prog w2=.ok (.slice ap' ap_len ap_cap) w3∧K b1 ap' ap_len ap_cap w3:=by
 subst hwl
 have hsz:=h.new.size
 have hl3:=(kN (ys i) hy).2
 have hWl:(cW B i (ys i)).length=(bU (ys i)).length:=by simp [cW]
 have ht:eQ (λk=>A k∨isB ap k) z (qt i (sq i) 100 rv wa (cW B i (ys i)).length wc) (uV i (sq i) 100 n [] (cW B i (ys i))):=by
  refine wu (C12.ViewAt.keep hv h.new λk hk hA=>?_) (.inl rfl) rfl (by simp) (.inl rfl) how.rd rfl (by omega) (q7 how.rd λj hj hA=>?_) hu
  ·rcases hA with hA | hA
   ·exact hA
   ·have:=h.fr k hA;omega
  ·obtain ⟨h1,h2⟩:=hw j hj
   rcases hA with hA | hA
   ·have:=hlow j hA;omega
   ·exact h2 hA
 refine EK h.own (x:=(qt i (sq i) 100 rv wa (cW B i (ys i)).length wc,uV i (sq i) 100 n [] (cW B i (ys i)))) (by omega) ?_
 intro b ap' cap' z' hb ho hk' hap
 have hfr':∀ k,isB ap' k→w3.heap.size≤k:=λk hk=>by
  rcases hap k hk with h1 | h1
  ·exact h.fr k h1
  ·omega
 have hkA:Keep (λk=>A k∨isB ap k) z z':=hk'.mono λ_ _ hk=>.inr hk
 have hmono:∀ k,k<z.heap.size→A k∨isB ap' k→A k∨isB ap k:=λk hlt hk=>hk.imp id λhk=>(hap k hk).resolve_right (by omega)
 refine hk b ap' cap' z' _ ⟨h.new.trans hk' λk hlt hk=>by have:=h.fr k hk;omega,ho,hfr',by rw [List.length_append,h.len];rfl,λx hx=>?_,λk x hx=>?_⟩ hk'
 ·rcases List.mem_append.1 hx with hx | hx
  ·exact ⟨(h.tx x hx).1.keep hkA hmono,(h.tx x hx).2⟩
  ·rw [List.mem_singleton.1 hx]
   exact ⟨ht.keep hkA hmono,sT _ _ _ _ _ _⟩
 ·by_cases hlt:k<ts.length
  ·rw [List.getElem?_append_left hlt] at hx
   exact h.it k x hx
  ·rw [List.getElem?_append_right (by omega)] at hx
   have hk0:k - ts.length=0:=by
    cases hq:k - ts.length with
    |zero=>rfl
    |succ q=>rw [hq] at hx;cases hx
   rw [hk0] at hx
   have hki:k=i:=by have:=h.len;omega
   subst hki
   cases hx
   rfl
end Go.Proofs.YtegepanmkjemjaaGreat
namespace Go.Proofs.YtegepanmkjemjaaGreat
open Go.Proofs.Tryz
open Go.Eng C12
attribute [local irreducible] drive
def ysOf (raw:List Int) (k:Nat):Nat:=(raw.getD k 0 % 14).toNat
theorem uW (raw:List Int) (k:Nat):ysOf raw k<14:=by unfold ysOf;omega
set_option maxRecDepth 20000 in
set_option maxHeartbeats 4000000 in
theorem sY (w:World) {x0:Int} {p1 p2:Option Addr} {c1 c2:Nat} {raw sch:List Int} (h0:I64 x0) (hr:Rd w p1 (is raw)) (hri:∀ x ∈ raw,I64 x) (hs:Rd w p2 (is sch)) (hi:∀ x ∈ sch,I64 x) :
  Does 4 [.int .i64 x0,.slice p1 raw.length c1,.slice p2 sch.length c2] w (RP w):=by
 refine does Tryz.func4 ?_
 rw [kO]
 have hskip:∀ (b:Bool) (jj:List Value),(b=false→1≤raw.length∧raw.length≤4)→W prog (sub (aD fRI) [1,0,1]) (bQ x0 p1 raw.length c1 p2 sch.length c2 b jj) (seqQ (λenv z=>W prog (sub (aD fRI) [1,1]) env (retQ prog fRI (RP w)) z) (retQ prog fRI (RP w))) w:=by
  intro b jj hb
  refine mG (P:=prog) (fn:=fRI) (R:=RP w) (λ_ _=>rfl) ?_
  rw [iV]
  refine rm (λhb1=>⟨rfl,Keep.refl _ _⟩) λhb1=>kZ ?_
  obtain ⟨hr1,hr4⟩:=hb hb1
  clear hb hb1
  refine mG (P:=prog) (fn:=fRI) (R:=RP w) (λ_ _=>rfl) ?_
  rw [iW]
  refine aF (oM _ _ _ h0 (by omega)) ?_
  rintro v u1 ⟨rfl,hu1⟩
  obtain rfl:w=u1:=hu1.symm
  rw [if_neg (by omega)]
  refine ⟨_,rfl,?_⟩
  obtain ⟨n,hn,hn3⟩:∃ n:Nat,x0 % 3+1=n∧1≤n∧n≤3:=⟨(x0 % 3+1).toNat,by omega,by omega⟩
  rw [w64 (x:=x0 % 3+1) (by omega) (by omega),hn]
  refine aF (Et (n:=n) (by omega) (x:=2) ⟨by omega,by omega⟩) ?_
  rintro v w2 ⟨fb,p,A,χ,X,rv,rfl,hm⟩
  have hm:Made _ w2 n 100 fb p A χ X rv:=hm
  have hpure:=hm.pure
  have hm:=hm.law
  refine ⟨_,_,rfl,?_⟩
  rw [g8,gS]
  refine mG (P:=prog) (fn:=fRI) (R:=RP w) (λ_ _=>rfl) ?_
  rw [iX]
  refine dO rfl ?_
  refine aF (ED _) ?_
  rintro v w3 ⟨rfl,hn3'⟩
  refine ⟨_,rfl,kZ ?_⟩
  have hm:=hm.noop hn3'
  clear hn3'
  refine mG (P:=prog) (fn:=fRI) (R:=RP w) (λ_ _=>rfl) ?_
  rw [iY]
  refine dO rfl (kZ ?_)
  refine mG (P:=prog) (fn:=fRI) (R:=RP w) (λ_ _=>rfl) ?_
  rw [iZ]
  have hstill:rD n 100 sX (λ_=>0) X.pure:=by rw [hpure];exact xx (by omega) (by omega) (xy (by omega))
  obtain ⟨x,hx,hxm⟩:=EC (X:=X) rfl (i:=0) (by rw [hstill.len];omega)
  have hxp:X.pure.nodes[0]?=some x.n:=by simp [FabX.pure,hx]
  have hfx:NFix 100 x.n:=hstill.fix 0 _ hxp
  have hu:∀ i,U64 (x.n.get i):=λi=>(hm.fab.node 0 x hx).node.wf_get i
  have hcw:∀ (i:Nat) (y:Nat),cws (i:Int) x.n (bU y)=cW sX i y:=λi y=>List.map_congr_left λl hl=>by
   obtain ⟨l1,l2⟩:=md hl
   rw [hstill.page hxp l1 (by omega)]
  refine aR mix (λq env z=>∃ (i:Nat) (ap:Option Addr) (al cap:Nat) (ts:List (TR×Tk conv)) (jj:List Value),q=raw.length - i∧i≤raw.length∧al=i∧env=cI p1 raw.length c1 p2 sch.length c2 (some ⟨p,0,none⟩) ap al cap i jj∧New w3 z∧qZ w3 z n A sX (λ_=>1) (ysOf raw) i ap cap ts) raw.length
   ⟨0,none,0,0,[],_,rfl,by omega,rfl,rfl,Keep.refl _ _,qZ.nil⟩ ?_
  rintro q env z ⟨i,ap,al,cap,ts,jj2,rfl,hil,rfl,rfl,hnz,hM⟩
  refine mG (P:=prog) (fn:=fRI) (R:=RP w) (λ_ _=>rfl) ?_
  rw [g9]
  have hmz:=hm.noop hnz
  refine aH (λhlt=>?_) (λhge=>?_)
  ·have hlt:al<raw.length:=by omega
   have hg:raw[al]?=some (raw.getD al 0):=by rw [List.getD_eq_getElem?_getD,List.getElem?_eq_getElem hlt];rfl
   have hxi:I64 (raw.getD al 0):=hri _ (List.mem_of_getElem? hg)
   refine rd_i (hr.new hmz.new) hg rfl rfl λb o hc=>⟨_,hc z (Keep.refl _ _),?_⟩
   refine aF (CE hxi) ?_
   rintro v z1 ⟨ca,cc,rfl,hrc,hz1⟩
   have hrc:Rd z1 ca (is (ns (bU (ysOf raw al)))):=hrc
   have hM1:=hM.noop hz1
   have hm1:=hmz.noop hz1
   refine ⟨_,_,_,rfl,?_⟩
   have hl3:=(kN (ysOf raw al) (uW raw al)).2
   have hcnt:=zj hm1.fab hm1.box hx hfx.up (L:=bU (ysOf raw al)) (λl hl=>by have:=md hl;have:=hfx.len;omega) (by omega) hrc (cc:=cc) al 1
   refine aF hcnt ?_
   rintro v z2 ⟨wa,wc,rfl,hz2,hown,hfr⟩
   refine aB.mk_ex (qt al 1 100 rv wa (bU (ysOf raw al)).length wc) ⟨true,rfl,?_⟩
   refine ii (vs:=(qt al 1 100 rv wa (bU (ysOf raw al)).length wc).cells) rfl (aB.single _) λb1 z3 hb1 hzb hz3=>?_
   refine dO rfl (aB.mk_ex (qt al 1 100 rv wa (bU (ysOf raw al)).length wc) ⟨aJ hzb rfl,?_⟩)
   rw [hcw] at hown
   have hM3:=(hM1.noop hz2).noop hz3
   refine qZ.push hm.view (λk hk=>hm.fab.low k hk) hM3 (sq:=λ_=>1) (hown.new hz3) (by simp [cW]) (λk hk=>⟨?_,λhk2=>?_⟩) (by rw [←hcw];exact Gj hu _ _) (uW raw al) (by omega) λb ap' cap' z' ts' hM' hkp=>?_
   ·have:=hfr k hk
    have:=(hnz.new hz1).size
    omega
   ·have:=hfr k hk
    have:=hM1.own.lt hk2
    omega
   ·rw [w64 (x:=(al:Int)+1) (by omega) (by omega)]
    exact ⟨raw.length - (al+1),by omega,al+1,ap',al+1,cap',ts',_,rfl,by omega,rfl,rfl,jN (((hnz.new hz1).new hz2).new hz3) hkp hM3.fr,hM'⟩
  ·have hie:al=raw.length:=by omega
   refine rS (pz (kZ ?_))
   refine mG (P:=prog) (fn:=fRI) (R:=RP w) (λ_ _=>rfl) ?_
   rw [i0]
   refine ⟨some ⟨fb,0,none⟩,hmz.box.cell (i:=0) rfl,?_⟩
   have hE:fB (riE n raw.length (ysOf raw)):=EJ wC (by omega) (by omega) (by omega) (λ_ _=>by omega) λk _=>uW raw k
   have hgiv:∀ k i:Nat,(riE n raw.length (ysOf raw)).ids[k]?=some i→∃ t,(ts.map Prod.snd)[k]?=some t∧t.client=(i:Int)∧t.job=(riE n raw.length (ysOf raw)).J i∧t.bad=false∧t.over=false∧t.got=[]:=by
    intro k i hk
    have hki:k<raw.length∧k=i:=by
     have hk:(List.range raw.length)[k]?=some i:=hk
     have:=aP hk
     rw [List.length_range] at this
     rw [List.getElem?_range this] at hk
     exact ⟨this,by cases hk;rfl⟩
    obtain ⟨hk1,rfl⟩:=hki
    have hkl:k<ts.length:=by rw [hM.len,hie];exact hk1
    have hg:ts[k]?=some ts[k]:=List.getElem?_eq_getElem hkl
    refine ⟨ts[k].2,by rw [List.getElem?_map,hg];rfl,?_⟩
    rw [hM.it k _ hg]
    exact ⟨rfl,rfl,rfl,rfl,rfl⟩
   obtain ⟨dn,hR⟩:=rD.drive hE (F:=X.pure) hstill (ts:=ts.map Prod.snd) (by rw [List.length_map,hM.len,hie];simp [riE,cEnv]) hgiv (λe=>by cases e) sch (most:=5000) (by simp [riE,cEnv];omega) (by omega)
   refine aF (hmz.drive_c hstill.fine (pc:=cap) hM.len.symm hM.own.rd hM.talks (by have:=hM.len;omega) rfl hs hi (sc:=c2) (most:=5000) (by omega) rfl) ?_
   rintro v z1 ⟨la,lc,ts',A',χ',X',rfl,hm',hX',hts',hrd',htx',hkA,_⟩
   refine ⟨_,_,_,rfl,?_⟩
   have hRan:Ran w z1 n fb p rv (riE n raw.length (ysOf raw)) dn la ts':=by
    refine ⟨⟨A',χ',X',hm',?_,htx'⟩,hrd'⟩
    rw [hX',hts']
    exact hR
   have hlen':ts'.length=raw.length:=hRan.len.trans (by simp [riE,cEnv])
   rintro b1 z2 hb1 hz2
   obtain ⟨hzb,hn2⟩:=aN hb1 hz2
   rw [hlen']
   exact CZ hRan (by omega) (by omega) (λk _=>uW raw k) (by omega) hn2 hzb _
 refine aH (λh=>?_) (λh4=>aH (λh=>?_) (λh1=>?_))
 ·exact hskip true _ λe=>by cases e
 ·exact hskip true _ λe=>by cases e
 ·exact hskip _ _ λ_=>by omega
end Go.Proofs.YtegepanmkjemjaaGreat
namespace Go.Proofs.YtegepanmkjemjaaGreat
open Go.Proofs.Tryz
open Go.ChangeShapes Go.WideShapes Go.ChangeAt Go.RowKit
theorem laid:laidOutB prog=true:=by kernel_rfl
theorem Gl:ownKnob prog.godebug=none:=by kernel_rfl
theorem qw {H:Type} {enc:TypeId×Value→H} {W W':World} {sp:Nat→Bool}:∀ {ts:List TypeId} {vs:List Value} {ds:List (DataW H)} {ps:List MemPlace},(∀ t ∈ ts,prog.readableRec t=true∧t<prog.types.size)→DataW.TrodAll enc prog W 0 (λ_=>true) true ts vs ds ps→
  (∀ p ∈ ps,W.sameAt W' p)→(∀ p ∈ ps,sp p.block=true)→DataW.TrodAll enc prog W' 0 sp true ts vs ds ps
 | [],_,_,_,_,h,_,_=>by
  obtain ⟨rfl,rfl,rfl⟩:=trodAll_nil h
  exact trodAll_mk0
 |t::ts,_,_,_,ht,h,hs,hp=>by
  obtain ⟨v,vs1,d,ds1,a,b,rfl,rfl,rfl,h1,h2⟩:=trodAll_cons h
  refine trodAll_cons_mk (WideElems.Trod_stays laid (ht t List.mem_cons_self).1 (ht t List.mem_cons_self).2 h1 (λp hq=>hs p (List.mem_append_left _ hq)) λp hq=>hp p (List.mem_append_left _ hq)) ?_
  exact qw (λt h=>ht t (List.mem_cons_of_mem _ h)) h2 (λp hq=>hs p (List.mem_append_right _ hq)) λp hq=>hp p (List.mem_append_right _ hq)
theorem C1 {H:Type} {enc:TypeId×Value→H} {f:Func} {s:ChangeSpec} {apart:Bool} {W W':World} {args:Array Value} {ds gs:List (DataW H)} {before:List MemPlace} {tb:TypeId} (hW:DataW.Whole enc prog f.params.toList s.vars apart W args.toList ds gs before)
  (hb:Go.Eng.New W W') (hts:∀ t ∈ f.params.toList,prog.readableRec t=true∧t<prog.types.size) (hv:s.vars=[]) (hfn:s.fn H (ds++gs)={ results:=[.lit (.bool true)],args:=ds }) (hr:f.resultTypes=#[tb]) (htb:prog.underlying tb=some .bool) :
  s.post enc prog f apart true false false W args (.bool true) W':=by
 have hB:Go.RowKit.Below W.heap.size W W':=hb.below (Nat.le_refl _) λ_ _ h=>h
 have hlt:=hW.lt
 have hW0:=hW
 obtain ⟨p,q,hA,hV,rfl,hfz,hnd⟩:=hW
 refine ⟨ds,gs,p++q,[],p,[],hW0,?_,?_,?_,hB.frame _,λh=>by cases h⟩
 ·rw [hfn,hr]
  exact trodAll_cons_mk (shut_bool htb _) trodAll_mk0
 ·rw [hfn]
  exact qw hts hA (λx hx=>hB.same (hlt x (List.mem_append_left _ hx))) λx hx=>by simpa using hlt x (List.mem_append_left _ hx)
 ·rw [hfn,hv]
  rfl
theorem Du {n:Int} (h:(Lit.int .i64 n).wf=true):I64 n:=by have:=bounds_i64 h;exact ⟨this.1,by omega⟩
end Go.Proofs.YtegepanmkjemjaaGreat
