import Derived.Test.YtegepanmkjemjaaGreatv41
import Derived.Test.YtegepanmkjemjaaGreatv42
set_option linter.unusedVariables false
namespace Go.Proofs.YtegepanmkjemjaaGreat
open Go.Proofs.Tryz
open Go.Eng C12
attribute [local irreducible] drive
noncomputable abbrev fCO:Func:=f5
abbrev T4i:TypeId:=68
def ysL (lv:List Int) (k:Nat):Nat:=(lv.getD k 0 % 14).toNat
theorem ur (lv:List Int) (k:Nat):ysL lv k<14:=by unfold ysL;omega
structure CoS (w w3 z:World) (n fb p b1 b2:Nat) (A:Nat→Prop) (χ:Nat→Tag) (rv:aM) (T:Nat) (B:Nat→Prop) (ξ:Nat→Tag) (X:FabX) (base:Nat→Nat→Int) (bc:Nat→Int) (c:Nat→Nat) (sq:Nat→Int):Prop where
 law:LawT w w3 z n fb p b1 b2 A χ rv B ξ X
 still:rm n 100 base bc X.pure
 cnt:Cnt 100 base c
 k1:Blk z b1 (kY λq=>c (96+q)) T4u
 k2:Blk z b2 (mY sq) T4i
 ne:b1≠b2
 few:∀ l,96≤l→l<100→c l≤T
 seq:∀ i,i<4→0≤sq i∧sq i≤T
 nn:1≤n∧n≤5
 TT:T≤1000
structure po (z:World) (b1 b2:Nat) (B:Nat→Prop) (la:Option Addr) (lv:List Int):Prop where
 rd:Rd z la (is lv)
 i64:∀ x ∈ lv,I64 x
 off:∀ k,isB la k→¬ (B k∨(k=b1∨k=b2))
theorem po.keep {z z':World} {b1 b2:Nat} {B:Nat→Prop} {la:Option Addr} {lv:List Int} (h:po z b1 b2 B la lv) (hk:Keep (λk=>B k∨(k=b1∨k=b2)) z z'):po z' b1 b2 B la lv:=⟨h.rd.keep hk (mV h.rd h.off),h.i64,h.off⟩
def sqTo (sq:Nat→Int) (i k:Nat):Int:=if k<i then sq k+1 else sq k
set_option maxRecDepth 20000 in
set_option maxHeartbeats 4000000 in
theorem GB {w w3 z0:World} {n fb p b1 b2:Nat} {A:Nat→Prop} {χ:Nat→Tag} {rv:aM} {T:Nat} {B:Nat→Prop} {ξ:Nat→Tag} {X:FabX} {base:Nat→Nat→Int} {bc:Nat→Int} {c:Nat→Nat} {sq:Nat→Int} (h:CoS w w3 z0 n fb p b1 b2 A χ rv T B ξ X base bc c sq)
  {la:Option Addr} {lv:List Int} (hl:po z0 b1 b2 B la lv) (h3:1≤lv.length∧lv.length≤3) {a1 a2:Option Addr} {n1 c1 n2 c2 lc:Nat} {x3 r try_:Int} (jj:List Value) {Q:Exit→List Value→World→Prop} (hret:∀ env w',Q .ret env w'=retQ prog fCO (RP w) .ret env w')
  (hQ:∀ jj z ap cap ts,Keep (λk=>k=b2) z0 z→Blk z b2 (mY (sqTo sq lv.length)) T4i→kZ z0 z n (λk=>B k∨(k=b1∨k=b2)) base (λk=>sq k+1) (ysL lv) lv.length ap cap ts→Q .normal (dP a1 n1 c1 a2 n2 c2 x3 (some ⟨p,0,none⟩) ⟨b1,0,none⟩ ⟨b2,0,none⟩ r la lv.length lc try_ ap lv.length cap jj) z) :
  bX prog (.loop (sub (aD fCO) [1,1,1,1,1,1,0,1,0,0,1,0,0,1,1,0,0,1,0,0,1,0,1,0,0])) (aU a1 n1 c1 a2 n2 c2 x3 (some ⟨p,0,none⟩) ⟨b1,0,none⟩ ⟨b2,0,none⟩ r la lv.length lc try_ none 0 0 0 jj) (aI 4 Q) z0:=by
 obtain ⟨h1,h3⟩:=h3
 have hT:=h.TT
 obtain ⟨x,hx,hxm⟩:=EU (X:=X) rfl (i:=0) (by have:=h.still.len;have:=h.nn;omega)
 have hxp:X.pure.nodes[0]?=some x.n:=by simp [FabX.pure,hx]
 have hfx:NFix 100 x.n:=h.still.fix 0 _ hxp
 have hu:∀ i,U64 (x.n.get i):=λi=>(h.law.tw.fab.node 0 x hx).node.wf_get i
 have hcw:∀ (i:Nat) (y:Nat),cws (i:Int) x.n (bD y)=cW base i y:=λi y=>List.map_congr_left λl hl=>by
  obtain ⟨l1,l2⟩:=mw hl
  rw [h.still.page hxp l1 (by omega)]
 refine aQ mix (λq env z=>∃ (i:Nat) (ap:Option Addr) (al cap:Nat) (ts:List (TR×Tk conv)) (jj:List Value),q=lv.length - i∧i≤lv.length∧al=i∧env=aU a1 n1 c1 a2 n2 c2 x3 (some ⟨p,0,none⟩) ⟨b1,0,none⟩ ⟨b2,0,none⟩ r la lv.length lc try_ ap al cap i jj∧Keep (λk=>k=b2) z0 z∧Blk z b2 (mY (sqTo sq i)) T4i∧kZ z0 z n (λk=>B k∨(k=b1∨k=b2)) base (λk=>sq k+1) (ysL lv) i ap cap ts) lv.length
  ⟨0,none,0,0,[],_,rfl,by omega,rfl,rfl,Keep.refl _ _,h.k2,kZ.nil⟩ ?_
 rintro q env z ⟨i,ap,al,cap,ts,jj2,rfl,hil,rfl,rfl,hkz,hb2,hM⟩
 refine kD (P:=prog) (fn:=fCO) (R:=RP w) (λ_ _=>hret _ _) ?_
 rw [ii]
 refine aH (λhlt=>?_) (λhge=>?_)
 ·have hlt:al<lv.length:=by omega
  have h4:al<4:=by omega
  have e1:0+((al:Nat):Int).toNat * 1=al:=by simp
  have hget:=uo (f:=sqTo sq al) h4
  have hsq:=h.seq al h4
  have hself:sqTo sq al al=sq al:=by unfold sqTo;rw [if_neg (by omega)]
  refine fW (by omega) (by omega) ⟨_,by rw [e1];exact hb2.cell hget,fW (by omega) (by omega) ?_⟩
  rw [e1]
  refine lX hb2 (o:=al) (by show al<4;omega) λz1 hb2' hk1=>?_
  rw [hself,w64 (x:=sq al+1) (by omega) (by omega)] at hb2'
  rw [zE h4 (g:=sqTo sq (al+1)) λk hk=>by unfold sqTo;by_cases e:k=al;(· subst e;rw [if_pos (by omega),if_pos rfl]);(· rw [if_neg e];by_cases e2:k<al;(· rw [if_pos e2,if_pos (by omega)]);(· rw [if_neg e2,if_neg (by omega)]))] at hb2'
  rintro z2 hz2'
  have hz12:New z1 z2:=by rw [hz2'];exact aT _
  clear hz2'
  have hk02:Keep (λk=>k=b2) z0 z2:=(hkz.trans hk1 λ_ _ e=>e).new hz12
  have hkL:Keep (λk=>k=b1∨k=b2) z0 z2:=hk02.mono λ_ _ e=>.inr e
  have hL2:=h.law.local hkL
  have hl2:=hl.keep (hkL.mono λ_ _ e=>.inr e)
  have hb22:∀ y,New z2 y→Blk y b2 (mY (sqTo sq (al+1))) T4i:=λy hy=>New.blk (hz12.new hy) hb2'
  have hself':sqTo sq (al+1) al=sq al+1:=by unfold sqTo;rw [if_pos (by omega)]
  have hM2:kZ z0 z2 n (λk=>B k∨(k=b1∨k=b2)) base (λk=>sq k+1) (ysL lv) al ap cap ts:=hM.write (hk1.new hz12) (λk hk=>.inr (.inr hk)) λk hk e=>by
   have:=hM.fr k hk
   have:=h.law.low (k:=b2) (.inr (.inr rfl))
   omega
  have hg:lv[al]?=some (lv.getD al 0):=by rw [List.getD_eq_getElem?_getD,List.getElem?_eq_getElem hlt];rfl
  have hxi:I64 (lv.getD al 0):=hl.i64 _ (List.mem_of_getElem? hg)
  have hl3:=(kX (ysL lv al) (ur lv al)).2
  have hcnt:∀ {y:World} (hy:New z2 y) {ca:Option Addr} {cc:Nat} (hrc:Rd y ca (is (ns (bD (ysL lv al))))),Does 21 [ptr p,.int .i64 al,.int .i64 (sq al+1),.slice ca (bD (ysL lv al)).length cc] y λv u=>∃ wa wc,v=.tuple #[(ko al (sq al+1) 100 rv wa (bD (ysL lv al)).length wc).val,.bool true]∧New y u∧Owns u TPg 9 wa (bD (ysL lv al)).length wc (kP (cW base al (ysL lv al))).flatten∧∀ k,isB wa k→y.heap.size≤k:=λ{y} hy {ca cc} hrc=>by
   have:=zz (hL2.noop hy).tw.fab (hL2.noop hy).box hx hfx.up (L:=bD (ysL lv al)) (λl hl=>by have:=mw hl;have:=hfx.len;omega) (by omega) hrc (cc:=cc) al (sq al+1)
   rw [hcw] at this
   exact this
  have hnext:∀ (z':World) (ap':Option Addr) (cap':Nat) (ts':List (TR×Tk conv)) (y:World) (jj:List Value),New z2 y→kZ z0 z' n (λk=>B k∨(k=b1∨k=b2)) base (λk=>sq k+1) (ysL lv) (al+1) ap' cap' ts'→Keep (isB ap) y z'→∃ m',m'<lv.length - al∧∃ (i:Nat) (ap:Option Addr) (al' cap:Nat) (ts:List (TR×Tk conv)) (jj':List Value),m'=lv.length - i∧i≤lv.length∧al'=i∧aU a1 n1 c1 a2 n2 c2 x3 (some ⟨p,0,none⟩) ⟨b1,0,none⟩ ⟨b2,0,none⟩ r la lv.length lc try_ ap' (al+1) cap' (IntKind.i64.wrap ((al:Int)+1)) jj=aU a1 n1 c1 a2 n2 c2 x3 (some ⟨p,0,none⟩) ⟨b1,0,none⟩ ⟨b2,0,none⟩ r la lv.length lc try_ ap al' cap i jj'∧Keep (λk=>k=b2) z0 z'∧Blk z' b2 (mY (sqTo sq i)) T4i∧kZ z0 z' n (λk=>B k∨(k=b1∨k=b2)) base (λk=>sq k+1) (ysL lv) i ap cap ts:=by
   intro z' ap' cap' ts' y jj hy hM' hkp
   rw [w64 (x:=(al:Int)+1) (by omega) (by omega)]
   refine ⟨lv.length - (al+1),by omega,al+1,ap',al+1,cap',ts',_,rfl,by omega,rfl,rfl,(hk02.new hy).trans hkp λk hlt hk=>by have:=hM.fr k hk;omega,hkp.blk (hb22 y hy) λhk=>?_,hM'⟩
   have:=hM.fr _ hk
   have:=h.law.low (k:=b2) (.inr (.inr rfl))
   omega
  refine ⟨λy=>New z2 y,Keep.refl _ _,fW (by omega) (by omega) ⟨sq al+1,λy hy=>?_,rd_i hl2.rd hg rfl rfl λb o hc=>⟨lv.getD al 0,λy hy=>hc y hy,?_,?_⟩⟩⟩
  ·rw [e1,←hself']
   exact (hb22 y hy).cell (uo h4)
  ·refine aF (yk hxi) ?_
   rintro v y1 ⟨ca,cc,rfl,hrc,hy1⟩
   have hrc:Rd y1 ca (is (ns (bD (ysL lv al)))):=hrc
   refine ⟨_,_,_,rfl,hy1,?_,?_⟩
   ·refine aF (hcnt hy1 hrc) ?_
    rintro v y2 ⟨wa,wc,rfl,hy2,hown,hfr⟩
    refine aB.mk_ex (ko al (sq al+1) 100 rv wa (bD (ysL lv al)).length wc) ⟨true,rfl,hy1.new hy2,?_⟩
    rintro b3 y3 hb3 hy3'
    obtain ⟨hzb,hy3⟩:=aN hb3 hy3'
    clear hy3'
    have hsz2:=hy1.size
    refine ⟨(hy1.new hy2).new hy3,?_⟩
    refine gJ (vs:=(ko al (sq al+1) 100 rv wa (bD (ysL lv al)).length wc).cells) hzb rfl (aB.single _) λy4 hzq hk4=>?_
    have hs2:=hy2.size
    have hn4:New z2 y4:=((hy1.new hy2).new hy3).trans hk4 λk hlt e=>by omega
    have hown4:=(hown.new hy3).keep hk4 λk hk e=>by have:=hown.lt hk;omega
    refine dZ rfl (aB.mk_ex (ko al (sq al+1) 100 rv wa (bD (ysL lv al)).length wc) ⟨aJ hzq rfl,?_⟩)
    refine kZ.push h.law.view (λk hk=>h.law.low hk) (hM2.noop hn4) (sq:=λk=>sq k+1) hown4 (by simp [cW]) (λk hk=>⟨?_,λhk2=>?_⟩) (by rw [←hcw];exact EX hu _ _) (ur lv al) (by omega) λb ap' cap' z' ts' hM' hkp=>hnext z' ap' cap' ts' y4 _ hn4 hM' hkp
    ·have:=hfr k hk
     have:=hk02.size
     have:=hsz2
     omega
    ·have:=hfr k hk
     have:=hM2.own.lt hk2
     omega
   ·rintro b3 y3 hb3 hy3'
    obtain ⟨hzb,hy3⟩:=aN hb3 hy3'
    clear hy3'
    have hsz2:=hy1.size
    refine ⟨hy1.new hy3,?_⟩
    refine aF (hcnt (hy1.new hy3) (hrc.new hy3)) ?_
    rintro v y2 ⟨wa,wc,rfl,hy2,hown,hfr⟩
    refine aB.mk_ex (ko al (sq al+1) 100 rv wa (bD (ysL lv al)).length wc) ⟨true,rfl,(hy1.new hy3).new hy2,?_⟩
    refine gJ (vs:=(ko al (sq al+1) 100 rv wa (bD (ysL lv al)).length wc).cells) (New.blk hy2 hzb) rfl (aB.single _) λy4 hzq hk4=>?_
    have hs3:=hzb.lt
    have hn4:New z2 y4:=((hy1.new hy3).new hy2).trans hk4 λk hlt e=>by omega
    have hown4:=hown.keep hk4 λk hk e=>by have:=hfr k hk;omega
    refine dZ rfl (aB.mk_ex (ko al (sq al+1) 100 rv wa (bD (ysL lv al)).length wc) ⟨aJ hzq rfl,?_⟩)
    refine kZ.push h.law.view (λk hk=>h.law.low hk) (hM2.noop hn4) (sq:=λk=>sq k+1) hown4 (by simp [cW]) (λk hk=>⟨?_,λhk2=>?_⟩) (by rw [←hcw];exact EX hu _ _) (ur lv al) (by omega) λb ap' cap' z' ts' hM' hkp=>hnext z' ap' cap' ts' y4 _ hn4 hM' hkp
    ·have:=hfr k hk
     have:=hk02.size
     have:=hsz2
     omega
    ·have:=hfr k hk
     have:=hM2.own.lt hk2
     omega
  ·rintro b3 y3 hb3 hy3'
   obtain ⟨hzb,hy3⟩:=aN hb3 hy3'
   clear hy3'
   have hsz2:=hy3.size
   refine ⟨hy3,?_⟩
   refine aF (yk hxi) ?_
   rintro v y1 ⟨ca,cc,rfl,hrc,hy1⟩
   have hrc:Rd y1 ca (is (ns (bD (ysL lv al)))):=hrc
   have hsz1:=hy1.size
   refine ⟨_,_,_,rfl,hy3.new hy1,?_⟩
   refine aF (hcnt (hy3.new hy1) hrc) ?_
   rintro v y2 ⟨wa,wc,rfl,hy2,hown,hfr⟩
   refine aB.mk_ex (ko al (sq al+1) 100 rv wa (bD (ysL lv al)).length wc) ⟨true,rfl,(hy3.new hy1).new hy2,?_⟩
   refine gJ (vs:=(ko al (sq al+1) 100 rv wa (bD (ysL lv al)).length wc).cells) (New.blk hy2 (New.blk hy1 hzb)) rfl (aB.single _) λy4 hzq hk4=>?_
   have hs3:=hzb.lt
   have hn4:New z2 y4:=((hy3.new hy1).new hy2).trans hk4 λk hlt e=>by omega
   have hown4:=hown.keep hk4 λk hk e=>by have:=hfr k hk;omega
   refine dZ rfl (aB.mk_ex (ko al (sq al+1) 100 rv wa (bD (ysL lv al)).length wc) ⟨aJ hzq rfl,?_⟩)
   refine kZ.push h.law.view (λk hk=>h.law.low hk) (hM2.noop hn4) (sq:=λk=>sq k+1) hown4 (by simp [cW]) (λk hk=>⟨?_,λhk2=>?_⟩) (by rw [←hcw];exact EX hu _ _) (ur lv al) (by omega) λb ap' cap' z' ts' hM' hkp=>hnext z' ap' cap' ts' y4 _ hn4 hM' hkp
   ·have:=hfr k hk
    have:=hk02.size
    have:=hsz2
    omega
   ·have:=hfr k hk
    have:=hM2.own.lt hk2
    omega
 ·have hie:al=lv.length:=by omega
  subst hie
  exact si (mC (hQ _ z ap cap ts hkz hb2 hM))
end Go.Proofs.YtegepanmkjemjaaGreat
namespace Go.Proofs.YtegepanmkjemjaaGreat
open Go.Proofs.Tryz
open Go.Eng C12
attribute [local irreducible] drive
theorem DM {z:World} {A:Nat→Prop} {E:Env} {F:Fab} {ts:List (TR×Tk conv)} {dn:Nat→Bool} (h2:Round E (F,ts.map Prod.snd) dn) (h3:∀ x ∈ ts,eB A z x.1 x.2) {k i:Nat} (hk:E.ids[k]?=some i):∃ r t,ts[k]?=some (r,t)∧Ga z r (dn i) (E.J i).writes:=by
 obtain ⟨t,g1,g2⟩:=h2.left k i hk
 obtain ⟨r,g3⟩:=E3 rfl g1
 have ht:=h3 _ (List.mem_of_getElem? g3)
 have hj:JAtC A z r.Commit t.job:=ht.job
 rw [g2.job] at hj
 have ho:r.Code=t.out.1∧r.Fate=t.out.2:=ht.out
 rw [g2.out] at ho
 refine ⟨r,t,g3,ht.over.trans g2.over,ht.bad.trans g2.bad,ho.1.trans ?_,ho.2.trans ?_,hj.at_.pg.rd,hj.at_.pg.len⟩
 ·split<;>rfl
 ·split<;>rfl
structure CoR (w w3 u0:World) (n fb p b1 b2:Nat) (A:Nat→Prop) (χ:Nat→Tag) (rv:aM) (B:Nat→Prop) (ξ:Nat→Tag) (X:FabX) (base:Nat→Nat→Int) (bc:Nat→Int) (c:Nat→Nat) (sq:Nat→Int) (lv:List Int) (m:Nat) (dn:Nat→Bool) (ra la:Option Addr) (ts:List (TR×Tk conv)) (T:Nat):Prop where
 law:LawT w w3 u0 n fb p b1 b2 A χ rv B ξ X
 round:Round (cEnv n 100 base bc m (λk=>sq k+1) (ysL lv)) (X.pure,ts.map Prod.snd) dn
 tx:∀ x ∈ ts,eB (λk=>B k∨(k=b1∨k=b2)) u0 x.1 x.2
 rd:Rd u0 ra (gX ts).flatten
 off:∀ k,isB ra k→¬ (B k∨(k=b1∨k=b2))
 left:po u0 b1 b2 B la lv
 cnt:Cnt 100 base c
 few:∀ l,96≤l→l<100→c l≤T
 TT:T≤1000
 m1:1≤m∧m≤lv.length
 l3:lv.length≤3
structure CoI (u0 z:World) (b1:Nat) (c:Nat→Nat) (lv:List Int) (m:Nat) (dn:Nat→Bool) (i:Nat) (ga:Option Addr) (gl gc:Nat) (ag:List Int):Prop where
 keep:Keep (λk=>k=b1) u0 z
 blk:Blk z b1 (kY λq=>c (96+q)+cntW (min i m) dn (ysL lv) (96+q)) T4u
 own:Owns z 3 1 ga gl gc (is ag)
 gl:gl=ag.length
 fr:∀ k,isB ga k→u0.heap.size≤k
 i64:∀ x ∈ ag,I64 x
 len:ag.length≤i
 dec:dn 0=true→1≤i→ag.length+1≤i
abbrev p14:List Nat:=[1,1,1,1,1,1,0,1,0,0,1,0,0,1,1,0,0,1,0,0,1,1,1,1,1,0,1,0,0,1,0,0,0,1]
abbrev p17:List Nat:=[1,1,1,1,1,1,0,1,0,0,1,0,0,1,1,0,0,1,0,0,1,1,1,1,1,0,1,0,0,1,0,0,1]
abbrev p16:List Nat:=[1,1,1,1,1,1,0,1,0,0,1,0,0,1,1,0,0,1,0,0,1,1,1,1,1,0,1,0,0,1,1]
set_option maxRecDepth 20000 in
set_option maxHeartbeats 4000000 in
theorem DN {w w3 u0:World} {n fb p b1 b2:Nat} {A:Nat→Prop} {χ:Nat→Tag} {rv:aM} {T:Nat} {B:Nat→Prop} {ξ:Nat→Tag} {X:FabX} {base:Nat→Nat→Int} {bc:Nat→Int} {c:Nat→Nat} {sq:Nat→Int} {lv:List Int} {m:Nat} {dn:Nat→Bool} {ra la:Option Addr} {ts:List (TR×Tk conv)} (h:CoR w w3 u0 n fb p b1 b2 A χ rv B ξ X base bc c sq lv m dn ra la ts T)
  {z:World} {i:Nat} {ga:Option Addr} {gl gc:Nat} {ag:List Int} (hS:CoI u0 z b1 c lv m dn i ga gl gc ag) (hi:i<lv.length) {a1 a2:Option Addr} {n1 c1 n2 c2 lc rc:Nat} {x3 r try_:Int} {fl:Bool} (hfl:fl=!(decide (i<m) && dn i)) {jj:List Value}
  {Q:Exit→List Value→World→Prop} (hQ:∀ jj z' ga' gl' gc' ag',CoI u0 z' b1 c lv m dn (i+1) ga' gl' gc' ag'→Q .normal (bI a1 n1 c1 a2 n2 c2 x3 (some ⟨p,0,none⟩) ⟨b1,0,none⟩ ⟨b2,0,none⟩ r la lv.length lc try_ ra m rc ga' gl' gc' ((i+1:Nat):Int) jj) z') :
  W prog (sub (aD fCO) p14) (cG a1 n1 c1 a2 n2 c2 x3 (some ⟨p,0,none⟩) ⟨b1,0,none⟩ ⟨b2,0,none⟩ r la lv.length lc try_ ra m rc ga gl gc i fl jj) (seqQ (λenv w'=>W prog (sub (aD fCO) p17) env (aI 7 (seqQ (λenv w'=>W prog (sub (aD fCO) p16) env (Qr prog fCO (RP w) Q) w') (Qr prog fCO (RP w) Q))) w') (aI 7 (seqQ (λenv w'=>W prog (sub (aD fCO) p16) env (Qr prog fCO (RP w) Q) w') (Qr prog fCO (RP w) Q)))) z:=by
 have hlen:ts.length=m:=by
  have:=h.round.len
  rw [List.length_map] at this
  rw [this]
  simp [cEnv]
 have hl3:=h.l3
 have hm1:=h.m1
 have hT:=h.TT
 have hbu:=h.law.loc (k:=b1) (.inl rfl)
 have hrow:∀ {z':World},Keep (λk=>k=b1) u0 z'→i<m→∃ r t,ts[i]?=some (r,t)∧Ga z' r (dn i) (cW base i (ysL lv i)):=λ{z'} hz' him=>
  DM h.round (λx hx=>(h.tx x hx).keep (hz'.mono λk _ e=>.inr (.inl e)) λ_ _ h=>h) (k:=i) (i:=i) (by show (List.range m)[i]?=some i;simp [him])
 have hat:∀ {z':World} (hz':Keep (λk=>k=b1) u0 z') {r:TR} {t:Tk conv} (hg:ts[i]?=some (r,t)) {K:Addr→Prop},(∀ b o,(∀ y,New z' y→∀ (q:Nat) (v:Value),r.cells[q]?=some v→y.cell? ⟨b,o+q,none⟩=some v)→K ⟨b,o,none⟩)→idxS ra m (i:Int) 25 K:=λ{z'} hz' {r t} hg {K} hk=>
  lG (cells:=λx:TR×Tk conv=>x.1.cells) (λx=>aB.len x.1) (by omega) (h.rd.keep hz' (mV h.rd λk hk e=>h.off k hk (.inr (.inl e)))) hg rfl hlen.symm hk
 have hnx:∀ (jj:List Value) (z':World) ga' gl' gc' ag',CoI u0 z' b1 c lv m dn (i+1) ga' gl' gc' ag'→W prog (sub (aD fCO) p16) (cH a1 n1 c1 a2 n2 c2 x3 (some ⟨p,0,none⟩) ⟨b1,0,none⟩ ⟨b2,0,none⟩ r la lv.length lc try_ ra m rc ga' gl' gc' i jj) (Qr prog fCO (RP w) Q) z':=by
  intro jj z' ga' gl' gc' ag' hS'
  rw [iP]
  rw [w64 (x:=(i:Int)+1) (by omega) (by omega)]
  exact hQ _ z' _ _ _ _ hS'
 refine kD (P:=prog) (fn:=fCO) (R:=RP w) (λ_ _=>rfl) ?_
 rw [iN]
 refine sm (λhb=>?_) (λhb=>?_)
 ·
  have hno:¬ (i<m∧dn i=true):=λe=>by
   rw [hb,decide_eq_true e.1,e.2] at hfl
   cases hfl
  have hg:lv[i]?=some (lv.getD i 0):=by rw [List.getD_eq_getElem?_getD,List.getElem?_eq_getElem hi];rfl
  have hleft:=h.left.keep (hS.keep.mono λk _ e=>.inr (.inl e))
  refine rd_i hleft.rd hg rfl rfl λb o hc=>⟨lv.getD i 0,hc z (Keep.refl _ _),?_⟩
  have hgl:=hS.gl
  have hln:=hS.len
  refine Az hS.own (x:=lv.getD i 0) (by omega) ?_
  intro b3 ap cap z3 hb3 ho3 hk3 hap
  refine si (mC (jT (hnx _ z3 ap (gl+1) cap (ag++[lv.getD i 0]) ?_)))
  have hbn:¬ isB ga b1:=λe=>by have:=hS.fr _ e;omega
  have hcells:∀ q,q<4→c (96+q)+cntW (min (i+1) m) dn (ysL lv) (96+q)=c (96+q)+cntW (min i m) dn (ysL lv) (96+q):=λq _=>by
   by_cases him:i<m
   ·have hd:dn i=false:=by
     cases hd:dn i with
     |false=>rfl
     |true=>exact absurd ⟨him,hd⟩ hno
    rw [Nat.min_eq_left (by omega),Nat.min_eq_left (by omega),wQ,hd]
    rfl
   ·rw [Nat.min_eq_right (by omega),Nat.min_eq_right (by omega)]
  refine ⟨hS.keep.trans hk3 λk hlt hk=>by have:=hS.fr k hk;omega,?_,?_,by rw [List.length_append];simp [hgl],λk hk=>?_,λx hx=>?_,by rw [List.length_append];simp;omega,λhd _=>?_⟩
  ·rw [←ox hcells]
   exact hk3.blk hS.blk hbn
  ·exact ho3
  ·rcases hap k hk with h1 | h1
   ·exact hS.fr k h1
   ·have:=hS.keep.size
    omega
  ·rcases List.mem_append.1 hx with hx | hx
   ·exact hS.i64 x hx
   ·rw [List.mem_singleton.1 hx]
    exact h.left.i64 _ (List.mem_of_getElem? hg)
  ·rw [List.length_append,List.length_singleton]
   rcases Nat.eq_zero_or_pos i with e0 | e0
   ·subst e0
    exact absurd ⟨by omega,hd⟩ hno
   ·have:=hS.dec hd e0
    omega
 ·
  have him:i<m∧dn i=true:=by
   rw [hb] at hfl
   by_cases e:i<m
   ·refine ⟨e,?_⟩
    rw [decide_eq_true e] at hfl
    cases hd:dn i with
    |true=>rfl
    |false=>rw [hd] at hfl;cases hfl
   ·rw [decide_eq_false e] at hfl
    cases hfl
  obtain ⟨him,hd⟩:=him
  have hmin:min i m=i:=Nat.min_eq_left (by omega)
  have hmin1:min (i+1) m=i+1:=Nat.min_eq_left (by omega)
  have hblk:=hS.blk
  rw [hmin] at hblk
  refine jT ?_
  refine kD (P:=prog) (fn:=fCO) (R:=RP w) (λ_ _=>rfl) ?_
  rw [iQ]
  obtain ⟨r0,t0,hg0,hr0⟩:=hrow hS.keep him
  have hc0:=hr0.code
  rw [if_pos hd] at hc0
  refine hat hS.keep hg0 λb o hc=>⟨r0.Code,hc z (Keep.refl _ _) 18 _ rfl,dZ (by rw [hc0];rfl) ?_⟩
  clear hg0 hr0 hc0 hc
  have hyi:=ur lv i
  have hWl:(cW base i (ysL lv i)).length=(bD (ysL lv i)).length:=by simp [cW]
  have hcs:=(kX (ysL lv i) hyi).2
  have hcb:∀ q,q<4→c (96+q)+cntW i dn (ysL lv) (96+q)≤T+3:=λq hq=>by
   have:=h.few (96+q) (by omega) (by omega)
   have:=E4 i dn (ysL lv) (96+q)
   omega
  generalize hf:(λq=>c (96+q)+cntW i dn (ysL lv) (96+q))=f at hblk
  have hcb':∀ q,q<4→f q≤T+3:=λq hq=>by rw [←hf];exact hcb q hq
  refine aQ mix (λq env z'=>∃ (s:Nat) (jj:List Value),q=(bD (ysL lv i)).length - s∧s≤(bD (ysL lv i)).length∧env=cO a1 n1 c1 a2 n2 c2 x3 (some ⟨p,0,none⟩) ⟨b1,0,none⟩ ⟨b2,0,none⟩ r la lv.length lc try_ ra m rc ga gl gc i s jj∧Keep (λk=>k=b1) z z'∧Blk z' b1 (kY (amid f (ysL lv i) s)) T4u) (bD (ysL lv i)).length
   ⟨0,_,by omega,by omega,rfl,Keep.refl _ _,by rw [←ox (f:=f) (g:=amid f (ysL lv i) 0) λk _=>BQ _ _ _];exact hblk⟩ ?_
  rintro q env z' ⟨s,jj2,rfl,hs,rfl,hz',hb'⟩
  refine kD (P:=prog) (fn:=fCO) (R:=RP w) (λ_ _=>rfl) ?_
  rw [ik]
  have hkz:=hS.keep.trans hz' λ_ _ e=>e
  obtain ⟨r1,t1,hg,hr⟩:=hrow hkz him
  refine hat hkz hg λb2' o2 hcl2=>⟨r1.Commit.Writes,r1.Commit.Writes_l,r1.Commit.Writes_c,hcl2 z' (Keep.refl _ _) 14 _ rfl,?_⟩
  rw [hr.len,hWl]
  refine aH (λhlt=>?_) (λhge=>?_)
  ·have hlt:s<(bD (ysL lv i)).length:=by omega
   obtain ⟨l,hl⟩:∃ l,(bD (ysL lv i))[s]?=some l:=⟨_,List.getElem?_eq_getElem hlt⟩
   obtain ⟨l1,l2⟩:=mw (List.mem_of_getElem? hl)
   have hgw:(cW base i (ysL lv i))[s]?=some (bump i (pgOf base l)):=by simp [cW,hl]
   refine hat hkz hg λb3 o3 hcl3=>⟨r1.Commit.Writes,r1.Commit.Writes_l,r1.Commit.Writes_c,hcl3 z' (Keep.refl _ _) 14 _ rfl,?_⟩
   refine lG (cells:=aG.cells) aG.len (by omega) hr.rd hgw rfl hr.len λb4 o4 hcl4=>⟨(l:Int),hcl4 z' (Keep.refl _ _) 0 _ rfl,?_⟩
   rw [w64 (x:=(l:Int) - 96) (by omega) (by omega)]
   have e1:0+((l:Int) - 96).toNat * 1=l - 96:=by omega
   have hq4:l - 96<4:=by omega
   have hget:=um (f:=amid f (ysL lv i) s) hq4
   have ham:=E5 f (ysL lv i) s (l - 96) hyi
   refine fW (by omega) (by omega) ⟨_,by rw [e1];exact hb'.cell hget,fW (by omega) (by omega) ?_⟩
   rw [e1]
   refine lX hb' (o:=l - 96) (by show l - 96<4;omega) λz2 hb2 hk2=>?_
   have hcc:=hcb' (l - 96) hq4
   rw [pp (x:=((amid f (ysL lv i) s (l - 96):Nat):Int)+1) (by omega) (by omega),w64 (x:=(s:Int)+1) (by omega) (by omega)]
   have hb2:Blk z2 b1 ((kY (amid f (ysL lv i) s)).set (l - 96) (.int .u64 ((amid f (ysL lv i) s (l - 96)+1:Nat):Int))) T4u:=by
    rw [show (((amid f (ysL lv i) s (l - 96)+1:Nat)):Int)=((amid f (ysL lv i) s (l - 96):Nat):Int)+1 by omega]
    rw [pp (x:=((amid f (ysL lv i) s (l - 96):Nat):Int)+1) (by omega) (by omega)] at hb2
    exact hb2
   rw [zD hq4 (g:=amid f (ysL lv i) (s+1)) λk _=>BR hl k] at hb2
   exact ⟨(bD (ysL lv i)).length - (s+1),by omega,s+1,_,rfl,by omega,rfl,hz'.trans hk2 λk hlt e=>e,hb2⟩
  ·have hse:s=(bD (ysL lv i)).length:=by omega
   refine si (mC (Qr_n (pO (jT (hnx _ z' ga gl gc ag ?_)))))
   have hz1:∀ k,isB ga k→k≠b1:=λk hk e=>by have:=hS.fr k hk;omega
   refine ⟨hkz,?_,hS.own.keep hz' hz1,hS.gl,hS.fr,hS.i64,by have:=hS.len;omega,λhd0 _=>by have:=hS.len;omega⟩
   rw [hmin1]
   rw [hse] at hb'
   rw [←ox (f:=amid f (ysL lv i) (bD (ysL lv i)).length) λk _=>?_]
   ·exact hb'
   ·rw [Dk,←hf,wQ,hd,Bool.true_and,Nat.add_assoc]
end Go.Proofs.YtegepanmkjemjaaGreat
namespace Go.Proofs.YtegepanmkjemjaaGreat
open Go.Proofs.Tryz
open Go.Eng C12
attribute [local irreducible] drive
set_option maxRecDepth 20000 in
set_option maxHeartbeats 4000000 in
theorem GC {w w3 u0:World} {n fb p b1 b2:Nat} {A:Nat→Prop} {χ:Nat→Tag} {rv:aM} {T:Nat} {B:Nat→Prop} {ξ:Nat→Tag} {X:FabX} {base:Nat→Nat→Int} {bc:Nat→Int} {c:Nat→Nat} {sq:Nat→Int} {lv:List Int} {m:Nat} {dn:Nat→Bool} {ra la:Option Addr} {ts:List (TR×Tk conv)} (h:CoR w w3 u0 n fb p b1 b2 A χ rv B ξ X base bc c sq lv m dn ra la ts T)
  (hb:Blk u0 b1 (kY λq=>c (96+q)) T4u) {a1 a2:Option Addr} {n1 c1 n2 c2 lc rc:Nat} {x3 r try_:Int} (jj:List Value) {Q:Exit→List Value→World→Prop} (hret:∀ env w',Q .ret env w'=retQ prog fCO (RP w) .ret env w')
  (hQ:∀ jj z ga gl gc ag,CoI u0 z b1 c lv m dn lv.length ga gl gc ag→Q .normal (dQ a1 n1 c1 a2 n2 c2 x3 (some ⟨p,0,none⟩) ⟨b1,0,none⟩ ⟨b2,0,none⟩ r try_ ga gl gc jj) z) :
  bX prog (.loop (sub (aD fCO) [1,1,1,1,1,1,0,1,0,0,1,0,0,1,1,0,0,1,0,0,1,1,1,1,1,0,1,0,0])) (bI a1 n1 c1 a2 n2 c2 x3 (some ⟨p,0,none⟩) ⟨b1,0,none⟩ ⟨b2,0,none⟩ r la lv.length lc try_ ra m rc none 0 0 0 jj) (aI 6 Q) u0:=by
 have hlen:ts.length=m:=by
  have:=h.round.len
  rw [List.length_map] at this
  rw [this]
  simp [cEnv]
 have hl3:=h.l3
 refine aQ mix (λq env z=>∃ (i:Nat) (ga:Option Addr) (gl gc:Nat) (ag:List Int) (jj:List Value),q=lv.length - i∧i≤lv.length∧env=bI a1 n1 c1 a2 n2 c2 x3 (some ⟨p,0,none⟩) ⟨b1,0,none⟩ ⟨b2,0,none⟩ r la lv.length lc try_ ra m rc ga gl gc i jj∧CoI u0 z b1 c lv m dn i ga gl gc ag) lv.length
  ⟨0,none,0,0,[],_,by omega,by omega,rfl,⟨Keep.refl _ _,by rw [←ox (f:=λq=>c (96+q)) λk _=>by rw [Nat.zero_min];rfl];exact hb,Owns.nil _ _ _,rfl,λk hk=>(lB hk).elim,(λx hx=>by cases hx),by simp,λ_ e=>by omega⟩⟩ ?_
 rintro q env z ⟨i,ga,gl,gc,ag,jj2,rfl,hil,rfl,hS⟩
 refine kD (P:=prog) (fn:=fCO) (R:=RP w) (λ_ _=>hret _ _) ?_
 rw [ij]
 refine aH (λhlt=>?_) (λhge=>?_)
 ·have hlt:i<lv.length:=by omega
  refine aH (λhim=>?_) (λhim=>?_)
  ·have him:¬ i<m:=by omega
   refine DN h hS hlt (by rw [decide_eq_false him];rfl) λjj z' ga' gl' gc' ag' hS'=>?_
   exact ⟨lv.length - (i+1),by omega,i+1,ga',gl',gc',ag',_,rfl,by omega,rfl,hS'⟩
  ·have him:i<m:=by omega
   obtain ⟨r0,t0,hg,hr⟩:=DM h.round (λx hx=>(h.tx x hx).keep (hS.keep.mono λk _ e=>.inr (.inl e)) λ_ _ h=>h) (k:=i) (i:=i) (by show (List.range m)[i]?=some i;simp [him])
   refine lG (cells:=λx:TR×Tk conv=>x.1.cells) (λx=>aB.len x.1) (by omega) (h.rd.keep hS.keep (mV h.rd λk hk e=>h.off k hk (.inr (.inl e)))) hg rfl hlen.symm λb o hc=>⟨r0.Code,hc z (Keep.refl _ _) 18 _ rfl,?_⟩
   have hcode:=hr.code
   refine DN h hS hlt ?_ λjj z' ga' gl' gc' ag' hS'=>?_
   ·rw [decide_eq_true him,Bool.true_and]
    cases hd:dn i with
    |true=>rw [hd,if_pos rfl] at hcode;rw [hcode];rfl
    |false=>rw [hd,if_neg (by simp)] at hcode;rw [hcode];rfl
   ·exact ⟨lv.length - (i+1),by omega,i+1,ga',gl',gc',ag',_,rfl,by omega,rfl,hS'⟩
 ·have hie:i=lv.length:=by omega
  subst hie
  exact si (mC (hQ _ z ga gl gc ag hS))
end Go.Proofs.YtegepanmkjemjaaGreat
namespace Go.Proofs.YtegepanmkjemjaaGreat
open Go.Proofs.Tryz
open Go.Eng C12
attribute [local irreducible] drive
theorem wS {k:Nat}:∀ {l:List (List Value)} (m:Nat),(∀ r ∈ l,r.length=k)→(l.take m).flatten=l.flatten.take (m * k)
 | _,0,_=>by simp
 | [],m+1,_=>by simp
 |r::l,m+1,h=>by
  have hr:=h r List.mem_cons_self
  have ih:=wS (l:=l) m λx hx=>h x (List.mem_cons_of_mem _ hx)
  rw [List.take_succ_cons,List.flatten_cons,List.flatten_cons,ih,List.take_append,hr,Nat.succ_mul,Nat.add_sub_cancel]
  rw [List.take_of_length_le (l:=r) (by omega)]
set_option maxRecDepth 20000 in
set_option maxHeartbeats 4000000 in
theorem yE {w w3 z0:World} {n fb p b1 b2:Nat} {A:Nat→Prop} {χ:Nat→Tag} {rv:aM} {T:Nat} {B:Nat→Prop} {ξ:Nat→Tag} {X:FabX} {base:Nat→Nat→Int} {bc:Nat→Int} {c:Nat→Nat} {sq:Nat→Int} (h:CoS w w3 z0 n fb p b1 b2 A χ rv T B ξ X base bc c sq)
  {la:Option Addr} {lv:List Int} (hl:po z0 b1 b2 B la lv) (h3:1≤lv.length∧lv.length≤3) (hT:T<1000) {z:World} (hkz:Keep (λk=>k=b2) z0 z) (hb2:Blk z b2 (mY (sqTo sq lv.length)) T4i) {ap:Option Addr} {cap:Nat} {ts:List (TR×Tk conv)} (hM:kZ z0 z n (λk=>B k∨(k=b1∨k=b2)) base (λk=>sq k+1) (ysL lv) lv.length ap cap ts)
  {m:Nat} (hm:1≤m∧m≤lv.length) {a1 a2:Option Addr} {n1 c1 c2 lc:Nat} {x3 r:Int} {try_:Int} (ht:try_≤12) {sch:List Int} (hs:Rd w a2 (is sch)) (hsi:∀ x ∈ sch,I64 x) (jj:List Value) {Q:Exit→List Value→World→Prop} (hret:∀ env w',Q .ret env w'=retQ prog fCO (RP w) .ret env w')
  (hQ:∀ jj z' ga gl gc ag B' ξ' X' base' bc' c' sq',CoS w w3 z' n fb p b1 b2 A χ rv (T+1) B' ξ' X' base' bc' c' sq'→po z' b1 b2 B' ga ag→gl=ag.length→ag.length≤lv.length→(m=1→ag.length+1≤lv.length)→Q .normal (dR a1 n1 c1 a2 sch.length c2 x3 (some ⟨p,0,none⟩) ⟨b1,0,none⟩ ⟨b2,0,none⟩ r ga gl gc try_ jj) z') :
  W prog (sub (aD fCO) [1,1,1,1,1,1,0,1,0,0,1,0,0,1,1,0,0,1,0,0,1,1,1]) (cE a1 n1 c1 a2 sch.length c2 x3 (some ⟨p,0,none⟩) ⟨b1,0,none⟩ ⟨b2,0,none⟩ r la lv.length lc try_ ap m cap jj) (Qr prog fCO (RP w) Q) z:=by
 rw [iM]
 have hkL:Keep (λk=>k=b1∨k=b2) z0 z:=hkz.mono λ_ _ e=>.inr e
 have hLz:=h.law.local hkL
 have hlz:=hl.keep (hkL.mono λ_ _ e=>.inr e)
 have hb1z:Blk z b1 (kY λq=>c (96+q)) T4u:=hkz.blk h.k1 h.ne
 have hE:fE (cEnv n 100 base bc m (λk=>sq k+1) (ysL lv)):=E1 h.cnt h.nn (by omega) (by omega) (λk hk=>by have:=h.seq k (by omega);omega) λk _=>ur lv k
 have hgiv:∀ k i:Nat,(cEnv n 100 base bc m (λk=>sq k+1) (ysL lv)).ids[k]?=some i→∃ t,((ts.take m).map Prod.snd)[k]?=some t∧t.client=(i:Int)∧t.job=(cEnv n 100 base bc m (λk=>sq k+1) (ysL lv)).J i∧t.bad=false∧t.over=false∧t.got=[]:=by
  intro k i hk
  have hki:k<m∧k=i:=by
   have hk:(List.range m)[k]?=some i:=hk
   have:=aP hk
   rw [List.length_range] at this
   rw [List.getElem?_range this] at hk
   exact ⟨this,by cases hk;rfl⟩
  obtain ⟨hk1,rfl⟩:=hki
  have hkl:k<ts.length:=by rw [hM.len];omega
  have hg:ts[k]?=some ts[k]:=List.getElem?_eq_getElem hkl
  refine ⟨ts[k].2,by rw [List.getElem?_map,List.getElem?_take_of_lt hk1,hg];rfl,?_⟩
  rw [hM.it k _ hg]
  exact ⟨rfl,rfl,rfl,rfl,rfl⟩
 have htl:(ts.take m).length=m:=by rw [List.length_take,hM.len];omega
 obtain ⟨dn,hR⟩:=rm.drive hE (F:=X.pure) h.still (ts:=(ts.take m).map Prod.snd) (by rw [List.length_map,htl];simp [cEnv]) hgiv (λe=>by cases e) sch (most:=5000) (by simp [cEnv];omega) (by omega)
 have hrd:Rd z ap (gX (ts.take m)).flatten:=by
  have e:gX (ts.take m)=(gX ts).take m:=by simp [gX,List.map_take]
  rw [e,wS m (kW ts)]
  exact hM.own.rd.take _
 refine ⟨some ⟨fb,0,none⟩,hLz.box.cell (i:=0) rfl,?_⟩
 refine aF (hLz.drive_c h.still.fine (pc:=cap) htl.symm hrd (λx hx=>hM.talks x (List.mem_of_mem_take hx)) (by omega) rfl hs hsi (sc:=c2) (most:=5000) (by omega) rfl) ?_
 rintro v u ⟨ra,rc,ts',B',ξ',X',rfl,hL',hX',hts',hrd',htx',hkA,hmono,hheap,hoff'⟩
 refine ⟨_,_,_,rfl,?_⟩
 have hRp:Round (cEnv n 100 base bc m (λk=>sq k+1) (ysL lv)) (X'.pure,ts'.map Prod.snd) dn:=by
  rw [hX',hts']
  exact hR
 have hlen':ts'.length=m:=by
  have:=hRp.len
  rw [List.length_map] at this
  rw [this]
  simp [cEnv]
 have hb1u:Blk u b1 (kY λq=>c (96+q)) T4u:=(hheap b1 (.inl rfl)).trans hb1z
 have hb2u:Blk u b2 (mY (sqTo sq lv.length)) T4i:=(hheap b2 (.inr rfl)).trans hb2
 have hlu:po u b1 b2 B' la lv:=by
  refine ⟨hlz.rd.keep hkA (mV hlz.rd hlz.off),hlz.i64,λk hk hB=>hlz.off k hk (hmono k ?_ hB)⟩
  obtain ⟨o,rfl⟩:=hk
  exact hlz.rd.lt (λe=>by have h5:(is lv).length=lv.length:=List.length_map _;rw [e,List.length_nil] at h5;have:=h3.1;omega)
 have hC:CoR w w3 u n fb p b1 b2 A χ rv B' ξ' X' base bc c sq lv m dn ra la ts' T:=⟨hL',hRp,htx',hrd',hoff',hlu,h.cnt,h.few,h.TT,hm,h3.2⟩
 rw [hlen']
 refine GC hC hb1u _ (λ_ _=>rfl) λjj z' ga gl gc ag hS=>?_
 refine jT ?_
 refine kD (P:=prog) (fn:=fCO) (R:=RP w) (λ_ _=>rfl) ?_
 rw [iO]
 refine aH (λhh=>absurd hh (by omega)) λ_=>Qr_n ?_
 obtain ⟨hcnt,hle⟩:=BO h.cnt (by omega) (λl l1 l2=>by have:=h.few l l1 l2;have:=h.TT;omega) hRp
 have hmin:min lv.length m=m:=Nat.min_eq_right hm.2
 have hblk:=hS.blk
 rw [hmin] at hblk
 refine hQ _ z' ga gl gc ag B' ξ' X' _ _ (λl=>c l+cntW m dn (ysL lv) l) (sqTo sq lv.length) ⟨hL'.local (hS.keep.mono λ_ _ e=>.inl e),hRp.still,hcnt,hblk,hS.keep.blk hb2u (λe=>h.ne e.symm),h.ne,λl l1 l2=>?_,λi hi=>?_,h.nn,by omega⟩ ⟨hS.own.rd,hS.i64,λk hk hB=>?_⟩ hS.gl hS.len λe=>hS.dec ?_ h3.1
 ·have:=h.few l l1 l2
  have:=hle l
  omega
 ·have:=h.seq i hi
  unfold sqTo
  split<;>omega
 ·have:=hS.fr k hk
  have:=hL'.low hB
  omega
 ·subst e
  exact hRp.one 0 rfl
end Go.Proofs.YtegepanmkjemjaaGreat
namespace Go.Proofs.YtegepanmkjemjaaGreat
open Go.Proofs.Tryz
open Go.Eng C12
attribute [local irreducible] drive
set_option maxRecDepth 20000 in
set_option maxHeartbeats 4000000 in
theorem GD {w w3 z0:World} {n fb p b1 b2:Nat} {A:Nat→Prop} {χ:Nat→Tag} {rv:aM} {T:Nat} {B:Nat→Prop} {ξ:Nat→Tag} {X:FabX} {base:Nat→Nat→Int} {bc:Nat→Int} {c:Nat→Nat} {sq:Nat→Int} (h:CoS w w3 z0 n fb p b1 b2 A χ rv T B ξ X base bc c sq)
  {la:Option Addr} {lv:List Int} (hl:po z0 b1 b2 B la lv) (h3:lv.length≤3) (hT:T≤900) {a1 a2:Option Addr} {n1 c1 c2 lc:Nat} {x3 r:Int} {sch:List Int} (hs:Rd w a2 (is sch)) (hsi:∀ x ∈ sch,I64 x) (jj:List Value) {Q:Exit→List Value→World→Prop} (hret:∀ env w',Q .ret env w'=retQ prog fCO (RP w) .ret env w')
  (hQ:∀ jj z' T' B' ξ' X' base' bc' c' sq',CoS w w3 z' n fb p b1 b2 A χ rv T' B' ξ' X' base' bc' c' sq'→T'≤T+7→Q .normal (dW a1 n1 c1 a2 sch.length c2 x3 (some ⟨p,0,none⟩) ⟨b1,0,none⟩ ⟨b2,0,none⟩ r jj) z') :
  bX prog (.loop (sub (aD fCO) [1,1,1,1,1,1,0,1,0,0,1,0,0,1,1,0,0])) (bS a1 n1 c1 a2 sch.length c2 x3 (some ⟨p,0,none⟩) ⟨b1,0,none⟩ ⟨b2,0,none⟩ r la lv.length lc 0 jj) (aI 2 Q) z0:=by
 refine aQ mix (λq env z=>∃ (t:Nat) (la:Option Addr) (ll:Nat) (lv:List Int) (lc:Nat) (B:Nat→Prop) (ξ:Nat→Tag) (X:FabX) (base:Nat→Nat→Int) (bc:Nat→Int) (c:Nat→Nat) (sq:Nat→Int) (jj:List Value),q=7 - t∧t≤6∧ll=lv.length∧lv.length≤3∧(t≤3∨lv.length+t≤6)∧env=bS a1 n1 c1 a2 sch.length c2 x3 (some ⟨p,0,none⟩) ⟨b1,0,none⟩ ⟨b2,0,none⟩ r la ll lc t jj∧CoS w w3 z n fb p b1 b2 A χ rv (T+t) B ξ X base bc c sq∧po z b1 b2 B la lv) 7
  ⟨0,la,lv.length,lv,lc,B,ξ,X,base,bc,c,sq,_,rfl,by omega,rfl,h3,.inl (by omega),rfl,h,hl⟩ ?_
 clear h hl h3
 rintro q env z ⟨t,la,ll,lv,lc,B,ξ,X,base,bc,c,sq,jj2,rfl,ht6,rfl,h3,hor,rfl,h,hl⟩
 refine kD (P:=prog) (fn:=fCO) (R:=RP w) (λ_ _=>hret _ _) ?_
 rw [ic]
 refine aH (λhlt=>?_) (λhge=>?_)
 ·have h1:1≤lv.length:=by omega
  have ht5:t≤5:=by omega
  refine GB h hl ⟨h1,h3⟩ _ (λ_ _=>rfl) λjj z1 ap cap ts hkz hb2 hM=>?_
  refine jT ?_
  rw [gZ]
  refine kD (P:=prog) (fn:=fCO) (R:=RP w) (λ_ _=>rfl) ?_
  rw [iL]
  refine aH (λht2=>?_) (λht2=>?_)
  ·obtain ⟨g,cur,rfl,hbg,hcl⟩:=AA hM.own (by omega)
   have hcap:=hM.own.le
   refine nt (by omega) (by omega) (by omega) (by omega) (by omega) λxa hxa=>?_
   have hxa:xa=some ⟨g,0,none⟩:=(hxa.resolve_right λe=>absurd e.1 (by omega)).trans rfl
   subst hxa
   refine jT ?_
   refine kD (P:=prog) (fn:=fCO) (R:=RP w) (λ_ _=>rfl) ?_
   refine yE h hl ⟨h1,h3⟩ (by omega) hkz hb2 hM (m:=1) ⟨by omega,h1⟩ (by omega) hs hsi _ (λ_ _=>rfl) λjj z' ga gl gc ag B' ξ' X' base' bc' c' sq' hS' hl' hgl hag hdec=>?_
   refine pO (jT ?_)
   refine kD (P:=prog) (fn:=fCO) (R:=RP w) (λ_ _=>rfl) ?_
   rw [eK]
   rw [w64 (x:=(t:Int)+1) (by omega) (by omega)]
   exact ⟨7 - (t+1),by omega,t+1,ga,gl,ag,gc,B',ξ',X',base',bc',c',sq',_,rfl,by omega,hgl,by omega,(by have:=hdec rfl;omega),rfl,hS',hl'⟩
  ·refine jT ?_
   refine kD (P:=prog) (fn:=fCO) (R:=RP w) (λ_ _=>rfl) ?_
   refine yE h hl ⟨h1,h3⟩ (by omega) hkz hb2 hM (m:=lv.length) ⟨h1,Nat.le_refl _⟩ (by omega) hs hsi _ (λ_ _=>rfl) λjj z' ga gl gc ag B' ξ' X' base' bc' c' sq' hS' hl' hgl hag hdec=>?_
   refine pO (jT ?_)
   refine kD (P:=prog) (fn:=fCO) (R:=RP w) (λ_ _=>rfl) ?_
   rw [eK]
   rw [w64 (x:=(t:Int)+1) (by omega) (by omega)]
   exact ⟨7 - (t+1),by omega,t+1,ga,gl,ag,gc,B',ξ',X',base',bc',c',sq',_,rfl,by omega,hgl,by omega,(.inl (by omega)),rfl,hS',hl'⟩
 ·exact si (mC (hQ _ z (T+t) B ξ X base bc c sq h (by omega)))
end Go.Proofs.YtegepanmkjemjaaGreat
