import Derived.Test.YtegepanmkjemjaaGreatw26
set_option linter.unusedVariables false
namespace Go.Proofs.YtegepanmkjemjaaGreat
open Go.Eng
def mB (C:Comp):Nat:=if C.alive then 1 else 0
def Fab.al (F:Fab):Nat:=(F.clients.map mB).sum
def OB (F:Fab):Prop:=F.orphans.length+5 * F.al≤1000
theorem Bl:∀ {cs:List Comp} {i:Nat} {C C':Comp},cs[i]?=some C→((cs.set i C').map mB).sum+mB C=(cs.map mB).sum+mB C'
 | [],i,C,C',h=>by simp at h
 |a::cs,0,C,C',h=>by simp at h;subst h;simp;omega
 |a::cs,i+1,C,C',h=>by
  have:=Bl (cs:=cs) (i:=i) (C:=C) (C':=C') (by simpa using h)
  simp at this ⊢
  omega
structure Fine (F:Fab):Prop where
 good:Good F
 ob:OB F
theorem Fine.le {F:Fab} (h:Fine F):F.orphans.length≤1000:=by have:=h.ob;unfold OB at this;omega
theorem OB.setC {F:Fab} (h:OB F) {i:Nat} {C C':Comp} (hc:F.clients[i]?=some C) (ha:C'.alive=C.alive):OB { F with clients:=F.clients.set i C' }:=by
 have:=Bl (C':=C') hc
 have e:mB C'=mB C:=by unfold mB;rw [ha]
 unfold OB Fab.al at *
 dsimp only
 omega
theorem Fine.take {F:Fab} (h:Fine F) (c:Int):Fine (F.take c).2:=by
 refine ⟨h.good.take c,?_⟩
 unfold Fab.take
 cases hc:F.cl c with
 |none=>exact h.ob
 |some C=>
  obtain ⟨h0,h1⟩:=Fab.cl_some hc
  dsimp only
  split
  ·exact h.ob
  ·cases hb:C.batch with
   |none=>exact h.ob
   |some ds=>
    dsimp only
    split
    ·exact h.ob
    ·exact h.ob.setC h1 rfl
theorem Fine.post {F:Fab} (h:Fine F) (c:Int) (vs:List Verb):Fine (F.post c vs).2:=by
 refine ⟨h.good.post c vs,?_⟩
 unfold Fab.post
 cases hc:F.cl c with
 |none=>exact h.ob
 |some C=>
  obtain ⟨h0,h1⟩:=Fab.cl_some hc
  dsimp only
  repeat' split
  all_goals first | exact h.ob | exact h.ob.setC h1 (mW vs 0 C).1
theorem Fine.stepOrphan {F:Fab} (h:Fine F) (i:Nat):Fine (F.stepOrphan i).2:=by
 refine ⟨h.good.stepOrphan i,?_⟩
 unfold Fab.stepOrphan
 split
 ·exact h.ob
 ·split
  ·exact h.ob
  ·dsimp only
   have:=h.ob
   unfold OB Fab.al at *
   dsimp only
   have hl:∀ (x:Pair) (b:Prop) [Decidable b],(if b then F.orphans.eraseIdx i else F.orphans.set i x).length≤F.orphans.length:=by
    intro x b _
    split
    ·exact List.length_eraseIdx_le _ _
    ·simp
   exact Nat.le_trans (Nat.add_le_add_right (hl _ _) _) this
theorem Fine.step {F:Fab} (h:Fine F) (x:ez):Fine (F.step x).2:=by
 refine ⟨h.good.step x,?_⟩
 unfold Fab.step
 split
 ·exact (h.stepOrphan _).ob
 split
 ·exact h.ob
 split
 ·exact h.ob
 rename_i C hc
 obtain ⟨h0,h1⟩:=Fab.cl_some hc
 split
 ·exact h.ob
 split
 ·rename_i l n hl hn
  split
  ·exact h.ob
  dsimp only
  refine OB.setC (F:={ F with nodes:=_ }) h.ob h1 ?_
  cases (l.pair.step n).2.2<;>rfl
 ·exact h.ob
theorem Fine.drop {F:Fab} (h:Fine F) (c:Int):Fine (F.drop c).2:=by
 refine ⟨h.good.drop c,?_⟩
 unfold Fab.drop
 split
 ·exact h.ob
 ·have:=h.ob
  unfold OB Fab.al at *
  exact Nat.le_trans (Nat.add_le_add_right (List.length_eraseIdx_le _ _) _) this
theorem Fine.die {F:Fab} (h:Fine F) (c:Int):Fine (F.die c).2:=by
 refine ⟨h.good.die c,?_⟩
 unfold Fab.die
 cases hc:F.cl c with
 |none=>exact h.ob
 |some C=>
  obtain ⟨h0,h1⟩:=Fab.cl_some hc
  have hC:=h.good.ok.client _ _ h1
  dsimp only
  split
  ·exact h.ob
  ·rename_i ha
   have ha':C.alive=true:=by simpa using ha
   have h2:=Bl (C':={ C with alive:=false,lanes:=[],batch:=none,waiting:=0 }) h1
   have e1:mB C=1:=by unfold mB;rw [ha'];rfl
   have e2:mB { C with alive:=false,lanes:=[],batch:=none,waiting:=0 }=0:=rfl
   have e3:((C.lanes.map Lane.pair).filter (λp=>decide (0<p.verbs.length))).length≤C.lanes.length:=by
    have:=List.length_filter_le (λp:Pair=>decide (0<p.verbs.length)) (C.lanes.map Lane.pair)
    simpa using this
   have e4:C.lanes.length≤5:=by rw [hC.lanes,ha'];exact h.good.ok.nodes.2
   have:=h.ob
   unfold OB Fab.al at *
   dsimp only
   rw [List.length_append]
   omega
theorem Fine.setN {F:Fab} (h:Fine F) (i:Nat) {n':aP} (hn:n'.words.length=F.lines * 8):Fine { F with nodes:=F.nodes.set i n' }:=⟨h.good.setN i hn,h.ob⟩
theorem Fine.fresh {n c lines:Nat} (hn:1≤n∧n≤5) (hc:1≤c∧c≤6) (hl:98≤lines∧lines≤256):Fine (Fab.fresh n c lines):=by
 refine ⟨Good.fresh hn hc hl,?_⟩
 have:∀ (c:Nat),(((List.range c).map (nq n)).map mB).sum=c:=by
  intro c
  induction c with
  |zero=>rfl
  |succ c ih=>rw [List.range_succ,List.map_append,List.map_append,List.sum_append,ih];rfl
 unfold OB Fab.al
 show 0+5 * (((List.range c).map (nq n)).map mB).sum≤1000
 rw [this]
 omega
def ny (F:Fab) (sch:List Int) (n:Nat):Nat:=if n<sch.length then (sch.getD n 0 % (F.choices.length:Int)).toNat else 0
def rstep (F:Fab) (sch:List Int) (n:Nat):Bool×Fab:=match F.choices[ny F sch n]? with
 |none=>(false,F)
 |some x=>F.step x
theorem Fine.rstep {F:Fab} (h:Fine F) (sch:List Int) (n:Nat):Fine (rstep F sch n).2:=by
 unfold Go.Proofs.YtegepanmkjemjaaGreat.rstep
 split
 ·exact h
 ·exact h.step _
theorem zN {F:Fab} (h:vj F):F.choices.length≤30+F.orphans.length:=by
 unfold Fab.choices
 rw [List.length_append,kT]
 have h1:=kS (n:=5) 0 F.clients λC hC=>by
  obtain ⟨i,hi⟩:=List.mem_iff_getElem?.1 hC
  have h2:=(h.client i C hi).lanes
  have h3:=h.nodes.2
  split at h2<;>omega
 have h4:=h.clients.2
 omega
theorem E1 {A:Nat→Prop} {χ:Nat→Tag} {w:World} {fb:Nat} {X:FabX} (h:aY A χ w fb X) (hf:Fine X.pure) {sch:List Int} {sa:Option Addr} {sc:Nat} (hs:Rd w sa (is sch)) (hi:∀ x ∈ sch,I64 x) (n:Nat) :
  Does 45 [ptr fb,.slice sa sch.length sc,.int .i64 n] w λv w'=>v=.bool (rstep X.pure sch n).1∧dD A χ w fb (rstep X.pure sch n).2 w' λ_=>True:=by
 have hor:X.orphans.length≤100000000:=by have:=hf.le;simp [FabX.pure] at this;omega
 refine does Tryz.func45 ?_
 rw [ptr,rb]
 refine aE (AS h hf.good.ok hor) ?_
 rintro v w1 ⟨a,cap,rfl,hch⟩
 have hF1:=h.new hch.new
 refine ⟨_,_,_,rfl,bH (λh0=>?_) (λh0=>?_)⟩
 ·have hnil:X.pure.choices=[]:=List.eq_nil_of_length_eq_zero (by omega)
  have:rstep X.pure sch n=(false,X.pure):=by unfold rstep;rw [hnil];rfl
  rw [this]
  exact ⟨rfl,dD.same h hch.new trivial⟩
 ·refine aJ (λhp=>?_) (λhp=>?_)
  ·have hlt:n<sch.length:=by omega
   have hg:sch[n]?=some sch[n]:=List.getElem?_eq_getElem hlt
   have hgi:(is sch)[n]?=some (.int .i64 sch[n]):=by simp [is,hg]
   have hi64:=hi _ (List.mem_of_getElem? hg)
   rcases hs.new hch.new with he | ⟨b,o,rfl,hc⟩
   ·rw [he] at hgi;simp at hgi
   refine bB (by omega) (by omega) ⟨sch[n],by simpa using hc n _ hgi,?_⟩
   have hlen:X.pure.choices.length≤1000000000:=by
    have h1:=hf.le
    have h2:=zN hf.good.ok
    omega
   refine aE (fS _ _ _ hi64 (by omega)) ?_
   rintro v w2 ⟨rfl,rfl⟩
   have hpk:0≤sch[n] % (X.pure.choices.length:Int)∧sch[n] % (X.pure.choices.length:Int)<X.pure.choices.length:=⟨Int.emod_nonneg _ (by omega),Int.emod_lt_of_pos _ (by omega)⟩
   rw [if_neg (by omega)]
   refine ⟨_,rfl,?_⟩
   have hrp:ny X.pure sch n=(sch[n] % (X.pure.choices.length:Int)).toNat:=by
    unfold ny
    rw [if_pos hlt,List.getD_eq_getElem?_getD,hg]
    rfl
   have hcx:X.pure.choices[ny X.pure sch n]?=some X.pure.choices[ny X.pure sch n]:=List.getElem?_eq_getElem (by omega)
   have hst:rstep X.pure sch n=X.pure.step X.pure.choices[ny X.pure sch n]:=by unfold rstep;rw [hcx]
   obtain ⟨ba,oa,rfl,hca,_⟩:=hch.own.rd.row (uu _) (by omega) (uv hcx)
   refine bB hpk.1 hpk.2 ?_
   rw [←hrp]
   refine ⟨_,_,_,hca,?_⟩
   refine aE (AR hF1 hf.good.ok X.pure.choices[ny X.pure sch n]) ?_
   rintro v w3 ⟨rfl,hp3⟩
   rw [hst]
   exact ⟨_,rfl,rfl,dD.trans (h.refl hch.new) hp3⟩
  ·have hrp:ny X.pure sch n=0:=by unfold ny;rw [if_neg (by omega)]
   have hcx:X.pure.choices[0]?=some X.pure.choices[0]:=List.getElem?_eq_getElem (by omega)
   have hst:rstep X.pure sch n=X.pure.step X.pure.choices[0]:=by unfold rstep;rw [hrp,hcx]
   obtain ⟨ba,oa,rfl,hca,_⟩:=hch.own.rd.row (uu _) (by omega) (uv hcx)
   refine bB (by omega) (by omega) ?_
   refine ⟨_,_,_,hca,?_⟩
   refine aE (AR hF1 hf.good.ok X.pure.choices[0]) ?_
   rintro v w3 ⟨rfl,hp3⟩
   rw [hst]
   exact ⟨_,rfl,rfl,dD.trans (h.refl hch.new) hp3⟩
structure ko where
 at_:Int
 kind:Int
 a:Int
def ko.cells (e:ko):List Value:=[.int .i64 e.at_,.int .i64 e.kind,.int .i64 e.a]
def ko.val (e:ko):Value:=.agg e.cells.toArray
structure ko.Ok (e:ko):Prop where
 at_:I64 e.at_
 kind:I64 e.kind
 a:I64 e.a
def Fab.setN (F:Fab) (i:Nat) (f:aP→aP):Fab:=match F.nodes[i]? with
 |none=>F
 |some n=>{ F with nodes:=F.nodes.set i (f n) }
def E2 (n:aP):aP:={ n with down:=true }
def Bm (n:aP):aP:=n.back.1
theorem Bo (n:aP):(Bm n).words.length=n.words.length:=by
 unfold Bm aP.back
 split<;>simp
theorem Fine.setN' {F:Fab} (h:Fine F) (i:Nat) {f:aP→aP} (hf:∀ n,(f n).words.length=n.words.length):Fine (F.setN i f):=by
 unfold Fab.setN
 split
 ·exact h
 ·rename_i n hn
  exact h.setN i (by rw [hf];exact h.good.ok.words n (List.mem_of_getElem? hn))
def Fab.happen (F:Fab) (cs:List Int) (e:ko):Fab:=
 if e.kind % 4=0 then (if cs.length=0 then F else (F.die (cs.getD (e.a % (cs.length:Int)).toNat 0)).2)
 else if e.kind % 4=1 then F.setN (e.a % (F.nodes.length:Int)).toNat E2
 else if e.kind % 4=2 then F.setN (e.a % (F.nodes.length:Int)).toNat Bm
 else (F.drop (e.a % 3)).2
theorem Fine.happen {F:Fab} (h:Fine F) (cs:List Int) (e:ko):Fine (F.happen cs e):=by
 unfold Fab.happen
 split
 ·split
  ·exact h
  ·exact h.die _
 ·split
  ·exact h.setN' _ λ_=>rfl
  ·split
   ·exact h.setN' _ Bo
   ·exact h.drop _
theorem Gf {A:Nat→Prop} {χ:Nat→Tag} {w:World} {fb:Nat} {X:FabX} (h:aY A χ w fb X) {i:Nat} {x:kg} (hx:X.nodes[i]?=some x):Does 56 [ptr x.b] w λv w'=>v=.bool x.n.back.2∧dD A χ w fb (X.pure.setN i Bm) w' λ_=>True:=by
 refine aE (FK (h.node i x hx).node) ?_
 rintro v w1 ⟨rfl,hn,hk⟩
 obtain ⟨A',nx,hF⟩:=h.setNode hx hk hn
 refine ⟨_,rfl,rfl,A',χ,_,nx,hF,?_,trivial⟩
 have hp:X.pure.nodes[i]?=some x.n:=by simp [FabX.pure,hx]
 unfold Fab.setN
 rw [hp]
 simp [FabX.pure,List.map_set,Bm]
theorem Gg {A:Nat→Prop} {χ:Nat→Tag} {w:World} {fb:Nat} {X:FabX} (h:aY A χ w fb X) {i:Nat} {x:kg} (hx:X.nodes[i]?=some x):Does 55 [ptr x.b] w λv w'=>v=.tuple #[]∧dD A χ w fb (X.pure.setN i E2) w' λ_=>True:=by
 refine aE (FJ (h.node i x hx).node) ?_
 rintro v w1 ⟨rfl,hn,hk⟩
 obtain ⟨A',nx,hF⟩:=h.setNode hx (hk.mono λ_ _ e=>.inl e) hn
 refine ⟨_,rfl,rfl,A',χ,_,nx,hF,?_,trivial⟩
 have hp:X.pure.nodes[i]?=some x.n:=by simp [FabX.pure,hx]
 unfold Fab.setN
 rw [hp]
 simp [FabX.pure,List.map_set,E2]
theorem C8 {A:Nat→Prop} {χ:Nat→Tag} {w:World} {fb:Nat} {X:FabX} (h:aY A χ w fb X) (hf:Fine X.pure) {cs:List Int} {ca:Option Addr} {cc:Nat} (hs:Rd w ca (is cs)) (hcl:cs.length≤1000) {e:ko} (he:e.Ok) :
  Does 43 [ptr fb,.slice ca cs.length cc,e.val] w λv w'=>v=.tuple #[]∧dD A χ w fb (X.pure.happen cs e) w' λ_=>True:=by
 have hor:X.orphans.length≤100000000:=by have:=hf.le;simp [FabX.pure] at this;omega
 refine does Tryz.func43 ?_
 refine Eq.mpr (pG fb ca cs.length cc e.at_ e.kind e.a w _) ?_
 rintro b1 w1 hb1 hw1
 obtain ⟨hz,hn⟩:=aN hb1 hw1
 clear hw1
 have hF1:=h.new hn
 have hNN:X.pure.nodes.length=X.nodes.length:=jS X
 have hN1:=hf.good.ok.nodes
 rw [hNN] at hN1
 refine ⟨_,hz.cell (i:=1) rfl,?_⟩
 refine aE (fS _ _ _ he.kind (by omega)) ?_
 rintro v w2 ⟨rfl,rfl⟩
 rw [if_neg (by omega)]
 unfold Fab.happen
 refine ⟨_,rfl,bH (λh0=>?_) (λh0=>?_)⟩
 ·rw [if_pos h0]
  refine aJ (λhp=>?_) (λhp=>?_)
  ·have hc0:¬ cs.length=0:=by omega
   rw [if_neg hc0]
   refine ⟨_,hz.cell (i:=2) rfl,?_⟩
   refine aE (fS _ _ _ he.a (by omega)) ?_
   rintro v w3 ⟨rfl,rfl⟩
   rw [if_neg (by omega)]
   have hpk:0≤e.a % (cs.length:Int)∧e.a % (cs.length:Int)<cs.length:=⟨Int.emod_nonneg _ (by omega),Int.emod_lt_of_pos _ (by omega)⟩
   have hlt:(e.a % (cs.length:Int)).toNat<cs.length:=by omega
   have hg:cs[(e.a % (cs.length:Int)).toNat]?=some (cs.getD (e.a % (cs.length:Int)).toNat 0):=by
    rw [List.getD_eq_getElem?_getD,List.getElem?_eq_getElem hlt]
    rfl
   have hgi:(is cs)[(e.a % (cs.length:Int)).toNat]?=some (.int .i64 (cs.getD (e.a % (cs.length:Int)).toNat 0)):=by
    unfold is
    rw [List.getElem?_map,hg]
    rfl
   refine ⟨_,rfl,?_⟩
   rcases hs.new hn with hq | ⟨b,o,rfl,hc⟩
   ·rw [hq] at hgi;simp at hgi
   refine bB hpk.1 hpk.2 ⟨_,by simpa using hc _ _ hgi,?_⟩
   refine aE (GS hF1 hf.good.ok hor _) ?_
   rintro v w4 ⟨rfl,hp4⟩
   exact ⟨_,rfl,rfl,dD.trans (h.refl hn) hp4⟩
  ·have hc0:cs.length=0:=by omega
   rw [if_pos hc0]
   exact ⟨rfl,dD.same h hn trivial⟩
 rw [if_neg h0]
 refine bH (λh1=>?_) (λh1=>?_)
 ·rw [if_pos h1]
  rintro w5 hw5
  have hn5:New w2 w5:=by rw [hw5];exact aV _
  clear hw5
  refine ⟨λz=>New w2 z,hn5,_,λz hz'=>(New.blk hz' hz).cell (i:=2) rfl,?_⟩
  refine aE (vl (hF1.new hn5)) ?_
  rintro v w6 ⟨rfl,rfl⟩
  refine ⟨_,rfl,hn5,?_⟩
  refine aE (fS _ _ _ he.a (by omega)) ?_
  rintro v w6 ⟨rfl,rfl⟩
  rw [if_neg (by omega)]
  refine ⟨_,rfl,hn5,?_⟩
  have hpk:0≤e.a % (X.nodes.length:Int)∧e.a % (X.nodes.length:Int)<X.nodes.length:=⟨Int.emod_nonneg _ (by omega),Int.emod_lt_of_pos _ (by omega)⟩
  obtain ⟨i,hi⟩:=Int.eq_ofNat_of_zero_le hpk.1
  rw [hNN]
  rw [hi] at hpk ⊢
  obtain ⟨x,hx⟩:∃ x,X.nodes[i]?=some x:=⟨_,List.getElem?_eq_getElem (by omega)⟩
  refine aE (ot (hF1.new hn5) hx) ?_
  rintro v w6 ⟨rfl,rfl⟩
  refine ⟨_,rfl,hn5,jt rfl ?_⟩
  refine aE (Gg (hF1.new hn5) hx) ?_
  rintro v w7 ⟨rfl,hp7⟩
  exact ⟨rfl,rfl,dD.trans (h.refl (hn.new hn5)) hp7⟩
 rw [if_neg h1]
 refine bH (λh2=>?_) (λh2=>?_)
 ·rw [if_pos h2]
  rintro w5 hw5
  have hn5:New w2 w5:=by rw [hw5];exact aV _
  clear hw5
  refine ⟨λz=>New w2 z,hn5,_,λz hz'=>(New.blk hz' hz).cell (i:=2) rfl,?_⟩
  refine aE (vl (hF1.new hn5)) ?_
  rintro v w6 ⟨rfl,rfl⟩
  refine ⟨_,rfl,hn5,?_⟩
  refine aE (fS _ _ _ he.a (by omega)) ?_
  rintro v w6 ⟨rfl,rfl⟩
  rw [if_neg (by omega)]
  refine ⟨_,rfl,hn5,?_⟩
  have hpk:0≤e.a % (X.nodes.length:Int)∧e.a % (X.nodes.length:Int)<X.nodes.length:=⟨Int.emod_nonneg _ (by omega),Int.emod_lt_of_pos _ (by omega)⟩
  obtain ⟨i,hi⟩:=Int.eq_ofNat_of_zero_le hpk.1
  rw [hNN]
  rw [hi] at hpk ⊢
  obtain ⟨x,hx⟩:∃ x,X.nodes[i]?=some x:=⟨_,List.getElem?_eq_getElem (by omega)⟩
  refine aE (ot (hF1.new hn5) hx) ?_
  rintro v w6 ⟨rfl,rfl⟩
  refine ⟨_,rfl,hn5,jt rfl ?_⟩
  refine aE (Gf (hF1.new hn5) hx) ?_
  rintro v w7 ⟨rfl,hp7⟩
  exact ⟨_,rfl,rfl,dD.trans (h.refl (hn.new hn5)) hp7⟩
 rw [if_neg h2]
 refine ⟨_,hz.cell (i:=2) rfl,?_⟩
 refine aE (fS _ _ _ he.a (by omega)) ?_
 rintro v w3 ⟨rfl,rfl⟩
 rw [if_neg (by omega)]
 refine ⟨_,rfl,?_⟩
 refine aE (DZ hF1 _ (by omega)) ?_
 rintro v w4 ⟨rfl,hp4⟩
 exact ⟨_,rfl,rfl,dD.trans (h.refl hn) hp4⟩
end Go.Proofs.YtegepanmkjemjaaGreat
namespace Go.Proofs.YtegepanmkjemjaaGreat
open Go.Eng
structure Conv where
 J:Type
 O:Type
 next:J→List (List Done)→List Verb×O×Bool
structure Tk (c:Conv) where
 client:Int
 job:c.J
 got:List (List Done)
 over:Bool
 bad:Bool
 out:c.O
section
variable {c:Conv}
def Tk.told (t:Tk c):Tk c:={ t with over:=(c.next t.job t.got).2.2,out:=(c.next t.job t.got).2.1 }
def Tk.fed (t:Tk c):Option (List Done)→Tk c
 |none=>t
 |some d=>{ t with got:=t.got++[d] }
def Tk.fail (t:Tk c):Tk c:={ t with over:=true,bad:=true }
def sn (F:Fab) (t:Tk c):Fab×Tk c:=
 if 200<t.got.length then (F,t.fail) else if (c.next t.job t.got).2.2=true then (F,t.told)
 else if (F.post t.client (c.next t.job t.got).1).1≠0 then ((F.post t.client (c.next t.job t.got).1).2,t.told.fail) else ((F.post t.client (c.next t.job t.got).1).2,t.told)
def turn (F:Fab) (t:Tk c):Fab×Tk c:=
 if t.over=true∨F.alive t.client=false∨0<F.waiting t.client then (F,t) else sn (F.take t.client).2 (t.fed (F.take t.client).1)
def turns:Fab→List (Tk c)→Fab×List (Tk c)
 |F,[]=>(F,[])
 |F,t::ts=>((turns (turn F t).1 ts).1,(turn F t).2::(turns (turn F t).1 ts).2)
def happens (F:Fab) (cs:List Int) (n:Nat):List ko→Fab
 | []=>F
 |e::es=>happens (if e.at_ % 60=n then F.happen cs e else F) cs n es
def driveGo (cs sch:List Int) (es:List ko):Nat→Nat→Fab→List (Tk c)→Fab×List (Tk c)
 | 0,_,F,l=>(F,l)
 |f+1,n,F,l=>
  if (rstep (turns (happens F cs n es) l).1 sch n).1=true then driveGo cs sch es f (n+1) (rstep (turns (happens F cs n es) l).1 sch n).2 (turns (happens F cs n es) l).2
  else ((rstep (turns (happens F cs n es) l).1 sch n).2,(turns (happens F cs n es) l).2)
def drive (F:Fab) (l:List (Tk c)) (sch:List Int) (es:List ko) (most:Nat):Fab×List (Tk c):=
 turns (driveGo (l.map Tk.client) sch es most 0 F l).1 (driveGo (l.map Tk.client) sch es most 0 F l).2
def alone (F:Fab) (t:Tk c):Fab×List (Tk c):=drive F [t] [] [] 20000
theorem Fine.tail {F:Fab} (h:Fine F) (t:Tk c):Fine (sn F t).1:=by
 unfold sn
 split
 ·exact h
 ·split
  ·exact h
  ·split
   ·exact h.post _ _
   ·exact h.post _ _
theorem Fine.turn {F:Fab} (h:Fine F) (t:Tk c):Fine (turn F t).1:=by
 unfold Go.Proofs.YtegepanmkjemjaaGreat.turn
 split
 ·exact h
 ·exact (h.take _).tail _
theorem Fine.turns:∀ (l:List (Tk c)) {F:Fab},Fine F→Fine (turns F l).1
 | [],_,h=>h
 |t::l,F,h=>by
  unfold Go.Proofs.YtegepanmkjemjaaGreat.turns
  exact Fine.turns l (h.turn t)
theorem Fine.happens {cs:List Int} {n:Nat}:∀ (es:List ko) {F:Fab},Fine F→Fine (happens F cs n es)
 | [],F,h=>h
 |e::es,F,h=>by
  unfold Go.Proofs.YtegepanmkjemjaaGreat.happens
  refine Fine.happens es ?_
  split
  ·exact h.happen cs e
  ·exact h
theorem Fine.driveGo (cs sch:List Int) (es:List ko):∀ (f n:Nat) {F:Fab} (l:List (Tk c)),Fine F→Fine (driveGo cs sch es f n F l).1
 | 0,_,_,_,h=>h
 |f+1,n,F,l,h=>by
  unfold Go.Proofs.YtegepanmkjemjaaGreat.driveGo
  have h2:=(Fine.turns l (Fine.happens (cs:=cs) (n:=n) es h)).rstep sch n
  split
  ·exact Fine.driveGo cs sch es f (n+1) _ h2
  ·exact h2
theorem Fine.drive {F:Fab} (h:Fine F) (l:List (Tk c)) (sch:List Int) (es:List ko) (most:Nat):Fine (drive F l sch es most).1:=Fine.turns _ (Fine.driveGo _ _ _ _ _ _ h)
theorem Fine.alone {F:Fab} (h:Fine F) (t:Tk c):Fine (alone F t).1:=Fine.drive h _ _ _ _
def uf (t:Tk c):Prop:=t.over=false→t.got.length≤200
theorem zO {F:Fab} {t:Tk c}:uf (sn F t).2:=by
 unfold sn
 split
 ·intro e;cases e
 ·rename_i hc
  split
  ·intro _;show t.got.length≤200;omega
  ·split
   ·intro e;cases e
   ·intro _;show t.got.length≤200;omega
theorem zP {F:Fab} {t:Tk c} (h:uf t):uf (turn F t).2:=by
 unfold turn
 split
 ·exact h
 ·exact zO
structure TRo (F0:Fab) (l0:List (Tk c)) (i:Nat) (F:Fab) (l:List (Tk c)):Prop where
 fab:(turns F (l.drop i)).1=(turns F0 l0).1
 rest:l.take i++(turns F (l.drop i)).2=(turns F0 l0).2
 len:l.length=l0.length
theorem TRo.start (F:Fab) (l:List (Tk c)):TRo F l 0 F l:=⟨rfl,rfl,rfl⟩
theorem TRo.step {F0 F:Fab} {l0 l:List (Tk c)} {i:Nat} (h:TRo F0 l0 i F l) {t:Tk c} (hi:l[i]?=some t):TRo F0 l0 (i+1) (turn F t).1 (l.set i (turn F t).2):=by
 obtain ⟨hlt,he⟩:=List.getElem?_eq_some_iff.1 hi
 obtain ⟨h1,h2,h3⟩:=h
 rw [List.drop_eq_getElem_cons hlt,he,turns] at h1 h2
 refine ⟨?_,?_,by rw [List.length_set];exact h3⟩
 ·rw [List.drop_set_of_lt (by omega)]
  exact h1
 ·rw [List.drop_set_of_lt (by omega),←h2]
  rw [List.take_succ_eq_append_getElem (by simpa using hlt)]
  have e:List.take i (l.set i (turn F t).2)=List.take i l:=by
   apply List.ext_getElem?
   intro q
   rw [List.getElem?_take,List.getElem?_take]
   split
   ·rw [List.getElem?_set_ne (by omega)]
   ·rfl
  rw [e]
  simp
theorem TRo.done {F0 F:Fab} {l0 l:List (Tk c)} {i:Nat} (h:TRo F0 l0 i F l) (hi:i=l.length):turns F0 l0=(F,l):=by
 obtain ⟨h1,h2,h3⟩:=h
 subst hi
 rw [List.drop_length,turns] at h1 h2
 rw [List.take_length,List.append_nil] at h2
 exact Prod.ext h1.symm h2.symm
theorem qP:∀ (F:Fab) (l:List (Tk c)),(turns F l).2.length=l.length
 | _,[]=>rfl
 |F,t::ts=>by simp [turns,qP]
theorem tu (cs sch:List Int) (es:List ko):∀ (f n:Nat) (F:Fab) (l:List (Tk c)),(driveGo cs sch es f n F l).2.length=l.length
 | 0,_,_,_=>rfl
 |f+1,n,F,l=>by
  unfold driveGo
  split
  ·rw [tu,qP]
  ·exact qP _ _
theorem Bp (F:Fab) (t:Tk c):∃ t',(alone F t).2=[t']:=by
 have:(alone F t).2.length=1:=by unfold alone drive;rw [qP,tu];rfl
 exact List.length_eq_one_iff.1 this
end
theorem wU {F:Fab} {cs:List Int} {n:Nat}:∀ (a:List ko) (e:ko),happens F cs n (a++[e])=(if e.at_ % 60=n then (happens F cs n a).happen cs e else happens F cs n a):=by
 intro a
 induction a generalizing F with
 |nil=>intro e;rfl
 |cons x a ih=>intro e;rw [List.cons_append,happens,ih,happens]
def rA (es:List ko):List (List Value):=es.map ko.cells
theorem Bq (es:List ko):∀ r ∈ rA es,r.length=3:=by
 intro r hr
 simp only [rA,List.mem_map] at hr
 obtain ⟨x,_,rfl⟩:=hr
 rfl
theorem Br {es:List ko} {i:Nat} {x:ko} (h:es[i]?=some x):(rA es)[i]?=some x.cells:=by simp [rA,h]
def Dat (A:Nat→Prop) (u:World) (a:Option Addr) (xs:List Value):Prop:=Rd u a xs∧(xs=[]∨Off A a)
theorem Dat.keep {A A':Nat→Prop} {w w':World} {a:Option Addr} {xs:List Value} (h:Dat A w a xs) (hk:Keep A w w') (hM:∀ k,k<w.heap.size→A' k→A k):Dat A' w' a xs:=⟨h.1.keep hk h.2,Off.keep h.1 h.2 hM⟩
theorem Owns.putRow {w:World} {e sz n cap g:Nat} {rows:List (List Value)} (h:Owns w e sz (some ⟨g,0,none⟩) n cap rows.flatten) (hs:∀ r ∈ rows,r.length=sz) (hn:rows.length=n) {i:Nat} (hi:i<n) {vs:List Value} (hv:vs.length=sz) (h1:∀ v ∈ vs,single v=true) :
  wrAt w ⟨g,i * sz,none⟩ 0 vs∧Owns (puts w ⟨g,i * sz,none⟩ 0 vs) e sz (some ⟨g,0,none⟩) n cap (rows.set i vs).flatten:=by
 subst hn
 rcases h.2 with ⟨he,_⟩ | ⟨g',cur,he,hb,hc,hm,hl,ht⟩
 ·cases he
 ·simp at he
  subst he
  have hfl:=dQ hs
  have hin:i * sz+sz≤rows.length * sz:=by rw [←Nat.succ_mul];exact Nat.mul_le_mul_right _ hi
  have hnc:rows.length * sz≤cap * sz:=Nat.mul_le_mul_right _ hc
  refine ⟨bZ hb (by omega) h1,?_⟩
  have hp:=hb.puts (o:=i * sz) (i:=0) (vs:=vs)
  refine ⟨?_,.inr ⟨g,_,rfl,hp,hc,hm,?_,?_⟩⟩
  ·rw [dQ (sz:=sz),List.length_set]
   intro r hr
   rcases List.mem_or_eq_of_mem_set hr with h3 | rfl
   ·exact hs r h3
   ·exact hv
  ·rw [jW (by omega)]
   simp
   omega
  ·rw [←sM hs (by omega) hv,Nat.add_zero,jW (by omega),jW (by omega),←ht]
   apply List.ext_getElem?
   intro q
   simp only [List.getElem?_take,List.getElem?_append,List.length_take,List.length_append,List.getElem?_drop]
   repeat' split
   all_goals first | rfl | omega | (congr 1;omega) | skip
   all_goals first | rfl | (exfalso;omega) | skip
end Go.Proofs.YtegepanmkjemjaaGreat
namespace Go.Proofs.YtegepanmkjemjaaGreat
open Go.Eng
section
variable {S I:Type} (st:I→S→Option S) (ok:S→Prop)
inductive Norm:Nat→S→S→Prop
 |nil {s:S}:(∀ i,st i s=none)→Norm 0 s s
 |cons {k:Nat} {s s1 t:S} (i:I):st i s=some s1→Norm k s1 t→Norm (k+1) s t
structure x4:Prop where
 keep:∀ {i:I} {s s1:S},ok s→st i s=some s1→ok s1
 dia:∀ {i j:I} {s s1 s2:S},ok s→st i s=some s1→st j s=some s2→s1=s2∨∃ s3,st j s1=some s3∧st i s2=some s3
variable {st ok}
theorem Norm.after (hd:x4 st ok) {k:Nat} {s t:S} (h:Norm st k s t):∀ {s2:S} {j:I},ok s→st j s=some s2→∃ k',k=k'+1∧Norm st k' s2 t:=by
 induction h with
 |nil h=>intro s2 j hok hj;rw [h j] at hj;cases hj
 | @cons k s s1 t i h1 hn ih=>
  intro s2 j hok hj
  rcases hd.dia hok h1 hj with e | ⟨s3,h3,h4⟩
  ·subst e
   exact ⟨k,rfl,hn⟩
  ·obtain ⟨k',rfl,hn'⟩:=ih (hd.keep hok h1) h3
   exact ⟨k'+1,rfl,.cons i h4 hn'⟩
theorem Norm.end {k:Nat} {s t:S} (h:Norm st k s t):∀ i,st i t=none:=by
 induction h with
 |nil h=>exact h
 |cons i h1 hn ih=>exact ih
end
def stepL (c j:Nat) (F:Fab):Option Fab:=match F.clients[c]? with
 |none=>none
 |some C=>match C.lanes[j]?,F.nodes[j]? with
  |some l,some n=>if l.pair.verbs.length=0 then none else some { F with nodes:=F.nodes.set j (l.pair.step n).2.1,clients:=F.clients.set c (C.comes j l (l.pair.step n).1 (l.pair.step n).2.2) }
  | _,_=>none
theorem ef {c j:Nat} {F F':Fab}:stepL c j F=some F'↔∃ C l n,F.clients[c]?=some C∧C.lanes[j]?=some l∧F.nodes[j]?=some n∧l.pair.verbs.length≠0∧F'={ F with nodes:=F.nodes.set j (l.pair.step n).2.1,clients:=F.clients.set c (C.comes j l (l.pair.step n).1 (l.pair.step n).2.2) }:=by
 unfold stepL
 constructor
 ·intro h
  cases hC:F.clients[c]? with
  |none=>rw [hC] at h;cases h
  |some C=>
   rw [hC] at h
   simp only at h
   cases hl:C.lanes[j]? with
   |none=>rw [hl] at h;cases h
   |some l=>
    rw [hl] at h
    cases hn:F.nodes[j]? with
    |none=>rw [hn] at h;cases h
    |some n=>
     rw [hn] at h
     simp only at h
     split at h
     ·cases h
     ·rename_i hv
      exact ⟨C,l,n,rfl,hl,rfl,hv,(Option.some.inj h).symm⟩
 ·rintro ⟨C,l,n,hC,hl,hn,hv,rfl⟩
  rw [hC]
  simp only [hl,hn,if_neg hv]
theorem oL {c j:Nat} {F F':Fab} (h:stepL c j F=some F'):F.step ⟨-1,c,j⟩=(true,F'):=by
 obtain ⟨C,l,n,hC,hl,hn,hv,rfl⟩:=ef.1 h
 unfold Fab.step
 have h1:F.cl (c:Int)=some C:=by
  unfold Fab.cl
  rw [if_neg (by omega)]
  simpa using hC
 simp only [show ¬ (0:Int)≤-1 by omega,show ¬ (-1:Int) < -1 by omega,if_false,h1,show ¬ ((j:Nat):Int)<0 by omega,Int.toNat_natCast,hl,hn,if_neg hv]
structure pQ (C:Comp):Prop where
 len:∀ (i:Nat) (l:Lane),C.lanes[i]?=some l→l.places.length=l.pair.verbs.length
 apart:∀ (i j:Nat) (l l':Lane),i≠j→C.lanes[i]?=some l→C.lanes[j]?=some l'→∀ k ∈ l.places,k ∉ l'.places
theorem eE {C:Comp} {j:Nat} {l:Lane} {p:Pair} {d:Option Done} {i:Nat} (h:i≠j):(C.comes j l p d).lanes[i]?=C.lanes[i]?:=by
 cases d<;>simp [Comp.comes,List.getElem?_set_ne (λe=>h e.symm)]
theorem zQ {C:Comp} {i j:Nat} {l l':Lane} {p p':Pair} {d d':Option Done} (h:i≠j) (hp:d.isSome→d'.isSome→l.places.headD 0≠l'.places.headD 0):(C.comes i l p d).comes j l' p' d'=(C.comes j l' p' d').comes i l p d:=by
 cases d with
 |none=>cases d' with
  |none=>simp [Comp.comes,List.set_comm _ _ h]
  |some y=>simp [Comp.comes,List.set_comm _ _ h]
 |some x=>cases d' with
  |none=>simp [Comp.comes,List.set_comm _ _ h]
  |some y=>
   have h1:=hp rfl rfl
   unfold Comp.comes
   simp only [List.set_comm _ _ h]
   cases hb:C.batch with
   |none=>rfl
   |some ds=>
    simp only [Option.map_some]
    rw [List.set_comm _ _ h1]
theorem Gh (p:Pair) (n:aP):((p.step n).2.2=none∧(p.step n).1.verbs=p.verbs)∨(∃ d,(p.step n).2.2=some d∧(p.step n).1.verbs=p.verbs.tail):=by
 unfold Pair.step
 cases hv:p.verbs with
 |nil=>left;exact ⟨rfl,hv⟩
 |cons x xs=>
  simp only
  split
  ·right;exact ⟨_,rfl,by simp [Pair.done,hv]⟩
  ·split
   ·left;exact ⟨rfl,rfl⟩
   ·right;exact ⟨_,rfl,by simp [Pair.done,hv]⟩
theorem zR {C:Comp} {j:Nat} {l:Lane} {n:aP} (hl:C.lanes[j]?=some l):∃ l',(C.comes j l (l.pair.step n).1 (l.pair.step n).2.2).lanes[j]?=some l'∧((l'.places=l.places∧l'.pair.verbs=l.pair.verbs)∨(l'.places=l.places.tail∧l'.pair.verbs=l.pair.verbs.tail)):=by
 have hlt:=aO hl
 rcases Gh l.pair n with ⟨h1,h2⟩ | ⟨d,h1,h2⟩
 ·rw [h1]
  exact ⟨{ l with pair:=(l.pair.step n).1 },by simp only [Comp.comes];rw [List.getElem?_set_self hlt],.inl ⟨rfl,h2⟩⟩
 ·rw [h1]
  exact ⟨⟨(l.pair.step n).1,l.places.tail⟩,by simp only [Comp.comes];rw [List.getElem?_set_self hlt],.inr ⟨rfl,h2⟩⟩
theorem pQ.comes {C:Comp} {j:Nat} {l:Lane} {n:aP} (h:pQ C) (hl:C.lanes[j]?=some l):pQ (C.comes j l (l.pair.step n).1 (l.pair.step n).2.2):=by
 obtain ⟨l',hl',hc⟩:=zR (n:=n) hl
 have hsub:∀ k ∈ l'.places,k ∈ l.places:=λk hk=>by
  rcases hc with ⟨e,_⟩ | ⟨e,_⟩
  ·rw [e] at hk;exact hk
  ·rw [e] at hk;exact List.mem_of_mem_tail hk
 refine ⟨λi li hi=>?_,λi i' li li' hne hi hi' k hk=>?_⟩
 ·by_cases e:i=j
  ·subst e
   rw [hl'] at hi
   cases hi
   have hlen:=h.len i l hl
   rcases hc with ⟨e1,e2⟩ | ⟨e1,e2⟩
   ·rw [e1,e2,hlen]
   ·rw [e1,e2,List.length_tail,List.length_tail,hlen]
  ·rw [eE e] at hi
   exact h.len i li hi
 ·by_cases e:i=j
  ·subst e
   rw [hl'] at hi
   cases hi
   rw [eE (λe=>hne e.symm)] at hi'
   exact h.apart i i' l li' hne hl hi' k (hsub k hk)
  ·rw [eE e] at hi
   by_cases e':i'=j
   ·subst e'
    rw [hl'] at hi'
    cases hi'
    exact λhk'=>h.apart i i' li l hne hi hl k hk (hsub k hk')
   ·rw [eE e'] at hi'
    exact h.apart i i' li li' hne hi hi' k hk
def D1 (c:Nat) (F:Fab):Prop:=∀ C,F.clients[c]?=some C→pQ C
theorem wW (c:Nat):x4 (stepL c) (D1 c):=by
 refine ⟨λ{j F F1} hok h=>?_,λ{i j F F1 F2} hok h1 h2=>?_⟩
 ·obtain ⟨C,l,n,hC,hl,hn,hv,rfl⟩:=ef.1 h
  intro C' hC'
  have hlt:=aO hC
  simp only [List.getElem?_set_self hlt] at hC'
  cases hC'
  exact (hok C hC).comes hl
 ·by_cases e:i=j
  ·subst e
   rw [h1] at h2
   exact .inl (Option.some.inj h2)
  ·right
   obtain ⟨C,l,n,hC,hl,hn,hv,rfl⟩:=ef.1 h1
   obtain ⟨C',l',n',hC',hl',hn',hv',rfl⟩:=ef.1 h2
   rw [hC] at hC'
   cases hC'
   have hlt:=aO hC
   have hap:=hok C hC
   have hlen:=hap.len i l hl
   have hlen':=hap.len j l' hl'
   have hp:l.places.headD 0≠l'.places.headD 0:=by
    cases hx:l.places with
    |nil=>rw [hx] at hlen;exact absurd hlen.symm hv
    |cons x xs=>cases hy:l'.places with
     |nil=>rw [hy] at hlen';exact absurd hlen'.symm hv'
     |cons y ys=>
      intro e2
      have e2:x=y:=e2
      exact hap.apart i j l l' e hl hl' x (by rw [hx];exact List.mem_cons_self) (by rw [hy,e2];exact List.mem_cons_self)
   refine ⟨_,ef.2 ⟨_,l',n',List.getElem?_set_self hlt,by rw [eE (λe2=>e e2.symm)];exact hl',by simp only [List.getElem?_set_ne e];exact hn',hv',rfl⟩,ef.2 ⟨_,l,n,List.getElem?_set_self hlt,by rw [eE e];exact hl,by simp only [List.getElem?_set_ne (λe2=>e e2.symm)];exact hn,hv,?_⟩⟩
   simp only [List.set_set]
   rw [List.set_comm _ _ e,zQ e λ_ _=>hp]
end Go.Proofs.YtegepanmkjemjaaGreat
namespace Go.Proofs.YtegepanmkjemjaaGreat
open Go.Eng
theorem gF {x:ez} {i:Nat}:∀ {ls:List Lane} {j:Nat},x ∈ dF i j ls↔∃ q l,ls[q]?=some l∧0<l.pair.verbs.length∧x=⟨-1,i,(j+q:Nat)⟩
 | [],j=>by simp [dF]
 |l::ls,j=>by
  unfold dF
  rw [List.mem_append,gF (ls:=ls) (j:=j+1)]
  constructor
  ·rintro (h | ⟨q,l',h1,h2,h3⟩)
   ·split at h
    ·rename_i hv
     simp at h
     exact ⟨0,l,rfl,hv,by rw [h];simp⟩
    ·cases h
   ·exact ⟨q+1,l',by simpa using h1,h2,by rw [h3];congr 2;omega⟩
  ·rintro ⟨q,l',h1,h2,h3⟩
   cases q with
   |zero=>
    left
    simp at h1
    subst h1
    rw [if_pos h2,h3]
    simp
   |succ q=>exact .inr ⟨q,l',by simpa using h1,h2,by rw [h3];congr 2;omega⟩
theorem gG {x:ez}:∀ {cs:List Comp} {i:Nat},x ∈ cJ i cs↔∃ q C,cs[q]?=some C∧x ∈ dF (i+q) 0 C.lanes
 | [],i=>by simp [cJ]
 |C::cs,i=>by
  unfold cJ
  rw [List.mem_append,gG (cs:=cs) (i:=i+1)]
  constructor
  ·rintro (h | ⟨q,C',h1,h2⟩)
   ·exact ⟨0,C,rfl,h⟩
   ·exact ⟨q+1,C',by simpa using h1,by rw [show i+(q+1)=i+1+q by omega];exact h2⟩
  ·rintro ⟨q,C',h1,h2⟩
   cases q with
   |zero=>
    left
    simp at h1
    subst h1
    exact h2
   |succ q=>exact .inr ⟨q,C',by simpa using h1,by rw [show i+1+q=i+(q+1) by omega];exact h2⟩
structure Solo (c:Nat) (F:Fab):Prop where
 orph:F.orphans=[]
 idle:∀ (i:Nat) (C:Comp),i≠c→F.clients[i]?=some C→∀ (j:Nat) (l:Lane),C.lanes[j]?=some l→l.pair.verbs=[]
 apart:D1 c F
 lanes:∀ C,F.clients[c]?=some C→C.lanes.length≤F.nodes.length
theorem Solo.choice {c:Nat} {F:Fab} (h:Solo c F) {x:ez} (hx:x ∈ F.choices):∃ (j:Nat) (F':Fab),x=⟨-1,c,j⟩∧stepL c j F=some F':=by
 unfold Fab.choices at hx
 rw [h.orph] at hx
 rcases List.mem_append.1 hx with hx | hx
 ·obtain ⟨q,C,hC,hx⟩:=gG.1 hx
  obtain ⟨j,l,hl,hv,rfl⟩:=gF.1 hx
  rw [Nat.zero_add] at *
  by_cases e:q=c
  ·subst e
   have hlt:=aO hl
   have hlen:=h.lanes C hC
   exact ⟨j,_,by rw [Nat.zero_add],ef.2 ⟨C,l,F.nodes[j],hC,hl,List.getElem?_eq_getElem (by omega),by omega,rfl⟩⟩
  ·rw [h.idle q C e hC j l hl] at hv
   simp at hv
 ·simp [eO] at hx
theorem pR {c j:Nat} {F F':Fab} (h:stepL c j F=some F'):(⟨-1,c,j⟩:ez) ∈ F.choices:=by
 obtain ⟨C,l,n,hC,hl,hn,hv,rfl⟩:=ef.1 h
 unfold Fab.choices
 refine List.mem_append.2 (.inl (gG.2 ⟨c,C,hC,gF.2 ⟨j,l,hl,by omega,?_⟩⟩))
 simp
theorem Solo.rstep {c:Nat} {F:Fab} (h:Solo c F) (sch:List Int) (n:Nat):(rstep F sch n=(false,F)∧∀ j,stepL c j F=none)∨∃ j F',stepL c j F=some F'∧rstep F sch n=(true,F'):=by
 unfold Go.Proofs.YtegepanmkjemjaaGreat.rstep
 cases hx:F.choices[ny F sch n]? with
 |some x=>
  obtain ⟨j,F',rfl,hs⟩:=h.choice (List.mem_of_getElem? hx)
  exact .inr ⟨j,F',hs,oL hs⟩
 |none=>
  refine .inl ⟨rfl,λj=>?_⟩
  cases hs:stepL c j F with
  |none=>rfl
  |some F'=>
   have hm:=pR hs
   have hpos:0<F.choices.length:=List.length_pos_of_mem hm
   have hlt:ny F sch n<F.choices.length:=by
    unfold ny
    split
    ·have h1:=Int.emod_nonneg (sch.getD n 0) (b:=(F.choices.length:Int)) (by omega)
     have h2:=Int.emod_lt_of_pos (sch.getD n 0) (b:=(F.choices.length:Int)) (by omega)
     omega
    ·exact hpos
   rw [List.getElem?_eq_getElem hlt] at hx
   cases hx
end Go.Proofs.YtegepanmkjemjaaGreat
namespace Go.Proofs.YtegepanmkjemjaaGreat
open Go.Eng
def Below (C:Comp) (k:Nat):Prop:=∀ (i:Nat) (l:Lane),C.lanes[i]?=some l→∀ q ∈ l.places,q<k
theorem kW {C:Comp} {k:Nat} {v:Verb} {i:Nat} {l:Lane} (h:(C.postOne k v).lanes[i]?=some l):∃ l0,C.lanes[i]?=some l0∧((l.places=l0.places∧l.pair.verbs=l0.pair.verbs∧v.node.toNat≠i)∨(l.places=l0.places++[k]∧l.pair.verbs=l0.pair.verbs++[v]∧v.node.toNat=i)):=by
 unfold Comp.postOne at h
 simp only [List.getElem?_modify] at h
 cases hl:C.lanes[i]? with
 |none=>rw [hl] at h;simp at h
 |some l0=>
  rw [hl] at h
  refine ⟨l0,rfl,?_⟩
  by_cases e:v.node.toNat=i
  ·right
   simp [e] at h
   subst h
   exact ⟨rfl,rfl,e⟩
  ·left
   simp [e] at h
   subst h
   exact ⟨rfl,rfl,e⟩
theorem pQ.postOne {C:Comp} {k:Nat} {v:Verb} (h:pQ C) (hb:Below C k):pQ (C.postOne k v)∧Below (C.postOne k v) (k+1):=by
 refine ⟨⟨λi l hl=>?_,λi j l l' hne hl hl' q hq hq'=>?_⟩,λi l hl q hq=>?_⟩
 ·obtain ⟨l0,h0,hc⟩:=kW hl
  have hlen:=h.len i l0 h0
  rcases hc with ⟨e1,e2,_⟩ | ⟨e1,e2,_⟩
  ·rw [e1,e2,hlen]
  ·rw [e1,e2,List.length_append,List.length_append,hlen];rfl
 ·obtain ⟨l0,h0,hc⟩:=kW hl
  obtain ⟨l1,h1,hc'⟩:=kW hl'
  have hap:=h.apart i j l0 l1 hne h0 h1
  rcases hc with ⟨e1,_,e3⟩ | ⟨e1,_,e3⟩<;>rcases hc' with ⟨f1,_,f3⟩ | ⟨f1,_,f3⟩
  ·rw [e1] at hq;rw [f1] at hq';exact hap q hq hq'
  ·rw [e1] at hq;rw [f1] at hq'
   rcases List.mem_append.1 hq' with g | g
   ·exact hap q hq g
   ·simp at g
    have:=hb i l0 h0 q hq
    omega
  ·rw [e1] at hq;rw [f1] at hq'
   rcases List.mem_append.1 hq with g | g
   ·exact hap q g hq'
   ·simp at g
    have:=hb j l1 h1 q hq'
    omega
  ·exact hne (e3.symm.trans f3)
 ·obtain ⟨l0,h0,hc⟩:=kW hl
  rcases hc with ⟨e1,_,_⟩ | ⟨e1,_,_⟩
  ·rw [e1] at hq
   have:=hb i l0 h0 q hq
   omega
  ·rw [e1] at hq
   rcases List.mem_append.1 hq with g | g
   ·have:=hb i l0 h0 q g
    omega
   ·simp at g <;> omega
theorem pQ.postFrom:∀ (vs:List Verb) {C:Comp} {k:Nat},pQ C→Below C k→pQ (C.postFrom k vs)
 | [],C,k,h,hb=>h
 |v::vs,C,k,h,hb=>by
  obtain ⟨h1,h2⟩:=h.postOne (v:=v) hb
  exact pQ.postFrom vs h1 h2
theorem yE {C C':Comp} (h:pQ C) (e:C'.lanes=C.lanes):pQ C':=⟨by rw [e];exact h.len,by rw [e];exact h.apart⟩
theorem C9:∀ {ls:List Lane} {j:Nat} {l:Lane},ls[j]?=some l→l.pair.verbs≠[]→0<pend ls:=by
 intro ls j l hl hv
 rcases Nat.eq_zero_or_pos (pend ls) with e | e
 ·exact absurd (mA e l (List.mem_of_getElem? hl)) hv
 ·exact e
theorem qQ {cv:Conv} {F:Fab} {t:Tk cv} (h:0<F.waiting t.client):turn F t=(F,t):=by
 unfold turn
 rw [if_pos (.inr (.inr h))]
theorem zf {F:Fab} (hf:Fine F) {c j:Nat} {F':Fab} (h:stepL c j F=some F'):0<F.waiting c:=by
 obtain ⟨C,l,n,hC,hl,hn,hv,rfl⟩:=ef.1 h
 have hw:=(hf.good.ok.client c C hC).waiting
 have hp:=C9 hl (λe=>hv (by rw [e];rfl))
 unfold Fab.waiting
 have h1:F.cl (c:Int)=some C:=by
  unfold Fab.cl
  rw [if_neg (by omega)]
  simpa using hC
 rw [h1]
 show 0<C.waiting
 omega
end Go.Proofs.YtegepanmkjemjaaGreat
