import Derived.Test.YtgpmeaicjonenaaGreata31
set_option linter.unusedVariables false
namespace Go.Proofs.YtgpmeaicjonenaaGreat
open Go.Eng C12
def rk:Nat→Nat
 | 0=>106
 | 1=>70
 | 2=>65
 | 3=>13
 | 8=>700
 | _=>0
def cost (vs:List Verb):Nat:=(vs.map λv=>v.v.pieces.length).sum
theorem sA {k:Nat}:∀ {vs:List Verb},(∀ v ∈ vs,v.v.count.toNat≤k)→cost vs≤vs.length * k
 | [],_=>by simp [cost]
 |v::vs,h=>by
  have h1:=sA λu hu=>h u (List.mem_cons_of_mem _ hu)
  have h2:=h v List.mem_cons_self
  have h3:v.v.pieces.length≤v.v.count.toNat:=jD _ _ _
  unfold cost at h1 ⊢
  simp only [List.map_cons,List.sum_cons,List.length_cons]
  rw [Nat.succ_mul]
  omega
theorem AM:∀ {xs:List Int} {ds:List Done},eM xs ds=false→∀ (q:Nat) (x:Int) (d:Done),xs[q]?=some x→ds[q]?=some d→eA d=x
 | [],_,_,q,x,d,h1,_=>by simp at h1
 |y::xs,[],_,q,x,d,_,h2=>by simp at h2
 |y::xs,e::ds,h,q,x,d,h1,h2=>by
  unfold eM at h
  rw [Bool.or_eq_false_iff] at h
  cases q with
  |zero=>
   simp only [List.getElem?_cons_zero,Option.some.injEq] at h1 h2
   subst h1 h2
   simpa using h.1
  |succ q=>exact AM h.2 q x d (by simpa using h1) (by simpa using h2)
def noD:Nat→Option Done:=λ_=>none
theorem qJ {vs:List Verb} {v:Verb}:¬ Ex vs noD v:=λ⟨_,_,_,h⟩=>by cases h
theorem xf {vs:List Verb} {v:Verb} (h:v ∈ vs):Pe vs noD v:=by
 obtain ⟨q,hq⟩:=List.mem_iff_getElem?.1 h
 exact ⟨q,hq,rfl⟩
theorem Fk {vs:List Verb} {dn:Nat→Option Done} {v:Verb} (h:Pe vs dn v):v ∈ vs:=by
 obtain ⟨q,hq,_⟩:=h
 exact List.mem_of_getElem? hq
theorem Da {vs:List Verb} {dn:Nat→Option Done} {v:Verb} (h:Ex vs dn v):v ∈ vs:=by
 obtain ⟨q,_,hq,_⟩:=h
 exact List.mem_of_getElem? hq
def AllD (vs:List Verb) (dn:Nat→Option Done):Prop:=∀ q,q<vs.length→∃ d,dn q=some d
theorem AllD.no_pe {vs:List Verb} {dn:Nat→Option Done} (h:AllD vs dn) {v:Verb}:¬ Pe vs dn v:=λ⟨q,h1,h2⟩=>by
 obtain ⟨d,hd⟩:=h q (aN h1)
 rw [h2] at hd
 cases hd
theorem AllD.ex {vs:List Verb} {dn:Nat→Option Done} (h:AllD vs dn) {v:Verb} (hv:v ∈ vs):Ex vs dn v:=(xR hv).resolve_right h.no_pe
section
variable {E:Env} {i:Nat} {j:CJob}
structure Adv (E:Env) (i:Nat) (j:CJob) (s:CS) (G:List (List Done)) (s':CS):Prop where
 L:∀ p ∈ j.writes,Lk j i s' p↔Lk j i s p
 N:∀ p ∈ j.writes,∀ m,m<E.n→(Nw j s' m p↔Nw j s m p)
 K:∀ m,m<E.n→(Ck j i s' m↔Ck j i s m)
 go:(s'.ph≤5∧s'.dn=noD∧bZ j G=(vsOf j s',(0,0),false)∧vsOf j s'≠[]∧v9 j s' G∧cost (vsOf j s')+rk s'.ph≤rk s.ph)∨(s'.ph=6∧bZ j G=([],(0,3),true))∨(s'.ph=7∧bZ j G=([],(7,1),true))
 one:mn j s→mn j s'
 tr:s'.ph≠5→s'.ph≠7→(s.ph≠5∧s.ph≠7)∧(s'.ph≤5→trOf E.n s'.ph=trOf E.n s.ph+1∧trOf E.n s.ph≤5)∧(s'.ph=6→trOf E.n s'.ph=trOf E.n s.ph)
theorem xZ:∀ {xs:List Int} {ds:List Done},(∀ (q:Nat) (x:Int) (d:Done),xs[q]?=some x→ds[q]?=some d→eA d=x)→eM xs ds=false
 | [],_,_=>rfl
 | _::_,[],_=>rfl
 |x::xs,d::ds,h=>by
  unfold eM
  rw [Bool.or_eq_false_iff]
  exact ⟨by simpa using h 0 x d rfl rfl,xZ λq y e h1 h2=>h (q+1) y e (by simpa using h1) (by simpa using h2)⟩
theorem cG.mem_ne (h:cG E i j) (hn:1≤E.n):j.v.mem≠[]:=by
 rw [h.mem]
 intro e
 have:=congrArg List.length e
 simp at this <;> omega
theorem Cv (h:cG E i j) (hn:1≤E.n):fU j=[]→E.n=1:=λe=>by
 by_cases h2:1<E.n
 ·have:=(ux h (m:=1) (by omega) h2).2
  rw [e] at this
  cases this
 ·omega
theorem Cw (h:cG E i j) (hn:E.n=1):fU j=[]:=by
 rw [h.backL,hn]
 rfl
theorem AN (hE:eU E) (h:cG E i j):cost (fD j)≤555:=by
 have hl:=nA j.seq j.writes
 have hf:=h.few
 have h1:cost (fD j)≤(fD j).length * 111:=sA λv hv=>by
  rw [h.bodyE] at hv
  obtain ⟨m,_,rfl⟩:=List.mem_map.1 hv
  show ((ot j.seq j.writes).length:Int).toNat≤111
  omega
 have h2:(fD j).length=E.n:=by rw [h.bodyE];simp
 have:=hE.n
 rw [h2] at h1
 omega
theorem AO (hE:eU E) (h:cG E i j):cost (iP j)≤5:=by
 have h1:cost (iP j)≤(iP j).length * 1:=sA λv hv=>by
  rw [h.markE] at hv
  obtain ⟨m,_,rfl⟩:=List.mem_map.1 hv
  exact Nat.le_refl _
 have h2:(iP j).length=E.n:=by rw [h.markE];simp
 have:=hE.n
 omega
theorem AP (hE:eU E) (h:cG E i j):cost (aX j)≤36:=by
 have h1:cost (aX j)≤(aX j).length * 1:=sA λv hv=>by
  obtain ⟨q,hq⟩:=List.mem_iff_getElem?.1 hv
  rcases lw h hE.n.1 hq with ⟨p,_,_,rfl⟩ | ⟨s,_,rfl⟩
  ·exact Nat.le_refl _
  ·exact Nat.le_refl _
 have h2:(aX j).length=j.writes.length+j.reads.length:=by unfold aX;simp
 have:=h.few
 have:=h.rfew
 omega
theorem AQ (hE:eU E) (h:cG E i j) (D:List Done):cost (iQ j D)≤12:=by
 have h1:cost (iQ j D)≤(iQ j D).length * 1:=sA λv hv=>by
  obtain ⟨_,p,_,_,_,_,_,rfl⟩:=sx h hE.n.1 hv
  exact Nat.le_refl _
 have h2:=(pY (aX j) (dR j) D).length_le
 have h3:((aX j).filter λv=>v.kind == 3).length≤j.writes.length:=by
  rw [h.lockL hE.n.1,List.filter_append,List.length_append]
  have e2:((j.reads.map λs=>rV (s.Line * 8)).filter λv=>v.kind == 3)=[]:=by
   rw [List.filter_eq_nil_iff]
   intro v hv
   obtain ⟨p,_,rfl⟩:=List.mem_map.1 hv
   simp [rV]
  rw [e2]
  have:=List.length_filter_le (λv:Verb=>v.kind == 3) (j.writes.map λp=>cV (p.Line * 8) p.Head (eT p.Head i))
  simpa using this
 have:=h.few
 rw [List.length_map,List.length_map] at h2
 have h4:(iQ j D).length=(eO (aX j) (dR j) D).length:=rfl
 omega
theorem x8 (hE:eU E) (h:cG E i j):cost (finV j)≤13:=by
 have hf:=h.few
 have h0:∀ l:List aG,(∀ p ∈ l,p ∈ j.writes)→cost (l.map (pgV 0))≤l.length:=λl hl=>by
  induction l with
  |nil=>simp [cost]
  |cons p l ih=>
   have:=ih λq hq=>hl q (List.mem_cons_of_mem _ hq)
   unfold cost at this ⊢
   simp only [List.map_cons,List.sum_cons,List.length_cons]
   have hp:=h.pl (hl p List.mem_cons_self)
   have:(pgV 0 p).v.pieces=[(p.Line * 8,8)]:=fZ (v:=(pgV 0 p).v) (by show (1:Int)≤8;omega) (by show p.Line * 8 % 8+8≤8;omega) (by show 0≤p.Line * 8;omega)
   rw [this,List.length_singleton]
   omega
 have h1:=h0 j.writes λp hp=>hp
 rw [h.finL hE.n.1]
 unfold cost at h1 ⊢
 simp only [List.map_cons,List.sum_cons]
 have h6:=h.i6
 have:(ckV i j.seq 0).v.pieces=[(32+(i:Int),1)]:=fZ (v:=(ckV i j.seq 0).v) (by show (1:Int)≤1;omega) (by show (32+(i:Int)) % 8+1≤8;omega) (by show 0≤32+(i:Int);omega)
 rw [this,List.length_singleton]
 omega
theorem x9 (a b:List Verb):cost (a++b)=cost a+cost b:=by simp [cost]
theorem AR (hE:eU E) (h:cG E i j):cost (fU j)≤52:=by
 have hf:=h.few
 have h6:=h.i6
 have hpg:∀ (m:Nat) (l:List aG),(∀ p ∈ l,p ∈ j.writes)→cost (l.map (pgV m))≤l.length:=λm l hl=>by
  induction l with
  |nil=>simp [cost]
  |cons p l ih=>
   have:=ih λq hq=>hl q (List.mem_cons_of_mem _ hq)
   unfold cost at this ⊢
   simp only [List.map_cons,List.sum_cons,List.length_cons]
   have hp:=h.pl (hl p List.mem_cons_self)
   have:(pgV m p).v.pieces=[(p.Line * 8,8)]:=fZ (v:=(pgV m p).v) (by show (1:Int)≤8;omega) (by show p.Line * 8 % 8+8≤8;omega) (by show 0≤p.Line * 8;omega)
   rw [this,List.length_singleton]
   omega
 have hck:∀ m,cost [ckV i j.seq m]=1:=λm=>by
  have:(ckV i j.seq m).v.pieces=[(32+(i:Int),1)]:=fZ (v:=(ckV i j.seq m).v) (by show (1:Int)≤1;omega) (by show (32+(i:Int)) % 8+1≤8;omega) (by show 0≤32+(i:Int);omega)
  simp [cost,this]
 have hall:∀ k:Nat,cost ((List.range k).map λm=>j.writes.map (pgV (m+1))++[ckV i j.seq (m+1)]).flatten≤k * 13:=λk=>by
  induction k with
  |zero=>simp [cost]
  |succ k ih=>
   rw [List.range_succ,List.map_append,List.flatten_append,x9]
   simp only [List.map_cons,List.map_nil,List.flatten_cons,List.flatten_nil,List.append_nil]
   rw [x9,hck]
   have:=hpg (k+1) j.writes λp hp=>hp
   omega
 rw [h.backL]
 have:=hall (E.n - 1)
 have:=hE.n
 omega
variable (hE:eU E) (h:cG E i j)
include hE h
theorem adv8 {dn:Nat→Option Done} {D:List Done}:Adv E i j ⟨8,dn,D⟩ [] ⟨0,noD,[]⟩:=by
 refine ⟨λp _=>Iff.rfl,λp _ m _=>Iff.rfl,λm _=>Iff.rfl,.inl ⟨by show 0≤5;omega,rfl,E8 h.valid h.some_ (h.mem_ne hE.n.1),(qH h.valid h.some_ (h.mem_ne hE.n.1)).1,rfl,?_⟩,λ_=>⟨by show 0≠5;omega,by show 0≠7;omega,λe=>absurd e (by show ¬ 0=1;omega)⟩,λ_ _=>⟨⟨by show 8≠5;omega,by show 8≠7;omega⟩,λ_=>⟨rfl,by show 0≤5;omega⟩,λe=>(by cases e)⟩⟩
 have:=AN hE h
 show cost (fD j)+106≤700
 omega
theorem adv0 {dn:Nat→Option Done} {D:List Done} {G:List (List Done)} (hg:v9 j ⟨0,dn,D⟩ G) {ds:List Done} (hf:Fit (fD j) ds):Adv E i j ⟨0,dn,D⟩ (G++[ds]) ⟨1,noD,[]⟩:=by
 have hg:G=[]:=hg
 subst hg
 refine ⟨λp _=>⟨λ⟨_,_,_,e,_⟩=>(by cases e),λe=>e.elim⟩,λp _ m _=>Iff.rfl,λm _=>Iff.rfl,.inl ⟨by show 1≤5;omega,rfl,E9 h.valid h.some_ (h.mem_ne hE.n.1) hf,uu h.valid h.some_,⟨ds,rfl,hf⟩,?_⟩,λ_=>⟨by show 1≠5;omega,by show 1≠7;omega,λ_ q x d _ e=>by cases e⟩,λ_ _=>⟨⟨by show 0≠5;omega,by show 0≠7;omega⟩,λ_=>⟨rfl,by show 1≤5;omega⟩,λe=>(by cases e)⟩⟩
 have:=AP hE h
 show cost (aX j)+70≤106
 omega
theorem lk1 {dn:Nat→Option Done} {D ds:List Done} {p:aG} (hp:p ∈ j.writes) (hds:∀ q d,dn q=some d→ds[q]?=some d) (ha:AllD (aX j) dn):Lk j i ⟨1,dn,D⟩ p↔∃ (q:Nat) (d:Done),j.writes[q]?=some p∧ds[q]?=some d∧eA d=p.Head:=by
 constructor
 ·rintro ⟨r,d,h1,h2,h3⟩
  rcases lw h hE.n.1 h1 with ⟨p',hp',hq,e⟩ | ⟨s,_,e⟩
  ·have:=uw h hp hp' e
   subst this
   exact ⟨r,d,hq,hds r d h2,h3⟩
  ·exact absurd e Ed
 ·rintro ⟨q,d,h1,h2,h3⟩
  have hl:=ru h hE.n.1 h1
  obtain ⟨d',hd'⟩:=ha q (aN hl)
  have:=hds q d' hd'
  rw [h2] at this
  cases this
  exact ⟨q,d,hl,hd',h3⟩
theorem adv1 {dn:Nat→Option Done} {D:List Done} {G:List (List Done)} (hg:v9 j ⟨1,dn,D⟩ G) {ds:List Done} (hf:Fit (aX j) ds) (hds:∀ q d,dn q=some d→ds[q]?=some d) (ha:AllD (aX j) dn):∃ s',Adv E i j ⟨1,dn,D⟩ (G++[ds]) s':=by
 obtain ⟨d0,hG,h0⟩:=hg
 subst hG
 have hm:=h.mem_ne hE.n.1
 have hno:mn j ⟨1,dn,D⟩→eM (dR j) ds=false:=λg=>xZ λq x d h1 h2=>by
  have hlen:q<(aX j).length:=by rw [←hf.len];exact aN h2
  obtain ⟨d',hd'⟩:=ha q hlen
  have:=hds q d' hd'
  rw [h2] at this
  cases this
  exact g.2.2 rfl q x d h1 hd'
 cases hc:eM (dR j) ds with
 |false=>
  refine ⟨⟨2,noD,ds⟩,λp hp=>⟨λ_=>?_,λ_=>trivial⟩,λp _ m _=>Iff.rfl,λm _=>Iff.rfl,.inl ⟨by show 2≤5;omega,rfl,Fe h.valid h.some_ hm h0 hf hc,(qH h.valid h.some_ hm).2,⟨d0,rfl,h0,hf,hc⟩,?_⟩,λ_=>⟨by show 2≠5;omega,by show 2≠7;omega,λe=>absurd e (by show ¬ 2=1;omega)⟩,λ_ _=>⟨⟨by show 1≠5;omega,by show 1≠7;omega⟩,λ_=>⟨rfl,by show 2≤5;omega⟩,λe=>(by cases e)⟩⟩
  ·rw [lk1 hE h hp hds ha]
   obtain ⟨q,hq⟩:=List.mem_iff_getElem?.1 hp
   have hl:=ru h hE.n.1 hq
   obtain ⟨d,hd⟩:=ha q (aN hl)
   exact ⟨q,d,hq,hds q d hd,AM hc q _ d (uy h hq) (hds q d hd)⟩
  ·have:=AO hE h
   show cost (iP j)+65≤70
   omega
 |true=>
  have hun:∀ p ∈ j.writes,pX i p ∈ iQ j ds↔Lk j i ⟨1,dn,D⟩ p:=λp hp=>by
   rw [lk1 hE h hp hds ha]
   constructor
   ·intro hu
    obtain ⟨q,p',d,hp',g1,g2,g3,g4⟩:=sx h hE.n.1 hu
    have:=xS h hp hp' g4
    subst this
    exact ⟨q,d,g1,g2,g3⟩
   ·rintro ⟨q,d,g1,g2,g3⟩
    exact Cn h hE.n.1 g1 g2 g3
  by_cases hu:iQ j ds=[]
  ·refine ⟨⟨7,noD,ds⟩,λp hp=>⟨λe=>e.elim,λe=>?_⟩,λp _ m _=>Iff.rfl,λm _=>Iff.rfl,.inr (.inr ⟨rfl,Fb h.valid h.some_ hm h0 hf hc hu⟩),λg=>absurd (hno g) (by rw [hc];simp),λ_ e=>absurd rfl e⟩
   have:=(hun p hp).2 e
   rw [hu] at this
   cases this
  ·refine ⟨⟨5,noD,ds⟩,λp hp=>?_,λp _ m _=>Iff.rfl,λm _=>Iff.rfl,.inl ⟨by show 5≤5;omega,rfl,Fa h.valid h.some_ hm h0 hf hc hu,hu,⟨d0,rfl,h0,hf,hc,hu⟩,?_⟩,λg=>absurd (hno g) (by rw [hc];simp),λe _=>absurd rfl e⟩
   ·rw [←hun p hp]
    exact ⟨λe=>Fk e,λe=>xf e⟩
   ·have:=AQ hE h ds
    show cost (iQ j ds)+0≤70
    omega
theorem adv2 {dn:Nat→Option Done} {D:List Done} {G:List (List Done)} (hg:v9 j ⟨2,dn,D⟩ G) {ds:List Done} (hf:Fit (iP j) ds):∃ s',Adv E i j ⟨2,dn,D⟩ (G++[ds]) s':=by
 obtain ⟨d0,hG,h0,hD,hc⟩:=hg
 subst hG
 have hm:=h.mem_ne hE.n.1
 by_cases hb:fU j=[]
 ·have hn1:=Cv h hE.n.1 hb
  refine ⟨⟨4,noD,D⟩,λp hp=>⟨λ_=>trivial,λ_=>xf ((sv h hE.n.1).1 p hp)⟩,λp _ m hm'=>⟨λe=>?_,λe=>e.elim⟩,λm hm'=>⟨λe=>?_,λe=>e.elim⟩,.inl ⟨by show 4≤5;omega,rfl,Ea h.valid h.some_ hm h0 hD hc hf hb,tI h.valid h.some_ hm,.inr ⟨d0,ds,rfl,h0,hD,hc,hf,hb⟩,?_⟩,λ_=>⟨by show 4≠5;omega,by show 4≠7;omega,λe=>absurd e (by show ¬ 4=1;omega)⟩,λ_ _=>⟨⟨by show 2≠5;omega,by show 2≠7;omega⟩,λ_=>⟨by show (if E.n=1 then 4 else 5)=3+1;rw [if_pos hn1],by show 3≤5;omega⟩,λe=>(by cases e)⟩⟩
  ·rcases e with e | e
   ·omega
   ·exact (qJ e).elim
  ·rcases e with e | e
   ·omega
   ·exact (qJ e).elim
  ·have:=x8 hE h
   show cost (finV j)+0≤65
   omega
 ·refine ⟨⟨3,noD,D⟩,λp hp=>Iff.rfl,λp _ m _=>⟨λe=>(qJ e).elim,λe=>e.elim⟩,λm _=>⟨λe=>(qJ e).elim,λe=>e.elim⟩,.inl ⟨by show 3≤5;omega,rfl,Ff h.valid h.some_ hm h0 hD hc hf hb,hb,⟨d0,ds,rfl,h0,hD,hc,hf,hb⟩,?_⟩,λ_=>⟨by show 3≠5;omega,by show 3≠7;omega,λe=>absurd e (by show ¬ 3=1;omega)⟩,λ_ _=>⟨⟨by show 2≠5;omega,by show 2≠7;omega⟩,λ_=>⟨rfl,by show 3≤5;omega⟩,λe=>(by cases e)⟩⟩
  have:=AR hE h
  show cost (fU j)+13≤65
  omega
theorem adv3 {dn:Nat→Option Done} {D:List Done} {G:List (List Done)} (hg:v9 j ⟨3,dn,D⟩ G) {ds:List Done} (hf:Fit (fU j) ds) (ha:AllD (fU j) dn):∃ s',Adv E i j ⟨3,dn,D⟩ (G++[ds]) s':=by
 obtain ⟨d0,d2,hG,h0,hD,hc,h2,hb⟩:=hg
 subst hG
 have hm:=h.mem_ne hE.n.1
 refine ⟨⟨4,noD,D⟩,λp hp=>⟨λ_=>trivial,λ_=>xf ((sv h hE.n.1).1 p hp)⟩,λp hp m hm'=>⟨λe=>?_,λe=>?_⟩,λm hm'=>⟨λe=>?_,λe=>?_⟩,.inl ⟨by show 4≤5;omega,rfl,Fg h.valid h.some_ hm h0 hD hc h2 hb hf,tI h.valid h.some_ hm,.inl ⟨d0,d2,ds,rfl,h0,hD,hc,h2,hb,hf⟩,?_⟩,λ_=>⟨by show 4≠5;omega,by show 4≠7;omega,λe=>absurd e (by show ¬ 4=1;omega)⟩,λ_ _=>⟨⟨by show 3≠5;omega,by show 3≠7;omega⟩,λ_=>⟨by show (if E.n=1 then 4 else 5)=4+1;rw [if_neg λe=>hb (Cw h e)],by show 4≤5;omega⟩,λe=>(by cases e)⟩⟩
 ·rcases e with e | e
  ·exact ha.ex ((ux h e hm').1 p hp)
  ·exact (qJ e).elim
 ·obtain ⟨m',g1,_,g⟩:=su h (Da e)
  rcases g with ⟨p',hp',e2⟩ | e2
  ·exact .inl (by rw [(ss h hp hp' e2).1];exact g1)
  ·exact absurd e2 (v6 h hp _)
 ·rcases e with e | e
  ·exact ha.ex (ux h e hm').2
  ·exact (qJ e).elim
 ·obtain ⟨m',g1,_,g⟩:=su h (Da e)
  rcases g with ⟨p',hp',e2⟩ | e2
  ·exact absurd e2.symm (v6 h hp' _)
  ·exact .inl (by rw [AF e2];exact g1)
 ·have:=x8 hE h
  show cost (finV j)+0≤13
  omega
theorem adv4 {dn:Nat→Option Done} {D:List Done} {G:List (List Done)} (hg:v9 j ⟨4,dn,D⟩ G) {ds:List Done} (hf:Fit (finV j) ds) (ha:AllD (finV j) dn):∃ s',Adv E i j ⟨4,dn,D⟩ (G++[ds]) s':=by
 have hm:=h.mem_ne hE.n.1
 have hL:∀ p ∈ j.writes,Lk j i ⟨6,noD,D⟩ p↔Lk j i ⟨4,dn,D⟩ p:=λp hp=>⟨λe=>e.elim,λe=>(ha.no_pe e).elim⟩
 have hN:∀ p ∈ j.writes,∀ m,m<E.n→(Nw j ⟨6,noD,D⟩ m p↔Nw j ⟨4,dn,D⟩ m p):=λp hp m _=>⟨λ_=>by
  cases m with
  |zero=>exact .inr (ha.ex ((sv h hE.n.1).1 p hp))
  |succ m=>exact .inl (by omega),λ_=>trivial⟩
 have hK:∀ m,m<E.n→(Ck j i ⟨6,noD,D⟩ m↔Ck j i ⟨4,dn,D⟩ m):=λm _=>⟨λ_=>by
  cases m with
  |zero=>exact .inr (ha.ex (sv h hE.n.1).2)
  |succ m=>exact .inl (by omega),λ_=>trivial⟩
 rcases hg with ⟨d0,d2,d3,hG,h0,hD,hc,h2,hb,h3⟩ | ⟨d0,d2,hG,h0,hD,hc,h2,hb⟩
 ·subst hG
  exact ⟨⟨6,noD,D⟩,hL,hN,hK,.inr (.inl ⟨rfl,Fh h.valid h.some_ hm h0 hD hc h2 hb h3 hf⟩),λ_=>⟨by show 6≠5;omega,by show 6≠7;omega,λe=>absurd e (by show ¬ 6=1;omega)⟩,λ_ _=>⟨⟨by show 4≠5;omega,by show 4≠7;omega⟩,λe=>absurd e (by show ¬ 6≤5;omega),λ_=>rfl⟩⟩
 ·subst hG
  exact ⟨⟨6,noD,D⟩,hL,hN,hK,.inr (.inl ⟨rfl,Eb h.valid h.some_ hm h0 hD hc h2 hb hf⟩),λ_=>⟨by show 6≠5;omega,by show 6≠7;omega,λe=>absurd e (by show ¬ 6=1;omega)⟩,λ_ _=>⟨⟨by show 4≠5;omega,by show 4≠7;omega⟩,λe=>absurd e (by show ¬ 6≤5;omega),λ_=>rfl⟩⟩
theorem adv5 {dn:Nat→Option Done} {D:List Done} {G:List (List Done)} (hg:v9 j ⟨5,dn,D⟩ G) {ds:List Done} (hf:Fit (iQ j D) ds) (ha:AllD (iQ j D) dn):∃ s',Adv E i j ⟨5,dn,D⟩ (G++[ds]) s':=by
 obtain ⟨d0,hG,h0,hD,hc,hu⟩:=hg
 subst hG
 exact ⟨⟨7,noD,D⟩,λp hp=>⟨λe=>e.elim,λe=>(ha.no_pe e).elim⟩,λp _ m _=>Iff.rfl,λm _=>Iff.rfl,.inr (.inr ⟨rfl,Fc h.valid h.some_ (h.mem_ne hE.n.1) h0 hD hc hu hf⟩),λg=>absurd rfl g.1,λ_ e=>absurd rfl e⟩
end
end Go.Proofs.YtgpmeaicjonenaaGreat
namespace Go.Proofs.YtgpmeaicjonenaaGreat
open Go.Eng C12
theorem rx {α:Type} {l:List α} {i:Nat} {a:α} (h:l[i]?=some a):l.set i a=l:=by
 apply List.ext_getElem?
 intro k
 by_cases e:i=k
 ·subst e
  rw [List.getElem?_set_self (aN h),h]
 ·rw [List.getElem?_set_ne e]
def putC (F:Fab) (i:Nat) (C:Comp):Fab:={ F with clients:=F.clients.set i C }
theorem AS {F:Fab} {i:Nat} {C:Comp} (hC:F.clients[i]?=some C) (ha:C.alive=true) (hw:C.waiting=0):F.take (i:Int)=(C.batch,putC F i { C with batch:=none }):=by
 unfold Fab.take
 rw [ka,hC]
 simp only
 rw [if_neg (by rw [ha];simp)]
 cases hb:C.batch with
 |none=>
  have e:({ C with batch:=none }:Comp)=C:=by rw [←hb]
  simp only
  rw [e]
  unfold putC
  rw [rx hC]
 |some ds=>
  simp only
  rw [if_neg (by omega)]
  rfl
theorem sB {n L:Nat} {N:Int} (hN:(n:Int)=N) (hn:n≤5):∀ {vs:List Verb},(∀ v ∈ vs,VGo n L v)→eP N L vs=0
 | [],_=>rfl
 |v::vs,h=>by
  unfold eP
  rw [if_neg (by rw [(h v List.mem_cons_self).valid N (by omega) (by omega)];simp)]
  exact sB hN hn λu hu=>h u (List.mem_cons_of_mem _ hu)
theorem Ef {F:Fab} {i n L:Nat} {C:Comp} {vs:List Verb} (hC:F.clients[i]?=some C) (ha:C.alive=true) (hb:C.batch=none) (hv:vs≠[]) (hl:vs.length≤1024) (hn:F.nodes.length=n) (hn5:n≤5) (hL:F.lines=L) (hg:∀ v ∈ vs,VGo n L v):F.post (i:Int) vs=(0,putC F i (C.posted' vs)):=by
 unfold Fab.post
 rw [ka,hC]
 simp only
 rw [if_neg (by rw [ha];simp),if_neg (by rw [hb];simp),if_neg (λe=>hv (List.length_eq_zero_iff.1 e)),if_neg (by omega),if_neg]
 ·rfl
 ·rw [hL,sB (n:=n) (by rw [hn]) hn5 hg]
  simp
def kj {cv:Conv} (t:Tk cv) (C:Comp):List (List Done):=match C.batch with
 |none=>t.got
 |some ds=>t.got++[ds]
theorem AT {cv:Conv} (t:Tk cv) (C:Comp):t.fed C.batch={ t with got:=kj t C }:=by
 unfold kj Tk.fed
 cases C.batch<;>rfl
theorem wd {cv:Conv} {F:Fab} {i n L:Nat} {C:Comp} {t:Tk cv} (hC:F.clients[i]?=some C) (ha:C.alive=true) (hw:C.waiting=0) (hc:t.client=(i:Int)) (ho:t.over=false) (hgl:(kj t C).length≤200) {vs:List Verb} {o:cv.O} (hx:cv.next t.job (kj t C)=(vs,o,false)) (hv:vs≠[]) (hl:vs.length≤1024) (hn:F.nodes.length=n) (hn5:n≤5) (hL:F.lines=L) (hg:∀ v ∈ vs,VGo n L v) :
  turn F t=(putC F i (({ C with batch:=none }:Comp).posted' vs),{ t with got:=kj t C,over:=false,out:=o }):=by
 have hal:F.alive t.client=true:=by unfold Fab.alive;rw [hc,ka,hC];exact ha
 have hwt:F.waiting t.client=0:=by unfold Fab.waiting;rw [hc,ka,hC];exact hw
 unfold turn
 rw [if_neg (by rw [ho,hal,hwt];simp),hc,AS hC ha hw]
 simp only
 rw [AT]
 unfold oW
 simp only
 rw [if_neg (by omega),hx]
 simp only
 rw [if_neg (by simp),hc]
 have hC0:(putC F i { C with batch:=none }).clients[i]?=some { C with batch:=none }:=List.getElem?_set_self (aN hC)
 rw [Ef (F:=putC F i { C with batch:=none }) hC0 ha rfl hv hl hn hn5 hL hg]
 rw [if_neg (by simp)]
 unfold Tk.told
 simp only
 rw [hx]
 unfold putC
 simp only [List.set_set]
theorem we {cv:Conv} {F:Fab} {i:Nat} {C:Comp} {t:Tk cv} (hC:F.clients[i]?=some C) (ha:C.alive=true) (hw:C.waiting=0) (hc:t.client=(i:Int)) (ho:t.over=false) (hgl:(kj t C).length≤200) {o:cv.O} (hx:cv.next t.job (kj t C)=([],o,true)) :
  turn F t=(putC F i { C with batch:=none },{ t with got:=kj t C,over:=true,out:=o }):=by
 have hal:F.alive t.client=true:=by unfold Fab.alive;rw [hc,ka,hC];exact ha
 have hwt:F.waiting t.client=0:=by unfold Fab.waiting;rw [hc,ka,hC];exact hw
 unfold turn
 rw [if_neg (by rw [ho,hal,hwt];simp),hc,AS hC ha hw]
 simp only
 rw [AT]
 unfold oW
 simp only
 rw [if_neg (by omega),hx]
 simp only
 rw [if_pos trivial]
 unfold Tk.told
 simp only
 rw [hx,hc]
theorem Eg {C:Comp} {k:Nat} {v:Verb} (he:∀ (m:Nat) (l:Lane),C.lanes[m]?=some l→l.pair.executed=0) (hn:v.node.toNat<C.lanes.length):pcs (C.postOne k v)=pcs C+v.v.pieces.length∧∀ (m:Nat) (l:Lane),(C.postOne k v).lanes[m]?=some l→l.pair.executed=0:=by
 have hget:∀ m,(C.postOne k v).lanes[m]?=(C.lanes[m]?).map λl=>if v.node.toNat=m then (⟨{ l.pair with verbs:=l.pair.verbs++[v] },l.places++[k]⟩:Lane) else l:=λm=>by
  unfold Comp.postOne
  simp only [List.getElem?_modify]
  cases C.lanes[m]? with
  |none=>rfl
  |some l=>by_cases e:v.node.toNat=m<;>simp [e]
 obtain ⟨l0,hl0⟩:∃ l,C.lanes[v.node.toNat]?=some l:=⟨_,List.getElem?_eq_getElem hn⟩
 have hset:(C.postOne k v).lanes.map plen=(C.lanes.map plen).set v.node.toNat (plen l0+v.v.pieces.length):=by
  apply List.ext_getElem?
  intro m
  rw [List.getElem?_map,hget]
  by_cases e:v.node.toNat=m
  ·subst e
   rw [List.getElem?_set_self (by simpa using hn),hl0]
   simp only [Option.map_some,if_true]
   congr 1
   have:=he _ l0 hl0
   unfold plen
   simp [this]
  ·rw [List.getElem?_set_ne e,List.getElem?_map]
   cases C.lanes[m]? with
   |none=>rfl
   |some l=>simp [e]
 refine ⟨?_,λm l hm=>?_⟩
 ·unfold pcs
  rw [hset]
  have:=uF (l:=C.lanes.map plen) (i:=v.node.toNat) (a:=plen l0) (b:=plen l0+v.v.pieces.length) (by rw [List.getElem?_map,hl0];rfl)
  omega
 ·rw [hget] at hm
  cases hc:C.lanes[m]? with
  |none=>rw [hc] at hm;cases hm
  |some l1=>
   rw [hc] at hm
   simp only [Option.map_some,Option.some.injEq] at hm
   subst hm
   have:=he m l1 hc
   split
   ·exact this
   ·exact this
theorem uG:∀ (vs:List Verb) {C:Comp} {k:Nat},(∀ (m:Nat) (l:Lane),C.lanes[m]?=some l→l.pair.executed=0)→(∀ v ∈ vs,v.node.toNat<C.lanes.length)→pcs (C.postFrom k vs)=pcs C+cost vs
 | [],C,k,he,hn=>by simp [Comp.postFrom,cost]
 |v::vs,C,k,he,hn=>by
  obtain ⟨h1,h2⟩:=Eg (k:=k) he (hn v List.mem_cons_self)
  have hl:(C.postOne k v).lanes.length=C.lanes.length:=by simp [Comp.postOne]
  have:=uG vs (k:=k+1) h2 (λu hu=>by rw [hl];exact hn u (List.mem_cons_of_mem _ hu))
  show pcs ((C.postOne k v).postFrom (k+1) vs)=_
  rw [this,h1]
  unfold cost
  simp only [List.map_cons,List.sum_cons]
  omega
theorem qK:∀ (vs:List Verb) {C:Comp} {k m:Nat} {l:Lane},(C.postFrom k vs).lanes[m]?=some l→∃ l0,C.lanes[m]?=some l0∧l.pair.words=l0.pair.words
 | [],C,k,m,l,h=>⟨l,h,rfl⟩
 |v::vs,C,k,m,l,h=>by
  obtain ⟨l1,h1,e1⟩:=qK vs (C:=C.postOne k v) (k:=k+1) h
  unfold Comp.postOne at h1
  simp only [List.getElem?_modify] at h1
  cases hc:C.lanes[m]? with
  |none=>rw [hc] at h1;simp at h1
  |some l0=>
   rw [hc] at h1
   refine ⟨l0,rfl,e1.trans ?_⟩
   by_cases e:v.node.toNat=m
   ·simp [e] at h1
    subst h1
    rfl
   ·simp [e] at h1
    subst h1
    rfl
theorem qL:∀ (vs:List Verb) (C:Comp) (k:Nat),(C.postFrom k vs).lanes.length=C.lanes.length∧(C.postFrom k vs).inc=C.inc
 | [],C,k=>⟨rfl,rfl⟩
 |v::vs,C,k=>by
  obtain ⟨h1,h2⟩:=qL vs (C.postOne k v) (k+1)
  exact ⟨h1.trans (by simp [Comp.postOne]),h2⟩
theorem kJ {C:Comp} (h:hO C):pcs C=0:=by
 unfold pcs
 have:∀ ls:List Lane,(∀ l ∈ ls,l.pair.verbs=[])→(ls.map plen).sum=0:=λls=>by
  induction ls with
  |nil=>intro _;rfl
  |cons l ls ih=>
   intro hl
   rw [List.map_cons,List.sum_cons,ih λx hx=>hl x (List.mem_cons_of_mem _ hx)]
   unfold plen
   rw [hl l List.mem_cons_self]
   simp
 exact this C.lanes λl hl=>by
  obtain ⟨k,hk⟩:=List.mem_iff_getElem?.1 hl
  exact h k l hk
theorem gy.ghost {E:Env} {ns:List aP} {S:Nat→CS} {i:Nat} {s:CS} (h:gy E ns S) (hE:eU E) (hi:E.on i) (hL:∀ p ∈ (E.J i).writes,Lk (E.J i) i s p↔Lk (E.J i) i (S i) p) (hN:∀ p ∈ (E.J i).writes,∀ m,m<E.n→(Nw (E.J i) s m p↔Nw (E.J i) (S i) m p)) (hK:∀ m,m<E.n→(Ck (E.J i) i s m↔Ck (E.J i) i (S i) m)):gy E ns (updS S i s):=by
 have hn:=hE.n
 have hlen:=h.len
 obtain ⟨x,hx⟩:∃ x,ns[0]?=some x:=⟨_,List.getElem?_eq_getElem (by omega)⟩
 have:=h.idle hi hx (h.fix 0 x hx) (λ_ _ _ _ _=>rfl) (λ_ _=>rfl) hE hL hN hK
 rwa [rx hx] at this
theorem Fl {E:Env} (hE:eU E) {i:Nat} {j:CJob} (hj:cG E i j) {s:CS} (h5:s.ph≤5):(∀ v ∈ vsOf j s,VGo E.n E.L v)∧(vsOf j s).length≤1024:=by
 have hn1:=hE.n
 have hf:=hj.few
 have hrf:=hj.rfew
 obtain ⟨ph,dn,D⟩:=s
 have hcl:(aX j).length=j.writes.length+j.reads.length:=by unfold aX;simp
 rcases ph with _ | _ | _ | _ | _ | _ | ph
 ·refine ⟨λv hv=>?_,?_⟩
  ·have hv:v ∈ fD j:=hv
   rw [hj.bodyE] at hv
   obtain ⟨m,hm,rfl⟩:=List.mem_map.1 hv
   exact (qI hE hj (List.mem_range.1 hm)).1
  ·show (fD j).length≤1024
   rw [hj.bodyE]
   simp
   omega
 ·refine ⟨λv hv=>?_,?_⟩
  ·obtain ⟨q,hq⟩:=List.mem_iff_getElem?.1 hv
   rcases lw hj hn1.1 hq with ⟨p,hp,_,rfl⟩ | ⟨s,hs,rfl⟩
   ·exact oX hE hj hp _ _
   ·exact xV hE hj hs
  ·show (aX j).length≤1024
   omega
 ·refine ⟨λv hv=>?_,?_⟩
  ·have hv:v ∈ iP j:=hv
   rw [hj.markE] at hv
   obtain ⟨m,hm,rfl⟩:=List.mem_map.1 hv
   exact (qI hE hj (List.mem_range.1 hm)).2
  ·show (iP j).length≤1024
   rw [hj.markE]
   simp
   omega
 ·refine ⟨λv hv=>?_,?_⟩
  ·obtain ⟨m',g1,g2,g⟩:=su hj hv
   rcases g with ⟨p,hp,rfl⟩ | rfl
   ·exact tJ hE hj g2 hp
   ·exact tK hE hj g2 _
  ·show (fU j).length≤1024
   have:∀ ms:List aE,((ms.map (memV j)).flatten).length≤ms.length * 13:=λms=>by
    induction ms with
    |nil=>simp
    |cons m ms ih=>
     have:=xL j m
     simp only [List.map_cons,List.flatten_cons,List.length_append,List.length_cons]
     omega
   have h1:=this j.v.mem.tail
   have h2:j.v.mem.tail.length≤4:=by rw [hj.tail];simp;omega
   unfold fU
   omega
 ·refine ⟨λv hv=>?_,?_⟩
  ·rcases AG hj hn1.1 hv with rfl | ⟨p,hp,rfl⟩
   ·exact tK hE hj (by omega) _
   ·exact tJ hE hj (by omega) hp
  ·show (finV j).length≤1024
   rw [hj.finL hn1.1]
   simp
   omega
 ·refine ⟨λv hv=>?_,?_⟩
  ·obtain ⟨_,p,_,hp,_,_,_,rfl⟩:=sx hj hn1.1 hv
   exact oX hE hj hp _ _
  ·show (iQ j D).length≤1024
   have h2:=(pY (aX j) (dR j) D).length_le
   have h3:=List.length_filter_le (λv:Verb=>v.kind == 3) (aX j)
   rw [List.length_map,List.length_map] at h2
   have h4:(iQ j D).length=(eO (aX j) (dR j) D).length:=rfl
   omega
 ·exact absurd h5 (by show ¬ (ph+6≤5);omega)
def Prog (F:Fab) (i:Nat) (s:CS):Prop:=s.ph=6∨s.ph=7∨(s.ph≤5∧∃ C,F.clients[i]?=some C∧¬ hO C)
def eK (F:Fab) (i:Nat):Nat:=match F.clients[i]? with
 |some C=>pcs C
 |none=>0
structure AU (E:Env) (F:Fab) (t:Tk conv) (S:Nat→CS) (i:Nat) (F':Fab) (t':Tk conv) (s':CS):Prop where
 nodes:F'.nodes=F.nodes
 lines:F'.lines=F.lines
 orph:F'.orphans=F.orphans
 other:∀ k,k≠i→F'.clients[k]?=F.clients[k]?
 cli:∃ C,F'.clients[i]?=some C∧Ee E i C t' s'
 mem:gy E F.nodes (updS S i s')
 wt:eK F' i+rk s'.ph≤eK F i+rk (S i).ph
 prog:Prog F' i s'
 stay:(S i).ph=6∨(S i).ph=7→s'=S i∧F'=F
 one:mn (E.J i) (S i)→mn (E.J i) s'
theorem turned {E:Env} (hE:eU E) {F:Fab} {ts:List (Tk conv)} {S:Nat→CS} (h:Inv E F ts S) {i k0:Nat} (hk0:E.ids[k0]?=some i) {t:Tk conv} (ht:ts[k0]?=some t):∃ s',AU E F t S i (turn F t).1 (turn F t).2 s':=by
 have hi:E.on i:=List.mem_of_getElem? hk0
 obtain ⟨C,t0,hC,ht0,hc⟩:=h.cli i hi
 have ht0:=ht0 k0 hk0
 rw [ht] at ht0
 cases ht0
 have hj:=hE.job i hi
 have hlt:=aN hC
 have hco:=h.fine.good.ok.client i C hC
 have hpa:eK F i=pcs C:=by unfold eK;rw [hC]
 have hidle:turn F t=(F,t)→(S i).ph≠8→((S i).ph≤5→¬ hO C)→∃ s',AU E F t S i (turn F t).1 (turn F t).2 s':=λe hne hq=>by
  rw [e]
  refine ⟨S i,rfl,rfl,rfl,λ_ _=>rfl,⟨C,hC,hc⟩,?_,Nat.le_refl _,?_,λ_=>⟨rfl,rfl⟩,id⟩
  ·have:updS S i (S i)=S:=by funext k;unfold updS;split<;>simp_all
   rw [this]
   exact h.mem
  ·have:=hc.ph
   by_cases h5:(S i).ph≤5
   ·exact .inr (.inr ⟨h5,C,hC,hq h5⟩)
   ·by_cases h6:(S i).ph=6
    ·exact .inl h6
    ·exact .inr (.inl (by omega))
 have hmove:∀ {s':CS},Adv E i (E.J i) (S i) (kj t C) s'→t.over=false→hO C→(kj t C).length≤200→((S i).ph≠6∧(S i).ph≠7)→∃ s',AU E F t S i (turn F t).1 (turn F t).2 s':=λ{s'} ha ho hq hgl hne=>by
  have hpl:∀ (k:Nat) (l:Lane),C.lanes[k]?=some l→l.pair.verbs=[]∧l.places=[]∧l.pair.executed=0∧l.pair.words=[]:=λk l hl=>by
   have hv:=hq k l hl
   have h1:=(hco.lane k l hl).places
   rw [hv] at h1
   have hP:=h.fine.good.cl C (List.mem_of_getElem? hC) l (List.mem_of_getElem? hl)
   exact ⟨hv,List.length_eq_zero_iff.1 h1,hP.idle hv,hP.zero (hP.idle hv)⟩
  have hw:C.waiting=0:=by
   rw [hco.waiting]
   unfold pend
   have:∀ ls:List Lane,(∀ l ∈ ls,l.pair.verbs=[])→(ls.map λl=>l.pair.verbs.length).sum=0:=λls=>by
    induction ls with
    |nil=>intro _;rfl
    |cons l ls ih=>
     intro hl
     rw [List.map_cons,List.sum_cons,ih λx hx=>hl x (List.mem_cons_of_mem _ hx),hl l List.mem_cons_self]
     rfl
   exact this C.lanes λl hl=>by
    obtain ⟨k,hk⟩:=List.mem_iff_getElem?.1 hl
    exact hq k l hk
  have hmem:=h.mem.ghost hE hi ha.L ha.N ha.K
  have hq0:pcs C=0:=kJ hq
  have hjob:=hc.job
  have htr:=hc.trips
  rcases ha.go with ⟨g1,g2,g3,g4,g5,g6⟩ | ⟨g1,g2⟩ | ⟨g1,g2⟩
  ·obtain ⟨hgo,hlen⟩:=Fl hE hj g1
   have g3:bZ t.job (kj t C)=(vsOf (E.J i) s',(0,0),false):=by rw [hjob];exact g3
   have htn:=wd (n:=E.n) (L:=E.L) hC hc.live hw hc.cl ho hgl g3 g4 hlen h.mem.len hE.n.2 h.lines hgo
   rw [htn]
   have hnode:∀ v ∈ vsOf (E.J i) s',v.node.toNat<({ C with batch:=none }:Comp).lanes.length:=λv hv=>by
    have:=(hgo v hv).node
    show _<C.lanes.length
    rw [hc.lanes]
    omega
   have hbt:Bt (({ C with batch:=none }:Comp).posted' (vsOf (E.J i) s')) (vsOf (E.J i) s') noD:=Bt.post hc.live (λk l hl=>⟨(hpl k l hl).1,(hpl k l hl).2.1⟩) hnode
   obtain ⟨hla,hin⟩:=qL (vsOf (E.J i) s') ({ C with batch:=none }:Comp) 0
   have hcl:(putC F i (({ C with batch:=none }:Comp).posted' (vsOf (E.J i) s'))).clients[i]?=some (({ C with batch:=none }:Comp).posted' (vsOf (E.J i) s')):=List.getElem?_set_self hlt
   have hpc:pcs (({ C with batch:=none }:Comp).posted' (vsOf (E.J i) s'))=cost (vsOf (E.J i) s'):=by
    have:=uG (vsOf (E.J i) s') (C:=({ C with batch:=none }:Comp)) (k:=0) (λm l hl=>(hpl m l hl).2.2.1) hnode
    have e0:pcs ({ C with batch:=none }:Comp)=0:=hq0
    rw [e0,Nat.zero_add] at this
    exact this
   refine ⟨s',rfl,rfl,rfl,λk hk=>List.getElem?_set_ne (λe=>hk e.symm),⟨_,hcl,hc.cl,hc.job,hc.bad,hin.trans hc.inc,hbt.live,hla.trans hc.lanes,by omega,λk l hl=>?_,λ_=>⟨rfl,?_,λq d e=>?_,g5⟩,λe=>by omega,λe=>by omega,λa b c=>?_⟩,hmem,?_,.inr (.inr ⟨g1,_,hcl,λhqq=>?_⟩),λe=>absurd e (by omega),ha.one⟩
   ·obtain ⟨l0,e1,e2⟩:=qK (vsOf (E.J i) s') (C:=({ C with batch:=none }:Comp)) (k:=0) (l:=l) hl
    intro v vs' _ _
    rw [e2]
    exact (hpl k l0 e1).2.2.2
   ·rw [g2]
    exact hbt
   ·rw [g2] at e
    cases e
   ·obtain ⟨⟨k1,k2⟩,k3,_⟩:=ha.tr b c
    obtain ⟨k3,k4⟩:=k3 g1
    show IntKind.i64.wrap (C.trips+1)=_
    rw [htr a k1 k2,k3,w64 (by omega) (by omega)]
    omega
   ·unfold eK
    rw [hcl,hC]
    simp only
    rw [hpc,hq0]
    omega
   ·obtain ⟨v,vs',e⟩:=List.exists_cons_of_ne_nil g4
    obtain ⟨k,l,hl,hm⟩:=hbt.left 0 (by rw [e];simp) rfl
    have:=(hbt.lane k l hl).len
    rw [hqq k l hl] at this
    rw [List.length_eq_zero_iff.1 this] at hm
    cases hm
  all_goals
   rw [←hjob] at g2
   have htn:=we hC hc.live hw hc.cl ho hgl g2
   rw [htn]
   have hcl:(putC F i { C with batch:=none }).clients[i]?=some { C with batch:=none }:=List.getElem?_set_self hlt
   refine ⟨s',rfl,rfl,rfl,λk hk=>List.getElem?_set_ne (λe=>hk e.symm),⟨_,hcl,hc.cl,hc.job,hc.bad,hc.inc,hc.live,hc.lanes,by omega,hc.dry,λe=>by omega,λ_=>⟨rfl,⟨rfl,hq⟩,λe=>?_,λe=>?_⟩,λe=>by omega,λa b c=>?_⟩,hmem,?_,?_,λe=>absurd e (by omega),ha.one⟩
   ·first | rfl | (exfalso;omega)
   ·first | rfl | (exfalso;omega)
   ·first
     | (exfalso;omega)
     | (obtain ⟨⟨k1,k2⟩,_,k3⟩:=ha.tr b c;show C.trips=_;rw [htr a k1 k2,k3 g1])
   ·unfold eK
    rw [hcl,hC]
    simp only
    have e0:pcs ({ C with batch:=none }:Comp)=pcs C:=rfl
    rw [e0,g1]
    show pcs C+0≤_
    omega
   ·first | exact .inl g1 | exact .inr (.inl g1)
 have h8:=hc.ph
 by_cases e8:(S i).ph=8
 ·obtain ⟨n1,n2,n3,n4⟩:=hc.new e8
  have hgo:kj t C=[]:=by unfold kj;rw [n3];exact n2
  have ha:Adv E i (E.J i) (S i) (kj t C) ⟨0,noD,[]⟩:=by
   rw [hgo]
   generalize hs:S i=s at *
   obtain ⟨ph,dn,D⟩:=s
   have e8:ph=8:=e8
   subst e8
   exact adv8 hE hj
  exact hmove ha n1 n4 (by rw [hgo];simp) (by omega)
 by_cases e67:(S i).ph=6∨(S i).ph=7
 ·obtain ⟨n1,_⟩:=hc.stop e67
  exact hidle (by unfold turn;rw [if_pos (.inl n1)]) e8 (λe=>by omega)
 have h5:(S i).ph≤5:=by omega
 obtain ⟨r1,r2,r3,r4⟩:=hc.run h5
 by_cases hq:hO C
 ·obtain ⟨ds,d1,d2,d3,d4⟩:=r2.all λk l hl=>hq k l hl
  have hgo:kj t C=t.got++[ds]:=by unfold kj;rw [d1]
  have hfit:Fit (vsOf (E.J i) (S i)) ds:=⟨d2,λq v d hv hd=>by
   obtain ⟨d',hd'⟩:=d4 q (aN hv)
   have:=d3 q d' hd'
   rw [hd] at this
   cases this
   obtain ⟨v',hv',e1,e2⟩:=r3 q d hd'
   rw [hv] at hv'
   cases hv'
   exact ⟨e1,e2⟩⟩
  have hall:AllD (vsOf (E.J i) (S i)) (S i).dn:=d4
  have hgl:(kj t C).length≤200:=by
   have:t.got.length≤4:=by
    generalize hs:S i=s at *
    obtain ⟨ph,dn,D⟩:=s
    rcases ph with _ | _ | _ | _ | _ | _ | ph
    ·have:t.got=[]:=r4
     rw [this];simp
    ·obtain ⟨_,e,_⟩:=r4
     rw [e];simp
    ·obtain ⟨_,e,_⟩:=r4
     rw [e];simp
    ·obtain ⟨_,_,e,_⟩:=r4
     rw [e];simp
    ·rcases r4 with ⟨_,_,_,e,_⟩ | ⟨_,_,e,_⟩<;>(rw [e];simp)
    ·obtain ⟨_,e,_⟩:=r4
     rw [e];simp
    ·exact absurd h5 (by show ¬ (ph+6≤5);omega)
   rw [hgo,List.length_append,List.length_singleton]
   omega
  have ha:∃ s',Adv E i (E.J i) (S i) (kj t C) s':=by
   rw [hgo]
   generalize hs:S i=s at *
   obtain ⟨ph,dn,D⟩:=s
   rcases ph with _ | _ | _ | _ | _ | _ | ph
   ·exact ⟨_,adv0 hE hj r4 hfit⟩
   ·exact adv1 hE hj r4 hfit d3 hall
   ·exact adv2 hE hj r4 hfit
   ·exact adv3 hE hj r4 hfit hall
   ·exact adv4 hE hj r4 hfit hall
   ·exact adv5 hE hj r4 hfit hall
   ·exact absurd h5 (by show ¬ (ph+6≤5);omega)
  obtain ⟨s',ha⟩:=ha
  exact hmove ha r1 hq hgl (by omega)
 ·have hwait:0<C.waiting:=by
   rw [hco.waiting]
   rcases Nat.eq_zero_or_pos (pend C.lanes) with e | e
   ·exact absurd (λk l hl=>nC e l (List.mem_of_getElem? hl)) hq
   ·exact e
  refine hidle (v3 ?_) e8 (λ_=>hq)
  unfold Fab.waiting
  rw [hc.cl,ka,hC]
  exact hwait
end Go.Proofs.YtgpmeaicjonenaaGreat
