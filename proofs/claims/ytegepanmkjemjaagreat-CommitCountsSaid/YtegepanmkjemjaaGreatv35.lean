import Derived.Test.YtegepanmkjemjaaGreatv34
set_option linter.unusedVariables false
namespace Go.Proofs.YtegepanmkjemjaaGreat
open Go.Eng C12
theorem yl {vs:List Verb} {dn:Nat→Option Done} {q:Nat} {v:Verb} (hv:vs[q]?=some v) (hq:dn q=none) (d:Done) (u:Verb):Ex vs (upd dn q d) u↔Ex vs dn u∨u=v:=by
 constructor
 ·rintro ⟨r,e,h1,h2⟩
  by_cases hr:r=q
  ·subst hr
   rw [hv] at h1
   cases h1
   exact .inr rfl
  ·rw [mX hr] at h2
   exact .inl ⟨r,e,h1,h2⟩
 ·rintro (⟨r,e,h1,h2⟩ | rfl)
  ·have hr:r≠q:=λe2=>by rw [e2,hq] at h2;cases h2
   exact ⟨r,e,h1,by rw [mX hr];exact h2⟩
  ·exact ⟨q,d,hv,lF _ _ _⟩
theorem DB {vs:List Verb} (hd:vs.Nodup) {dn:Nat→Option Done} {q:Nat} {v:Verb} (hv:vs[q]?=some v) (d:Done) (u:Verb):Pe vs (upd dn q d) u↔Pe vs dn u∧u≠v:=by
 constructor
 ·rintro ⟨r,h1,h2⟩
  have hr:r≠q:=λe=>by rw [e,lF] at h2;cases h2
  rw [mX hr] at h2
  refine ⟨⟨r,h1,h2⟩,λe=>hr ?_⟩
  subst e
  exact (List.getElem?_inj (aP h1) hd).1 (h1.trans hv.symm)
 ·rintro ⟨⟨r,h1,h2⟩,hne⟩
  have hr:r≠q:=λe=>by rw [e,hv] at h1;cases h1;exact hne rfl
  exact ⟨r,h1,by rw [mX hr];exact h2⟩
theorem ym {vs:List Verb} {dn:Nat→Option Done} {v:Verb} (h:v ∈ vs):Ex vs dn v∨Pe vs dn v:=by
 obtain ⟨q,hq⟩:=List.mem_iff_getElem?.1 h
 cases hd:dn q with
 |none=>exact .inr ⟨q,hq,hd⟩
 |some d=>exact .inl ⟨q,d,hq,hd⟩
section
variable {E:Env} {i:Nat} {j:CJob}
theorem rW {n q:Nat} {f:Nat→Verb} {v:Verb} (h:((List.range n).map f)[q]?=some v):q<n∧v=f q:=by
 rw [List.getElem?_map] at h
 by_cases hq:q<n
 ·rw [List.getElem?_range hq] at h
  exact ⟨hq,by cases h;rfl⟩
 ·rw [List.getElem?_eq_none (by simp;omega)] at h
  cases h
theorem Bc {m m':Nat} {a a':Int} {ws ws':List Int} (h:wV m a ws=wV m' a' ws'):m=m'∧a=a'∧ws=ws':=by
 unfold wV at h
 simp only [Verb.mk.injEq] at h
 exact ⟨by omega,h.2.2.1,h.2.2.2.2.2.2.1⟩
theorem DC {a a' o o' w w':Int} (h:cV a o w=cV a' o' w'):a=a'∧o=o'∧w=w':=by
 unfold cV at h
 simp only [Verb.mk.injEq] at h
 exact ⟨h.2.2.1,h.2.2.2.2.1,h.2.2.2.2.2.1⟩
theorem EN {a a' o w:Int}:cV a o w≠rV a':=λh=>by
 unfold cV rV at h
 simp at h
theorem sZ (h:cA E i j) {m m':Nat} {p p':aG} (hp:p ∈ j.writes) (hp':p' ∈ j.writes) (e:pgV m p=pgV m' p'):m=m'∧p=p':=by
 obtain ⟨h1,h2,_⟩:=Bc e
 exact ⟨h1,h.uniq p hp p' hp' (by omega)⟩
theorem wA (h:cA E i j) {m m':Nat} {p:aG} (hp:p ∈ j.writes) (seq:Int):pgV m p≠ckV i seq m':=λe=>by
 obtain ⟨_,h2,_⟩:=Bc e
 have h3:=h.pl hp
 have h6:=h.i6
 omega
theorem Bd {seq:Int} {m m':Nat} (e:ckV i seq m=ckV i seq m'):m=m':=(Bc e).1
theorem vh (h:cA E i j) {p p':aG} (hp:p ∈ j.writes) (hp':p' ∈ j.writes) (e:cV (p.Line * 8) p.Head (fC p.Head i)=cV (p'.Line * 8) p'.Head (fC p'.Head i)):p=p':=by
 obtain ⟨h1,_⟩:=DC e
 exact h.uniq p hp p' hp' (by omega)
theorem yn (h:cA E i j) {p p':aG} (hp:p ∈ j.writes) (hp':p' ∈ j.writes) (e:qF i p=qF i p'):p=p':=by
 obtain ⟨h1,_⟩:=DC e
 exact h.uniq p hp p' hp' (by omega)
theorem lV (h:cA E i j) (hn:1≤E.n) {q:Nat} {v:Verb} (hv:(bF j)[q]?=some v):(∃ p ∈ j.writes,j.writes[q]?=some p∧v=cV (p.Line * 8) p.Head (fC p.Head i))∨∃ s ∈ j.reads,v=rV (s.Line * 8):=by
 rw [h.lockL hn] at hv
 by_cases hq:q<j.writes.length
 ·rw [List.getElem?_append_left (by simpa using hq),List.getElem?_map,List.getElem?_eq_getElem hq] at hv
  cases hv
  exact .inl ⟨_,List.getElem_mem hq,List.getElem?_eq_getElem hq,rfl⟩
 ·rw [List.getElem?_append_right (by simpa using hq),List.getElem?_map] at hv
  cases hs:j.reads[q - (j.writes.map λp=>cV (p.Line * 8) p.Head (fC p.Head i)).length]? with
  |none=>rw [hs] at hv;cases hv
  |some s=>
   rw [hs] at hv
   cases hv
   exact .inr ⟨s,List.mem_of_getElem? hs,rfl⟩
theorem ta (h:cA E i j) {v:Verb} (hv:v ∈ gM j):∃ m,1≤m∧m<E.n∧((∃ p ∈ j.writes,v=pgV m p)∨v=ckV i j.seq m):=by
 rw [h.backL] at hv
 obtain ⟨l,hl,hm⟩:=List.mem_flatten.1 hv
 obtain ⟨m,hm2,rfl⟩:=List.mem_map.1 hl
 have:=List.mem_range.1 hm2
 refine ⟨m+1,by omega,by omega,?_⟩
 rcases List.mem_append.1 hm with g | g
 ·obtain ⟨p,hp,rfl⟩:=List.mem_map.1 g
  exact .inl ⟨p,hp,rfl⟩
 ·rw [List.mem_singleton] at g
  exact .inr g
theorem vi (h:cA E i j) {m:Nat} (h1:1≤m) (h2:m<E.n):(∀ p ∈ j.writes,pgV m p ∈ gM j)∧ckV i j.seq m ∈ gM j:=by
 rw [h.backL]
 have hm:j.writes.map (pgV m)++[ckV i j.seq m] ∈ (List.range (E.n - 1)).map λm=>j.writes.map (pgV (m+1))++[ckV i j.seq (m+1)]:=by
  refine List.mem_map.2 ⟨m - 1,List.mem_range.2 (by omega),?_⟩
  rw [show m - 1+1=m by omega]
 exact ⟨λp hp=>List.mem_flatten.2 ⟨_,hm,List.mem_append_left _ (List.mem_map_of_mem hp)⟩,List.mem_flatten.2 ⟨_,hm,List.mem_append_right _ (List.mem_singleton_self _)⟩⟩
theorem Be (h:cA E i j) (hn:1≤E.n) {v:Verb} (hv:v ∈ finV j):v=ckV i j.seq 0∨∃ p ∈ j.writes,v=pgV 0 p:=by
 rw [h.finL hn] at hv
 rcases List.mem_cons.1 hv with g | g
 ·exact .inl g
 ·obtain ⟨p,hp,rfl⟩:=List.mem_map.1 g
  exact .inr ⟨p,hp,rfl⟩
theorem tc (h:cA E i j) (hn:1≤E.n):(∀ p ∈ j.writes,pgV 0 p ∈ finV j)∧ckV i j.seq 0 ∈ finV j:=by
 rw [h.finL hn]
 exact ⟨λp hp=>List.mem_cons_of_mem _ (List.mem_map_of_mem hp),List.mem_cons_self⟩
theorem yo {l:List Verb} (h:(l.map Verb.at_).Nodup):l.Nodup:=by
 induction l with
 |nil=>exact List.nodup_nil
 |cons a l ih=>
  rw [List.map_cons,List.nodup_cons] at h
  rw [List.nodup_cons]
  exact ⟨λhm=>h.1 (List.mem_map_of_mem hm),ih h.2⟩
theorem td (h:cA E i j):(j.writes.map λp=>p.Line * 8).Nodup:=by
 have:=h.nodup
 have e:(j.writes.map λp=>p.Line * 8)=(j.writes.map (·.Line)).map λx=>x * 8:=by rw [List.map_map];rfl
 rw [e]
 unfold List.Nodup at this ⊢
 rw [List.pairwise_map]
 exact this.imp λh e=>h (by omega)
theorem Bf (h:cA E i j) (hn:1≤E.n):(finV j).Nodup:=by
 rw [h.finL hn,List.nodup_cons]
 refine ⟨λhm=>?_,yo ?_⟩
 ·obtain ⟨p,hp,e⟩:=List.mem_map.1 hm
  exact wA h hp _ e
 ·rw [List.map_map]
  exact td h
theorem yp:∀ {vs:List Verb} {xs:List Int} {ds:List Done} {v:Verb},v ∈ fQ vs xs ds→∃ (q:Nat) (u:Verb) (x:Int) (d:Done),vs[q]?=some u∧xs[q]?=some x∧ds[q]?=some d∧gH d=x∧u.kind=3∧v=wi u
 | [],xs,ds,v,h=>by simp [fQ] at h
 |u::vs,[],ds,v,h=>by simp [fQ] at h
 |u::vs,x::xs,[],v,h=>by simp [fQ] at h
 |u::vs,x::xs,d::ds,v,h=>by
  unfold fQ at h
  rcases List.mem_append.1 h with g | g
  ·split at g
   ·rename_i hc
    rw [List.mem_singleton] at g
    exact ⟨0,u,x,d,rfl,rfl,rfl,hc.1,hc.2,g⟩
   ·cases g
  ·obtain ⟨q,u',x',d',h1,h2,h3,h4⟩:=yp g
   exact ⟨q+1,u',x',d',by simpa using h1,by simpa using h2,by simpa using h3,h4⟩
theorem wB:∀ {vs:List Verb} {xs:List Int} {ds:List Done} {q:Nat} {u:Verb} {x:Int} {d:Done},vs[q]?=some u→xs[q]?=some x→ds[q]?=some d→gH d=x→u.kind=3→wi u ∈ fQ vs xs ds
 | [],xs,ds,q,u,x,d,h1,_,_,_,_=>by simp at h1
 |v::vs,[],ds,q,u,x,d,_,h2,_,_,_=>by simp at h2
 |v::vs,y::xs,[],q,u,x,d,_,_,h3,_,_=>by simp at h3
 |v::vs,y::xs,e::ds,q,u,x,d,h1,h2,h3,h4,h5=>by
  unfold fQ
  cases q with
  |zero=>
   simp only [List.getElem?_cons_zero,Option.some.injEq] at h1 h2 h3
   subst h1 h2 h3
   rw [if_pos ⟨h4,h5⟩]
   exact List.mem_append_left _ (List.mem_singleton_self _)
  |succ q=>exact List.mem_append_right _ (wB (by simpa using h1) (by simpa using h2) (by simpa using h3) h4 h5)
theorem qG:∀ (vs:List Verb) (xs:List Int) (ds:List Done),((fQ vs xs ds).map Verb.at_).Sublist ((vs.filter λv=>v.kind == 3).map Verb.at_)
 | [],xs,ds=>by simp [fQ]
 |u::vs,[],ds=>by simp [fQ]
 |u::vs,x::xs,[]=>by simp [fQ]
 |u::vs,x::xs,d::ds=>by
  unfold fQ
  have ih:=qG vs xs ds
  by_cases hk:u.kind=3
  ·rw [List.filter_cons_of_pos (by simpa using hk),List.map_cons]
   by_cases hw:gH d=x
   ·rw [if_pos ⟨hw,hk⟩]
    exact ih.cons_cons _
   ·rw [if_neg λh=>hw h.1]
    exact ih.cons _
  ·rw [List.filter_cons_of_neg (by simpa using hk),if_neg λh=>hk h.2]
   exact ih
theorem vj (h:cA E i j) {q:Nat} {p:aG} (hp:j.writes[q]?=some p):(ez j)[q]?=some p.Head:=by
 unfold ez
 rw [List.getElem?_append_left (by simpa using aP hp),List.getElem?_map,hp]
 rfl
theorem rX (h:cA E i j) (hn:1≤E.n) {q:Nat} {p:aG} (hp:j.writes[q]?=some p):(bF j)[q]?=some (cV (p.Line * 8) p.Head (fC p.Head i)):=by
 rw [h.lockL hn,List.getElem?_append_left (by simpa using aP hp),List.getElem?_map,hp]
 rfl
theorem te (h:cA E i j) (hn:1≤E.n) {D:List Done} {v:Verb} (hv:v ∈ jc j D):∃ (q:Nat) (p:aG) (d:Done),p ∈ j.writes∧j.writes[q]?=some p∧D[q]?=some d∧gH d=p.Head∧v=qF i p:=by
 obtain ⟨q,u,x,d,h1,h2,h3,h4,h5,rfl⟩:=yp hv
 rcases lV h hn h1 with ⟨p,hp,hq,rfl⟩ | ⟨s,_,rfl⟩
 ·rw [vj h hq] at h2
  cases h2
  exact ⟨q,p,d,hp,hq,h3,h4,rfl⟩
 ·exact absurd h5 (by show ¬ ((1:Int)=3);omega)
theorem C3 (h:cA E i j) (hn:1≤E.n) {D:List Done} {q:Nat} {p:aG} {d:Done} (hp:j.writes[q]?=some p) (hd:D[q]?=some d) (hw:gH d=p.Head):qF i p ∈ jc j D:=by
 have:=wB (rX h hn hp) (vj h hp) hd hw rfl
 exact this
theorem zx (h:cA E i j) (hn:1≤E.n) (D:List Done):(jc j D).Nodup:=by
 refine yo ((qG _ _ _).nodup ?_)
 rw [h.lockL hn,List.filter_append]
 have e1:((j.writes.map λp=>cV (p.Line * 8) p.Head (fC p.Head i)).filter λv=>v.kind == 3)=j.writes.map λp=>cV (p.Line * 8) p.Head (fC p.Head i):=by
  rw [List.filter_eq_self]
  intro v hv
  obtain ⟨p,_,rfl⟩:=List.mem_map.1 hv
  rfl
 have e2:((j.reads.map λs=>rV (s.Line * 8)).filter λv=>v.kind == 3)=[]:=by
  rw [List.filter_eq_nil_iff]
  intro v hv
  obtain ⟨p,_,rfl⟩:=List.mem_map.1 hv
  simp [rV]
 rw [e1,e2,List.append_nil,List.map_map]
 exact td h
end
end Go.Proofs.YtegepanmkjemjaaGreat
namespace Go.Proofs.YtegepanmkjemjaaGreat
open Go.Eng C12
section
variable {n L:Nat} {p:Pair} {x:aO} {vs':List Verb}
theorem FV (hL:98≤L) {m:Nat} {a:Int} {ws:List Int} (hg:VGo n L (wV m a ws)) (hn:n≤5) (hx:NFix L x) {c:Nat} (hc:c<6) (hcl:p.client=c) (hinc:p.inc=1) (hP:bU p) (hpv:p.verbs=wV m a ws::vs') (hd:p.words=[]) (h0:0≤a) (h1:a+ws.length≤L * 8) :
  NFr a.toNat ws.length x (p.step x).2.1∧∀ d,(p.step x).2.2=some d→d=⟨0,[]⟩:=by
 have hr:=kT hx hn hg hc hcl hinc (p:=p)
 have hex:=hP.rdy _ _ hpv
 have hpc:((wV m a ws).v.pieces.getD p.executed (0,0)) ∈ (wV m a ws).v.pieces:=by
  rw [List.getD_eq_getElem?_getD,List.getElem?_eq_getElem hex]
  exact List.getElem_mem hex
 obtain ⟨g1,g2⟩:=zt (x:=wV m a ws) rfl h0 (n:=x) (by have:=hx.len;show a+(ws.length:Int)≤_;omega) hpc
 rw [xD hpv hr]
 split
 ·exact ⟨g1,λd e=>by cases e⟩
 ·refine ⟨g1,λd e=>?_⟩
  cases e
  rw [hd,g2]
  rfl
theorem vk {m:Nat} {a:Int} {ws:List Int} (hg:VGo n L (wV m a ws)) (hn:n≤5) (hx:NFix L x) {c:Nat} (hc:c<6) (hcl:p.client=c) (hinc:p.inc=1) (hP:bU p) (hpv:p.verbs=wV m a ws::vs') (h0:0≤a) (h1:1≤ws.length) (h2:a % 8+ws.length≤8) :
  p.step x=(p.done,x.write a.toNat ws,some ⟨0,[]⟩):=by
 have hr:=kT hx hn hg hc hcl hinc (p:=p)
 have hp:(wV m a ws).v.pieces=[(a,(ws.length:Int))]:=jJ (v:=(wV m a ws).v) (by show 1≤(ws.length:Int);omega) h2 h0
 have he:=CT (x:=wV m a ws) rfl (n:=x)
 rw [ve hP hpv hr hp]
 show (p.done,(exec (wV m a ws) ((wV m a ws).at_,((wV m a ws).words.length:Int)) x).1,some (⟨0,(exec (wV m a ws) ((wV m a ws).at_,((wV m a ws).words.length:Int)) x).2⟩:Done))=_
 rw [he]
 rfl
theorem Bg {a o w:Int} (hg:VGo n L (cV a o w)) (hn:n≤5) (hx:NFix L x) {c:Nat} (hc:c<6) (hcl:p.client=c) (hinc:p.inc=1) (hP:bU p) (hpv:p.verbs=cV a o w::vs') (h0:0≤a) (h2:a % 8=0) :
  p.step x=(p.done,x.cas a o w,some ⟨0,[x.get a.toNat]⟩):=by
 have hr:=kT hx hn hg hc hcl hinc (p:=p)
 have hp:(cV a o w).v.pieces=[(a,1)]:=jJ (v:=(cV a o w).v) (by show (1:Int)≤1;omega) (by show a % 8+1≤8;omega) h0
 rw [ve hP hpv hr hp,CU rfl]
 rfl
theorem DD {a:Int} (hg:VGo n L (rV a)) (hn:n≤5) (hx:NFix L x) {c:Nat} (hc:c<6) (hcl:p.client=c) (hinc:p.inc=1) (hP:bU p) (hpv:p.verbs=rV a::vs') (h0:0≤a) (h2:a % 8=0) (h3:a<L * 8) :
  p.step x=(p.done,x,some ⟨0,[x.get a.toNat]⟩):=by
 have hr:=kT hx hn hg hc hcl hinc (p:=p)
 have hp:(rV a).v.pieces=[(a,1)]:=jJ (v:=(rV a).v) (by show (1:Int)≤1;omega) (by show a % 8+1≤8;omega) h0
 have hl:=hx.len
 have he:=zu (x:=rV a) rfl h0 (n:=x) (by show a.toNat<_;omega)
 rw [ve hP hpv hr hp]
 show (p.done,(exec (rV a) ((rV a).at_,1) x).1,some (⟨0,(exec (rV a) ((rV a).at_,1) x).2⟩:Done))=_
 rw [he]
 rfl
end
section
variable {E:Env} {i:Nat} {j:CJob}
theorem rh (hE:fE E) (h:cA E i j) {m:Nat} (hm:m<E.n):VGo E.n E.L (wV m (56+120 * (i:Int)) (oQ j.seq j.writes))∧VGo E.n E.L (wV m (48+120 * (i:Int)) [xv j.seq]):=by
 have h6:=h.i6
 have hf:=h.few
 have hL:=hE.L
 have hn:=hE.n
 have hl:=n8 j.seq j.writes
 exact ⟨C1 (by omega) hm (by omega) (by omega) (by omega) (by omega) (by omega),C1 (by omega) hm (by omega) (by omega) (by simp) (by simp) (by simp;omega)⟩
theorem hH (p:aG):(appL p).length=8:=rfl
theorem ud (hE:fE E) (h:cA E i j) {m:Nat} (hm:m<E.n) {p:aG} (hp:p ∈ j.writes):VGo E.n E.L (pgV m p):=by
 obtain ⟨e,l1,l2⟩:=h.pl hp
 have hL:=hE.L
 have hn:=hE.n
 exact C1 (by omega) hm (by omega) (by omega) (by rw [hH];omega) (by rw [hH];omega) (by rw [hH];omega)
theorem ue (hE:fE E) (h:cA E i j) {m:Nat} (hm:m<E.n) (seq:Int):VGo E.n E.L (ckV i seq m):=by
 have h6:=h.i6
 have hL:=hE.L
 have hn:=hE.n
 exact C1 (by omega) hm (by omega) (by omega) (by simp) (by simp) (by simp;omega)
theorem pK (hE:fE E) (h:cA E i j) {p:aG} (hp:p ∈ j.writes) (o w:Int):VGo E.n E.L (cV (p.Line * 8) o w):=by
 obtain ⟨e,l1,l2⟩:=h.pl hp
 have hL:=hE.L
 have hn:=hE.n
 exact Gx (by omega) (by omega) (by omega) (by omega)
theorem yq (hE:fE E) (h:cA E i j) {s:aV} (hs:s ∈ j.reads):VGo E.n E.L (rV (s.Line * 8)):=by
 obtain ⟨l,e,l1,l2⟩:=h.rline s hs
 have hL:=hE.L
 have hn:=hE.n
 exact Gy (by omega) (by omega) (by omega) (by omega)
end
theorem Gz {E:Env} (hE:fE E) {i:Nat} {j:CJob} (h:cA E i j) {s:CS} {p:aG} (hp:p ∈ j.writes) (ht:Tch E.n j i s p):Lk j i s p∨Nw j s 0 p:=by
 rcases ht with a | ⟨m,_,a⟩
 ·exact .inl a
 ·obtain ⟨ph,dn,D⟩:=s
  rcases ph with _ | _ | _ | _ | _ | _ | _ | ph
  all_goals first | exact a.elim | skip
  ·exact .inl trivial
  ·exact (ym ((tc h hE.n.1).1 p hp)).symm.imp id λe=>.inr e
  ·exact .inr trivial
theorem hU.vacant {E:Env} {ns:List aO} {S:Nat→CS} (h:hU E ns S) (hE:fE E) {x:aO} (hx:ns[0]?=some x) {l:Nat} (h1:96≤l) (h2:l<E.L) (hh:x.get (l * 8)=E.base l 0) :
  (∀ k,k<8→x.get (l * 8+k)=E.base l k)∧∀ i,E.on i→∀ p ∈ (E.J i).writes,p.Line.toNat=l→¬ Tch E.n (E.J i) i (S i) p:=by
 have hno:∀ i,E.on i→∀ p ∈ (E.J i).writes,p.Line.toNat=l→¬ Nw (E.J i) (S i) 0 p∧¬ Lk (E.J i) i (S i) p:=λi hi p hp hl=>by
  have hj:=hE.job i hi
  have hhd:=hj.head p hp
  rw [hl] at hhd
  refine ⟨λc=>?_,λc=>?_⟩
  ·have:=h.new i hi p hp 0 x hx c 0 (by omega)
   rw [Nat.add_zero,hl,hh] at this
   have e:(appL p).getD 0 0=tL p.Head:=rfl
   rw [e,←hhd] at this
   exact hj.next p hp this.symm
  ·have:=(h.lock i hi p hp x hx c).1
   rw [hl,hh,←hhd] at this
   exact (hj.locks p hp i hj.i6).1 this.symm
 refine ⟨h.free l h1 h2 0 x hx λi hi p hp hl=>⟨(hno i hi p hp hl).1,λ_=>(hno i hi p hp hl).2⟩,λi hi p hp hl ht=>?_⟩
 rcases Gz hE (hE.job i hi) hp ht with c | c
 ·exact (hno i hi p hp hl).2 c
 ·exact (hno i hi p hp hl).1 c
end Go.Proofs.YtegepanmkjemjaaGreat
