import Derived.Test.YtgpmeaicjonenaaGreata29
set_option linter.unusedVariables false
namespace Go.Proofs.YtgpmeaicjonenaaGreat
open Go.Eng C12
structure CS where
 ph:Nat
 dn:Nat→Option Done
 D:List Done
def vsOf (j:CJob) (s:CS):List Verb:=match s.ph with
 | 0=>fD j
 | 1=>aX j
 | 2=>iP j
 | 3=>fU j
 | 4=>finV j
 | 5=>iQ j s.D
 | _=>[]
def Ex (vs:List Verb) (dn:Nat→Option Done) (v:Verb):Prop:=∃ r d,vs[r]?=some v∧dn r=some d
def Pe (vs:List Verb) (dn:Nat→Option Done) (v:Verb):Prop:=∃ r,vs[r]?=some v∧dn r=none
def pX (i:Nat) (p:aG):Verb:=cV (p.Line * 8) (eT p.Head i) p.Head
def Lk (j:CJob) (i:Nat) (s:CS) (p:aG):Prop:=match s.ph with
 | 1=>∃ r d,(aX j)[r]?=some (cV (p.Line * 8) p.Head (eT p.Head i))∧s.dn r=some d∧eA d=p.Head
 | 2=>True
 | 3=>True
 | 4=>Pe (finV j) s.dn (pgV 0 p)
 | 5=>Pe (iQ j s.D) s.dn (pX i p)
 | _=>False
def Nw (j:CJob) (s:CS) (m:Nat) (p:aG):Prop:=match s.ph with
 | 3=>Ex (fU j) s.dn (pgV m p)
 | 4=>1≤m∨Ex (finV j) s.dn (pgV m p)
 | 6=>True
 | _=>False
def Ck (j:CJob) (i:Nat) (s:CS) (m:Nat):Prop:=match s.ph with
 | 3=>Ex (fU j) s.dn (ckV i j.seq m)
 | 4=>1≤m∨Ex (finV j) s.dn (ckV i j.seq m)
 | 6=>True
 | _=>False
def Tch (n:Nat) (j:CJob) (i:Nat) (s:CS) (p:aG):Prop:=Lk j i s p∨∃ m,m<n∧Nw j s m p
structure gy (E:Env) (ns:List aP) (S:Nat→CS):Prop where
 len:ns.length=E.n
 fix:∀ (m:Nat) (x:aP),ns[m]?=some x→NFix E.L x
 new:∀ i,E.on i→∀ p ∈ (E.J i).writes,∀ (m:Nat) (x:aP),ns[m]?=some x→Nw (E.J i) (S i) m p→∀ k,k<8→x.get (p.Line.toNat * 8+k)=(appL p).getD k 0
 lock:∀ i,E.on i→∀ p ∈ (E.J i).writes,∀ (x:aP),ns[0]?=some x→Lk (E.J i) i (S i) p→x.get (p.Line.toNat * 8)=eT p.Head i∧∀ k,1≤k→k<8→x.get (p.Line.toNat * 8+k)=E.base p.Line.toNat k
 free:∀ l:Nat,96≤l→l<E.L→∀ (m:Nat) (x:aP),ns[m]?=some x→(∀ i,E.on i→∀ p ∈ (E.J i).writes,p.Line.toNat=l→¬ Nw (E.J i) (S i) m p∧(m=0→¬ Lk (E.J i) i (S i) p))→∀ k,k<8→x.get (l * 8+k)=E.base l k
 excl:∀ i i',E.on i→E.on i'→i≠i'→∀ p ∈ (E.J i).writes,∀ p' ∈ (E.J i').writes,p.Line.toNat=p'.Line.toNat→Tch E.n (E.J i) i (S i) p→¬ Tch E.n (E.J i') i' (S i') p'
 clock:∀ i,E.on i→∀ (m:Nat) (x:aP),ns[m]?=some x→(Ck (E.J i) i (S i) m→x.get (32+i)=(E.J i).seq)∧(¬ Ck (E.J i) i (S i) m→x.get (32+i)=E.bc i)
 both:∀ i,E.on i→∀ p ∈ (E.J i).writes,Lk (E.J i) i (S i) p→¬ Nw (E.J i) (S i) 0 p
 oth:∀ c:Nat,c<6→¬ E.on c→∀ (m:Nat) (x:aP),ns[m]?=some x→x.get (32+c)=E.bc c
def updS (S:Nat→CS) (i:Nat) (s:CS):Nat→CS:=λk=>if k=i then s else S k
theorem bQ (S:Nat→CS) (i:Nat) (s:CS):updS S i s i=s:=if_pos rfl
theorem eF {S:Nat→CS} {i k:Nat} {s:CS} (h:k≠i):updS S i s k=S k:=if_neg h
section
variable {E:Env} {ns:List aP} {S:Nat→CS} {i m:Nat} {s:CS} {x x':aP}
theorem gy.idle (h:gy E ns S) (hi:E.on i) (hx:ns[m]?=some x) (hf:NFix E.L x') (hp:∀ l:Nat,96≤l→l<E.L→∀ k,k<8→x'.get (l * 8+k)=x.get (l * 8+k)) (hc:∀ c:Nat,c<6→x'.get (32+c)=x.get (32+c)) (hE:eU E)
  (hL:∀ p ∈ (E.J i).writes,Lk (E.J i) i s p↔Lk (E.J i) i (S i) p) (hN:∀ p ∈ (E.J i).writes,∀ m,m<E.n→(Nw (E.J i) s m p↔Nw (E.J i) (S i) m p)) (hK:∀ m,m<E.n→(Ck (E.J i) i s m↔Ck (E.J i) i (S i) m)) :
  gy E (ns.set m x') (updS S i s):=by
 have hlt:=aN hx
 have hn:=h.len
 have gL:∀ i',E.on i'→∀ p ∈ (E.J i').writes,Lk (E.J i') i' (updS S i s i') p↔Lk (E.J i') i' (S i') p:=λi' hi' p hp=>by
  by_cases e:i'=i
  ·subst e;rw [bQ];exact hL p hp
  ·rw [eF e]
 have gN:∀ i',E.on i'→∀ p ∈ (E.J i').writes,∀ m,m<E.n→(Nw (E.J i') (updS S i s i') m p↔Nw (E.J i') (S i') m p):=λi' hi' p hp=>by
  by_cases e:i'=i
  ·subst e;rw [bQ];exact hN p hp
  ·intro m _;rw [eF e]
 have gK:∀ i',E.on i'→∀ m,m<E.n→(Ck (E.J i') i' (updS S i s i') m↔Ck (E.J i') i' (S i') m):=λi' hi'=>by
  by_cases e:i'=i
  ·subst e;rw [bQ];exact hK
  ·intro m _;rw [eF e]
 have gT:∀ i',E.on i'→∀ p ∈ (E.J i').writes,Tch E.n (E.J i') i' (updS S i s i') p↔Tch E.n (E.J i') i' (S i') p:=λi' hi' p hp=>by
  unfold Tch
  rw [gL i' hi' p hp]
  constructor
  ·rintro (a | ⟨m,b,c⟩)
   ·exact .inl a
   ·exact .inr ⟨m,b,(gN i' hi' p hp m b).1 c⟩
  ·rintro (a | ⟨m,b,c⟩)
   ·exact .inl a
   ·exact .inr ⟨m,b,(gN i' hi' p hp m b).2 c⟩
 have gx:∀ (m':Nat) (y:aP),(ns.set m x')[m']?=some y→∃ z,ns[m']?=some z∧NFix E.L y∧(∀ l:Nat,96≤l→l<E.L→∀ k,k<8→y.get (l * 8+k)=z.get (l * 8+k))∧∀ c:Nat,c<6→y.get (32+c)=z.get (32+c):=λm' y hy=>by
  by_cases e:m=m'
  ·subst e
   rw [List.getElem?_set_self hlt] at hy
   cases hy
   exact ⟨x,hx,hf,hp,hc⟩
  ·rw [List.getElem?_set_ne e] at hy
   exact ⟨y,hy,h.fix m' y hy,λ_ _ _ _ _=>rfl,λ_ _=>rfl⟩
 have gl:∀ i',E.on i'→∀ p ∈ (E.J i').writes,96≤p.Line.toNat∧p.Line.toNat<E.L:=λi' hi' p hp=>by
  obtain ⟨l,e,h1,h2⟩:=(hE.job i' hi').line p hp
  rw [e,Int.toNat_natCast]
  exact ⟨h1,h2⟩
 have gm:∀ (m':Nat) (y:aP),ns[m']?=some y→m'<E.n:=λm' y hy=>by have:=aN hy;omega
 refine ⟨by simpa using hn,λm' y hy=>?_,λi' hi' p hp m' y hy hw k hk=>?_,λi' hi' p hp y hy hl=>?_,λl h1 h2 m' y hy hno k hk=>?_,λa b ha hb hab p hp p' hp' hl ht=>?_,λi' hi' m' y hy=>?_,λi' hi' p hp hl=>?_,λc h6 hno m' y hy=>?_⟩
 ·obtain ⟨z,_,g,_⟩:=gx m' y hy
  exact g
 ·obtain ⟨z,hz,_,g,_⟩:=gx m' y hy
  obtain ⟨l1,l2⟩:=gl i' hi' p hp
  rw [g _ l1 l2 k hk]
  exact h.new i' hi' p hp m' z hz ((gN i' hi' p hp m' (gm m' z hz)).1 hw) k hk
 ·obtain ⟨z,hz,_,g,_⟩:=gx 0 y hy
  obtain ⟨l1,l2⟩:=gl i' hi' p hp
  obtain ⟨a,b⟩:=h.lock i' hi' p hp z hz ((gL i' hi' p hp).1 hl)
  refine ⟨?_,λk hk1 hk8=>by rw [g _ l1 l2 k hk8];exact b k hk1 hk8⟩
  have:=g _ l1 l2 0 (by omega)
  rw [Nat.add_zero] at this
  rw [this]
  exact a
 ·obtain ⟨z,hz,_,g,_⟩:=gx m' y hy
  rw [g l h1 h2 k hk]
  refine h.free l h1 h2 m' z hz (λi' hi' p hp hpl=>?_) k hk
  obtain ⟨a,b⟩:=hno i' hi' p hp hpl
  exact ⟨λc=>a ((gN i' hi' p hp m' (gm m' z hz)).2 c),λe c=>b e ((gL i' hi' p hp).2 c)⟩
 ·rw [gT b hb p' hp']
  rw [gT a ha p hp] at ht
  exact h.excl a b ha hb hab p hp p' hp' hl ht
 ·obtain ⟨z,hz,_,_,g⟩:=gx m' y hy
  rw [g i' (hE.job i' hi').i6,gK i' hi' m' (gm m' z hz)]
  exact h.clock i' hi' m' z hz
 ·rw [gN i' hi' p hp 0 (by have:=hE.n;omega)]
  exact h.both i' hi' p hp ((gL i' hi' p hp).1 hl)
 ·obtain ⟨z,hz,_,_,g⟩:=gx m' y hy
  rw [g c h6]
  exact h.oth c h6 hno m' z hz
theorem gy.tick (h:gy E ns S) (hi:E.on i) (hx:ns[m]?=some x) (hf:NFix E.L x') (hp:∀ l:Nat,96≤l→l<E.L→∀ k,k<8→x'.get (l * 8+k)=x.get (l * 8+k)) (hc:∀ c:Nat,c<6→x'.get (32+c)=if c=i then (E.J i).seq else x.get (32+c)) (hE:eU E)
  (hL:∀ p ∈ (E.J i).writes,Lk (E.J i) i s p↔Lk (E.J i) i (S i) p) (hN:∀ p ∈ (E.J i).writes,∀ m,m<E.n→(Nw (E.J i) s m p↔Nw (E.J i) (S i) m p)) (hK:∀ m',m'<E.n→(Ck (E.J i) i s m'↔m'=m∨Ck (E.J i) i (S i) m')) :
  gy E (ns.set m x') (updS S i s):=by
 have hlt:=aN hx
 have hn:=h.len
 have gL:∀ i',E.on i'→∀ p ∈ (E.J i').writes,Lk (E.J i') i' (updS S i s i') p↔Lk (E.J i') i' (S i') p:=λi' hi' p hp=>by
  by_cases e:i'=i
  ·subst e;rw [bQ];exact hL p hp
  ·rw [eF e]
 have gN:∀ i',E.on i'→∀ p ∈ (E.J i').writes,∀ m,m<E.n→(Nw (E.J i') (updS S i s i') m p↔Nw (E.J i') (S i') m p):=λi' hi' p hp=>by
  by_cases e:i'=i
  ·subst e;rw [bQ];exact hN p hp
  ·intro m _;rw [eF e]
 have gT:∀ i',E.on i'→∀ p ∈ (E.J i').writes,Tch E.n (E.J i') i' (updS S i s i') p↔Tch E.n (E.J i') i' (S i') p:=λi' hi' p hp=>by
  unfold Tch
  rw [gL i' hi' p hp]
  constructor
  ·rintro (a | ⟨m,b,c⟩)
   ·exact .inl a
   ·exact .inr ⟨m,b,(gN i' hi' p hp m b).1 c⟩
  ·rintro (a | ⟨m,b,c⟩)
   ·exact .inl a
   ·exact .inr ⟨m,b,(gN i' hi' p hp m b).2 c⟩
 have gx:∀ (m':Nat) (y:aP),(ns.set m x')[m']?=some y→∃ z,ns[m']?=some z∧NFix E.L y∧(∀ l:Nat,96≤l→l<E.L→∀ k,k<8→y.get (l * 8+k)=z.get (l * 8+k))∧∀ c:Nat,c<6→y.get (32+c)=if m'=m∧c=i then (E.J i).seq else z.get (32+c):=λm' y hy=>by
  by_cases e:m=m'
  ·subst e
   rw [List.getElem?_set_self hlt] at hy
   cases hy
   refine ⟨x,hx,hf,hp,λc h6=>?_⟩
   rw [hc c h6]
   by_cases e2:c=i
   ·rw [if_pos e2,if_pos ⟨rfl,e2⟩]
   ·rw [if_neg e2,if_neg λe3=>e2 e3.2]
  ·rw [List.getElem?_set_ne e] at hy
   refine ⟨y,hy,h.fix m' y hy,λ_ _ _ _ _=>rfl,λc _=>?_⟩
   rw [if_neg λe3=>e e3.1.symm]
 have gl:∀ i',E.on i'→∀ p ∈ (E.J i').writes,96≤p.Line.toNat∧p.Line.toNat<E.L:=λi' hi' p hp=>by
  obtain ⟨l,e,h1,h2⟩:=(hE.job i' hi').line p hp
  rw [e,Int.toNat_natCast]
  exact ⟨h1,h2⟩
 have gm:∀ (m':Nat) (y:aP),ns[m']?=some y→m'<E.n:=λm' y hy=>by have:=aN hy;omega
 refine ⟨by simpa using hn,λm' y hy=>?_,λi' hi' p hp m' y hy hw k hk=>?_,λi' hi' p hp y hy hl=>?_,λl h1 h2 m' y hy hno k hk=>?_,λa b ha hb hab p hp p' hp' hl ht=>?_,λi' hi' m' y hy=>?_,λi' hi' p hp hl=>?_,λc h6 hno m' y hy=>?_⟩
 ·obtain ⟨z,_,g,_⟩:=gx m' y hy
  exact g
 ·obtain ⟨z,hz,_,g,_⟩:=gx m' y hy
  obtain ⟨l1,l2⟩:=gl i' hi' p hp
  rw [g _ l1 l2 k hk]
  exact h.new i' hi' p hp m' z hz ((gN i' hi' p hp m' (gm m' z hz)).1 hw) k hk
 ·obtain ⟨z,hz,_,g,_⟩:=gx 0 y hy
  obtain ⟨l1,l2⟩:=gl i' hi' p hp
  obtain ⟨a,b⟩:=h.lock i' hi' p hp z hz ((gL i' hi' p hp).1 hl)
  refine ⟨?_,λk hk1 hk8=>by rw [g _ l1 l2 k hk8];exact b k hk1 hk8⟩
  have:=g _ l1 l2 0 (by omega)
  rw [Nat.add_zero] at this
  rw [this]
  exact a
 ·obtain ⟨z,hz,_,g,_⟩:=gx m' y hy
  rw [g l h1 h2 k hk]
  refine h.free l h1 h2 m' z hz (λi' hi' p hp hpl=>?_) k hk
  obtain ⟨a,b⟩:=hno i' hi' p hp hpl
  exact ⟨λc=>a ((gN i' hi' p hp m' (gm m' z hz)).2 c),λe c=>b e ((gL i' hi' p hp).2 c)⟩
 ·rw [gT b hb p' hp']
  rw [gT a ha p hp] at ht
  exact h.excl a b ha hb hab p hp p' hp' hl ht
 ·obtain ⟨z,hz,_,_,g⟩:=gx m' y hy
  rw [g i' (hE.job i' hi').i6]
  have hck:=h.clock i' hi' m' z hz
  by_cases e:i'=i
  ·subst e
   rw [bQ,hK m' (gm m' z hz)]
   by_cases e2:m'=m
   ·rw [if_pos ⟨e2,rfl⟩]
    exact ⟨λ_=>rfl,λhno=>absurd (.inl e2) hno⟩
   ·rw [if_neg λe3=>e2 e3.1]
    exact ⟨λhor=>hck.1 (hor.resolve_left e2),λhno=>hck.2 λhc=>hno (.inr hc)⟩
  ·rw [eF e,if_neg λe3=>e e3.2]
   exact hck
 ·rw [gN i' hi' p hp 0 (by have:=hE.n;omega)]
  exact h.both i' hi' p hp ((gL i' hi' p hp).1 hl)
 ·obtain ⟨z,hz,_,_,g⟩:=gx m' y hy
  rw [g c h6,if_neg λe3=>hno (by rw [e3.2];exact hi)]
  exact h.oth c h6 hno m' z hz
end
end Go.Proofs.YtgpmeaicjonenaaGreat
namespace Go.Proofs.YtgpmeaicjonenaaGreat
open Go.Eng C12
theorem cG.pl {E:Env} {i:Nat} {j:CJob} (h:cG E i j) {p:aG} (hp:p ∈ j.writes):p.Line=((p.Line.toNat:Nat):Int)∧96≤p.Line.toNat∧p.Line.toNat<E.L:=by
 obtain ⟨l,e,h1,h2⟩:=h.line p hp
 rw [e,Int.toNat_natCast]
 exact ⟨rfl,h1,h2⟩
theorem gy.page {E:Env} {ns:List aP} {S:Nat→CS} {i m:Nat} {s:CS} {x x':aP} (h:gy E ns S) (hE:eU E) (hi:E.on i) {p0:aG} (hp0:p0 ∈ (E.J i).writes) (hx:ns[m]?=some x) (hf:NFix E.L x')
  (hp:∀ l:Nat,96≤l→l<E.L→l≠p0.Line.toNat→∀ k,k<8→x'.get (l * 8+k)=x.get (l * 8+k)) (hc:∀ c:Nat,c<6→x'.get (32+c)=x.get (32+c))
  (hLo:∀ p ∈ (E.J i).writes,p≠p0→(Lk (E.J i) i s p↔Lk (E.J i) i (S i) p)) (hLm:m≠0→(Lk (E.J i) i s p0↔Lk (E.J i) i (S i) p0))
  (hNo:∀ p ∈ (E.J i).writes,∀ m',m'<E.n→(p≠p0∨m'≠m)→(Nw (E.J i) s m' p↔Nw (E.J i) (S i) m' p)) (hK:∀ m,m<E.n→(Ck (E.J i) i s m↔Ck (E.J i) i (S i) m))
  (cN:Nw (E.J i) s m p0→∀ k,k<8→x'.get (p0.Line.toNat * 8+k)=(appL p0).getD k 0)
  (cL:m=0→Lk (E.J i) i s p0→x'.get (p0.Line.toNat * 8)=eT p0.Head i∧∀ k,1≤k→k<8→x'.get (p0.Line.toNat * 8+k)=E.base p0.Line.toNat k)
  (cF:¬ Nw (E.J i) s m p0→(m=0→¬ Lk (E.J i) i s p0)→∀ k,k<8→x'.get (p0.Line.toNat * 8+k)=E.base p0.Line.toNat k)
  (hT:∀ i',E.on i'→i'≠i→∀ p' ∈ (E.J i').writes,p'.Line.toNat=p0.Line.toNat→¬ Tch E.n (E.J i') i' (S i') p') (hB:∀ p ∈ (E.J i).writes,Lk (E.J i) i s p→¬ Nw (E.J i) s 0 p) :
  gy E (ns.set m x') (updS S i s):=by
 have hlt:=aN hx
 have hn:=h.len
 have hn1:=hE.n
 have gu:∀ p ∈ (E.J i).writes,p≠p0→p.Line.toNat≠p0.Line.toNat:=λp hpm hne e=>hne ((hE.job i hi).uniq p hpm p0 hp0 (by
  rw [((hE.job i hi).pl hpm).1,((hE.job i hi).pl hp0).1,e]))
 have gm:∀ (m':Nat) (y:aP),ns[m']?=some y→m'<E.n:=λm' y hy=>by have:=aN hy;omega
 have gx:∀ (m':Nat) (y:aP),(ns.set m x')[m']?=some y→∃ z,ns[m']?=some z∧NFix E.L y∧(m'=m→y=x')∧(m'≠m→y=z)∧(∀ l:Nat,96≤l→l<E.L→(m'≠m∨l≠p0.Line.toNat)→∀ k,k<8→y.get (l * 8+k)=z.get (l * 8+k))∧∀ c:Nat,c<6→y.get (32+c)=z.get (32+c):=λm' y hy=>by
  by_cases e:m=m'
  ·subst e
   rw [List.getElem?_set_self hlt] at hy
   cases hy
   exact ⟨x,hx,hf,λ_=>rfl,λe=>absurd rfl e,λl h1 h2 hor k hk=>hp l h1 h2 (hor.resolve_left λe=>e rfl) k hk,hc⟩
  ·rw [List.getElem?_set_ne e] at hy
   exact ⟨y,hy,h.fix m' y hy,λe2=>absurd e2.symm e,λ_=>rfl,λ_ _ _ _ _ _=>rfl,λ_ _=>rfl⟩
 have go:∀ i',E.on i'→i'≠i→∀ p' ∈ (E.J i').writes,∀ m',m'<E.n→(Nw (E.J i') (S i') m' p'∨Lk (E.J i') i' (S i') p')→p'.Line.toNat≠p0.Line.toNat:=λi' hi' hne p' hp' m' hm' ht e=>by
  refine hT i' hi' hne p' hp' e ?_
  rcases ht with a | a
  ·exact .inr ⟨m',hm',a⟩
  ·exact .inl a
 refine ⟨by simpa using hn,λm' y hy=>?_,λi' hi' p hpm m' y hy hw k hk=>?_,λi' hi' p hpm y hy hl=>?_,λl h1 h2 m' y hy hno k hk=>?_,λa b ha hb hab p hpm p' hpm' hl ht=>?_,λi' hi' m' y hy=>?_,λi' hi' p hpm hl=>?_,λc h6 hno m' y hy=>?_⟩
 ·obtain ⟨z,_,g,_⟩:=gx m' y hy
  exact g
 ·obtain ⟨z,hz,_,ge,gne,g,_⟩:=gx m' y hy
  obtain ⟨_,l1,l2⟩:=(hE.job i' hi').pl hpm
  by_cases e:i'=i
  ·subst e
   rw [bQ] at hw
   by_cases e2:p=p0∧m'=m
   ·obtain ⟨rfl,rfl⟩:=e2
    rw [ge rfl]
    exact cN hw k hk
   ·have hor:p≠p0∨m'≠m:=by
     by_cases e3:p=p0
     ·exact .inr λe4=>e2 ⟨e3,e4⟩
     ·exact .inl e3
    rw [g _ l1 l2 (hor.symm.imp id λe3=>gu p hpm e3) k hk]
    exact h.new i' hi' p hpm m' z hz ((hNo p hpm m' (gm m' z hz) hor).1 hw) k hk
  ·rw [eF e] at hw
   rw [g _ l1 l2 (.inr (go i' hi' e p hpm m' (gm m' z hz) (.inl hw))) k hk]
   exact h.new i' hi' p hpm m' z hz hw k hk
 ·obtain ⟨z,hz,_,ge,gne,g,_⟩:=gx 0 y hy
  obtain ⟨_,l1,l2⟩:=(hE.job i' hi').pl hpm
  by_cases e:i'=i
  ·subst e
   rw [bQ] at hl
   by_cases e2:p=p0
   ·subst e2
    by_cases e3:0=m
    ·rw [ge e3]
     exact cL e3.symm hl
    ·rw [gne e3]
     exact h.lock i' hi' p hpm z hz ((hLm λe4=>e3 e4.symm).1 hl)
   ·have hl':=(hLo p hpm e2).1 hl
    obtain ⟨a,b⟩:=h.lock i' hi' p hpm z hz hl'
    refine ⟨?_,λk hk1 hk8=>by rw [g _ l1 l2 (.inr (gu p hpm e2)) k hk8];exact b k hk1 hk8⟩
    have:=g _ l1 l2 (.inr (gu p hpm e2)) 0 (by omega)
    rw [Nat.add_zero] at this
    rw [this]
    exact a
  ·rw [eF e] at hl
   have hne:=go i' hi' e p hpm 0 (by omega) (.inr hl)
   obtain ⟨a,b⟩:=h.lock i' hi' p hpm z hz hl
   refine ⟨?_,λk hk1 hk8=>by rw [g _ l1 l2 (.inr hne) k hk8];exact b k hk1 hk8⟩
   have:=g _ l1 l2 (.inr hne) 0 (by omega)
   rw [Nat.add_zero] at this
   rw [this]
   exact a
 ·obtain ⟨z,hz,_,ge,gne,g,_⟩:=gx m' y hy
  by_cases e:m'=m∧l=p0.Line.toNat
  ·obtain ⟨rfl,rfl⟩:=e
   rw [ge rfl]
   have:=hno i hi p0 hp0 rfl
   rw [bQ] at this
   exact cF this.1 this.2 k hk
  ·have hor:m'≠m∨l≠p0.Line.toNat:=by
    by_cases e3:m'=m
    ·exact .inr λe4=>e ⟨e3,e4⟩
    ·exact .inl e3
   rw [g l h1 h2 hor k hk]
   refine h.free l h1 h2 m' z hz (λi' hi' p hpm hpl=>?_) k hk
   obtain ⟨a,b⟩:=hno i' hi' p hpm hpl
   by_cases e2:i'=i
   ·subst e2
    rw [bQ] at a b
    have hor2:p≠p0∨m'≠m:=by
     rcases hor with e3 | e3
     ·exact .inr e3
     ·exact .inl λe4=>e3 (by rw [←e4];exact hpl.symm)
    refine ⟨λc=>a ((hNo p hpm m' (gm m' z hz) hor2).2 c),λe5 c=>b e5 ?_⟩
    by_cases e4:p=p0
    ·subst e4
     exact (hLm λe6=>hor2.elim (λe7=>e7 rfl) λe7=>e7 (e5.trans e6.symm)).2 c
    ·exact (hLo p hpm e4).2 c
   ·rw [eF e2] at a b
    exact ⟨a,b⟩
 ·
  have gt:∀ p ∈ (E.J i).writes,p≠p0→(Tch E.n (E.J i) i s p↔Tch E.n (E.J i) i (S i) p):=λp hpm hne=>by
   unfold Tch
   rw [hLo p hpm hne]
   constructor
   ·rintro (c | ⟨m,c,d⟩)
    ·exact .inl c
    ·exact .inr ⟨m,c,(hNo p hpm m c (.inl hne)).1 d⟩
   ·rintro (c | ⟨m,c,d⟩)
    ·exact .inl c
    ·exact .inr ⟨m,c,(hNo p hpm m c (.inl hne)).2 d⟩
  by_cases ea:a=i
  ·subst ea
   rw [bQ] at ht
   rw [eF (λe=>hab e.symm)]
   by_cases e:p=p0
   ·subst e
    exact hT b hb (λe=>hab e.symm) p' hpm' hl.symm
   ·exact h.excl a b ha hb hab p hpm p' hpm' hl ((gt p hpm e).1 ht)
  ·rw [eF ea] at ht
   by_cases eb:b=i
   ·subst eb
    rw [bQ]
    by_cases e:p'=p0
    ·subst e
     exact λ_=>hT a ha hab p hpm hl ht
    ·rw [gt p' hpm' e]
     exact h.excl a b ha hb hab p hpm p' hpm' hl ht
   ·rw [eF eb]
    exact h.excl a b ha hb hab p hpm p' hpm' hl ht
 ·obtain ⟨z,hz,_,_,_,_,g⟩:=gx m' y hy
  rw [g i' (hE.job i' hi').i6]
  by_cases e:i'=i
  ·subst e
   rw [bQ,hK m' (gm m' z hz)]
   exact h.clock i' hi' m' z hz
  ·rw [eF e]
   exact h.clock i' hi' m' z hz
 ·by_cases e:i'=i
  ·subst e
   rw [bQ] at hl ⊢
   exact hB p hpm hl
  ·rw [eF e] at hl ⊢
   exact h.both i' hi' p hpm hl
 ·obtain ⟨z,hz,_,_,_,_,g⟩:=gx m' y hy
  rw [g c h6]
  exact h.oth c h6 hno m' z hz
end Go.Proofs.YtgpmeaicjonenaaGreat
namespace Go.Proofs.YtgpmeaicjonenaaGreat
open Go.Eng C12
theorem xQ {vs:List Verb} {dn:Nat→Option Done} {q:Nat} {v:Verb} (hv:vs[q]?=some v) (hq:dn q=none) (d:Done) (u:Verb):Ex vs (upd dn q d) u↔Ex vs dn u∨u=v:=by
 constructor
 ·rintro ⟨r,e,h1,h2⟩
  by_cases hr:r=q
  ·subst hr
   rw [hv] at h1
   cases h1
   exact .inr rfl
  ·rw [ld hr] at h2
   exact .inl ⟨r,e,h1,h2⟩
 ·rintro (⟨r,e,h1,h2⟩ | rfl)
  ·have hr:r≠q:=λe2=>by rw [e2,hq] at h2;cases h2
   exact ⟨r,e,h1,by rw [ld hr];exact h2⟩
  ·exact ⟨q,d,hv,jI _ _ _⟩
theorem C7 {vs:List Verb} (hd:vs.Nodup) {dn:Nat→Option Done} {q:Nat} {v:Verb} (hv:vs[q]?=some v) (d:Done) (u:Verb):Pe vs (upd dn q d) u↔Pe vs dn u∧u≠v:=by
 constructor
 ·rintro ⟨r,h1,h2⟩
  have hr:r≠q:=λe=>by rw [e,jI] at h2;cases h2
  rw [ld hr] at h2
  refine ⟨⟨r,h1,h2⟩,λe=>hr ?_⟩
  subst e
  exact (List.getElem?_inj (aN h1) hd).1 (h1.trans hv.symm)
 ·rintro ⟨⟨r,h1,h2⟩,hne⟩
  have hr:r≠q:=λe=>by rw [e,hv] at h1;cases h1;exact hne rfl
  exact ⟨r,h1,by rw [ld hr];exact h2⟩
theorem xR {vs:List Verb} {dn:Nat→Option Done} {v:Verb} (h:v ∈ vs):Ex vs dn v∨Pe vs dn v:=by
 obtain ⟨q,hq⟩:=List.mem_iff_getElem?.1 h
 cases hd:dn q with
 |none=>exact .inr ⟨q,hq,hd⟩
 |some d=>exact .inl ⟨q,d,hq,hd⟩
section
variable {E:Env} {i:Nat} {j:CJob}
theorem rt {n q:Nat} {f:Nat→Verb} {v:Verb} (h:((List.range n).map f)[q]?=some v):q<n∧v=f q:=by
 rw [List.getElem?_map] at h
 by_cases hq:q<n
 ·rw [List.getElem?_range hq] at h
  exact ⟨hq,by cases h;rfl⟩
 ·rw [List.getElem?_eq_none (by simp;omega)] at h
  cases h
theorem AE {m m':Nat} {a a':Int} {ws ws':List Int} (h:wV m a ws=wV m' a' ws'):m=m'∧a=a'∧ws=ws':=by
 unfold wV at h
 simp only [Verb.mk.injEq] at h
 exact ⟨by omega,h.2.2.1,h.2.2.2.2.2.2.1⟩
theorem C8 {a a' o o' w w':Int} (h:cV a o w=cV a' o' w'):a=a'∧o=o'∧w=w':=by
 unfold cV at h
 simp only [Verb.mk.injEq] at h
 exact ⟨h.2.2.1,h.2.2.2.2.1,h.2.2.2.2.2.1⟩
theorem Ed {a a' o w:Int}:cV a o w≠rV a':=λh=>by
 unfold cV rV at h
 simp at h
theorem ss (h:cG E i j) {m m':Nat} {p p':aG} (hp:p ∈ j.writes) (hp':p' ∈ j.writes) (e:pgV m p=pgV m' p'):m=m'∧p=p':=by
 obtain ⟨h1,h2,_⟩:=AE e
 exact ⟨h1,h.uniq p hp p' hp' (by omega)⟩
theorem v6 (h:cG E i j) {m m':Nat} {p:aG} (hp:p ∈ j.writes) (seq:Int):pgV m p≠ckV i seq m':=λe=>by
 obtain ⟨_,h2,_⟩:=AE e
 have h3:=h.pl hp
 have h6:=h.i6
 omega
theorem AF {seq:Int} {m m':Nat} (e:ckV i seq m=ckV i seq m'):m=m':=(AE e).1
theorem uw (h:cG E i j) {p p':aG} (hp:p ∈ j.writes) (hp':p' ∈ j.writes) (e:cV (p.Line * 8) p.Head (eT p.Head i)=cV (p'.Line * 8) p'.Head (eT p'.Head i)):p=p':=by
 obtain ⟨h1,_⟩:=C8 e
 exact h.uniq p hp p' hp' (by omega)
theorem xS (h:cG E i j) {p p':aG} (hp:p ∈ j.writes) (hp':p' ∈ j.writes) (e:pX i p=pX i p'):p=p':=by
 obtain ⟨h1,_⟩:=C8 e
 exact h.uniq p hp p' hp' (by omega)
theorem lw (h:cG E i j) (hn:1≤E.n) {q:Nat} {v:Verb} (hv:(aX j)[q]?=some v):(∃ p ∈ j.writes,j.writes[q]?=some p∧v=cV (p.Line * 8) p.Head (eT p.Head i))∨∃ s ∈ j.reads,v=rV (s.Line * 8):=by
 rw [h.lockL hn] at hv
 by_cases hq:q<j.writes.length
 ·rw [List.getElem?_append_left (by simpa using hq),List.getElem?_map,List.getElem?_eq_getElem hq] at hv
  cases hv
  exact .inl ⟨_,List.getElem_mem hq,List.getElem?_eq_getElem hq,rfl⟩
 ·rw [List.getElem?_append_right (by simpa using hq),List.getElem?_map] at hv
  cases hs:j.reads[q - (j.writes.map λp=>cV (p.Line * 8) p.Head (eT p.Head i)).length]? with
  |none=>rw [hs] at hv;cases hv
  |some s=>
   rw [hs] at hv
   cases hv
   exact .inr ⟨s,List.mem_of_getElem? hs,rfl⟩
theorem su (h:cG E i j) {v:Verb} (hv:v ∈ fU j):∃ m,1≤m∧m<E.n∧((∃ p ∈ j.writes,v=pgV m p)∨v=ckV i j.seq m):=by
 rw [h.backL] at hv
 obtain ⟨l,hl,hm⟩:=List.mem_flatten.1 hv
 obtain ⟨m,hm2,rfl⟩:=List.mem_map.1 hl
 have:=List.mem_range.1 hm2
 refine ⟨m+1,by omega,by omega,?_⟩
 rcases List.mem_append.1 hm with g | g
 ·obtain ⟨p,hp,rfl⟩:=List.mem_map.1 g
  exact .inl ⟨p,hp,rfl⟩
 ·rw [List.mem_singleton] at g
  exact .inr g
theorem ux (h:cG E i j) {m:Nat} (h1:1≤m) (h2:m<E.n):(∀ p ∈ j.writes,pgV m p ∈ fU j)∧ckV i j.seq m ∈ fU j:=by
 rw [h.backL]
 have hm:j.writes.map (pgV m)++[ckV i j.seq m] ∈ (List.range (E.n - 1)).map λm=>j.writes.map (pgV (m+1))++[ckV i j.seq (m+1)]:=by
  refine List.mem_map.2 ⟨m - 1,List.mem_range.2 (by omega),?_⟩
  rw [show m - 1+1=m by omega]
 exact ⟨λp hp=>List.mem_flatten.2 ⟨_,hm,List.mem_append_left _ (List.mem_map_of_mem hp)⟩,List.mem_flatten.2 ⟨_,hm,List.mem_append_right _ (List.mem_singleton_self _)⟩⟩
theorem AG (h:cG E i j) (hn:1≤E.n) {v:Verb} (hv:v ∈ finV j):v=ckV i j.seq 0∨∃ p ∈ j.writes,v=pgV 0 p:=by
 rw [h.finL hn] at hv
 rcases List.mem_cons.1 hv with g | g
 ·exact .inl g
 ·obtain ⟨p,hp,rfl⟩:=List.mem_map.1 g
  exact .inr ⟨p,hp,rfl⟩
theorem sv (h:cG E i j) (hn:1≤E.n):(∀ p ∈ j.writes,pgV 0 p ∈ finV j)∧ckV i j.seq 0 ∈ finV j:=by
 rw [h.finL hn]
 exact ⟨λp hp=>List.mem_cons_of_mem _ (List.mem_map_of_mem hp),List.mem_cons_self⟩
theorem xT {l:List Verb} (h:(l.map Verb.at_).Nodup):l.Nodup:=by
 induction l with
 |nil=>exact List.nodup_nil
 |cons a l ih=>
  rw [List.map_cons,List.nodup_cons] at h
  rw [List.nodup_cons]
  exact ⟨λhm=>h.1 (List.mem_map_of_mem hm),ih h.2⟩
theorem sw (h:cG E i j):(j.writes.map λp=>p.Line * 8).Nodup:=by
 have:=h.nodup
 have e:(j.writes.map λp=>p.Line * 8)=(j.writes.map (·.Line)).map λx=>x * 8:=by rw [List.map_map];rfl
 rw [e]
 unfold List.Nodup at this ⊢
 rw [List.pairwise_map]
 exact this.imp λh e=>h (by omega)
theorem AH (h:cG E i j) (hn:1≤E.n):(finV j).Nodup:=by
 rw [h.finL hn,List.nodup_cons]
 refine ⟨λhm=>?_,xT ?_⟩
 ·obtain ⟨p,hp,e⟩:=List.mem_map.1 hm
  exact v6 h hp _ e
 ·rw [List.map_map]
  exact sw h
theorem xU:∀ {vs:List Verb} {xs:List Int} {ds:List Done} {v:Verb},v ∈ eO vs xs ds→∃ (q:Nat) (u:Verb) (x:Int) (d:Done),vs[q]?=some u∧xs[q]?=some x∧ds[q]?=some d∧eA d=x∧u.kind=3∧v=vT u
 | [],xs,ds,v,h=>by simp [eO] at h
 |u::vs,[],ds,v,h=>by simp [eO] at h
 |u::vs,x::xs,[],v,h=>by simp [eO] at h
 |u::vs,x::xs,d::ds,v,h=>by
  unfold eO at h
  rcases List.mem_append.1 h with g | g
  ·split at g
   ·rename_i hc
    rw [List.mem_singleton] at g
    exact ⟨0,u,x,d,rfl,rfl,rfl,hc.1,hc.2,g⟩
   ·cases g
  ·obtain ⟨q,u',x',d',h1,h2,h3,h4⟩:=xU g
   exact ⟨q+1,u',x',d',by simpa using h1,by simpa using h2,by simpa using h3,h4⟩
theorem v7:∀ {vs:List Verb} {xs:List Int} {ds:List Done} {q:Nat} {u:Verb} {x:Int} {d:Done},vs[q]?=some u→xs[q]?=some x→ds[q]?=some d→eA d=x→u.kind=3→vT u ∈ eO vs xs ds
 | [],xs,ds,q,u,x,d,h1,_,_,_,_=>by simp at h1
 |v::vs,[],ds,q,u,x,d,_,h2,_,_,_=>by simp at h2
 |v::vs,y::xs,[],q,u,x,d,_,_,h3,_,_=>by simp at h3
 |v::vs,y::xs,e::ds,q,u,x,d,h1,h2,h3,h4,h5=>by
  unfold eO
  cases q with
  |zero=>
   simp only [List.getElem?_cons_zero,Option.some.injEq] at h1 h2 h3
   subst h1 h2 h3
   rw [if_pos ⟨h4,h5⟩]
   exact List.mem_append_left _ (List.mem_singleton_self _)
  |succ q=>exact List.mem_append_right _ (v7 (by simpa using h1) (by simpa using h2) (by simpa using h3) h4 h5)
theorem pY:∀ (vs:List Verb) (xs:List Int) (ds:List Done),((eO vs xs ds).map Verb.at_).Sublist ((vs.filter λv=>v.kind == 3).map Verb.at_)
 | [],xs,ds=>by simp [eO]
 |u::vs,[],ds=>by simp [eO]
 |u::vs,x::xs,[]=>by simp [eO]
 |u::vs,x::xs,d::ds=>by
  unfold eO
  have ih:=pY vs xs ds
  by_cases hk:u.kind=3
  ·rw [List.filter_cons_of_pos (by simpa using hk),List.map_cons]
   by_cases hw:eA d=x
   ·rw [if_pos ⟨hw,hk⟩]
    exact ih.cons_cons _
   ·rw [if_neg λh=>hw h.1]
    exact ih.cons _
  ·rw [List.filter_cons_of_neg (by simpa using hk),if_neg λh=>hk h.2]
   exact ih
theorem uy (h:cG E i j) {q:Nat} {p:aG} (hp:j.writes[q]?=some p):(dR j)[q]?=some p.Head:=by
 unfold dR
 rw [List.getElem?_append_left (by simpa using aN hp),List.getElem?_map,hp]
 rfl
theorem ru (h:cG E i j) (hn:1≤E.n) {q:Nat} {p:aG} (hp:j.writes[q]?=some p):(aX j)[q]?=some (cV (p.Line * 8) p.Head (eT p.Head i)):=by
 rw [h.lockL hn,List.getElem?_append_left (by simpa using aN hp),List.getElem?_map,hp]
 rfl
theorem sx (h:cG E i j) (hn:1≤E.n) {D:List Done} {v:Verb} (hv:v ∈ iQ j D):∃ (q:Nat) (p:aG) (d:Done),p ∈ j.writes∧j.writes[q]?=some p∧D[q]?=some d∧eA d=p.Head∧v=pX i p:=by
 obtain ⟨q,u,x,d,h1,h2,h3,h4,h5,rfl⟩:=xU hv
 rcases lw h hn h1 with ⟨p,hp,hq,rfl⟩ | ⟨s,_,rfl⟩
 ·rw [uy h hq] at h2
  cases h2
  exact ⟨q,p,d,hp,hq,h3,h4,rfl⟩
 ·exact absurd h5 (by show ¬ ((1:Int)=3);omega)
theorem Cn (h:cG E i j) (hn:1≤E.n) {D:List Done} {q:Nat} {p:aG} {d:Done} (hp:j.writes[q]?=some p) (hd:D[q]?=some d) (hw:eA d=p.Head):pX i p ∈ iQ j D:=by
 have:=v7 (ru h hn hp) (uy h hp) hd hw rfl
 exact this
theorem y6 (h:cG E i j) (hn:1≤E.n) (D:List Done):(iQ j D).Nodup:=by
 refine xT ((pY _ _ _).nodup ?_)
 rw [h.lockL hn,List.filter_append]
 have e1:((j.writes.map λp=>cV (p.Line * 8) p.Head (eT p.Head i)).filter λv=>v.kind == 3)=j.writes.map λp=>cV (p.Line * 8) p.Head (eT p.Head i):=by
  rw [List.filter_eq_self]
  intro v hv
  obtain ⟨p,_,rfl⟩:=List.mem_map.1 hv
  rfl
 have e2:((j.reads.map λs=>rV (s.Line * 8)).filter λv=>v.kind == 3)=[]:=by
  rw [List.filter_eq_nil_iff]
  intro v hv
  obtain ⟨p,_,rfl⟩:=List.mem_map.1 hv
  simp [rV]
 rw [e1,e2,List.append_nil,List.map_map]
 exact sw h
end
end Go.Proofs.YtgpmeaicjonenaaGreat
namespace Go.Proofs.YtgpmeaicjonenaaGreat
open Go.Eng C12
section
variable {n L:Nat} {p:Pair} {x:aP} {vs':List Verb}
theorem Fi (hL:98≤L) {m:Nat} {a:Int} {ws:List Int} (hg:VGo n L (wV m a ws)) (hn:n≤5) (hx:NFix L x) {c:Nat} (hc:c<6) (hcl:p.client=c) (hinc:p.inc=1) (hP:bO p) (hpv:p.verbs=wV m a ws::vs') (hd:p.words=[]) (h0:0≤a) (h1:a+ws.length≤L * 8) :
  NFr a.toNat ws.length x (p.step x).2.1∧∀ d,(p.step x).2.2=some d→d=⟨0,[]⟩:=by
 have hr:=gV hx hn hg hc hcl hinc (p:=p)
 have hex:=hP.rdy _ _ hpv
 have hpc:((wV m a ws).v.pieces.getD p.executed (0,0)) ∈ (wV m a ws).v.pieces:=by
  rw [List.getD_eq_getElem?_getD,List.getElem?_eq_getElem hex]
  exact List.getElem_mem hex
 obtain ⟨g1,g2⟩:=yZ (x:=wV m a ws) rfl h0 (n:=x) (by have:=hx.len;show a+(ws.length:Int)≤_;omega) hpc
 rw [xe hpv hr]
 split
 ·exact ⟨g1,λd e=>by cases e⟩
 ·refine ⟨g1,λd e=>?_⟩
  cases e
  rw [hd,g2]
  rfl
theorem uz {m:Nat} {a:Int} {ws:List Int} (hg:VGo n L (wV m a ws)) (hn:n≤5) (hx:NFix L x) {c:Nat} (hc:c<6) (hcl:p.client=c) (hinc:p.inc=1) (hP:bO p) (hpv:p.verbs=wV m a ws::vs') (h0:0≤a) (h1:1≤ws.length) (h2:a % 8+ws.length≤8) :
  p.step x=(p.done,x.write a.toNat ws,some ⟨0,[]⟩):=by
 have hr:=gV hx hn hg hc hcl hinc (p:=p)
 have hp:(wV m a ws).v.pieces=[(a,(ws.length:Int))]:=fZ (v:=(wV m a ws).v) (by show 1≤(ws.length:Int);omega) h2 h0
 have he:=Cj (x:=wV m a ws) rfl (n:=x)
 rw [rq hP hpv hr hp]
 show (p.done,(exec (wV m a ws) ((wV m a ws).at_,((wV m a ws).words.length:Int)) x).1,some (⟨0,(exec (wV m a ws) ((wV m a ws).at_,((wV m a ws).words.length:Int)) x).2⟩:Done))=_
 rw [he]
 rfl
theorem AI {a o w:Int} (hg:VGo n L (cV a o w)) (hn:n≤5) (hx:NFix L x) {c:Nat} (hc:c<6) (hcl:p.client=c) (hinc:p.inc=1) (hP:bO p) (hpv:p.verbs=cV a o w::vs') (h0:0≤a) (h2:a % 8=0) :
  p.step x=(p.done,x.cas a o w,some ⟨0,[x.get a.toNat]⟩):=by
 have hr:=gV hx hn hg hc hcl hinc (p:=p)
 have hp:(cV a o w).v.pieces=[(a,1)]:=fZ (v:=(cV a o w).v) (by show (1:Int)≤1;omega) (by show a % 8+1≤8;omega) h0
 rw [rq hP hpv hr hp,Cl rfl]
 rfl
theorem C9 {a:Int} (hg:VGo n L (rV a)) (hn:n≤5) (hx:NFix L x) {c:Nat} (hc:c<6) (hcl:p.client=c) (hinc:p.inc=1) (hP:bO p) (hpv:p.verbs=rV a::vs') (h0:0≤a) (h2:a % 8=0) (h3:a<L * 8) :
  p.step x=(p.done,x,some ⟨0,[x.get a.toNat]⟩):=by
 have hr:=gV hx hn hg hc hcl hinc (p:=p)
 have hp:(rV a).v.pieces=[(a,1)]:=fZ (v:=(rV a).v) (by show (1:Int)≤1;omega) (by show a % 8+1≤8;omega) h0
 have hl:=hx.len
 have he:=y5 (x:=rV a) rfl h0 (n:=x) (by show a.toNat<_;omega)
 rw [rq hP hpv hr hp]
 show (p.done,(exec (rV a) ((rV a).at_,1) x).1,some (⟨0,(exec (rV a) ((rV a).at_,1) x).2⟩:Done))=_
 rw [he]
 rfl
end
section
variable {E:Env} {i:Nat} {j:CJob}
theorem qI (hE:eU E) (h:cG E i j) {m:Nat} (hm:m<E.n):VGo E.n E.L (wV m (56+120 * (i:Int)) (ot j.seq j.writes))∧VGo E.n E.L (wV m (48+120 * (i:Int)) [wU j.seq]):=by
 have h6:=h.i6
 have hf:=h.few
 have hL:=hE.L
 have hn:=hE.n
 have hl:=nA j.seq j.writes
 exact ⟨Cm (by omega) hm (by omega) (by omega) (by omega) (by omega) (by omega),Cm (by omega) hm (by omega) (by omega) (by simp) (by simp) (by simp;omega)⟩
theorem gR (p:aG):(appL p).length=8:=rfl
theorem tJ (hE:eU E) (h:cG E i j) {m:Nat} (hm:m<E.n) {p:aG} (hp:p ∈ j.writes):VGo E.n E.L (pgV m p):=by
 obtain ⟨e,l1,l2⟩:=h.pl hp
 have hL:=hE.L
 have hn:=hE.n
 exact Cm (by omega) hm (by omega) (by omega) (by rw [gR];omega) (by rw [gR];omega) (by rw [gR];omega)
theorem tK (hE:eU E) (h:cG E i j) {m:Nat} (hm:m<E.n) (seq:Int):VGo E.n E.L (ckV i seq m):=by
 have h6:=h.i6
 have hL:=hE.L
 have hn:=hE.n
 exact Cm (by omega) hm (by omega) (by omega) (by simp) (by simp) (by simp;omega)
theorem oX (hE:eU E) (h:cG E i j) {p:aG} (hp:p ∈ j.writes) (o w:Int):VGo E.n E.L (cV (p.Line * 8) o w):=by
 obtain ⟨e,l1,l2⟩:=h.pl hp
 have hL:=hE.L
 have hn:=hE.n
 exact FR (by omega) (by omega) (by omega) (by omega)
theorem xV (hE:eU E) (h:cG E i j) {s:aV} (hs:s ∈ j.reads):VGo E.n E.L (rV (s.Line * 8)):=by
 obtain ⟨l,e,l1,l2⟩:=h.rline s hs
 have hL:=hE.L
 have hn:=hE.n
 exact FT (by omega) (by omega) (by omega) (by omega)
end
theorem FU {E:Env} (hE:eU E) {i:Nat} {j:CJob} (h:cG E i j) {s:CS} {p:aG} (hp:p ∈ j.writes) (ht:Tch E.n j i s p):Lk j i s p∨Nw j s 0 p:=by
 rcases ht with a | ⟨m,_,a⟩
 ·exact .inl a
 ·obtain ⟨ph,dn,D⟩:=s
  rcases ph with _ | _ | _ | _ | _ | _ | _ | ph
  all_goals first | exact a.elim | skip
  ·exact .inl trivial
  ·exact (xR ((sv h hE.n.1).1 p hp)).symm.imp id λe=>.inr e
  ·exact .inr trivial
theorem gy.vacant {E:Env} {ns:List aP} {S:Nat→CS} (h:gy E ns S) (hE:eU E) {x:aP} (hx:ns[0]?=some x) {l:Nat} (h1:96≤l) (h2:l<E.L) (hh:x.get (l * 8)=E.base l 0) :
  (∀ k,k<8→x.get (l * 8+k)=E.base l k)∧∀ i,E.on i→∀ p ∈ (E.J i).writes,p.Line.toNat=l→¬ Tch E.n (E.J i) i (S i) p:=by
 have hno:∀ i,E.on i→∀ p ∈ (E.J i).writes,p.Line.toNat=l→¬ Nw (E.J i) (S i) 0 p∧¬ Lk (E.J i) i (S i) p:=λi hi p hp hl=>by
  have hj:=hE.job i hi
  have hhd:=hj.head p hp
  rw [hl] at hhd
  refine ⟨λc=>?_,λc=>?_⟩
  ·have:=h.new i hi p hp 0 x hx c 0 (by omega)
   rw [Nat.add_zero,hl,hh] at this
   have e:(appL p).getD 0 0=rf p.Head:=rfl
   rw [e,←hhd] at this
   exact hj.next p hp this.symm
  ·have:=(h.lock i hi p hp x hx c).1
   rw [hl,hh,←hhd] at this
   exact (hj.locks p hp i hj.i6).1 this.symm
 refine ⟨h.free l h1 h2 0 x hx λi hi p hp hl=>⟨(hno i hi p hp hl).1,λ_=>(hno i hi p hp hl).2⟩,λi hi p hp hl ht=>?_⟩
 rcases FU hE (hE.job i hi) hp ht with c | c
 ·exact (hno i hi p hp hl).2 c
 ·exact (hno i hi p hp hl).1 c
end Go.Proofs.YtgpmeaicjonenaaGreat
