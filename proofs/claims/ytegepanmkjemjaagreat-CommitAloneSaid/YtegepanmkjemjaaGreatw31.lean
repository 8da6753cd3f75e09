import Derived.Test.YtegepanmkjemjaaGreatw28
import Derived.Test.YtegepanmkjemjaaGreatw30
set_option linter.unusedVariables false
namespace Go.Proofs.YtegepanmkjemjaaGreat
open Go.Eng C12
def mm (m:Nat):aF:=⟨(m:Int),1,true⟩
def wV (m:Nat) (a:Int) (ws:List Int):Verb:=⟨2,(m:Int),a,0,0,0,ws,1,1⟩
def cV (a old new:Int):Verb:=⟨3,0,a,0,old,new,[],1,1⟩
def rV (a:Int):Verb:=⟨1,0,a,1,0,0,[],1,1⟩
theorem Di {n L m:Nat} {a:Int} {ws:List Int} (hn:n≤5) (hm:m<n) (hL:1≤L∧L≤256) (ha:24≤a) (h1:1≤ws.length) (h2:ws.length≤1000) (h3:a+ws.length≤L * 8):VGo n L (wV m a ws):=by
 refine ⟨λk hk hk5=>?_,⟨by show (0:Int)≤m;omega,by show (m:Int)<n;omega⟩,rfl,rfl⟩
 have hc:(wV m a ws).v.count=ws.length:=rfl
 have hi:(wV m a ws).v.inside k L=true:=by
  unfold aL.inside aL.l0 aL.l1
  rw [hc]
  apply decide_eq_true
  show 1≤k∧k≤5∧1≤(L:Int)∧(L:Int)≤256∧0≤(m:Int)∧(m:Int)<k∧0≤a∧a<(L:Int) * 8∧(ws.length:Int)≤1024∧(a+ws.length - 1) / 8<(L:Int)∧(a+ws.length - 1) / 8 - a / 8<128
  omega
 unfold aL.valid
 rw [hc,if_neg (by omega),hi,if_neg (by simp),if_neg]
 unfold aL.l0 aL.l1 aL.last
 rw [hc]
 show ¬ (a / 8≤(if (2:Int)=1 then 3 else 2)∧(if (2:Int)=1 then 3 else 2)<(a+ws.length - 1) / 8)
 rw [if_neg (by omega)]
 omega
theorem G2 {n L:Nat} {a old new:Int} (hn:1≤n∧n≤5) (hL:1≤L∧L≤256) (ha:32≤a) (h3:a+1≤L * 8):VGo n L (cV a old new):=by
 refine ⟨λk hk hk5=>?_,⟨by show (0:Int)≤0;omega,by show (0:Int)<n;omega⟩,rfl,rfl⟩
 have hc:(cV a old new).v.count=1:=rfl
 have hi:(cV a old new).v.inside k L=true:=by
  unfold aL.inside aL.l0 aL.l1
  rw [hc]
  apply decide_eq_true
  show 1≤k∧k≤5∧1≤(L:Int)∧(L:Int)≤256∧0≤(0:Int)∧(0:Int)<k∧0≤a∧a<(L:Int) * 8∧(1:Int)≤1024∧(a+1 - 1) / 8<(L:Int)∧(a+1 - 1) / 8 - a / 8<128
  omega
 unfold aL.valid
 rw [hc,if_neg (by omega),hi,if_neg (by simp),if_neg]
 unfold aL.l0 aL.l1 aL.last
 rw [hc]
 show ¬ (a / 8≤(if (3:Int)=1 then 3 else 2)∧(if (3:Int)=1 then 3 else 2)<(a+1 - 1) / 8)
 rw [if_neg (by omega)]
 omega
theorem Gu {n L:Nat} {a:Int} (hn:1≤n∧n≤5) (hL:1≤L∧L≤256) (ha:32≤a) (h3:a+1≤L * 8):VGo n L (rV a):=by
 refine ⟨λk hk hk5=>?_,⟨by show (0:Int)≤0;omega,by show (0:Int)<n;omega⟩,rfl,rfl⟩
 have hc:(rV a).v.count=1:=rfl
 have hi:(rV a).v.inside k L=true:=by
  unfold aL.inside aL.l0 aL.l1
  rw [hc]
  apply decide_eq_true
  show 1≤k∧k≤5∧1≤(L:Int)∧(L:Int)≤256∧0≤(0:Int)∧(0:Int)<k∧0≤a∧a<(L:Int) * 8∧(1:Int)≤1024∧(a+1 - 1) / 8<(L:Int)∧(a+1 - 1) / 8 - a / 8<128
  omega
 unfold aL.valid
 rw [hc,if_neg (by omega),hi,if_neg (by simp),if_neg]
 unfold aL.l0 aL.l1 aL.last
 rw [hc]
 show ¬ (a / 8≤(if (1:Int)=1 then 3 else 2)∧(if (1:Int)=1 then 3 else 2)<(a+1 - 1) / 8)
 rw [if_pos rfl]
 omega
structure Env where
 n:Nat
 L:Nat
 base:Nat→Nat→Int
 bc:Nat→Int
 ids:List Nat
 J:Nat→CJob
 tr:Bool
def Env.on (E:Env) (i:Nat):Prop:=i ∈ E.ids
structure cB (E:Env) (i:Nat) (j:CJob):Prop where
 cl:j.client=(i:Int)
 i6:i<6
 valid:j.valid=0
 view:j.v=vA E.n
 some_:j.writes≠[]
 few:j.writes.length≤12
 rfew:j.reads.length≤24
 line:∀ p ∈ j.writes,∃ l:Nat,p.Line=(l:Int)∧96≤l∧l<E.L
 rline:∀ s ∈ j.reads,∃ l:Nat,s.Line=(l:Int)∧96≤l∧l<E.L
 uniq:∀ p ∈ j.writes,∀ q ∈ j.writes,p.Line=q.Line→p=q
 nodup:(j.writes.map (·.Line)).Nodup
 head:∀ p ∈ j.writes,p.Head=E.base p.Line.toNat 0
 locks:∀ p ∈ j.writes,∀ k:Nat,k<6→fE p.Head k≠p.Head∧(fE p.Head k=fE p.Head i→k=i)
 next:∀ p ∈ j.writes,sl p.Head≠p.Head
 rhead:∀ s ∈ j.reads,s.Head=E.base s.Line.toNat 0
 rdis:∀ s ∈ j.reads,∀ p ∈ j.writes,s.Line≠p.Line
structure fK (E:Env):Prop where
 n:1≤E.n∧E.n≤5
 L:98≤E.L∧E.L≤256
 ids:E.ids.Nodup
 job:∀ i,E.on i→cB E i (E.J i)
section
variable {E:Env} {i:Nat} {j:CJob}
theorem cB.mem (h:cB E i j):j.v.mem=(List.range E.n).map mm:=by rw [h.view];rfl
theorem cB.num (h:cB E i j):j.v.number=0:=by rw [h.view];rfl
theorem cB.m0 (h:cB E i j) (hn:1≤E.n):m0Of j=mm 0:=by
 unfold m0Of
 rw [h.mem]
 obtain ⟨k,hk⟩:∃ k,E.n=k+1:=⟨E.n - 1,by omega⟩
 rw [hk,List.range_succ_eq_map]
 rfl
theorem cB.tail (h:cB E i j):j.v.mem.tail=(List.range (E.n - 1)).map λm=>mm (m+1):=by
 rw [h.mem]
 cases hk:E.n with
 |zero=>rfl
 |succ k=>
  rw [List.range_succ_eq_map]
  simp
theorem cB.log (h:cB E i j) (a:Int) (ws:List Int):logV j a ws=(List.range E.n).map λm=>wV m a ws:=by
 unfold logV
 rw [h.mem,h.num,List.map_map]
 rfl
theorem cB.cas (h:cB E i j) (hn:1≤E.n) (p:aB):casV j p=cV (p.Line * 8) p.Head (fE p.Head i):=by
 unfold casV
 rw [h.num,h.m0 hn,h.cl]
 rfl
theorem cB.read (h:cB E i j) (hn:1≤E.n) (s:aU):sm j s=rV (s.Line * 8):=by
 unfold sm
 rw [h.num,h.m0 hn]
 rfl
def pgV (m:Nat) (p:aB):Verb:=wV m (p.Line * 8) (appL p)
def ckV (i:Nat) (seq:Int) (m:Nat):Verb:=wV m (32+(i:Int)) [seq]
theorem cB.page (h:cB E i j) (m:Nat) (p:aB):oA j (mm m) p=pgV m p:=by
 unfold oA
 rw [h.num]
 rfl
theorem cB.clock (h:cB E i j) (m:Nat):my j (mm m)=ckV i j.seq m:=by
 unfold my
 rw [h.num,h.cl]
 rfl
theorem cB.lockL (h:cB E i j) (hn:1≤E.n):aW j=(j.writes.map λp=>cV (p.Line * 8) p.Head (fE p.Head i))++j.reads.map λs=>rV (s.Line * 8):=by
 unfold aW
 congr 1
 ·exact List.map_congr_left λp _=>h.cas hn p
 ·exact List.map_congr_left λs _=>h.read hn s
theorem cB.backL (h:cB E i j):gE j=((List.range (E.n - 1)).map λm=>(j.writes.map (pgV (m+1))++[ckV i j.seq (m+1)])).flatten:=by
 unfold gE
 rw [h.tail,List.map_map]
 congr 1
 refine List.map_congr_left λm _=>?_
 show memV j (mm (m+1))=_
 unfold memV
 rw [if_neg h.some_,h.clock]
 congr 1
 exact List.map_congr_left λp _=>h.page (m+1) p
theorem cB.finL (h:cB E i j) (hn:1≤E.n):finV j=ckV i j.seq 0::j.writes.map (pgV 0):=by
 have hm:=h.mem
 unfold finV
 obtain ⟨k,hk⟩:∃ k,E.n=k+1:=⟨E.n - 1,by omega⟩
 rw [hk,List.range_succ_eq_map] at hm
 rw [hm]
 simp only [List.map_cons]
 rw [h.clock]
 congr 1
 exact List.map_congr_left λp _=>h.page 0 p
theorem cB.bodyE (h:cB E i j):fJ j=(List.range E.n).map λm=>wV m (56+120 * (i:Int)) (pe j.seq j.writes):=by
 unfold fJ
 rw [h.log,h.cl]
 have e:ry (i:Int)+8=56+120 * (i:Int):=by unfold ry;omega
 rw [e]
theorem cB.markE (h:cB E i j):iV j=(List.range E.n).map λm=>wV m (48+120 * (i:Int)) [xW j.seq]:=by
 unfold iV
 rw [h.log,h.cl]
 rfl
end
end Go.Proofs.YtegepanmkjemjaaGreat
namespace Go.Proofs.YtegepanmkjemjaaGreat
open Go.Eng C12
structure CS where
 ph:Nat
 dn:Nat→Option Done
 D:List Done
def vsOf (j:CJob) (s:CS):List Verb:=match s.ph with
 | 0=>fJ j
 | 1=>aW j
 | 2=>iV j
 | 3=>gE j
 | 4=>finV j
 | 5=>iW j s.D
 | _=>[]
def Ex (vs:List Verb) (dn:Nat→Option Done) (v:Verb):Prop:=∃ r d,vs[r]?=some v∧dn r=some d
def Pe (vs:List Verb) (dn:Nat→Option Done) (v:Verb):Prop:=∃ r,vs[r]?=some v∧dn r=none
def qT (i:Nat) (p:aB):Verb:=cV (p.Line * 8) (fE p.Head i) p.Head
def Lk (j:CJob) (i:Nat) (s:CS) (p:aB):Prop:=match s.ph with
 | 1=>∃ r d,(aW j)[r]?=some (cV (p.Line * 8) p.Head (fE p.Head i))∧s.dn r=some d∧gC d=p.Head
 | 2=>True
 | 3=>True
 | 4=>Pe (finV j) s.dn (pgV 0 p)
 | 5=>Pe (iW j s.D) s.dn (qT i p)
 | _=>False
def Nw (j:CJob) (s:CS) (m:Nat) (p:aB):Prop:=match s.ph with
 | 3=>Ex (gE j) s.dn (pgV m p)
 | 4=>1≤m∨Ex (finV j) s.dn (pgV m p)
 | 6=>True
 | _=>False
def Ck (j:CJob) (i:Nat) (s:CS) (m:Nat):Prop:=match s.ph with
 | 3=>Ex (gE j) s.dn (ckV i j.seq m)
 | 4=>1≤m∨Ex (finV j) s.dn (ckV i j.seq m)
 | 6=>True
 | _=>False
def Tch (n:Nat) (j:CJob) (i:Nat) (s:CS) (p:aB):Prop:=Lk j i s p∨∃ m,m<n∧Nw j s m p
structure ie (E:Env) (ns:List aP) (S:Nat→CS):Prop where
 len:ns.length=E.n
 fix:∀ (m:Nat) (x:aP),ns[m]?=some x→NFix E.L x
 new:∀ i,E.on i→∀ p ∈ (E.J i).writes,∀ (m:Nat) (x:aP),ns[m]?=some x→Nw (E.J i) (S i) m p→∀ k,k<8→x.get (p.Line.toNat * 8+k)=(appL p).getD k 0
 lock:∀ i,E.on i→∀ p ∈ (E.J i).writes,∀ (x:aP),ns[0]?=some x→Lk (E.J i) i (S i) p→x.get (p.Line.toNat * 8)=fE p.Head i∧∀ k,1≤k→k<8→x.get (p.Line.toNat * 8+k)=E.base p.Line.toNat k
 free:∀ l:Nat,96≤l→l<E.L→∀ (m:Nat) (x:aP),ns[m]?=some x→(∀ i,E.on i→∀ p ∈ (E.J i).writes,p.Line.toNat=l→¬ Nw (E.J i) (S i) m p∧(m=0→¬ Lk (E.J i) i (S i) p))→∀ k,k<8→x.get (l * 8+k)=E.base l k
 excl:∀ i i',E.on i→E.on i'→i≠i'→∀ p ∈ (E.J i).writes,∀ p' ∈ (E.J i').writes,p.Line.toNat=p'.Line.toNat→Tch E.n (E.J i) i (S i) p→¬ Tch E.n (E.J i') i' (S i') p'
 clock:∀ i,E.on i→∀ (m:Nat) (x:aP),ns[m]?=some x→(Ck (E.J i) i (S i) m→x.get (32+i)=(E.J i).seq)∧(¬ Ck (E.J i) i (S i) m→x.get (32+i)=E.bc i)
 both:∀ i,E.on i→∀ p ∈ (E.J i).writes,Lk (E.J i) i (S i) p→¬ Nw (E.J i) (S i) 0 p
 oth:∀ c:Nat,c<6→¬ E.on c→∀ (m:Nat) (x:aP),ns[m]?=some x→x.get (32+c)=E.bc c
def updS (S:Nat→CS) (i:Nat) (s:CS):Nat→CS:=λk=>if k=i then s else S k
theorem bU (S:Nat→CS) (i:Nat) (s:CS):updS S i s i=s:=if_pos rfl
theorem eD {S:Nat→CS} {i k:Nat} {s:CS} (h:k≠i):updS S i s k=S k:=if_neg h
section
variable {E:Env} {ns:List aP} {S:Nat→CS} {i m:Nat} {s:CS} {x x':aP}
theorem ie.idle (h:ie E ns S) (hi:E.on i) (hx:ns[m]?=some x) (hf:NFix E.L x') (hp:∀ l:Nat,96≤l→l<E.L→∀ k,k<8→x'.get (l * 8+k)=x.get (l * 8+k)) (hc:∀ c:Nat,c<6→x'.get (32+c)=x.get (32+c)) (hE:fK E)
  (hL:∀ p ∈ (E.J i).writes,Lk (E.J i) i s p↔Lk (E.J i) i (S i) p) (hN:∀ p ∈ (E.J i).writes,∀ m,m<E.n→(Nw (E.J i) s m p↔Nw (E.J i) (S i) m p)) (hK:∀ m,m<E.n→(Ck (E.J i) i s m↔Ck (E.J i) i (S i) m)) :
  ie E (ns.set m x') (updS S i s):=by
 have hlt:=aO hx
 have hn:=h.len
 have gL:∀ i',E.on i'→∀ p ∈ (E.J i').writes,Lk (E.J i') i' (updS S i s i') p↔Lk (E.J i') i' (S i') p:=λi' hi' p hp=>by
  by_cases e:i'=i
  ·subst e;rw [bU];exact hL p hp
  ·rw [eD e]
 have gN:∀ i',E.on i'→∀ p ∈ (E.J i').writes,∀ m,m<E.n→(Nw (E.J i') (updS S i s i') m p↔Nw (E.J i') (S i') m p):=λi' hi' p hp=>by
  by_cases e:i'=i
  ·subst e;rw [bU];exact hN p hp
  ·intro m _;rw [eD e]
 have gK:∀ i',E.on i'→∀ m,m<E.n→(Ck (E.J i') i' (updS S i s i') m↔Ck (E.J i') i' (S i') m):=λi' hi'=>by
  by_cases e:i'=i
  ·subst e;rw [bU];exact hK
  ·intro m _;rw [eD e]
 have gT:∀ i',E.on i'→∀ p ∈ (E.J i').writes,Tch E.n (E.J i') i' (updS S i s i') p↔Tch E.n (E.J i') i' (S i') p:=λi' hi' p hp=>by
  unfold Tch
  rw [gL i' hi' p hp]
  constructor
  ·rintro (a | ⟨m,b,c⟩)
   ·exact .inl a
   ·exact .inr ⟨m,b,(gN i' hi' p hp m b).1 c⟩
  ·rintro (a | ⟨m,b,c⟩)
   ·exact .inl a
   ·exact .inr ⟨m,b,(gN i' hi' p hp m b).2 c⟩
 have gx:∀ (m':Nat) (y:aP),(ns.set m x')[m']?=some y→∃ z,ns[m']?=some z∧NFix E.L y∧(∀ l:Nat,96≤l→l<E.L→∀ k,k<8→y.get (l * 8+k)=z.get (l * 8+k))∧∀ c:Nat,c<6→y.get (32+c)=z.get (32+c):=λm' y hy=>by
  by_cases e:m=m'
  ·subst e
   rw [List.getElem?_set_self hlt] at hy
   cases hy
   exact ⟨x,hx,hf,hp,hc⟩
  ·rw [List.getElem?_set_ne e] at hy
   exact ⟨y,hy,h.fix m' y hy,λ_ _ _ _ _=>rfl,λ_ _=>rfl⟩
 have gl:∀ i',E.on i'→∀ p ∈ (E.J i').writes,96≤p.Line.toNat∧p.Line.toNat<E.L:=λi' hi' p hp=>by
  obtain ⟨l,e,h1,h2⟩:=(hE.job i' hi').line p hp
  rw [e,Int.toNat_natCast]
  exact ⟨h1,h2⟩
 have gm:∀ (m':Nat) (y:aP),ns[m']?=some y→m'<E.n:=λm' y hy=>by have:=aO hy;omega
 refine ⟨by simpa using hn,λm' y hy=>?_,λi' hi' p hp m' y hy hw k hk=>?_,λi' hi' p hp y hy hl=>?_,λl h1 h2 m' y hy hno k hk=>?_,λa b ha hb hab p hp p' hp' hl ht=>?_,λi' hi' m' y hy=>?_,λi' hi' p hp hl=>?_,λc h6 hno m' y hy=>?_⟩
 ·obtain ⟨z,_,g,_⟩:=gx m' y hy
  exact g
 ·obtain ⟨z,hz,_,g,_⟩:=gx m' y hy
  obtain ⟨l1,l2⟩:=gl i' hi' p hp
  rw [g _ l1 l2 k hk]
  exact h.new i' hi' p hp m' z hz ((gN i' hi' p hp m' (gm m' z hz)).1 hw) k hk
 ·obtain ⟨z,hz,_,g,_⟩:=gx 0 y hy
  obtain ⟨l1,l2⟩:=gl i' hi' p hp
  obtain ⟨a,b⟩:=h.lock i' hi' p hp z hz ((gL i' hi' p hp).1 hl)
  refine ⟨?_,λk hk1 hk8=>by rw [g _ l1 l2 k hk8];exact b k hk1 hk8⟩
  have:=g _ l1 l2 0 (by omega)
  rw [Nat.add_zero] at this
  rw [this]
  exact a
 ·obtain ⟨z,hz,_,g,_⟩:=gx m' y hy
  rw [g l h1 h2 k hk]
  refine h.free l h1 h2 m' z hz (λi' hi' p hp hpl=>?_) k hk
  obtain ⟨a,b⟩:=hno i' hi' p hp hpl
  exact ⟨λc=>a ((gN i' hi' p hp m' (gm m' z hz)).2 c),λe c=>b e ((gL i' hi' p hp).2 c)⟩
 ·rw [gT b hb p' hp']
  rw [gT a ha p hp] at ht
  exact h.excl a b ha hb hab p hp p' hp' hl ht
 ·obtain ⟨z,hz,_,_,g⟩:=gx m' y hy
  rw [g i' (hE.job i' hi').i6,gK i' hi' m' (gm m' z hz)]
  exact h.clock i' hi' m' z hz
 ·rw [gN i' hi' p hp 0 (by have:=hE.n;omega)]
  exact h.both i' hi' p hp ((gL i' hi' p hp).1 hl)
 ·obtain ⟨z,hz,_,_,g⟩:=gx m' y hy
  rw [g c h6]
  exact h.oth c h6 hno m' z hz
theorem ie.tick (h:ie E ns S) (hi:E.on i) (hx:ns[m]?=some x) (hf:NFix E.L x') (hp:∀ l:Nat,96≤l→l<E.L→∀ k,k<8→x'.get (l * 8+k)=x.get (l * 8+k)) (hc:∀ c:Nat,c<6→x'.get (32+c)=if c=i then (E.J i).seq else x.get (32+c)) (hE:fK E)
  (hL:∀ p ∈ (E.J i).writes,Lk (E.J i) i s p↔Lk (E.J i) i (S i) p) (hN:∀ p ∈ (E.J i).writes,∀ m,m<E.n→(Nw (E.J i) s m p↔Nw (E.J i) (S i) m p)) (hK:∀ m',m'<E.n→(Ck (E.J i) i s m'↔m'=m∨Ck (E.J i) i (S i) m')) :
  ie E (ns.set m x') (updS S i s):=by
 have hlt:=aO hx
 have hn:=h.len
 have gL:∀ i',E.on i'→∀ p ∈ (E.J i').writes,Lk (E.J i') i' (updS S i s i') p↔Lk (E.J i') i' (S i') p:=λi' hi' p hp=>by
  by_cases e:i'=i
  ·subst e;rw [bU];exact hL p hp
  ·rw [eD e]
 have gN:∀ i',E.on i'→∀ p ∈ (E.J i').writes,∀ m,m<E.n→(Nw (E.J i') (updS S i s i') m p↔Nw (E.J i') (S i') m p):=λi' hi' p hp=>by
  by_cases e:i'=i
  ·subst e;rw [bU];exact hN p hp
  ·intro m _;rw [eD e]
 have gT:∀ i',E.on i'→∀ p ∈ (E.J i').writes,Tch E.n (E.J i') i' (updS S i s i') p↔Tch E.n (E.J i') i' (S i') p:=λi' hi' p hp=>by
  unfold Tch
  rw [gL i' hi' p hp]
  constructor
  ·rintro (a | ⟨m,b,c⟩)
   ·exact .inl a
   ·exact .inr ⟨m,b,(gN i' hi' p hp m b).1 c⟩
  ·rintro (a | ⟨m,b,c⟩)
   ·exact .inl a
   ·exact .inr ⟨m,b,(gN i' hi' p hp m b).2 c⟩
 have gx:∀ (m':Nat) (y:aP),(ns.set m x')[m']?=some y→∃ z,ns[m']?=some z∧NFix E.L y∧(∀ l:Nat,96≤l→l<E.L→∀ k,k<8→y.get (l * 8+k)=z.get (l * 8+k))∧∀ c:Nat,c<6→y.get (32+c)=if m'=m∧c=i then (E.J i).seq else z.get (32+c):=λm' y hy=>by
  by_cases e:m=m'
  ·subst e
   rw [List.getElem?_set_self hlt] at hy
   cases hy
   refine ⟨x,hx,hf,hp,λc h6=>?_⟩
   rw [hc c h6]
   by_cases e2:c=i
   ·rw [if_pos e2,if_pos ⟨rfl,e2⟩]
   ·rw [if_neg e2,if_neg λe3=>e2 e3.2]
  ·rw [List.getElem?_set_ne e] at hy
   refine ⟨y,hy,h.fix m' y hy,λ_ _ _ _ _=>rfl,λc _=>?_⟩
   rw [if_neg λe3=>e e3.1.symm]
 have gl:∀ i',E.on i'→∀ p ∈ (E.J i').writes,96≤p.Line.toNat∧p.Line.toNat<E.L:=λi' hi' p hp=>by
  obtain ⟨l,e,h1,h2⟩:=(hE.job i' hi').line p hp
  rw [e,Int.toNat_natCast]
  exact ⟨h1,h2⟩
 have gm:∀ (m':Nat) (y:aP),ns[m']?=some y→m'<E.n:=λm' y hy=>by have:=aO hy;omega
 refine ⟨by simpa using hn,λm' y hy=>?_,λi' hi' p hp m' y hy hw k hk=>?_,λi' hi' p hp y hy hl=>?_,λl h1 h2 m' y hy hno k hk=>?_,λa b ha hb hab p hp p' hp' hl ht=>?_,λi' hi' m' y hy=>?_,λi' hi' p hp hl=>?_,λc h6 hno m' y hy=>?_⟩
 ·obtain ⟨z,_,g,_⟩:=gx m' y hy
  exact g
 ·obtain ⟨z,hz,_,g,_⟩:=gx m' y hy
  obtain ⟨l1,l2⟩:=gl i' hi' p hp
  rw [g _ l1 l2 k hk]
  exact h.new i' hi' p hp m' z hz ((gN i' hi' p hp m' (gm m' z hz)).1 hw) k hk
 ·obtain ⟨z,hz,_,g,_⟩:=gx 0 y hy
  obtain ⟨l1,l2⟩:=gl i' hi' p hp
  obtain ⟨a,b⟩:=h.lock i' hi' p hp z hz ((gL i' hi' p hp).1 hl)
  refine ⟨?_,λk hk1 hk8=>by rw [g _ l1 l2 k hk8];exact b k hk1 hk8⟩
  have:=g _ l1 l2 0 (by omega)
  rw [Nat.add_zero] at this
  rw [this]
  exact a
 ·obtain ⟨z,hz,_,g,_⟩:=gx m' y hy
  rw [g l h1 h2 k hk]
  refine h.free l h1 h2 m' z hz (λi' hi' p hp hpl=>?_) k hk
  obtain ⟨a,b⟩:=hno i' hi' p hp hpl
  exact ⟨λc=>a ((gN i' hi' p hp m' (gm m' z hz)).2 c),λe c=>b e ((gL i' hi' p hp).2 c)⟩
 ·rw [gT b hb p' hp']
  rw [gT a ha p hp] at ht
  exact h.excl a b ha hb hab p hp p' hp' hl ht
 ·obtain ⟨z,hz,_,_,g⟩:=gx m' y hy
  rw [g i' (hE.job i' hi').i6]
  have hck:=h.clock i' hi' m' z hz
  by_cases e:i'=i
  ·subst e
   rw [bU,hK m' (gm m' z hz)]
   by_cases e2:m'=m
   ·rw [if_pos ⟨e2,rfl⟩]
    exact ⟨λ_=>rfl,λhno=>absurd (.inl e2) hno⟩
   ·rw [if_neg λe3=>e2 e3.1]
    exact ⟨λhor=>hck.1 (hor.resolve_left e2),λhno=>hck.2 λhc=>hno (.inr hc)⟩
  ·rw [eD e,if_neg λe3=>e e3.2]
   exact hck
 ·rw [gN i' hi' p hp 0 (by have:=hE.n;omega)]
  exact h.both i' hi' p hp ((gL i' hi' p hp).1 hl)
 ·obtain ⟨z,hz,_,_,g⟩:=gx m' y hy
  rw [g c h6,if_neg λe3=>hno (by rw [e3.2];exact hi)]
  exact h.oth c h6 hno m' z hz
end
end Go.Proofs.YtegepanmkjemjaaGreat
namespace Go.Proofs.YtegepanmkjemjaaGreat
open Go.Eng C12
theorem cB.pl {E:Env} {i:Nat} {j:CJob} (h:cB E i j) {p:aB} (hp:p ∈ j.writes):p.Line=((p.Line.toNat:Nat):Int)∧96≤p.Line.toNat∧p.Line.toNat<E.L:=by
 obtain ⟨l,e,h1,h2⟩:=h.line p hp
 rw [e,Int.toNat_natCast]
 exact ⟨rfl,h1,h2⟩
theorem ie.page {E:Env} {ns:List aP} {S:Nat→CS} {i m:Nat} {s:CS} {x x':aP} (h:ie E ns S) (hE:fK E) (hi:E.on i) {p0:aB} (hp0:p0 ∈ (E.J i).writes) (hx:ns[m]?=some x) (hf:NFix E.L x')
  (hp:∀ l:Nat,96≤l→l<E.L→l≠p0.Line.toNat→∀ k,k<8→x'.get (l * 8+k)=x.get (l * 8+k)) (hc:∀ c:Nat,c<6→x'.get (32+c)=x.get (32+c))
  (hLo:∀ p ∈ (E.J i).writes,p≠p0→(Lk (E.J i) i s p↔Lk (E.J i) i (S i) p)) (hLm:m≠0→(Lk (E.J i) i s p0↔Lk (E.J i) i (S i) p0))
  (hNo:∀ p ∈ (E.J i).writes,∀ m',m'<E.n→(p≠p0∨m'≠m)→(Nw (E.J i) s m' p↔Nw (E.J i) (S i) m' p)) (hK:∀ m,m<E.n→(Ck (E.J i) i s m↔Ck (E.J i) i (S i) m))
  (cN:Nw (E.J i) s m p0→∀ k,k<8→x'.get (p0.Line.toNat * 8+k)=(appL p0).getD k 0)
  (cL:m=0→Lk (E.J i) i s p0→x'.get (p0.Line.toNat * 8)=fE p0.Head i∧∀ k,1≤k→k<8→x'.get (p0.Line.toNat * 8+k)=E.base p0.Line.toNat k)
  (cF:¬ Nw (E.J i) s m p0→(m=0→¬ Lk (E.J i) i s p0)→∀ k,k<8→x'.get (p0.Line.toNat * 8+k)=E.base p0.Line.toNat k)
  (hT:∀ i',E.on i'→i'≠i→∀ p' ∈ (E.J i').writes,p'.Line.toNat=p0.Line.toNat→¬ Tch E.n (E.J i') i' (S i') p') (hB:∀ p ∈ (E.J i).writes,Lk (E.J i) i s p→¬ Nw (E.J i) s 0 p) :
  ie E (ns.set m x') (updS S i s):=by
 have hlt:=aO hx
 have hn:=h.len
 have hn1:=hE.n
 have gu:∀ p ∈ (E.J i).writes,p≠p0→p.Line.toNat≠p0.Line.toNat:=λp hpm hne e=>hne ((hE.job i hi).uniq p hpm p0 hp0 (by
  rw [((hE.job i hi).pl hpm).1,((hE.job i hi).pl hp0).1,e]))
 have gm:∀ (m':Nat) (y:aP),ns[m']?=some y→m'<E.n:=λm' y hy=>by have:=aO hy;omega
 have gx:∀ (m':Nat) (y:aP),(ns.set m x')[m']?=some y→∃ z,ns[m']?=some z∧NFix E.L y∧(m'=m→y=x')∧(m'≠m→y=z)∧(∀ l:Nat,96≤l→l<E.L→(m'≠m∨l≠p0.Line.toNat)→∀ k,k<8→y.get (l * 8+k)=z.get (l * 8+k))∧∀ c:Nat,c<6→y.get (32+c)=z.get (32+c):=λm' y hy=>by
  by_cases e:m=m'
  ·subst e
   rw [List.getElem?_set_self hlt] at hy
   cases hy
   exact ⟨x,hx,hf,λ_=>rfl,λe=>absurd rfl e,λl h1 h2 hor k hk=>hp l h1 h2 (hor.resolve_left λe=>e rfl) k hk,hc⟩
  ·rw [List.getElem?_set_ne e] at hy
   exact ⟨y,hy,h.fix m' y hy,λe2=>absurd e2.symm e,λ_=>rfl,λ_ _ _ _ _ _=>rfl,λ_ _=>rfl⟩
 have go:∀ i',E.on i'→i'≠i→∀ p' ∈ (E.J i').writes,∀ m',m'<E.n→(Nw (E.J i') (S i') m' p'∨Lk (E.J i') i' (S i') p')→p'.Line.toNat≠p0.Line.toNat:=λi' hi' hne p' hp' m' hm' ht e=>by
  refine hT i' hi' hne p' hp' e ?_
  rcases ht with a | a
  ·exact .inr ⟨m',hm',a⟩
  ·exact .inl a
 refine ⟨by simpa using hn,λm' y hy=>?_,λi' hi' p hpm m' y hy hw k hk=>?_,λi' hi' p hpm y hy hl=>?_,λl h1 h2 m' y hy hno k hk=>?_,λa b ha hb hab p hpm p' hpm' hl ht=>?_,λi' hi' m' y hy=>?_,λi' hi' p hpm hl=>?_,λc h6 hno m' y hy=>?_⟩
 ·obtain ⟨z,_,g,_⟩:=gx m' y hy
  exact g
 ·obtain ⟨z,hz,_,ge,gne,g,_⟩:=gx m' y hy
  obtain ⟨_,l1,l2⟩:=(hE.job i' hi').pl hpm
  by_cases e:i'=i
  ·subst e
   rw [bU] at hw
   by_cases e2:p=p0∧m'=m
   ·obtain ⟨rfl,rfl⟩:=e2
    rw [ge rfl]
    exact cN hw k hk
   ·have hor:p≠p0∨m'≠m:=by
     by_cases e3:p=p0
     ·exact .inr λe4=>e2 ⟨e3,e4⟩
     ·exact .inl e3
    rw [g _ l1 l2 (hor.symm.imp id λe3=>gu p hpm e3) k hk]
    exact h.new i' hi' p hpm m' z hz ((hNo p hpm m' (gm m' z hz) hor).1 hw) k hk
  ·rw [eD e] at hw
   rw [g _ l1 l2 (.inr (go i' hi' e p hpm m' (gm m' z hz) (.inl hw))) k hk]
   exact h.new i' hi' p hpm m' z hz hw k hk
 ·obtain ⟨z,hz,_,ge,gne,g,_⟩:=gx 0 y hy
  obtain ⟨_,l1,l2⟩:=(hE.job i' hi').pl hpm
  by_cases e:i'=i
  ·subst e
   rw [bU] at hl
   by_cases e2:p=p0
   ·subst e2
    by_cases e3:0=m
    ·rw [ge e3]
     exact cL e3.symm hl
    ·rw [gne e3]
     exact h.lock i' hi' p hpm z hz ((hLm λe4=>e3 e4.symm).1 hl)
   ·have hl':=(hLo p hpm e2).1 hl
    obtain ⟨a,b⟩:=h.lock i' hi' p hpm z hz hl'
    refine ⟨?_,λk hk1 hk8=>by rw [g _ l1 l2 (.inr (gu p hpm e2)) k hk8];exact b k hk1 hk8⟩
    have:=g _ l1 l2 (.inr (gu p hpm e2)) 0 (by omega)
    rw [Nat.add_zero] at this
    rw [this]
    exact a
  ·rw [eD e] at hl
   have hne:=go i' hi' e p hpm 0 (by omega) (.inr hl)
   obtain ⟨a,b⟩:=h.lock i' hi' p hpm z hz hl
   refine ⟨?_,λk hk1 hk8=>by rw [g _ l1 l2 (.inr hne) k hk8];exact b k hk1 hk8⟩
   have:=g _ l1 l2 (.inr hne) 0 (by omega)
   rw [Nat.add_zero] at this
   rw [this]
   exact a
 ·obtain ⟨z,hz,_,ge,gne,g,_⟩:=gx m' y hy
  by_cases e:m'=m∧l=p0.Line.toNat
  ·obtain ⟨rfl,rfl⟩:=e
   rw [ge rfl]
   have:=hno i hi p0 hp0 rfl
   rw [bU] at this
   exact cF this.1 this.2 k hk
  ·have hor:m'≠m∨l≠p0.Line.toNat:=by
    by_cases e3:m'=m
    ·exact .inr λe4=>e ⟨e3,e4⟩
    ·exact .inl e3
   rw [g l h1 h2 hor k hk]
   refine h.free l h1 h2 m' z hz (λi' hi' p hpm hpl=>?_) k hk
   obtain ⟨a,b⟩:=hno i' hi' p hpm hpl
   by_cases e2:i'=i
   ·subst e2
    rw [bU] at a b
    have hor2:p≠p0∨m'≠m:=by
     rcases hor with e3 | e3
     ·exact .inr e3
     ·exact .inl λe4=>e3 (by rw [←e4];exact hpl.symm)
    refine ⟨λc=>a ((hNo p hpm m' (gm m' z hz) hor2).2 c),λe5 c=>b e5 ?_⟩
    by_cases e4:p=p0
    ·subst e4
     exact (hLm λe6=>hor2.elim (λe7=>e7 rfl) λe7=>e7 (e5.trans e6.symm)).2 c
    ·exact (hLo p hpm e4).2 c
   ·rw [eD e2] at a b
    exact ⟨a,b⟩
 ·
  have gt:∀ p ∈ (E.J i).writes,p≠p0→(Tch E.n (E.J i) i s p↔Tch E.n (E.J i) i (S i) p):=λp hpm hne=>by
   unfold Tch
   rw [hLo p hpm hne]
   constructor
   ·rintro (c | ⟨m,c,d⟩)
    ·exact .inl c
    ·exact .inr ⟨m,c,(hNo p hpm m c (.inl hne)).1 d⟩
   ·rintro (c | ⟨m,c,d⟩)
    ·exact .inl c
    ·exact .inr ⟨m,c,(hNo p hpm m c (.inl hne)).2 d⟩
  by_cases ea:a=i
  ·subst ea
   rw [bU] at ht
   rw [eD (λe=>hab e.symm)]
   by_cases e:p=p0
   ·subst e
    exact hT b hb (λe=>hab e.symm) p' hpm' hl.symm
   ·exact h.excl a b ha hb hab p hpm p' hpm' hl ((gt p hpm e).1 ht)
  ·rw [eD ea] at ht
   by_cases eb:b=i
   ·subst eb
    rw [bU]
    by_cases e:p'=p0
    ·subst e
     exact λ_=>hT a ha hab p hpm hl ht
    ·rw [gt p' hpm' e]
     exact h.excl a b ha hb hab p hpm p' hpm' hl ht
   ·rw [eD eb]
    exact h.excl a b ha hb hab p hpm p' hpm' hl ht
 ·obtain ⟨z,hz,_,_,_,_,g⟩:=gx m' y hy
  rw [g i' (hE.job i' hi').i6]
  by_cases e:i'=i
  ·subst e
   rw [bU,hK m' (gm m' z hz)]
   exact h.clock i' hi' m' z hz
  ·rw [eD e]
   exact h.clock i' hi' m' z hz
 ·by_cases e:i'=i
  ·subst e
   rw [bU] at hl ⊢
   exact hB p hpm hl
  ·rw [eD e] at hl ⊢
   exact h.both i' hi' p hpm hl
 ·obtain ⟨z,hz,_,_,_,_,g⟩:=gx m' y hy
  rw [g c h6]
  exact h.oth c h6 hno m' z hz
end Go.Proofs.YtegepanmkjemjaaGreat
namespace Go.Proofs.YtegepanmkjemjaaGreat
open Go.Eng C12
theorem yI {vs:List Verb} {dn:Nat→Option Done} {q:Nat} {v:Verb} (hv:vs[q]?=some v) (hq:dn q=none) (d:Done) (u:Verb):Ex vs (upd dn q d) u↔Ex vs dn u∨u=v:=by
 constructor
 ·rintro ⟨r,e,h1,h2⟩
  by_cases hr:r=q
  ·subst hr
   rw [hv] at h1
   cases h1
   exact .inr rfl
  ·rw [lI hr] at h2
   exact .inl ⟨r,e,h1,h2⟩
 ·rintro (⟨r,e,h1,h2⟩ | rfl)
  ·have hr:r≠q:=λe2=>by rw [e2,hq] at h2;cases h2
   exact ⟨r,e,h1,by rw [lI hr];exact h2⟩
  ·exact ⟨q,d,hv,jT _ _ _⟩
theorem D2 {vs:List Verb} (hd:vs.Nodup) {dn:Nat→Option Done} {q:Nat} {v:Verb} (hv:vs[q]?=some v) (d:Done) (u:Verb):Pe vs (upd dn q d) u↔Pe vs dn u∧u≠v:=by
 constructor
 ·rintro ⟨r,h1,h2⟩
  have hr:r≠q:=λe=>by rw [e,jT] at h2;cases h2
  rw [lI hr] at h2
  refine ⟨⟨r,h1,h2⟩,λe=>hr ?_⟩
  subst e
  exact (List.getElem?_inj (aO h1) hd).1 (h1.trans hv.symm)
 ·rintro ⟨⟨r,h1,h2⟩,hne⟩
  have hr:r≠q:=λe=>by rw [e,hv] at h1;cases h1;exact hne rfl
  exact ⟨r,h1,by rw [lI hr];exact h2⟩
theorem yJ {vs:List Verb} {dn:Nat→Option Done} {v:Verb} (h:v ∈ vs):Ex vs dn v∨Pe vs dn v:=by
 obtain ⟨q,hq⟩:=List.mem_iff_getElem?.1 h
 cases hd:dn q with
 |none=>exact .inr ⟨q,hq,hd⟩
 |some d=>exact .inl ⟨q,d,hq,hd⟩
section
variable {E:Env} {i:Nat} {j:CJob}
theorem sC {n q:Nat} {f:Nat→Verb} {v:Verb} (h:((List.range n).map f)[q]?=some v):q<n∧v=f q:=by
 rw [List.getElem?_map] at h
 by_cases hq:q<n
 ·rw [List.getElem?_range hq] at h
  exact ⟨hq,by cases h;rfl⟩
 ·rw [List.getElem?_eq_none (by simp;omega)] at h
  cases h
theorem BA {m m':Nat} {a a':Int} {ws ws':List Int} (h:wV m a ws=wV m' a' ws'):m=m'∧a=a'∧ws=ws':=by
 unfold wV at h
 simp only [Verb.mk.injEq] at h
 exact ⟨by omega,h.2.2.1,h.2.2.2.2.2.2.1⟩
theorem D3 {a a' o o' w w':Int} (h:cV a o w=cV a' o' w'):a=a'∧o=o'∧w=w':=by
 unfold cV at h
 simp only [Verb.mk.injEq] at h
 exact ⟨h.2.2.1,h.2.2.2.2.1,h.2.2.2.2.2.1⟩
theorem E8 {a a' o w:Int}:cV a o w≠rV a':=λh=>by
 unfold cV rV at h
 simp at h
theorem tD (h:cB E i j) {m m':Nat} {p p':aB} (hp:p ∈ j.writes) (hp':p' ∈ j.writes) (e:pgV m p=pgV m' p'):m=m'∧p=p':=by
 obtain ⟨h1,h2,_⟩:=BA e
 exact ⟨h1,h.uniq p hp p' hp' (by omega)⟩
theorem xd (h:cB E i j) {m m':Nat} {p:aB} (hp:p ∈ j.writes) (seq:Int):pgV m p≠ckV i seq m':=λe=>by
 obtain ⟨_,h2,_⟩:=BA e
 have h3:=h.pl hp
 have h6:=h.i6
 omega
theorem BB {seq:Int} {m m':Nat} (e:ckV i seq m=ckV i seq m'):m=m':=(BA e).1
theorem vB (h:cB E i j) {p p':aB} (hp:p ∈ j.writes) (hp':p' ∈ j.writes) (e:cV (p.Line * 8) p.Head (fE p.Head i)=cV (p'.Line * 8) p'.Head (fE p'.Head i)):p=p':=by
 obtain ⟨h1,_⟩:=D3 e
 exact h.uniq p hp p' hp' (by omega)
theorem yK (h:cB E i j) {p p':aB} (hp:p ∈ j.writes) (hp':p' ∈ j.writes) (e:qT i p=qT i p'):p=p':=by
 obtain ⟨h1,_⟩:=D3 e
 exact h.uniq p hp p' hp' (by omega)
theorem lW (h:cB E i j) (hn:1≤E.n) {q:Nat} {v:Verb} (hv:(aW j)[q]?=some v):(∃ p ∈ j.writes,j.writes[q]?=some p∧v=cV (p.Line * 8) p.Head (fE p.Head i))∨∃ s ∈ j.reads,v=rV (s.Line * 8):=by
 rw [h.lockL hn] at hv
 by_cases hq:q<j.writes.length
 ·rw [List.getElem?_append_left (by simpa using hq),List.getElem?_map,List.getElem?_eq_getElem hq] at hv
  cases hv
  exact .inl ⟨_,List.getElem_mem hq,List.getElem?_eq_getElem hq,rfl⟩
 ·rw [List.getElem?_append_right (by simpa using hq),List.getElem?_map] at hv
  cases hs:j.reads[q - (j.writes.map λp=>cV (p.Line * 8) p.Head (fE p.Head i)).length]? with
  |none=>rw [hs] at hv;cases hv
  |some s=>
   rw [hs] at hv
   cases hv
   exact .inr ⟨s,List.mem_of_getElem? hs,rfl⟩
theorem tE (h:cB E i j) {v:Verb} (hv:v ∈ gE j):∃ m,1≤m∧m<E.n∧((∃ p ∈ j.writes,v=pgV m p)∨v=ckV i j.seq m):=by
 rw [h.backL] at hv
 obtain ⟨l,hl,hm⟩:=List.mem_flatten.1 hv
 obtain ⟨m,hm2,rfl⟩:=List.mem_map.1 hl
 have:=List.mem_range.1 hm2
 refine ⟨m+1,by omega,by omega,?_⟩
 rcases List.mem_append.1 hm with g | g
 ·obtain ⟨p,hp,rfl⟩:=List.mem_map.1 g
  exact .inl ⟨p,hp,rfl⟩
 ·rw [List.mem_singleton] at g
  exact .inr g
theorem vC (h:cB E i j) {m:Nat} (h1:1≤m) (h2:m<E.n):(∀ p ∈ j.writes,pgV m p ∈ gE j)∧ckV i j.seq m ∈ gE j:=by
 rw [h.backL]
 have hm:j.writes.map (pgV m)++[ckV i j.seq m] ∈ (List.range (E.n - 1)).map λm=>j.writes.map (pgV (m+1))++[ckV i j.seq (m+1)]:=by
  refine List.mem_map.2 ⟨m - 1,List.mem_range.2 (by omega),?_⟩
  rw [show m - 1+1=m by omega]
 exact ⟨λp hp=>List.mem_flatten.2 ⟨_,hm,List.mem_append_left _ (List.mem_map_of_mem hp)⟩,List.mem_flatten.2 ⟨_,hm,List.mem_append_right _ (List.mem_singleton_self _)⟩⟩
theorem BC (h:cB E i j) (hn:1≤E.n) {v:Verb} (hv:v ∈ finV j):v=ckV i j.seq 0∨∃ p ∈ j.writes,v=pgV 0 p:=by
 rw [h.finL hn] at hv
 rcases List.mem_cons.1 hv with g | g
 ·exact .inl g
 ·obtain ⟨p,hp,rfl⟩:=List.mem_map.1 g
  exact .inr ⟨p,hp,rfl⟩
theorem tF (h:cB E i j) (hn:1≤E.n):(∀ p ∈ j.writes,pgV 0 p ∈ finV j)∧ckV i j.seq 0 ∈ finV j:=by
 rw [h.finL hn]
 exact ⟨λp hp=>List.mem_cons_of_mem _ (List.mem_map_of_mem hp),List.mem_cons_self⟩
theorem yL {l:List Verb} (h:(l.map Verb.at_).Nodup):l.Nodup:=by
 induction l with
 |nil=>exact List.nodup_nil
 |cons a l ih=>
  rw [List.map_cons,List.nodup_cons] at h
  rw [List.nodup_cons]
  exact ⟨λhm=>h.1 (List.mem_map_of_mem hm),ih h.2⟩
theorem tG (h:cB E i j):(j.writes.map λp=>p.Line * 8).Nodup:=by
 have:=h.nodup
 have e:(j.writes.map λp=>p.Line * 8)=(j.writes.map (·.Line)).map λx=>x * 8:=by rw [List.map_map];rfl
 rw [e]
 unfold List.Nodup at this ⊢
 rw [List.pairwise_map]
 exact this.imp λh e=>h (by omega)
theorem BD (h:cB E i j) (hn:1≤E.n):(finV j).Nodup:=by
 rw [h.finL hn,List.nodup_cons]
 refine ⟨λhm=>?_,yL ?_⟩
 ·obtain ⟨p,hp,e⟩:=List.mem_map.1 hm
  exact xd h hp _ e
 ·rw [List.map_map]
  exact tG h
theorem yM:∀ {vs:List Verb} {xs:List Int} {ds:List Done} {v:Verb},v ∈ fP vs xs ds→∃ (q:Nat) (u:Verb) (x:Int) (d:Done),vs[q]?=some u∧xs[q]?=some x∧ds[q]?=some d∧gC d=x∧u.kind=3∧v=wN u
 | [],xs,ds,v,h=>by simp [fP] at h
 |u::vs,[],ds,v,h=>by simp [fP] at h
 |u::vs,x::xs,[],v,h=>by simp [fP] at h
 |u::vs,x::xs,d::ds,v,h=>by
  unfold fP at h
  rcases List.mem_append.1 h with g | g
  ·split at g
   ·rename_i hc
    rw [List.mem_singleton] at g
    exact ⟨0,u,x,d,rfl,rfl,rfl,hc.1,hc.2,g⟩
   ·cases g
  ·obtain ⟨q,u',x',d',h1,h2,h3,h4⟩:=yM g
   exact ⟨q+1,u',x',d',by simpa using h1,by simpa using h2,by simpa using h3,h4⟩
theorem xe:∀ {vs:List Verb} {xs:List Int} {ds:List Done} {q:Nat} {u:Verb} {x:Int} {d:Done},vs[q]?=some u→xs[q]?=some x→ds[q]?=some d→gC d=x→u.kind=3→wN u ∈ fP vs xs ds
 | [],xs,ds,q,u,x,d,h1,_,_,_,_=>by simp at h1
 |v::vs,[],ds,q,u,x,d,_,h2,_,_,_=>by simp at h2
 |v::vs,y::xs,[],q,u,x,d,_,_,h3,_,_=>by simp at h3
 |v::vs,y::xs,e::ds,q,u,x,d,h1,h2,h3,h4,h5=>by
  unfold fP
  cases q with
  |zero=>
   simp only [List.getElem?_cons_zero,Option.some.injEq] at h1 h2 h3
   subst h1 h2 h3
   rw [if_pos ⟨h4,h5⟩]
   exact List.mem_append_left _ (List.mem_singleton_self _)
  |succ q=>exact List.mem_append_right _ (xe (by simpa using h1) (by simpa using h2) (by simpa using h3) h4 h5)
theorem qU:∀ (vs:List Verb) (xs:List Int) (ds:List Done),((fP vs xs ds).map Verb.at_).Sublist ((vs.filter λv=>v.kind == 3).map Verb.at_)
 | [],xs,ds=>by simp [fP]
 |u::vs,[],ds=>by simp [fP]
 |u::vs,x::xs,[]=>by simp [fP]
 |u::vs,x::xs,d::ds=>by
  unfold fP
  have ih:=qU vs xs ds
  by_cases hk:u.kind=3
  ·rw [List.filter_cons_of_pos (by simpa using hk),List.map_cons]
   by_cases hw:gC d=x
   ·rw [if_pos ⟨hw,hk⟩]
    exact ih.cons_cons _
   ·rw [if_neg λh=>hw h.1]
    exact ih.cons _
  ·rw [List.filter_cons_of_neg (by simpa using hk),if_neg λh=>hk h.2]
   exact ih
theorem vD (h:cB E i j) {q:Nat} {p:aB} (hp:j.writes[q]?=some p):(dO j)[q]?=some p.Head:=by
 unfold dO
 rw [List.getElem?_append_left (by simpa using aO hp),List.getElem?_map,hp]
 rfl
theorem sD (h:cB E i j) (hn:1≤E.n) {q:Nat} {p:aB} (hp:j.writes[q]?=some p):(aW j)[q]?=some (cV (p.Line * 8) p.Head (fE p.Head i)):=by
 rw [h.lockL hn,List.getElem?_append_left (by simpa using aO hp),List.getElem?_map,hp]
 rfl
theorem tH (h:cB E i j) (hn:1≤E.n) {D:List Done} {v:Verb} (hv:v ∈ iW j D):∃ (q:Nat) (p:aB) (d:Done),p ∈ j.writes∧j.writes[q]?=some p∧D[q]?=some d∧gC d=p.Head∧v=qT i p:=by
 obtain ⟨q,u,x,d,h1,h2,h3,h4,h5,rfl⟩:=yM hv
 rcases lW h hn h1 with ⟨p,hp,hq,rfl⟩ | ⟨s,_,rfl⟩
 ·rw [vD h hq] at h2
  cases h2
  exact ⟨q,p,d,hp,hq,h3,h4,rfl⟩
 ·exact absurd h5 (by show ¬ ((1:Int)=3);omega)
theorem Dj (h:cB E i j) (hn:1≤E.n) {D:List Done} {q:Nat} {p:aB} {d:Done} (hp:j.writes[q]?=some p) (hd:D[q]?=some d) (hw:gC d=p.Head):qT i p ∈ iW j D:=by
 have:=xe (sD h hn hp) (vD h hp) hd hw rfl
 exact this
theorem zW (h:cB E i j) (hn:1≤E.n) (D:List Done):(iW j D).Nodup:=by
 refine yL ((qU _ _ _).nodup ?_)
 rw [h.lockL hn,List.filter_append]
 have e1:((j.writes.map λp=>cV (p.Line * 8) p.Head (fE p.Head i)).filter λv=>v.kind == 3)=j.writes.map λp=>cV (p.Line * 8) p.Head (fE p.Head i):=by
  rw [List.filter_eq_self]
  intro v hv
  obtain ⟨p,_,rfl⟩:=List.mem_map.1 hv
  rfl
 have e2:((j.reads.map λs=>rV (s.Line * 8)).filter λv=>v.kind == 3)=[]:=by
  rw [List.filter_eq_nil_iff]
  intro v hv
  obtain ⟨p,_,rfl⟩:=List.mem_map.1 hv
  simp [rV]
 rw [e1,e2,List.append_nil,List.map_map]
 exact tG h
end
end Go.Proofs.YtegepanmkjemjaaGreat
