/- A part of the proof. -/
import Derived.Test.YtafopfaomkklpaaGreatp20
import Derived.Test.YtafopfaomkklpaaGreatp21
set_option linter.unusedVariables false
namespace Go.Proofs.YtafopfaomkklpaaGreat
open Go.Proofs.Tryz
open Go.Eng
abbrev TPo:TypeId:=75
abbrev TRc:TypeId:=210
abbrev tR:=aU
abbrev RecR:=aO
structure rM (p:tR):Prop where
 k:I64 p.Kind
 n:I64 p.Node
 c:I64 p.Client
 a:I64 p.A
 b:I64 p.B
 w:U64 p.W
structure Wr (N:List cB) (w u:World):Prop where
 keep:Keep (λk=>∃ r ∈ N,isB r.Words k) w u
 u64:∀ b n,U64B w b n→U64B u b n
theorem Wr.refl (N:List cB) (w:World):Wr N w w:=⟨Keep.refl _ _,λ_ _ h=>h⟩
theorem Wr.trans {N:List cB} {a b c:World} (h:Wr N a b) (k:Wr N b c):Wr N a c:=⟨h.keep.trans k.keep λ_ _ h=>h,λx n e=>k.u64 x n (h.u64 x n e)⟩
theorem Wr.new {N:List cB} {a b c:World} (h:Wr N a b) (k:New b c):Wr N a c:=⟨h.keep.new k,λx n e=>(h.u64 x n e).new k⟩
theorem Wr.of_new {N:List cB} {a b:World} (k:New a b):Wr N a b:=(Wr.refl N a).new k
theorem yL {w:World} {L:Nat} {N:List cB} (hN:∀ r ∈ N,qG w L r) {k:Nat} (h:∃ r ∈ N,isB r.Words k):U64B w k (L * 8):=by
 obtain ⟨r,hr,hb⟩:=h
 obtain ⟨b,q1,q2,q3,q4⟩:=hN r hr
 rw [q1] at hb
 rw [ng hb]
 exact q4
theorem Wr.tr {N:List cB} {w u:World} (h:Wr N w u) {L:Nat} (hN:∀ r ∈ N,qG w L r) {T:TypeId} (hT:T≠TU) (b:Nat) (cs:List Value) (hb:Blk w b cs T):Blk u b cs T:=
 h.keep.blk hb λe=>(yL hN e).ne hb (λe=>hT e.symm) rfl
theorem dC.wr {w u:World} {fb:Nat} {F:Fa} {N:List cB} {Cl:List CliR} {P:Nat→List bS} (h:dC w fb F N Cl P) (k:Wr N w u):dC u fb F N Cl P:=by
 have tr:∀ {T:TypeId},T≠TU→∀ (b:Nat) (cs:List Value),Blk w b cs T→Blk u b cs T:=λht b cs hb=>k.tr h.nok ht b cs hb
 refine ⟨tr (by decide) _ _ h.fab,Owns.tr (tr (by decide)) h.nodes,λr hr=>?_,Owns.tr (tr (by decide)) h.clients,h.alive,Owns.tr (tr (by decide)) h.live,λc hc=>⟨Owns.tr (tr (by decide)) (h.pairs c hc).1,(h.pairs c hc).2⟩,h.inj,h.n1,h.c1,h.ln⟩
 obtain ⟨b,q1,q2,q3,q4⟩:=h.nok r hr
 exact ⟨b,q1,q2,q3,k.u64 _ _ q4⟩
theorem ni {w:World} {fb:Nat} {F:Fa} {N:List cB} {Cl:List CliR} {P:Nat→List bS} (h:dC w fb F N Cl P) {r:cB} (hr:r ∈ N) {x z:Int} (hx:U64 x) (h0:0≤z) (h1:z<F.lines * 8) {K:Addr→World→Prop} (hk:∀ ad w',Wr N w w'→K ad w') :
  idxS r.Words r.Words_l z 1 λad=>(∃ v,w.cell? ad=some v)∧w.frozen? ad=false∧∀ w',w'=w.setCell ad (.int .u64 x)→K ad w':=by
 obtain ⟨b,q1,q2,q3,q4⟩:=h.nok r hr
 rw [q1,q2]
 refine wV q4 hx (i:=z.toNat) (by omega) (by omega) λad w' _ k1 k2=>hk ad w' ⟨k1.mono λk _ e=>⟨r,hr,0,by rw [e];exact q1⟩,k2⟩
structure yM (w0 u:World) (fb:Nat) (F:Fa) (N:List cB) (Cl:List CliR) (P:Nat→List bS) (p:tR) (b1 b3:Nat) (rec:RecR) (W:List aP) (ba:Option Addr) (bn bc:Nat) (l:List Int):Prop where
 fab:dC u fb F N Cl P
 wr:Wr N w0 u
 bx:Blk u b1 p.cells TPo
 rc:Blk u b3 rec.cells TRc
 pg:Owns u TPg 9 rec.Writes rec.Writes_l rec.Writes_c (i7 W).flatten
 pl:rec.Writes_l=W.length
 few:W.length≤3
 ok:∀ q ∈ W,PgOk F.lines q
 bd:WL w0 u ba bn bc l
 bl:l.length≤30
theorem yM.next {w0 u z:World} {fb:Nat} {F:Fa} {N:List cB} {Cl:List CliR} {P:Nat→List bS} {p:tR} {b1 b3:Nat} {rec:RecR} {W:List aP} {ba:Option Addr} {bn bc:Nat} {l:List Int} (h:yM w0 u fb F N Cl P p b1 b3 rec W ba bn bc l) (hf0:dC w0 fb F N Cl P) (k:Wr N u z):yM w0 z fb F N Cl P p b1 b3 rec W ba bn bc l:=by
 have tr:∀ {T:TypeId},T≠TU→∀ (b:Nat) (cs:List Value),Blk u b cs T→Blk z b cs T:=λht b cs hb=>k.tr h.fab.nok ht b cs hb
 refine ⟨h.fab.wr k,h.wr.trans k,tr (by decide) _ _ h.bx,tr (by decide) _ _ h.rc,Owns.tr (tr (by decide)) h.pg,h.pl,h.few,h.ok,⟨Owns.keep k.keep h.bd.own λq hq e=>?_,h.bd.len,h.bd.u64,h.bd.fresh⟩,h.bl⟩
 have h1:=h.bd.fresh q hq
 have h2:=(yL hf0.nok e).lt
 omega
def NdAt (fb:Nat) (F:Fa) (N:List cB) (Cl:List CliR) (P:Nat→List bS) (r:cB) (ad:Addr):Prop:=∀ y,dC y fb F N Cl P→y.cell? ad=some (.slice r.Words r.Words_l r.Words_c)
def LogR (N:List cB) (w0:World) (v:Value) (w':World):Prop:=v=.tuple #[]∧Wr N w0 w'
set_option maxHeartbeats 1000000 in
theorem AW {w0 w:World} {fb:Nat} {F:Fa} {N:List cB} {Cl:List CliR} {P:Nat→List bS} {p:tR} {b1 b3:Nat} {rec:RecR} {W:List aP} {ba:Option Addr} {bn bc:Nat} {l:List Int} (h:yM w0 w fb F N Cl P p b1 b3 rec W ba bn bc l) (hf0:dC w0 fb F N Cl P) (hp:rM p)
  {r:cB} (hr:r ∈ N) {ad:Addr} (had:NdAt fb F N Cl P r ad) (c:Int) (jj:List Value) :
  bT prog (.loop (sub (aA f74) [1,1,1,1,1,1,0,0])) (eC ad c ⟨b1,0,none⟩ ⟨b3,0,none⟩ 0 jj) (aI 2 (retQ prog f74 (LogR N w0))) w:=by
 have hln:=h.fab.ln
 refine aS mix (λm env u=>∃ (i:Nat) (jj:List Value),m=W.length - i∧i≤W.length∧env=eC ad c ⟨b1,0,none⟩ ⟨b3,0,none⟩ i jj∧yM w0 u fb F N Cl P p b1 b3 rec W ba bn bc l) W.length
  ⟨0,_,by omega,by omega,rfl,h⟩ ?_
 clear h
 rintro m env u ⟨i,jj,rfl,hi,rfl,h⟩
 rw [o9]
 have hpl:=h.pl
 have hfew:=h.few
 refine ⟨_,_,_,h.rc.cell (i:=1) rfl,aE (λhq=>⟨_,h.bx.cell (i:=4) rfl,?_⟩) (λhq=>⟨rfl,h.wr⟩)⟩
 refine aG (eW u _ 3 (lg _) (by omega)) ?_
 rintro v u1 ⟨rfl,rfl⟩
 refine ⟨_,rfl,aE (λ_=>?_) (λ_=>⟨rfl,h.wr⟩)⟩
 rintro u2 hu2
 have hn2:New u1 u2:=by rw [hu2];exact aW _
 clear hu2
 have h2:=h.next hf0 (Wr.of_new hn2)
 have hg:W[i]?=some W[i]:=List.getElem?_eq_getElem (by omega)
 have hok:=h.ok _ (List.getElem_mem (by omega:i<W.length))
 generalize W[i]=q at hg hok
 refine ⟨λy=>New u2 y,Keep.refl _ _,_,_,_,λy hy=>had y (h2.fab.new hy),_,_,_,λy hy=>(New.blk hy h2.rc).cell (i:=1) rfl,?_⟩
 refine iN (cells:=aP.cells) aP.len (by omega) h2.pg.rd hg rfl hpl λb' o' hc=>⟨_,λy hy=>hc y hy 0 _ rfl,_,_,_,λy hy=>(New.blk hy h2.rc).cell (i:=1) rfl,?_⟩
 refine iN (cells:=aP.cells) aP.len (by omega) h2.pg.rd hg rfl hpl λb' o' hc=>aP.mk_ex q ⟨λy hy=>fM (hc y hy),?_⟩
 refine aG (yH u2 hok.2.1.1 (by have:=hok.2.1.2;omega)) ?_
 rintro v u3 ⟨rfl,rfl⟩
 refine ⟨_,rfl,Keep.refl _ _,?_⟩
 refine aG (C3 u3 q c) ?_
 rintro v u4 ⟨x,e,rfl,hx,hn4⟩
 have h4:=h2.next hf0 (Wr.of_new hn4)
 refine ⟨_,_,rfl,hn4,ni h4.fab hr hx (by have:=hok.2.1.1;omega) (by have:=hok.2.1.2;omega) λad' w' hw=>?_⟩
 rw [w64 (x:=(i:Int)+1) (by omega) (by omega)]
 exact ⟨W.length - (i+1),by omega,i+1,_,rfl,by omega,rfl,h4.next hf0 hw⟩
set_option maxHeartbeats 1000000 in
theorem rN {w0 w:World} {fb:Nat} {F:Fa} {N:List cB} {Cl:List CliR} {P:Nat→List bS} {p:tR} {b1 b3:Nat} {rec:RecR} {W:List aP} {ba:Option Addr} {bn bc:Nat} {l:List Int} (h:yM w0 w fb F N Cl P p b1 b3 rec W ba bn bc l) (hf0:dC w0 fb F N Cl P) (hp:rM p)
  {r:cB} (hr:r ∈ N) {ad:Addr} (had:NdAt fb F N Cl P r ad) {c:Int} (hc0:0≤c) (hc6:c<6) (jj:List Value) :
  bT prog (.loop (sub (aA f74) [1,1,1,0,1,0,0])) (bU ad c ⟨b1,0,none⟩ ⟨b3,0,none⟩ ba bn bc 0 jj) (aI 0 (seqQ (λenv w=>Go.Eng.W prog (sub (aA f74) [1,1,1,1]) env (retQ prog f74 (LogR N w0)) w) (retQ prog f74 (LogR N w0)))) w:=by
 have hln:=h.fab.ln
 have hbl:=h.bl
 have hbn:=h.bd.len
 refine aS mix (λm env u=>∃ (i:Nat) (jj:List Value),m=l.length - i∧i≤l.length∧env=bU ad c ⟨b1,0,none⟩ ⟨b3,0,none⟩ ba bn bc i jj∧yM w0 u fb F N Cl P p b1 b3 rec W ba bn bc l) l.length
  ⟨0,_,by omega,by omega,rfl,h⟩ ?_
 clear h
 rintro m env u ⟨i,jj,rfl,hi,rfl,h⟩
 rw [o0]
 refine aE (λhq=>?_) (λhq=>?_)
 ·rintro u2 hu2
  have hn2:New u u2:=by rw [hu2];exact aW _
  clear hu2
  have h2:=h.next hf0 (Wr.of_new hn2)
  have hg:l[i]?=some l[i]:=List.getElem?_eq_getElem (by omega)
  have hxU:=h.bd.u64 _ (List.getElem_mem (by omega:i<l.length))
  refine ⟨λy=>New u2 y,Keep.refl _ _,_,_,_,λy hy=>had y (h2.fab.new hy),rd_w h2.bd.own.rd hg rfl hbn λb o hc=>⟨_,hc,?_⟩⟩
  refine aG (C2 u2 hc0 hc6) ?_
  rintro v u3 ⟨rfl,rfl⟩
  refine ⟨_,rfl,Keep.refl _ _,?_⟩
  rw [w64 (x:=(6+c * 15) * 8+8+(i:Int)) (by omega) (by omega)]
  refine ni h2.fab hr hxU (by omega) (by omega) λad' w' hw=>?_
  rw [w64 (x:=(i:Int)+1) (by omega) (by omega)]
  exact ⟨l.length - (i+1),by omega,i+1,_,rfl,by omega,rfl,h2.next hf0 hw⟩
 rw [qV]
 refine ⟨_,h.bx.cell (i:=0) rfl,?_⟩
 refine aG (eW u p.Kind 14 hp.k (by omega)) ?_
 rintro v u1 ⟨rfl,rfl⟩
 refine ⟨_,rfl,bE (λ_=>?_) (λ_=>AW h hf0 hp hr had c _)⟩
 rintro u2 hu2
 have hn2:New u1 u2:=by rw [hu2];exact aW _
 clear hu2
 have h2:=h.next hf0 (Wr.of_new hn2)
 refine ⟨λy=>New u2 y,Keep.refl _ _,_,_,_,λy hy=>had y (h2.fab.new hy),_,λy hy=>(New.blk hy h2.rc).cell (i:=0) rfl,_,λy hy=>(New.blk hy h2.bx).cell (i:=4) rfl,?_⟩
 refine aG (vW u2 hc0 hc6) ?_
 rintro v u3 ⟨rfl,rfl⟩
 refine ⟨_,rfl,Keep.refl _ _,?_⟩
 refine aG (eW u3 _ 5 (lg _) (by omega)) ?_
 rintro v u4 ⟨rfl,rfl⟩
 refine ⟨_,rfl,Keep.refl _ _,?_⟩
 refine aG (F8 u4 _) ?_
 rintro v u5 ⟨x,e,rfl,hx,hn5⟩
 have h5:=h2.next hf0 (Wr.of_new hn5)
 refine ⟨_,_,rfl,hn5,ni h5.fab hr hx (by omega) (by omega) λad' w' hw=>?_⟩
 exact AW (h5.next hf0 hw) hf0 hp hr had c _
end Go.Proofs.YtafopfaomkklpaaGreat
namespace Go.Proofs.YtafopfaomkklpaaGreat
open Go.Proofs.Tryz
open Go.Eng
set_option maxHeartbeats 1000000 in
theorem Ey {M:Nat→Prop} {w:World} {r:aF} {v:Vw} (h:eX M w r v):Does 104 [r.val] w (WE w):=by
 refine does Tryz.func104 ?_
 rw [m6]
 rintro b1 w1 hb1 hw1
 obtain ⟨hz,hn⟩:=aR hb1 hw1
 have hz:Blk w1 b1 r.cells TVw:=hz
 clear hw1
 have hlen:=h.len
 have hsm:=h.small
 refine aF.mk_ex r ⟨aK hz rfl,?_⟩
 refine aG (xF (h.new hn) 5) ?_
 rintro x w2 ⟨rfl,hn2⟩
 have hn02:=hn.new hn2
 refine ⟨_,rfl,bE (λ_=>we u0 hn02) (λ_=>?_)⟩
 refine aS mix (λm env u=>∃ (i:Nat) (x:Int) (jj:List Value),m=v.mem.length - i∧i≤v.mem.length∧env=dW ⟨b1,0,none⟩ x i jj∧New w2 u∧U64 x) v.mem.length
  ⟨0,_,_,by omega,by omega,rfl,Keep.refl _ _,⟨by omega,by omega⟩⟩ ?_
 rintro m env u ⟨i,x,jj,rfl,hi,rfl,hnu,hx⟩
 rw [i1]
 have hzu:=New.blk hnu (New.blk hn2 hz)
 have hn0u:=hn02.new hnu
 refine ⟨_,_,_,hzu.cell (i:=1) rfl,aE (λhq=>?_) (λhq=>?_)⟩
 ·have hlt:i<v.mem.length:=by omega
  have hg:v.mem[i]?=some v.mem[i]:=List.getElem?_eq_getElem hlt
  refine ⟨_,_,_,hzu.cell (i:=1) rfl,?_⟩
  refine fY (cells:=aC.cells) aC.len (by omega) (h.rd.new hn0u) hg rfl hlen λb o hc _=>aC.mk_ex v.mem[i] ⟨hc,?_⟩
  refine kE (vs:=v.mem[i].cells) rfl (aC.single _) λb2 u2 hb2 hz2 hn2'=>?_
  rw [w64 (x:=(i:Int)+1) (by omega) (by omega)]
  refine ⟨_,hz2.cell (i:=1) rfl,_,hz2.cell (i:=2) rfl,iL (λhf=>⟨_,hz2.cell (i:=0) rfl,fC _,?_⟩) (λhf=>⟨_,hz2.cell (i:=0) rfl,fC _,?_⟩)⟩
  ·exact ⟨v.mem.length - (i+1),by omega,i+1,_,_,rfl,by omega,rfl,hnu.new hn2',oX _ _⟩
  ·exact ⟨v.mem.length - (i+1),by omega,i+1,_,_,rfl,by omega,rfl,hnu.new hn2',oX _ _⟩
 ·rw [jJ]
  exact we hx hn0u
set_option maxHeartbeats 4000000 in
theorem Hn {w:World} {fb:Nat} {F:Fa} {N:List cB} {Cl:List CliR} {P:Nat→List bS} (h:dC w fb F N Cl P) {p:tR} (hp:rM p) {r:cB} (hr:r ∈ N) {ad:Addr} (had:NdAt fb F N Cl P r ad) {c:Int} (hc0:0≤c) (hc6:c<6) :
  Does 74 [.pointer (some ad),p.val,.int .i64 c,.int .i64 F.lines] w (LogR N w):=by
 refine does Tryz.func74 ?_
 rw [uz]
 have hln:=h.ln
 rintro b1 w1 hb1 hw1
 obtain ⟨hz1,hn1⟩:=aR hb1 hw1
 have hz1:Blk w1 b1 p.cells TPo:=hz1
 clear hw1
 rintro w2 hw2
 have hn2:New w1 w2:=by rw [hw2];exact aW _
 clear hw2
 have hz2:=New.blk hn2 hz1
 have hn02:=hn1.new hn2
 have hs2:=hn02.size
 have fin:∀ {u:World} {b3:Nat} {a:Option Addr} {cc:Nat} {L:List aP} {seq:Int} {K:RecR→Option Addr→Nat→Nat→World→Prop},New w2 u→w2.heap.size≤b3→Blk u b3 (aO.cells ⟨0,none,0,0⟩) TRc→Owns u TPg 9 a L.length cc (i7 L).flatten→(L.length:Int)≤3→(∀ q ∈ L,PgOk F.lines q)→
   (∀ rec ba bn bc l w8,yM w w8 fb F N Cl P p b1 b3 rec L ba bn bc l→K rec ba bn bc w8)→(wrAt u ⟨b3,0,none⟩ 0 [(.int .i64 seq),(.slice a L.length cc)]∧∀ w7,w7=puts u ⟨b3,0,none⟩ 0 [(.int .i64 seq),(.slice a L.length cc)]→aO.ex λr=>aH w7 ⟨b3,0,none⟩ 0 r.cells∧Calls prog 114 #[r.val] w7 λe w8=>∃ (x:Option Addr) (y z:Nat),e=.returned (.slice x y z)∧K r x y z w8):=by
  intro u b3 a cc L seq K hnu hb3 hb hown hl hok hK
  refine qL (vs:=aO.cells ⟨seq,a,L.length,cc⟩) hb rfl (aO.single _) λw7 hb7 hk7=>?_
  have ho7:=Owns.keep hk7 hown λk hk e=>Owns.noB hown hb (by decide) (by rw [←e];exact hk)
  refine aO.mk_ex ⟨seq,a,L.length,cc⟩ ⟨aK hb7 rfl,?_⟩
  have hn7:New w2 w7:=hnu.trans hk7 λk hlt e=>by omega
  have hn07:=hn02.new hn7
  refine aG (Hm (r:=⟨seq,a,L.length,cc⟩) (W:=L) ⟨ho7.rd,rfl,by omega,λq hq=>(hok q hq).1⟩ (by omega) (λq hq=>(hok q hq).2.2)) ?_
  rintro v w8 ⟨ba,bn,bc,l,rfl,hwl,hl8,hn8⟩
  have s7:=hn07.size
  refine ⟨_,_,_,rfl,hK _ _ _ _ _ _ ⟨h.new (hn07.new hn8),Wr.of_new (hn07.new hn8),New.blk (hn7.new hn8) hz2,New.blk hn8 hb7,Owns.new hn8 ho7,rfl,by omega,hok,⟨hwl.own,hwl.len,hwl.u64,λk hk=>by have:=hwl.fresh k hk;omega⟩,by omega⟩⟩
 have pk:∀ {u:World} {K:Int→World→Prop},(∀ x,K x u)→Calls prog 6 #[.int .i64 p.B,.int .i64 7] u λe w3=>∃ x,e=.returned (.int .i64 x)∧K x w3:=by
  intro u K hK
  refine aG (eW u p.B 7 hp.b (by omega)) ?_
  rintro v w3 ⟨rfl,rfl⟩
  exact ⟨_,rfl,hK _⟩
 have ia:∀ {u:World} {K:Nat→World→Prop},(∀ b w',w2.heap.size≤u.heap.size→b=u.heap.size→Blk w' b (is [p.A,IntKind.i64.wrap (Int.tdiv p.A 5),IntKind.i64.wrap (Int.tdiv p.A 7)]) TI→New u w'→K b w')→New w2 u→∀ b w',b=u.heap.size→w'=u.alloc (.cells #[(.int .i64 p.A),(.int .i64 (IntKind.i64.wrap (Int.tdiv p.A 5))),(.int .i64 (IntKind.i64.wrap (Int.tdiv p.A 7)))] TI)→K b w':=by
  intro u K hK hu b w' hb hw'
  obtain ⟨hz,hn⟩:=aR hb hw'
  exact hK b w' hu.size hb hz hn
 have ra:∀ {u:World} {K:Nat→World→Prop},(∀ b w',w2.heap.size≤b→Blk w' b (aO.cells ⟨0,none,0,0⟩) TRc→New u w'→K b w')→New w2 u→∀ b w',b=u.heap.size→w'=u.alloc (.cells #[(.int .i64 0),(.slice none 0 0)] TRc)→K b w':=by
  intro u K hK hu b w' hb hw'
  obtain ⟨hz,hn⟩:=aR hb hw'
  exact hK b w' (by have:=hu.size;omega) hz hn
 have pgs:∀ {u:World} {b:Nat} {K:Option Addr→Nat→Nat→World→Prop},Blk u b (is [p.A,IntKind.i64.wrap (Int.tdiv p.A 5),IntKind.i64.wrap (Int.tdiv p.A 7)]) TI→(∀ a cc L w',Owns w' TPg 9 a L.length cc (i7 L).flatten→New u w'→(L.length:Int)≤3→(∀ q ∈ L,PgOk F.lines q)→K a L.length cc w')→
   Calls prog 113 #[.slice (some ⟨b,0,none⟩) 3 3,.int .i64 F.lines,.int .i64 3] u λe w5=>∃ (a:Option Addr) (n cc:Nat),e=.returned (.slice a n cc)∧K a n cc w5:=by
  intro u b K hb hK
  have hi64:∀ x ∈ [p.A,IntKind.i64.wrap (Int.tdiv p.A 5),IntKind.i64.wrap (Int.tdiv p.A 7)],I64 x:=by
   intro x hx
   rcases List.mem_cons.1 hx with rfl | hx
   ·exact hp.a
   rcases List.mem_cons.1 hx with rfl | hx
   ·exact lg _
   rw [List.mem_singleton.1 hx]
   exact lg _
  refine aG (FT u (a0:=some ⟨b,0,none⟩) (n0:=3) (c0:=3) (l:=[p.A,IntKind.i64.wrap (Int.tdiv p.A 5),IntKind.i64.wrap (Int.tdiv p.A 7)]) (eV hb rfl) rfl (by show 3≤1000;omega) hi64 (lines:=F.lines) (most:=3) (by omega) (by omega) (by omega) (by omega)) ?_
  rintro v w5 ⟨a,cc,L,rfl,ho,hn,_,hl,hok⟩
  exact ⟨_,_,_,rfl,hK a cc L w5 ho hn hl hok⟩
 refine ⟨λy=>New w2 y,Keep.refl _ _,_,λy hy=>(New.blk hy hz2).cell (i:=4) rfl,_,λy hy=>(New.blk hy hz2).cell (i:=3) rfl,_,λy hy=>(New.blk hy hz2).cell (i:=3) rfl,_,λy hy=>(New.blk hy hz2).cell (i:=3) rfl,?_,?_,?_⟩
 ·refine pk λx=>⟨Keep.refl _ _,ia (λb2 w4 _ _ hi n4=>⟨n4,pgs hi λa cc L w5 ho n5 hl hok=>⟨n4.new n5,ra (λb3 w6 hb3 hr6 n6=>⟨(n4.new n5).new n6,fin ((n4.new n5).new n6) hb3 hr6 (Owns.new n6 ho) hl hok λrec ba bn bc l w8 hs=>rN hs h hp hr had hc0 hc6 _⟩) (n4.new n5)⟩,ra (λb3 w6 hb3 hr6 n6=>⟨n4.new n6,pgs (New.blk n6 hi) λa cc L w5 ho n5 hl hok=>⟨(n4.new n6).new n5,fin ((n4.new n6).new n5) hb3 (New.blk n5 hr6) ho hl hok λrec ba bn bc l w8 hs=>rN hs h hp hr had hc0 hc6 _⟩⟩) n4⟩) (Keep.refl _ _),
   ra (λb3 w6 hb3 hr6 n6=>⟨n6,ia (λb2 w4 _ _ hi n4=>⟨n6.new n4,pgs hi λa cc L w5 ho n5 hl hok=>⟨(n6.new n4).new n5,fin ((n6.new n4).new n5) hb3 (New.blk (n4.new n5) hr6) ho hl hok λrec ba bn bc l w8 hs=>rN hs h hp hr had hc0 hc6 _⟩⟩) n6⟩) (Keep.refl _ _)⟩
 ·refine ia (λb2 w4 _ _ hi n4=>⟨n4,pk λx=>⟨n4,pgs hi λa cc L w5 ho n5 hl hok=>⟨n4.new n5,ra (λb3 w6 hb3 hr6 n6=>⟨(n4.new n5).new n6,fin ((n4.new n5).new n6) hb3 hr6 (Owns.new n6 ho) hl hok λrec ba bn bc l w8 hs=>rN hs h hp hr had hc0 hc6 _⟩) (n4.new n5)⟩,ra (λb3 w6 hb3 hr6 n6=>⟨n4.new n6,pgs (New.blk n6 hi) λa cc L w5 ho n5 hl hok=>⟨(n4.new n6).new n5,fin ((n4.new n6).new n5) hb3 (New.blk n5 hr6) ho hl hok λrec ba bn bc l w8 hs=>rN hs h hp hr had hc0 hc6 _⟩⟩) n4⟩,
   ra (λb3 w6 hb3 hr6 n6=>⟨n4.new n6,pk λx=>⟨n4.new n6,pgs (New.blk n6 hi) λa cc L w5 ho n5 hl hok=>⟨(n4.new n6).new n5,fin ((n4.new n6).new n5) hb3 (New.blk n5 hr6) ho hl hok λrec ba bn bc l w8 hs=>rN hs h hp hr had hc0 hc6 _⟩⟩⟩) n4⟩) (Keep.refl _ _)
 ·refine ra (λb3 w6 hb3 hr6 n6=>⟨n6,pk λx=>⟨n6,ia (λb2 w4 _ _ hi n4=>⟨n6.new n4,pgs hi λa cc L w5 ho n5 hl hok=>⟨(n6.new n4).new n5,fin ((n6.new n4).new n5) hb3 (New.blk (n4.new n5) hr6) ho hl hok λrec ba bn bc l w8 hs=>rN hs h hp hr had hc0 hc6 _⟩⟩) n6⟩,
   ia (λb2 w4 _ _ hi n4=>⟨n6.new n4,pk λx=>⟨n6.new n4,pgs hi λa cc L w5 ho n5 hl hok=>⟨(n6.new n4).new n5,fin ((n6.new n4).new n5) hb3 (New.blk (n4.new n5) hr6) ho hl hok λrec ba bn bc l w8 hs=>rN hs h hp hr had hc0 hc6 _⟩⟩⟩) n6⟩) (Keep.refl _ _)
end Go.Proofs.YtafopfaomkklpaaGreat
namespace Go.Proofs.YtafopfaomkklpaaGreat
open Go.Eng
set_option maxHeartbeats 4000000 in
theorem Ho {w:World} {fb:Nat} {F:Fa} {N:List cB} {Cl:List CliR} {P:Nat→List bS} (h:dC w fb F N Cl P) {p:tR} (hp:rM p) {r:cB} (hr:r ∈ N) {ad:Addr} (had:NdAt fb F N Cl P r ad) :
  Does 79 [.pointer (some ⟨fb,0,none⟩),.pointer (some ad),p.val] w (LogR N w):=by
 refine does Tryz.func79 ?_
 rw [qm]
 have hln:=h.ln
 have hn15:=h.n1
 rintro b1 w1 hb1 hw1
 obtain ⟨hz1,hn1⟩:=aR hb1 hw1
 have hz1:Blk w1 b1 p.cells TPo:=hz1
 clear hw1
 rintro w2 hw2
 have hn2:New w1 w2:=by rw [hw2];exact aW _
 clear hw2
 have hz2:=New.blk hn2 hz1
 have hn02:=hn1.new hn2
 have h2:=h.new hn02
 have hnm:I64 (if (3:Int)<1 then 0 else p.A % 3):=by
  have:=oK (x:=p.A) (n:=3) (by omega)
  exact ⟨by omega,by omega⟩
 refine ⟨λy=>New w2 y,Keep.refl _ _,_,λy hy=>(New.blk hy hz2).cell (i:=3) rfl,_,λy hy=>(New.blk hy hz2).cell (i:=4) rfl,_,λy hy=>(New.blk hy hz2).cell (i:=4) rfl,_,_,_,λy hy=>(h2.new hy).fab.cell (i:=1) rfl,?g12,?g3⟩
 case' g12=>
  refine aG (eW w2 p.A 3 hp.a (by omega)) ?_
  rintro x w3 ⟨rfl,rfl⟩
  refine ⟨_,rfl,Keep.refl _ _,?ga,?gb⟩
  case' ga=>
   refine aG (zA w3 (n:=N.length) (boots:=[]) hnm hp.b (lg _) (.inl rfl) rfl (by simp) (by simp) (by omega) (by omega)) ?_
   rintro x w4 ⟨rv,v,rfl,hv,hn4,hgd⟩
   refine aF.mk_ex rv ⟨rfl,hn4,?_⟩
   rintro b2 u hb2 hu
   obtain ⟨hbz,hn5⟩:=aR hb2 hu
   have hbz:Blk u b2 (aF.cells ⟨0,none,0,0⟩) TVw:=hbz
   clear hu
   have hnu:=hn4.new hn5
   have hb2':w3.heap.size≤b2:=by have:=hn4.size;omega
   have hoff:(jV v.mem).flatten=[]∨Off (λk=>k=b2) rv.Members:=by
    have h4:=hv.rd
    by_cases hxs:(jV v.mem).flatten=[]
    ·exact .inl hxs
    ·refine .inr ?_
     cases ha:rv.Members with
     |none=>trivial
     |some a=>
      rw [ha] at h4
      have:=Rd.lt h4 hxs
      exact λe=>by have e:a.block=b2:=e;omega
   have hv:=eX.new hv hn5
   refine ⟨hnu,?_⟩
  case' gb=>
   rintro b2 w4 hb2 hw4
   obtain ⟨hbz,hn4⟩:=aR hb2 hw4
   have hbz:Blk w4 b2 (aF.cells ⟨0,none,0,0⟩) TVw:=hbz
   clear hw4
   refine ⟨hn4,?_⟩
   refine aG (zA w4 (n:=N.length) (boots:=[]) hnm hp.b (lg _) (.inl rfl) rfl (by simp) (by simp) (by omega) (by omega)) ?_
   rintro x u ⟨rv,v,rfl,hv,hn5,hgd⟩
   have hnu:=hn4.new hn5
   have hb2':w3.heap.size≤b2:=by omega
   have hbl:=hbz.lt
   have hbz:=New.blk hn5 hbz
   have hoff:(jV v.mem).flatten=[]∨Off (λk=>k=b2) rv.Members:=by
    rcases hv.off with e | e
    ·exact .inl e
    ·refine .inr ?_
     cases ha:rv.Members with
     |none=>trivial
     |some a=>
      rw [ha] at e
      exact λe'=>e (by rw [show a.block=b2 from e'];exact hbl)
   refine aF.mk_ex rv ⟨rfl,hnu,?_⟩
 case' g3=>
  rintro b2 w4 hb2 hw4
  obtain ⟨hbz,hn4⟩:=aR hb2 hw4
  have hbz:Blk w4 b2 (aF.cells ⟨0,none,0,0⟩) TVw:=hbz
  clear hw4
  refine ⟨hn4,?_⟩
  refine aG (eW w4 p.A 3 hp.a (by omega)) ?_
  rintro x w3 ⟨rfl,rfl⟩
  refine ⟨_,rfl,hn4,?_⟩
  refine aG (zA w3 (n:=N.length) (boots:=[]) hnm hp.b (lg _) (.inl rfl) rfl (by simp) (by simp) (by omega) (by omega)) ?_
  rintro x u ⟨rv,v,rfl,hv,hn5,hgd⟩
  have hnu:=hn4.new hn5
  have hb2':w2.heap.size≤b2:=by omega
  have hbl:=hbz.lt
  have hbz:=New.blk hn5 hbz
  have hoff:(jV v.mem).flatten=[]∨Off (λk=>k=b2) rv.Members:=by
   rcases hv.off with e | e
   ·exact .inl e
   ·refine .inr ?_
    cases ha:rv.Members with
    |none=>trivial
    |some a=>
     rw [ha] at e
     exact λe'=>e (by rw [show a.block=b2 from e'];exact hbl)
  refine aF.mk_ex rv ⟨rfl,hnu,?_⟩
 all_goals
  refine qL (vs:=rv.cells) hbz rfl (aF.single _) λw6 hz6 hk6=>?_
  have hn6:=hnu.trans hk6 λk hlt e=>by omega
  have hv6:eX NoM w6 rv v:=⟨hv.num,hv.len,hv.cap,hv.rd.keep hk6 hoff,.inr (H6 _),hv.small⟩
  refine aF.mk_ex rv ⟨aK hz6 rfl,?_⟩
  refine aG (Ey hv6) ?_
  rintro x w7 ⟨vl,ve,rfl,hvl,hn7⟩
  have hn07:=hn6.new hn7
  refine ⟨_,_,rfl,_,(New.blk hn07 hz2).cell (i:=2) rfl,?_⟩
  refine aG (eW w7 p.Client 40 hp.c (by omega)) ?_
  rintro x w8 ⟨rfl,rfl⟩
  refine ⟨_,rfl,?_⟩
  rintro w9 hw9
  have hn9:New w8 w9:=by rw [hw9];exact aW _
  clear hw9
  have hn09:=hn02.new (hn07.new hn9)
  have h9:=h.new hn09
  have hz9:=New.blk (hn07.new hn9) hz2
  have hz69:=New.blk (hn7.new hn9) hz6
  have hnum:=hgd.num
  have hvn:=hv.num
  refine ⟨λy=>New w9 y,Keep.refl _ _,_,_,_,λy hy=>had y (h9.new hy),_,λy hy=>(New.blk hy hz69).cell (i:=0) rfl,_,λy hy=>(New.blk hy hz9).cell (i:=3) rfl,?_⟩
  refine aG (oT w9 (i:=rv.Number) (by omega) (by omega)) ?_
  rintro x w10 ⟨rfl,rfl⟩
  refine ⟨_,rfl,Keep.refl _ _,?_⟩
  refine aG (eW w10 _ 2 (lg _) (by omega)) ?_
  rintro x w11 ⟨rfl,rfl⟩
  refine ⟨_,rfl,Keep.refl _ _,?_⟩
  refine aG (yI w11 _ _ _) ?_
  rintro x w12 ⟨cv,ce,rfl,hcv,hn12⟩
  refine ⟨_,_,rfl,hn12,ni (h9.new hn12) hr hcv (by omega) (by omega) λad' w' hw=>⟨rfl,(Wr.of_new (hn09.new hn12)).trans hw⟩⟩
end Go.Proofs.YtafopfaomkklpaaGreat
namespace Go.Proofs.YtafopfaomkklpaaGreat
open Go.Proofs.Tryz
open Go.Eng
structure PkR (w w':World) (fb:Nat) (F:Fa) (N N':List cB) (Cl:List CliR) (P:Nat→List bS):Prop where
 len:N'.length=N.length
 fab:dC w' fb F N' Cl P
 keep:Keep (λk=>k=F.nb∨∃ r ∈ N,isB r.Words k) w w'
 same:∀ r' ∈ N',∃ r ∈ N,r'.Words=r.Words
set_option maxHeartbeats 8000000 in
theorem Hq {w:World} {fb:Nat} {F:Fa} {N:List cB} {Cl:List CliR} {P:Nat→List bS} (h:dC w fb F N Cl P) {p:tR} (hp:rM p) :
  Does 25 [.pointer (some ⟨fb,0,none⟩),p.val,.int .i64 F.lines] w λv w'=>v=.tuple #[]∧∃ N',PkR w w' fb F N N' Cl P:=by
 refine does Tryz.func25 ?_
 rw [tQ]
 have hln:=h.ln
 have hn15:=h.n1
 rintro b1 w1 hb1 hw1
 obtain ⟨hz1,hn1⟩:=aR hb1 hw1
 have hz1:Blk w1 b1 p.cells TPo:=hz1
 clear hw1
 rintro w2 hw2
 have hn2:New w1 w2:=by rw [hw2];exact aW _
 clear hw2
 have hz2:=New.blk hn2 hz1
 have hn02:=hn1.new hn2
 have h2:=h.new hn02
 refine ⟨λy=>New w2 y,Keep.refl _ _,_,_,_,λy hy=>(New.blk hy h2.fab).cell (i:=1) rfl,_,λy hy=>(New.blk hy hz2).cell (i:=1) rfl,_,_,_,λy hy=>(New.blk hy h2.fab).cell (i:=1) rfl,?_⟩
 refine aG (eW w2 p.Node N.length hp.n (by omega)) ?_
 rintro v w3 ⟨rfl,rfl⟩
 have hpi:=oK (x:=p.Node) (n:=(N.length:Int)) (by omega)
 generalize hidx:(if (N.length:Int)<1 then 0 else p.Node % (N.length:Int))=ix at hpi
 obtain ⟨i,rfl⟩:=Int.eq_ofNat_of_zero_le hpi.1
 have hlt:i<N.length:=by omega
 have hg:N[i]?=some N[i]:=List.getElem?_eq_getElem hlt
 have hrm:=List.getElem_mem hlt
 generalize N[i]=r at hg hrm
 refine ⟨_,rfl,Keep.refl _ _,bG (by omega) (by omega) ?_⟩
 have had:NdAt fb F N Cl P r ⟨F.nb,0+(i:Int).toNat * 2,none⟩:=λy hy=>by
  rw [show 0+(i:Int).toNat * 2=i * 2+0 by omega]
  exact Owns.row aQ.len hy.nodes hg (j:=0) rfl
 have hupA:∀ y,dC y fb F N Cl P→y.cell? ⟨F.nb,0+(i:Int).toNat * 2+1,none⟩=some (.bool r.Up):=λy hy=>by
  rw [show 0+(i:Int).toNat * 2+1=i * 2+1 by omega]
  exact Owns.row aQ.len hy.nodes hg (j:=1) rfl
 have hoff:0+(i:Int).toNat * 2+1=i * 2+1:=by omega
 generalize hA:(⟨F.nb,0+(i:Int).toNat * 2,none⟩:Addr)=ad at had ⊢
 refine ⟨_,hz2.cell (i:=2) rfl,?_⟩
 refine aG (eW w3 p.Client 6 hp.c (by omega)) ?_
 rintro v w4 ⟨rfl,rfl⟩
 have hci:=oK (x:=p.Client) (n:=6) (by omega)
 generalize (if (6:Int)<1 then 0 else p.Client % 6)=c at hci
 refine ⟨_,rfl,_,hz2.cell (i:=3) rfl,?_⟩
 refine aG (Fp w4 hp.a (lines:=F.lines) (by omega) (by omega)) ?_
 rintro v w5 ⟨pg,rfl,hpg,hn5⟩
 refine aP.mk_ex pg ⟨rfl,kE (vs:=pg.cells) rfl (aP.single _) λb2 w7 hb2 hz7 hn7=>?_⟩
 have hz7:Blk w7 b2 pg.cells TPg:=hz7
 have hn27:=hn5.new hn7
 have hn07:=hn02.new hn27
 have h7:=h.new hn07
 have hx7:=New.blk hn27 hz2
 refine ⟨_,hx7.cell (i:=0) rfl,?_⟩
 refine aG (eW w7 p.Kind 14 hp.k (by omega)) ?_
 rintro v w8 ⟨rfl,rfl⟩
 generalize (if (14:Int)<1 then 0 else p.Kind % 14)=kd
 have fin:∀ w',Wr N w8 w'→(Value.tuple #[]=Value.tuple #[]∧∃ N',PkR w w' fb F N N' Cl P):=λw' hw=>
  ⟨rfl,N,rfl,h7.wr hw,(Keep.of_new hn07).trans (hw.keep.mono λ_ _ e=>.inr e) λ_ _ e=>e,λq hq=>⟨q,hq,rfl⟩⟩
 have hlog:aU.ex λq=>aH w8 ⟨b1,0,none⟩ 0 q.cells∧Calls prog 74 #[(.pointer (some ad)),q.val,(.int .i64 c),(.int .i64 F.lines)] w8 λe w12=>e=.returned (.tuple #[])∧((Value.tuple #[]=Value.tuple #[]∧∃ N',PkR w w12 fb F N N' Cl P)):=by
  refine aU.mk_ex p ⟨aK hx7 rfl,?_⟩
  refine aG (Hn h7 hp hrm had hci.1 hci.2) ?_
  rintro v w9 ⟨rfl,hw⟩
  exact ⟨rfl,fin w9 hw⟩
 have hwp:∀ x,U64 (IntKind.u64.wrap x):=mq
 refine ⟨_,rfl,bC (λe0=>?g0) (λ_=>bC (λe1=>bC (λ_=>hlog) (λe=>absurd e1 e)) (λ_=>bC (λe1=>bC (λ_=>hlog) (λe=>absurd e1 e)) (λ_=>bC (λe1=>hlog) (λ_=>bC (λ_=>?g4) (λ_=>bC (λ_=>?g5) (λ_=>bC (λ_=>?g6) (λ_=>bC (λ_=>?g7) (λ_=>bC (λ_=>?g8) (λ_=>bC (λ_=>?g9) (λ_=>bC (λ_=>?g10) (λ_=>bC (λ_=>?g11) (λ_=>bC (λ_=>?g12) (λ_=>bC (λ_=>?g13) (λ_=>fin _ (Wr.refl _ _)))))))))))))))⟩
 case g0=>
  rintro w9 hw9
  have hn9:New w8 w9:=by rw [hw9];exact aW _
  clear hw9
  have h9:=h7.new hn9
  have hx9:=New.blk hn9 hx7
  refine ⟨λy=>New w9 y,Keep.refl _ _,_,_,_,λy hy=>had y (h9.new hy),_,λy hy=>(New.blk hy hx9).cell (i:=3) rfl,_,_,_,λy hy=>had y (h9.new hy),_,λy hy=>(New.blk hy hx9).cell (i:=5) rfl,?_⟩
  obtain ⟨b,q1,q2,q3,q4⟩:=h9.nok r hrm
  refine aG (eW w9 p.A _ hp.a (by rw [q2];omega)) ?_
  rintro v w10 ⟨rfl,rfl⟩
  have hpi:=oK (x:=p.A) (n:=(r.Words_l:Int)) (by rw [q2];omega)
  refine ⟨_,rfl,Keep.refl _ _,ni h9 hrm hp.w hpi.1 (by have:=hpi.2;rw [q2] at this ⊢;omega) λad' w' hw=>fin w' ((Wr.of_new hn9).trans hw)⟩
 case g4=>
  rintro w9 hw9
  have hn9:New w8 w9:=by rw [hw9];exact aW _
  clear hw9
  have h9:=h7.new hn9
  have hx9:=New.blk hn9 hx7
  have hz9:=New.blk hn9 hz7
  refine ⟨λy=>New w9 y,Keep.refl _ _,_,_,_,λy hy=>had y (h9.new hy),_,λy hy=>(New.blk hy hz9).cell (i:=0) rfl,_,λy hy=>(New.blk hy hz9).cell (i:=1) rfl,_,λy hy=>(New.blk hy hx9).cell (i:=4) rfl,?_⟩
  have hl1:=hpg.2.1
  refine aG (yH w9 hl1.1 (by omega)) ?_
  rintro v w10 ⟨rfl,rfl⟩
  refine ⟨_,rfl,Keep.refl _ _,?_⟩
  refine aG (eW w10 p.B 7 hp.b (by omega)) ?_
  rintro v w11 ⟨rfl,rfl⟩
  exact ⟨_,rfl,Keep.refl _ _,ni h9 hrm (oX _ _) (by omega) (by omega) λad' w' hw=>fin w' ((Wr.of_new hn9).trans hw)⟩
 case g5=>
  rintro w9 hw9
  have hn9:New w8 w9:=by rw [hw9];exact aW _
  clear hw9
  have h9:=h7.new hn9
  have hx9:=New.blk hn9 hx7
  refine ⟨λy=>New w9 y,Keep.refl _ _,_,_,_,λy hy=>had y (h9.new hy),_,λy hy=>(New.blk hy hx9).cell (i:=3) rfl,?_⟩
  refine aG (zF w9 hci.1 hci.2) ?_
  rintro v w10 ⟨rfl,rfl⟩
  refine ⟨_,rfl,Keep.refl _ _,?_⟩
  refine aG (eW w10 p.A 6 hp.a (by omega)) ?_
  rintro v w11 ⟨rfl,rfl⟩
  exact ⟨_,rfl,Keep.refl _ _,ni h9 hrm (hwp _) (by omega) (by omega) λad' w' hw=>fin w' ((Wr.of_new hn9).trans hw)⟩
 case g6=>
  rintro w9 hw9
  have hn9:New w8 w9:=by rw [hw9];exact aW _
  clear hw9
  have h9:=h7.new hn9
  have hx9:=New.blk hn9 hx7
  refine ⟨λy=>New w9 y,Keep.refl _ _,_,_,_,λy hy=>had y (h9.new hy),_,λy hy=>(New.blk hy hx9).cell (i:=3) rfl,_,λy hy=>(New.blk hy hx9).cell (i:=4) rfl,?_⟩
  refine aG (Eo w9 hci.1 hci.2) ?_
  rintro v w10 ⟨rfl,rfl⟩
  refine ⟨_,rfl,Keep.refl _ _,?_⟩
  refine aG (eW w10 p.A 3 hp.a (by omega)) ?_
  rintro v w11 ⟨rfl,rfl⟩
  refine ⟨_,rfl,Keep.refl _ _,?_⟩
  refine aG (eW w11 p.B 6 hp.b (by omega)) ?_
  rintro v w12 ⟨rfl,rfl⟩
  refine ⟨_,rfl,Keep.refl _ _,?_⟩
  refine aG (Hk w12 _ _) ?_
  rintro v w13 ⟨x,e,rfl,hx,hn13⟩
  exact ⟨_,_,rfl,hn13,ni (h9.new hn13) hrm hx (by omega) (by omega) λad' w' hw=>fin w' ((Wr.of_new (hn9.new hn13)).trans hw)⟩
 case g7=>
  rintro w9 hw9
  have hn9:New w8 w9:=by rw [hw9];exact aW _
  clear hw9
  have h9:=h7.new hn9
  have hx9:=New.blk hn9 hx7
  refine ⟨λy=>New w9 y,Keep.refl _ _,_,_,_,λy hy=>had y (h9.new hy),_,λy hy=>(New.blk hy hx9).cell (i:=3) rfl,?_⟩
  refine aG (En w9 hci.1 hci.2) ?_
  rintro v w10 ⟨rfl,rfl⟩
  refine ⟨_,rfl,Keep.refl _ _,?_⟩
  refine aG (eW w10 p.A 8 hp.a (by omega)) ?_
  rintro v w11 ⟨rfl,rfl⟩
  exact ⟨_,rfl,Keep.refl _ _,ni h9 hrm (hwp _) (by omega) (by omega) λad' w' hw=>fin w' ((Wr.of_new hn9).trans hw)⟩
 case g8=>
  rintro w9 hw9
  have hn9:New w8 w9:=by rw [hw9];exact aW _
  clear hw9
  have h9:=h7.new hn9
  have hx9:=New.blk hn9 hx7
  refine ⟨λy=>New w9 y,Keep.refl _ _,_,_,_,λy hy=>had y (h9.new hy),_,λy hy=>(New.blk hy hx9).cell (i:=3) rfl,?_⟩
  refine aG (eW w9 p.A 6 hp.a (by omega)) ?_
  rintro v w11 ⟨rfl,rfl⟩
  exact ⟨_,rfl,Keep.refl _ _,ni h9 hrm (z:=0) (hwp _) (by omega) (by omega) λad' w' hw=>fin w' ((Wr.of_new hn9).trans hw)⟩
 case g9=>
  rintro w9 hw9
  have hn9:New w8 w9:=by rw [hw9];exact aW _
  clear hw9
  have h9:=h7.new hn9
  have hx9:=New.blk hn9 hx7
  refine ⟨λy=>New w9 y,Keep.refl _ _,_,_,_,λy hy=>had y (h9.new hy),_,λy hy=>(New.blk hy hx9).cell (i:=3) rfl,?_⟩
  refine aG (eW w9 p.A 3 hp.a (by omega)) ?_
  rintro v w11 ⟨rfl,rfl⟩
  exact ⟨_,rfl,Keep.refl _ _,ni h9 hrm (z:=1) (hwp _) (by omega) (by omega) λad' w' hw=>fin w' ((Wr.of_new hn9).trans hw)⟩
 case g10=>
  refine aU.mk_ex p ⟨aK hx7 rfl,?_⟩
  refine aG (Ho h7 hp hrm had) ?_
  rintro v w9 ⟨rfl,hw⟩
  exact ⟨rfl,fin w9 hw⟩
 case g11=>
  subst hA
  refine ⟨⟨_,hupA w8 h7⟩,Owns.frozen h7.nodes,?_⟩
  rintro w9 hw9
  have hw9:w9=w8.setCell ⟨F.nb,0+(i:Int).toNat * 2+1,none⟩ (.bool false):=hw9
  rw [hoff] at hw9
  have hk9:Keep (λk=>k=F.nb) w8 w9:=by rw [hw9];exact aN _ _ _ _
  have hnd:=Owns.setRow aQ.len h7.nodes hg (j:=1) (r':=⟨r.Words,r.Words_l,r.Words_c,false⟩) (v:=.bool false) (by omega) rfl
  rw [←hw9] at hnd
  obtain ⟨cur,hbl,_⟩:=Owns.blk h7.nodes
  have hmem:∀ q ∈ N.set i ⟨r.Words,r.Words_l,r.Words_c,false⟩,∃ q' ∈ N,q.Words=q'.Words∧q.Words_l=q'.Words_l∧q.Words_c=q'.Words_c:=λq hq=>by
   rcases List.mem_or_eq_of_mem_set hq with hq | rfl
   ·exact ⟨q,hq,rfl,rfl,rfl⟩
   ·exact ⟨r,hrm,rfl,rfl,rfl⟩
  refine ⟨rfl,N.set i ⟨r.Words,r.Words_l,r.Words_c,false⟩,by rw [List.length_set],h7.reNode hk9 (by rw [List.length_set]) (by rw [List.length_set];exact hnd) (λq hq=>?_),(Keep.of_new hn07).trans (hk9.mono λ_ _ e=>.inl e) λ_ _ e=>e,λq hq=>?_⟩
  ·obtain ⟨q',hq',e1,e2,e3⟩:=hmem q hq
   obtain ⟨b,s1,s2,s3,s4⟩:=h7.nok q' hq'
   exact ⟨b,by rw [e1];exact s1,by rw [e2];exact s2,by rw [e3];exact s3,s4.keep hk9 (s4.ne hbl (by decide))⟩
  ·obtain ⟨q',hq',e1,_⟩:=hmem q hq
   exact ⟨q',hq',e1⟩
 case g12=>
  refine aS mix (λm env u=>∃ (j:Nat) (jj:List Value),m=N.length - j∧j≤N.length∧env=er ⟨fb,0,none⟩ F.lines ⟨b1,0,none⟩ c j jj∧dC u fb F N Cl P∧Wr N w8 u) N.length
   ⟨0,_,by omega,by omega,rfl,h7,Wr.refl _ _⟩ ?_
  rintro m env u ⟨j,jj,rfl,hj,rfl,hf,hw⟩
  rw [nT]
  refine ⟨_,_,_,hf.fab.cell (i:=1) rfl,aE (λhq=>?_) (λhq=>fin u hw)⟩
  rintro u1 hu1
  have hn1':New u u1:=by rw [hu1];exact aW _
  clear hu1
  have hf1:=hf.new hn1'
  have hx1:=New.blk hn1' (hw.tr h7.nok (by decide) _ _ hx7)
  have hgj:N[j]?=some N[j]:=List.getElem?_eq_getElem (by omega)
  refine ⟨λy=>Wr N u1 y,Wr.refl _ _,_,_,_,λy hy=>(hf1.wr hy).fab.cell (i:=1) rfl,bG (by omega) (by omega) (aU.mk_ex p ⟨λy hy=>aK (hy.tr hf1.nok (by decide) _ _ hx1) rfl,?_⟩)⟩
  have hadj:NdAt fb F N Cl P N[j] ⟨F.nb,0+(j:Int).toNat * 2,none⟩:=λy hy=>by
   rw [show 0+(j:Int).toNat * 2=j * 2+0 by omega]
   exact Owns.row aQ.len hy.nodes hgj (j:=0) rfl
  refine aG (Hn hf1 hp (List.getElem_mem (by omega)) hadj hci.1 hci.2) ?_
  rintro v u2 ⟨rfl,hw2⟩
  rw [w64 (x:=(j:Int)+1) (by omega) (by omega)]
  exact ⟨rfl,hw2,N.length - (j+1),by omega,j+1,_,rfl,by omega,rfl,hf1.wr hw2,(hw.new hn1').trans hw2⟩
 case g13=>
  rintro w9 hw9
  have hn9:New w8 w9:=by rw [hw9];exact aW _
  clear hw9
  have h9:=h7.new hn9
  have hx9:=New.blk hn9 hx7
  refine ⟨λy=>New w9 y,Keep.refl _ _,_,_,_,λy hy=>had y (h9.new hy),_,λy hy=>(New.blk hy hx9).cell (i:=3) rfl,_,λy hy=>(New.blk hy hx9).cell (i:=4) rfl,?_⟩
  refine aG (BO w9 hci.1 hci.2) ?_
  rintro v w10 ⟨rfl,rfl⟩
  refine ⟨_,rfl,Keep.refl _ _,?_⟩
  refine aG (eW w10 p.A 3 hp.a (by omega)) ?_
  rintro v w11 ⟨rfl,rfl⟩
  refine ⟨_,rfl,Keep.refl _ _,?_⟩
  refine aG (eW w11 p.B 50 hp.b (by omega)) ?_
  rintro v w12 ⟨rfl,rfl⟩
  refine ⟨_,rfl,Keep.refl _ _,?_⟩
  refine aG (Ep w12 _ _) ?_
  rintro v w13 ⟨x,e,rfl,hx,hn13⟩
  exact ⟨_,_,rfl,hn13,ni (h9.new hn13) hrm hx (by omega) (by omega) λad' w' hw=>fin w' ((Wr.of_new (hn9.new hn13)).trans hw)⟩
structure Prep (w w':World) (fb:Nat) (F:Fa) (N:List cB) (Cl:List CliR) (P:Nat→List bS):Prop where
 fab:dC w' fb F N Cl P
 idle:Idle N Cl P
 new:New w w'
 old:∀ k,F.own fb N Cl.length k→w.heap.size≤k
def AX (l:List tR):List (List Value):=l.map aU.cells
set_option maxHeartbeats 1000000 in
theorem C5 {w:World} {n C lines:Nat} (hn:1≤n∧n≤5) (hC:1≤C∧C≤6) (hl:98≤lines∧lines≤256) {a:Option Addr} {c:Nat} {l:List tR} (hr:Rd w a (AX l).flatten) (hfew:l.length≤1000000) (hok:∀ p ∈ l,rM p) :
  Does 7 [.int .i64 n,.int .i64 C,.int .i64 lines,.slice a l.length c] w λv w'=>∃ fb F N Cl P,v=.pointer (some ⟨fb,0,none⟩)∧Prep w w' fb F N Cl P∧F.lines=lines∧N.length=n∧Cl.length=C:=by
 refine does Tryz.func7 ?_
 rw [rL]
 refine aG (Ie w hn hC hl) ?_
 rintro v w1 ⟨fb,N,nb,nc,ca,cc,la,lc,B,rfl,hNl,hBl,hB⟩
 subst hNl hBl
 obtain ⟨F,Cl,P,hf,hFl,hCl,hid,hold⟩:=hB.fabAt hn hC hl
 refine ⟨_,rfl,?_⟩
 refine aG (Eu hf) ?_
 rintro v w2 ⟨rfl,N2,hN2,hf2,hk2,hw2⟩
 have hn1:=hB.new
 have hn2:New w w2:=hn1.trans hk2 λk hlt e=>by have:=hold F.nb (.inr (.inl rfl));omega
 have s1:=hn1.size
 have hnd:∀ {M:List cB},(∀ r ∈ M,∀ k,isB r.Words k→w.heap.size≤k)→M.length=N.length→∀ k,F.own fb M Cl.length k→w.heap.size≤k:=by
  intro M hM _ k hk
  rcases hk with rfl | rfl | rfl | rfl | ⟨d,hd,rfl⟩ | ⟨r,hr,hb⟩
  ·exact hold _ (.inl rfl)
  ·exact hold _ (.inr (.inl rfl))
  ·exact hold _ (.inr (.inr (.inl rfl)))
  ·exact hold _ (.inr (.inr (.inr (.inl rfl))))
  ·exact hold _ (.inr (.inr (.inr (.inr (.inl ⟨d,hd,rfl⟩)))))
  ·exact hM r hr k hb
 have hW2:∀ r ∈ N2,∀ k,isB r.Words k→w.heap.size≤k:=λr hr k hb=>by
  rcases hw2 r hr k hb with ⟨q,hq,hb'⟩ | e
  ·exact hold k (.inr (.inr (.inr (.inr (.inr ⟨q,hq,hb'⟩)))))
  ·omega
 have hnbw:=hold F.nb (.inr (.inl rfl))
 refine ⟨rfl,?_⟩
 refine aS mix (λm env u=>∃ (i:Nat) (M:List cB) (jj:List Value),m=l.length - i∧i≤l.length∧env=fF lines a l.length c (some ⟨fb,0,none⟩) i jj∧M.length=N.length∧dC u fb F M Cl P∧New w u∧∀ r ∈ M,∀ k,isB r.Words k→w.heap.size≤k) l.length
  ⟨0,N2,_,by omega,by omega,rfl,hN2,hf2,hn2,hW2⟩ ?_
 clear hf2 hn2 hW2 hw2 hk2
 rintro m env u ⟨i,M,jj,rfl,hi,rfl,hMl,hfu,hnu,hWu⟩
 rw [lS]
 refine aE (λhq=>?_) (λhq=>?_)
 ·have hlt:i<l.length:=by omega
  have hg:l[i]?=some l[i]:=List.getElem?_eq_getElem hlt
  refine fY (cells:=aU.cells) aU.len (by omega) (hr.new hnu) hg rfl rfl λb o hc _=>aU.mk_ex l[i] ⟨hc,?_⟩
  have hpk:=Hq hfu (hok _ (List.getElem_mem hlt))
  rw [hFl] at hpk
  refine aG hpk ?_
  rintro v u2 ⟨rfl,M',hM'⟩
  rw [w64 (x:=(i:Int)+1) (by omega) (by omega)]
  refine ⟨rfl,l.length - (i+1),by omega,i+1,M',_,rfl,by omega,rfl,by rw [hM'.len,hMl],hM'.fab,hnu.trans hM'.keep λk hlt e=>?_,λr hr k hb=>?_⟩
  ·rcases e with rfl | ⟨r,hr,hb⟩
   ·omega
   ·have:=hWu r hr k hb;omega
  ·obtain ⟨q,hq,e⟩:=hM'.same r hr
   exact hWu q hq k (by rw [←e];exact hb)
 ·rw [nS]
  exact ⟨fb,F,M,Cl,P,rfl,⟨hfu,⟨hid.1,hid.2⟩,hnu,hnd hWu hMl⟩,hFl,hMl,hCl⟩
end Go.Proofs.YtafopfaomkklpaaGreat
