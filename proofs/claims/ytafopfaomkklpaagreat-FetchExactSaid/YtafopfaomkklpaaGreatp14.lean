/- A part of the proof. -/
import Derived.Test.YtafopfaomkklpaaGreatp12
import Derived.Test.YtafopfaomkklpaaGreatp13
set_option linter.unusedVariables false
namespace Go.Proofs.YtafopfaomkklpaaGreat
open Go.Proofs.Tryz
open Go.Eng
abbrev TPo:TypeId:=75
abbrev TRc:TypeId:=210
abbrev pA:=aQ
abbrev RecR:=aM
structure pj (p:pA):Prop where
 k:I64 p.Kind
 n:I64 p.Node
 c:I64 p.Client
 a:I64 p.A
 b:I64 p.B
 w:U64 p.W
structure Wr (N:List bS) (w u:World):Prop where
 keep:Keep (λk=>∃ r ∈ N,isB r.Words k) w u
 u64:∀ b n,U64B w b n→U64B u b n
theorem Wr.refl (N:List bS) (w:World):Wr N w w:=⟨Keep.refl _ _,λ_ _ h=>h⟩
theorem Wr.trans {N:List bS} {a b c:World} (h:Wr N a b) (k:Wr N b c):Wr N a c:=⟨h.keep.trans k.keep λ_ _ h=>h,λx n e=>k.u64 x n (h.u64 x n e)⟩
theorem Wr.new {N:List bS} {a b c:World} (h:Wr N a b) (k:New b c):Wr N a c:=⟨h.keep.new k,λx n e=>(h.u64 x n e).new k⟩
theorem Wr.of_new {N:List bS} {a b:World} (k:New a b):Wr N a b:=(Wr.refl N a).new k
theorem wC {w:World} {L:Nat} {N:List bS} (hN:∀ r ∈ N,pi w L r) {k:Nat} (h:∃ r ∈ N,isB r.Words k):U64B w k (L * 8):=by
 obtain ⟨r,hr,hb⟩:=h
 obtain ⟨b,q1,q2,q3,q4⟩:=hN r hr
 rw [q1] at hb
 rw [lX hb]
 exact q4
theorem Wr.tr {N:List bS} {w u:World} (h:Wr N w u) {L:Nat} (hN:∀ r ∈ N,pi w L r) {T:TypeId} (hT:T≠TU) (b:Nat) (cs:List Value) (hb:Blk w b cs T):Blk u b cs T:=
 h.keep.blk hb λe=>(wC hN e).ne hb (λe=>hT e.symm) rfl
theorem cY.wr {w u:World} {fb:Nat} {F:Fa} {N:List bS} {Cl:List CliR} {P:Nat→List bJ} (h:cY w fb F N Cl P) (k:Wr N w u):cY u fb F N Cl P:=by
 have tr:∀ {T:TypeId},T≠TU→∀ (b:Nat) (cs:List Value),Blk w b cs T→Blk u b cs T:=λht b cs hb=>k.tr h.nok ht b cs hb
 refine ⟨tr (by decide) _ _ h.fab,Owns.tr (tr (by decide)) h.nodes,λr hr=>?_,Owns.tr (tr (by decide)) h.clients,h.alive,Owns.tr (tr (by decide)) h.live,λc hc=>⟨Owns.tr (tr (by decide)) (h.pairs c hc).1,(h.pairs c hc).2⟩,h.inj,h.n1,h.c1,h.ln⟩
 obtain ⟨b,q1,q2,q3,q4⟩:=h.nok r hr
 exact ⟨b,q1,q2,q3,k.u64 _ _ q4⟩
theorem lZ {w:World} {fb:Nat} {F:Fa} {N:List bS} {Cl:List CliR} {P:Nat→List bJ} (h:cY w fb F N Cl P) {r:bS} (hr:r ∈ N) {x z:Int} (hx:U64 x) (h0:0≤z) (h1:z<F.lines * 8) {K:Addr→World→Prop} (hk:∀ ad w',Wr N w w'→K ad w') :
  idxS r.Words r.Words_l z 1 λad=>(∃ v,w.cell? ad=some v)∧w.frozen? ad=false∧∀ w',w'=w.setCell ad (.int .u64 x)→K ad w':=by
 obtain ⟨b,q1,q2,q3,q4⟩:=h.nok r hr
 rw [q1,q2]
 refine uF q4 hx (i:=z.toNat) (by omega) (by omega) λad w' _ k1 k2=>hk ad w' ⟨k1.mono λk _ e=>⟨r,hr,0,by rw [e];exact q1⟩,k2⟩
structure wD (w0 u:World) (fb:Nat) (F:Fa) (N:List bS) (Cl:List CliR) (P:Nat→List bJ) (p:pA) (b1 b3:Nat) (rec:RecR) (W:List aG) (ba:Option Addr) (bn bc:Nat) (l:List Int):Prop where
 fab:cY u fb F N Cl P
 wr:Wr N w0 u
 bx:Blk u b1 p.cells TPo
 rc:Blk u b3 rec.cells TRc
 pg:Owns u TPg 9 rec.Writes rec.Writes_l rec.Writes_c (eF W).flatten
 pl:rec.Writes_l=W.length
 few:W.length≤3
 ok:∀ q ∈ W,PgOk F.lines q
 bd:WL w0 u ba bn bc l
 bl:l.length≤30
theorem wD.next {w0 u z:World} {fb:Nat} {F:Fa} {N:List bS} {Cl:List CliR} {P:Nat→List bJ} {p:pA} {b1 b3:Nat} {rec:RecR} {W:List aG} {ba:Option Addr} {bn bc:Nat} {l:List Int} (h:wD w0 u fb F N Cl P p b1 b3 rec W ba bn bc l) (hf0:cY w0 fb F N Cl P) (k:Wr N u z):wD w0 z fb F N Cl P p b1 b3 rec W ba bn bc l:=by
 have tr:∀ {T:TypeId},T≠TU→∀ (b:Nat) (cs:List Value),Blk u b cs T→Blk z b cs T:=λht b cs hb=>k.tr h.fab.nok ht b cs hb
 refine ⟨h.fab.wr k,h.wr.trans k,tr (by decide) _ _ h.bx,tr (by decide) _ _ h.rc,Owns.tr (tr (by decide)) h.pg,h.pl,h.few,h.ok,⟨Owns.keep k.keep h.bd.own λq hq e=>?_,h.bd.len,h.bd.u64,h.bd.fresh⟩,h.bl⟩
 have h1:=h.bd.fresh q hq
 have h2:=(wC hf0.nok e).lt
 omega
def NdAt (fb:Nat) (F:Fa) (N:List bS) (Cl:List CliR) (P:Nat→List bJ) (r:bS) (ad:Addr):Prop:=∀ y,cY y fb F N Cl P→y.cell? ad=some (.slice r.Words r.Words_l r.Words_c)
def LogR (N:List bS) (w0:World) (v:Value) (w':World):Prop:=v=.tuple #[]∧Wr N w0 w'
set_option maxHeartbeats 1000000 in
theorem yQ {w0 w:World} {fb:Nat} {F:Fa} {N:List bS} {Cl:List CliR} {P:Nat→List bJ} {p:pA} {b1 b3:Nat} {rec:RecR} {W:List aG} {ba:Option Addr} {bn bc:Nat} {l:List Int} (h:wD w0 w fb F N Cl P p b1 b3 rec W ba bn bc l) (hf0:cY w0 fb F N Cl P) (hp:pj p)
  {r:bS} (hr:r ∈ N) {ad:Addr} (had:NdAt fb F N Cl P r ad) (c:Int) (jj:List Value) :
  bW prog (.loop (sub (aA f74) [1,1,1,1,1,1,0,0])) (ed ad c ⟨b1,0,none⟩ ⟨b3,0,none⟩ 0 jj) (aK 2 (retQ prog f74 (LogR N w0))) w:=by
 have hln:=h.fab.ln
 refine aW mix (λm env u=>∃ (i:Nat) (jj:List Value),m=W.length - i∧i≤W.length∧env=ed ad c ⟨b1,0,none⟩ ⟨b3,0,none⟩ i jj∧wD w0 u fb F N Cl P p b1 b3 rec W ba bn bc l) W.length
  ⟨0,_,by omega,by omega,rfl,h⟩ ?_
 clear h
 rintro m env u ⟨i,jj,rfl,hi,rfl,h⟩
 rw [nB]
 have hpl:=h.pl
 have hfew:=h.few
 refine ⟨_,_,_,h.rc.cell (i:=1) rfl,aD (λhq=>⟨_,h.bx.cell (i:=4) rfl,?_⟩) (λhq=>⟨rfl,h.wr⟩)⟩
 refine aC (dK u _ 3 (iZ _) (by omega)) ?_
 rintro v u1 ⟨rfl,rfl⟩
 refine ⟨_,rfl,aD (λ_=>?_) (λ_=>⟨rfl,h.wr⟩)⟩
 rintro u2 hu2
 have hn2:New u1 u2:=by rw [hu2];exact aT _
 clear hu2
 have h2:=h.next hf0 (Wr.of_new hn2)
 have hg:W[i]?=some W[i]:=List.getElem?_eq_getElem (by omega)
 have hok:=h.ok _ (List.getElem_mem (by omega:i<W.length))
 generalize W[i]=q at hg hok
 refine ⟨λy=>New u2 y,Keep.refl _ _,_,_,_,λy hy=>had y (h2.fab.new hy),_,_,_,λy hy=>(New.blk hy h2.rc).cell (i:=1) rfl,?_⟩
 refine iL (cells:=aG.cells) aG.len (by omega) h2.pg.rd hg rfl hpl λb' o' hc=>⟨_,λy hy=>hc y hy 0 _ rfl,_,_,_,λy hy=>(New.blk hy h2.rc).cell (i:=1) rfl,?_⟩
 refine iL (cells:=aG.cells) aG.len (by omega) h2.pg.rd hg rfl hpl λb' o' hc=>aG.mk_ex q ⟨λy hy=>eb (hc y hy),?_⟩
 refine aC (tR u2 hok.2.1.1 (by have:=hok.2.1.2;omega)) ?_
 rintro v u3 ⟨rfl,rfl⟩
 refine ⟨_,rfl,Keep.refl _ _,?_⟩
 refine aC (AB u3 q c) ?_
 rintro v u4 ⟨x,e,rfl,hx,hn4⟩
 have h4:=h2.next hf0 (Wr.of_new hn4)
 refine ⟨_,_,rfl,hn4,lZ h4.fab hr hx (by have:=hok.2.1.1;omega) (by have:=hok.2.1.2;omega) λad' w' hw=>?_⟩
 rw [w64 (x:=(i:Int)+1) (by omega) (by omega)]
 exact ⟨W.length - (i+1),by omega,i+1,_,rfl,by omega,rfl,h4.next hf0 hw⟩
set_option maxHeartbeats 1000000 in
theorem p5 {w0 w:World} {fb:Nat} {F:Fa} {N:List bS} {Cl:List CliR} {P:Nat→List bJ} {p:pA} {b1 b3:Nat} {rec:RecR} {W:List aG} {ba:Option Addr} {bn bc:Nat} {l:List Int} (h:wD w0 w fb F N Cl P p b1 b3 rec W ba bn bc l) (hf0:cY w0 fb F N Cl P) (hp:pj p)
  {r:bS} (hr:r ∈ N) {ad:Addr} (had:NdAt fb F N Cl P r ad) {c:Int} (hc0:0≤c) (hc6:c<6) (jj:List Value) :
  bW prog (.loop (sub (aA f74) [1,1,1,0,1,0,0])) (bK ad c ⟨b1,0,none⟩ ⟨b3,0,none⟩ ba bn bc 0 jj) (aK 0 (seqQ (λenv w=>Go.Eng.W prog (sub (aA f74) [1,1,1,1]) env (retQ prog f74 (LogR N w0)) w) (retQ prog f74 (LogR N w0)))) w:=by
 have hln:=h.fab.ln
 have hbl:=h.bl
 have hbn:=h.bd.len
 refine aW mix (λm env u=>∃ (i:Nat) (jj:List Value),m=l.length - i∧i≤l.length∧env=bK ad c ⟨b1,0,none⟩ ⟨b3,0,none⟩ ba bn bc i jj∧wD w0 u fb F N Cl P p b1 b3 rec W ba bn bc l) l.length
  ⟨0,_,by omega,by omega,rfl,h⟩ ?_
 clear h
 rintro m env u ⟨i,jj,rfl,hi,rfl,h⟩
 rw [nA]
 refine aD (λhq=>?_) (λhq=>?_)
 ·rintro u2 hu2
  have hn2:New u u2:=by rw [hu2];exact aT _
  clear hu2
  have h2:=h.next hf0 (Wr.of_new hn2)
  have hg:l[i]?=some l[i]:=List.getElem?_eq_getElem (by omega)
  have hxU:=h.bd.u64 _ (List.getElem_mem (by omega:i<l.length))
  refine ⟨λy=>New u2 y,Keep.refl _ _,_,_,_,λy hy=>had y (h2.fab.new hy),rd_w h2.bd.own.rd hg rfl hbn λb o hc=>⟨_,hc,?_⟩⟩
  refine aC (AA u2 hc0 hc6) ?_
  rintro v u3 ⟨rfl,rfl⟩
  refine ⟨_,rfl,Keep.refl _ _,?_⟩
  rw [w64 (x:=(6+c * 15) * 8+8+(i:Int)) (by omega) (by omega)]
  refine lZ h2.fab hr hxU (by omega) (by omega) λad' w' hw=>?_
  rw [w64 (x:=(i:Int)+1) (by omega) (by omega)]
  exact ⟨l.length - (i+1),by omega,i+1,_,rfl,by omega,rfl,h2.next hf0 hw⟩
 rw [pz]
 refine ⟨_,h.bx.cell (i:=0) rfl,?_⟩
 refine aC (dK u p.Kind 14 hp.k (by omega)) ?_
 rintro v u1 ⟨rfl,rfl⟩
 refine ⟨_,rfl,bQ (λ_=>?_) (λ_=>yQ h hf0 hp hr had c _)⟩
 rintro u2 hu2
 have hn2:New u1 u2:=by rw [hu2];exact aT _
 clear hu2
 have h2:=h.next hf0 (Wr.of_new hn2)
 refine ⟨λy=>New u2 y,Keep.refl _ _,_,_,_,λy hy=>had y (h2.fab.new hy),_,λy hy=>(New.blk hy h2.rc).cell (i:=0) rfl,_,λy hy=>(New.blk hy h2.bx).cell (i:=4) rfl,?_⟩
 refine aC (tS u2 hc0 hc6) ?_
 rintro v u3 ⟨rfl,rfl⟩
 refine ⟨_,rfl,Keep.refl _ _,?_⟩
 refine aC (dK u3 _ 5 (iZ _) (by omega)) ?_
 rintro v u4 ⟨rfl,rfl⟩
 refine ⟨_,rfl,Keep.refl _ _,?_⟩
 refine aC (DH u4 _) ?_
 rintro v u5 ⟨x,e,rfl,hx,hn5⟩
 have h5:=h2.next hf0 (Wr.of_new hn5)
 refine ⟨_,_,rfl,hn5,lZ h5.fab hr hx (by omega) (by omega) λad' w' hw=>?_⟩
 exact yQ (h5.next hf0 hw) hf0 hp hr had c _
end Go.Proofs.YtafopfaomkklpaaGreat
namespace Go.Proofs.YtafopfaomkklpaaGreat
open Go.Proofs.Tryz
open Go.Eng
set_option maxHeartbeats 1000000 in
theorem Ci {M:Nat→Prop} {w:World} {r:aF} {v:Vw} (h:gO M w r v):Does 104 [r.val] w (WE w):=by
 refine does Tryz.func104 ?_
 rw [q9]
 rintro b1 w1 hb1 hw1
 obtain ⟨hz,hn⟩:=aR hb1 hw1
 have hz:Blk w1 b1 r.cells TVw:=hz
 clear hw1
 have hlen:=h.len
 have hsm:=h.small
 refine aF.mk_ex r ⟨aH hz rfl,?_⟩
 refine aC (yK (h.new hn) 5) ?_
 rintro x w2 ⟨rfl,hn2⟩
 have hn02:=hn.new hn2
 refine ⟨_,rfl,bQ (λ_=>we u0 hn02) (λ_=>?_)⟩
 refine aW mix (λm env u=>∃ (i:Nat) (x:Int) (jj:List Value),m=v.mem.length - i∧i≤v.mem.length∧env=ek ⟨b1,0,none⟩ x i jj∧New w2 u∧U64 x) v.mem.length
  ⟨0,_,_,by omega,by omega,rfl,Keep.refl _ _,⟨by omega,by omega⟩⟩ ?_
 rintro m env u ⟨i,x,jj,rfl,hi,rfl,hnu,hx⟩
 rw [lS]
 have hzu:=New.blk hnu (New.blk hn2 hz)
 have hn0u:=hn02.new hnu
 refine ⟨_,_,_,hzu.cell (i:=1) rfl,aD (λhq=>?_) (λhq=>?_)⟩
 ·have hlt:i<v.mem.length:=by omega
  have hg:v.mem[i]?=some v.mem[i]:=List.getElem?_eq_getElem hlt
  refine ⟨_,_,_,hzu.cell (i:=1) rfl,?_⟩
  refine gN (cells:=aB.cells) aB.len (by omega) (h.rd.new hn0u) hg rfl hlen λb o hc _=>aB.mk_ex v.mem[i] ⟨hc,?_⟩
  refine mr (vs:=v.mem[i].cells) rfl (aB.single _) λb2 u2 hb2 hz2 hn2'=>?_
  rw [w64 (x:=(i:Int)+1) (by omega) (by omega)]
  refine ⟨_,hz2.cell (i:=1) rfl,_,hz2.cell (i:=2) rfl,lm (λhf=>⟨_,hz2.cell (i:=0) rfl,oL _,?_⟩) (λhf=>⟨_,hz2.cell (i:=0) rfl,oL _,?_⟩)⟩
  ·exact ⟨v.mem.length - (i+1),by omega,i+1,_,_,rfl,by omega,rfl,hnu.new hn2',nw _ _⟩
  ·exact ⟨v.mem.length - (i+1),by omega,i+1,_,_,rfl,by omega,rfl,hnu.new hn2',nw _ _⟩
 ·rw [od]
  exact we hx hn0u
set_option maxHeartbeats 4000000 in
theorem EB {w:World} {fb:Nat} {F:Fa} {N:List bS} {Cl:List CliR} {P:Nat→List bJ} (h:cY w fb F N Cl P) {p:pA} (hp:pj p) {r:bS} (hr:r ∈ N) {ad:Addr} (had:NdAt fb F N Cl P r ad) {c:Int} (hc0:0≤c) (hc6:c<6) :
  Does 74 [.pointer (some ad),p.val,.int .i64 c,.int .i64 F.lines] w (LogR N w):=by
 refine does Tryz.func74 ?_
 rw [sQ]
 have hln:=h.ln
 rintro b1 w1 hb1 hw1
 obtain ⟨hz1,hn1⟩:=aR hb1 hw1
 have hz1:Blk w1 b1 p.cells TPo:=hz1
 clear hw1
 rintro w2 hw2
 have hn2:New w1 w2:=by rw [hw2];exact aT _
 clear hw2
 have hz2:=New.blk hn2 hz1
 have hn02:=hn1.new hn2
 have hs2:=hn02.size
 have fin:∀ {u:World} {b3:Nat} {a:Option Addr} {cc:Nat} {L:List aG} {seq:Int} {K:RecR→Option Addr→Nat→Nat→World→Prop},New w2 u→w2.heap.size≤b3→Blk u b3 (aM.cells ⟨0,none,0,0⟩) TRc→Owns u TPg 9 a L.length cc (eF L).flatten→(L.length:Int)≤3→(∀ q ∈ L,PgOk F.lines q)→
   (∀ rec ba bn bc l w8,wD w w8 fb F N Cl P p b1 b3 rec L ba bn bc l→K rec ba bn bc w8)→(wrAt u ⟨b3,0,none⟩ 0 [(.int .i64 seq),(.slice a L.length cc)]∧∀ w7,w7=puts u ⟨b3,0,none⟩ 0 [(.int .i64 seq),(.slice a L.length cc)]→aM.ex λr=>aE w7 ⟨b3,0,none⟩ 0 r.cells∧Calls prog 114 #[r.val] w7 λe w8=>∃ (x:Option Addr) (y z:Nat),e=.returned (.slice x y z)∧K r x y z w8):=by
  intro u b3 a cc L seq K hnu hb3 hb hown hl hok hK
  refine oG (vs:=aM.cells ⟨seq,a,L.length,cc⟩) hb rfl (aM.single _) λw7 hb7 hk7=>?_
  have ho7:=Owns.keep hk7 hown λk hk e=>Owns.noB hown hb (by decide) (by rw [←e];exact hk)
  refine aM.mk_ex ⟨seq,a,L.length,cc⟩ ⟨aH hb7 rfl,?_⟩
  have hn7:New w2 w7:=hnu.trans hk7 λk hlt e=>by omega
  have hn07:=hn02.new hn7
  refine aC (EA (r:=⟨seq,a,L.length,cc⟩) (W:=L) ⟨ho7.rd,rfl,by omega,λq hq=>(hok q hq).1⟩ (by omega) (λq hq=>(hok q hq).2.2)) ?_
  rintro v w8 ⟨ba,bn,bc,l,rfl,hwl,hl8,hn8⟩
  have s7:=hn07.size
  refine ⟨_,_,_,rfl,hK _ _ _ _ _ _ ⟨h.new (hn07.new hn8),Wr.of_new (hn07.new hn8),New.blk (hn7.new hn8) hz2,New.blk hn8 hb7,Owns.new hn8 ho7,rfl,by omega,hok,⟨hwl.own,hwl.len,hwl.u64,λk hk=>by have:=hwl.fresh k hk;omega⟩,by omega⟩⟩
 have pk:∀ {u:World} {K:Int→World→Prop},(∀ x,K x u)→Calls prog 6 #[.int .i64 p.B,.int .i64 7] u λe w3=>∃ x,e=.returned (.int .i64 x)∧K x w3:=by
  intro u K hK
  refine aC (dK u p.B 7 hp.b (by omega)) ?_
  rintro v w3 ⟨rfl,rfl⟩
  exact ⟨_,rfl,hK _⟩
 have ia:∀ {u:World} {K:Nat→World→Prop},(∀ b w',w2.heap.size≤u.heap.size→b=u.heap.size→Blk w' b (is [p.A,IntKind.i64.wrap (Int.tdiv p.A 5),IntKind.i64.wrap (Int.tdiv p.A 7)]) TI→New u w'→K b w')→New w2 u→∀ b w',b=u.heap.size→w'=u.alloc (.cells #[(.int .i64 p.A),(.int .i64 (IntKind.i64.wrap (Int.tdiv p.A 5))),(.int .i64 (IntKind.i64.wrap (Int.tdiv p.A 7)))] TI)→K b w':=by
  intro u K hK hu b w' hb hw'
  obtain ⟨hz,hn⟩:=aR hb hw'
  exact hK b w' hu.size hb hz hn
 have ra:∀ {u:World} {K:Nat→World→Prop},(∀ b w',w2.heap.size≤b→Blk w' b (aM.cells ⟨0,none,0,0⟩) TRc→New u w'→K b w')→New w2 u→∀ b w',b=u.heap.size→w'=u.alloc (.cells #[(.int .i64 0),(.slice none 0 0)] TRc)→K b w':=by
  intro u K hK hu b w' hb hw'
  obtain ⟨hz,hn⟩:=aR hb hw'
  exact hK b w' (by have:=hu.size;omega) hz hn
 have pgs:∀ {u:World} {b:Nat} {K:Option Addr→Nat→Nat→World→Prop},Blk u b (is [p.A,IntKind.i64.wrap (Int.tdiv p.A 5),IntKind.i64.wrap (Int.tdiv p.A 7)]) TI→(∀ a cc L w',Owns w' TPg 9 a L.length cc (eF L).flatten→New u w'→(L.length:Int)≤3→(∀ q ∈ L,PgOk F.lines q)→K a L.length cc w')→
   Calls prog 113 #[.slice (some ⟨b,0,none⟩) 3 3,.int .i64 F.lines,.int .i64 3] u λe w5=>∃ (a:Option Addr) (n cc:Nat),e=.returned (.slice a n cc)∧K a n cc w5:=by
  intro u b K hb hK
  have hi64:∀ x ∈ [p.A,IntKind.i64.wrap (Int.tdiv p.A 5),IntKind.i64.wrap (Int.tdiv p.A 7)],I64 x:=by
   intro x hx
   rcases List.mem_cons.1 hx with rfl | hx
   ·exact hp.a
   rcases List.mem_cons.1 hx with rfl | hx
   ·exact iZ _
   rw [List.mem_singleton.1 hx]
   exact iZ _
  refine aC (Pages_c u (a0:=some ⟨b,0,none⟩) (n0:=3) (c0:=3) (l:=[p.A,IntKind.i64.wrap (Int.tdiv p.A 5),IntKind.i64.wrap (Int.tdiv p.A 7)]) (fM hb rfl) rfl (by show 3≤1000;omega) hi64 (lines:=F.lines) (most:=3) (by omega) (by omega) (by omega) (by omega)) ?_
  rintro v w5 ⟨a,cc,L,rfl,ho,hn,_,hl,hok⟩
  exact ⟨_,_,_,rfl,hK a cc L w5 ho hn hl hok⟩
 refine ⟨λy=>New w2 y,Keep.refl _ _,_,λy hy=>(New.blk hy hz2).cell (i:=4) rfl,_,λy hy=>(New.blk hy hz2).cell (i:=3) rfl,_,λy hy=>(New.blk hy hz2).cell (i:=3) rfl,_,λy hy=>(New.blk hy hz2).cell (i:=3) rfl,?_,?_,?_⟩
 ·refine pk λx=>⟨Keep.refl _ _,ia (λb2 w4 _ _ hi n4=>⟨n4,pgs hi λa cc L w5 ho n5 hl hok=>⟨n4.new n5,ra (λb3 w6 hb3 hr6 n6=>⟨(n4.new n5).new n6,fin ((n4.new n5).new n6) hb3 hr6 (Owns.new n6 ho) hl hok λrec ba bn bc l w8 hs=>p5 hs h hp hr had hc0 hc6 _⟩) (n4.new n5)⟩,ra (λb3 w6 hb3 hr6 n6=>⟨n4.new n6,pgs (New.blk n6 hi) λa cc L w5 ho n5 hl hok=>⟨(n4.new n6).new n5,fin ((n4.new n6).new n5) hb3 (New.blk n5 hr6) ho hl hok λrec ba bn bc l w8 hs=>p5 hs h hp hr had hc0 hc6 _⟩⟩) n4⟩) (Keep.refl _ _),
   ra (λb3 w6 hb3 hr6 n6=>⟨n6,ia (λb2 w4 _ _ hi n4=>⟨n6.new n4,pgs hi λa cc L w5 ho n5 hl hok=>⟨(n6.new n4).new n5,fin ((n6.new n4).new n5) hb3 (New.blk (n4.new n5) hr6) ho hl hok λrec ba bn bc l w8 hs=>p5 hs h hp hr had hc0 hc6 _⟩⟩) n6⟩) (Keep.refl _ _)⟩
 ·refine ia (λb2 w4 _ _ hi n4=>⟨n4,pk λx=>⟨n4,pgs hi λa cc L w5 ho n5 hl hok=>⟨n4.new n5,ra (λb3 w6 hb3 hr6 n6=>⟨(n4.new n5).new n6,fin ((n4.new n5).new n6) hb3 hr6 (Owns.new n6 ho) hl hok λrec ba bn bc l w8 hs=>p5 hs h hp hr had hc0 hc6 _⟩) (n4.new n5)⟩,ra (λb3 w6 hb3 hr6 n6=>⟨n4.new n6,pgs (New.blk n6 hi) λa cc L w5 ho n5 hl hok=>⟨(n4.new n6).new n5,fin ((n4.new n6).new n5) hb3 (New.blk n5 hr6) ho hl hok λrec ba bn bc l w8 hs=>p5 hs h hp hr had hc0 hc6 _⟩⟩) n4⟩,
   ra (λb3 w6 hb3 hr6 n6=>⟨n4.new n6,pk λx=>⟨n4.new n6,pgs (New.blk n6 hi) λa cc L w5 ho n5 hl hok=>⟨(n4.new n6).new n5,fin ((n4.new n6).new n5) hb3 (New.blk n5 hr6) ho hl hok λrec ba bn bc l w8 hs=>p5 hs h hp hr had hc0 hc6 _⟩⟩⟩) n4⟩) (Keep.refl _ _)
 ·refine ra (λb3 w6 hb3 hr6 n6=>⟨n6,pk λx=>⟨n6,ia (λb2 w4 _ _ hi n4=>⟨n6.new n4,pgs hi λa cc L w5 ho n5 hl hok=>⟨(n6.new n4).new n5,fin ((n6.new n4).new n5) hb3 (New.blk (n4.new n5) hr6) ho hl hok λrec ba bn bc l w8 hs=>p5 hs h hp hr had hc0 hc6 _⟩⟩) n6⟩,
   ia (λb2 w4 _ _ hi n4=>⟨n6.new n4,pk λx=>⟨n6.new n4,pgs hi λa cc L w5 ho n5 hl hok=>⟨(n6.new n4).new n5,fin ((n6.new n4).new n5) hb3 (New.blk (n4.new n5) hr6) ho hl hok λrec ba bn bc l w8 hs=>p5 hs h hp hr had hc0 hc6 _⟩⟩⟩) n6⟩) (Keep.refl _ _)
end Go.Proofs.YtafopfaomkklpaaGreat
namespace Go.Proofs.YtafopfaomkklpaaGreat
open Go.Eng
set_option maxHeartbeats 4000000 in
theorem EC {w:World} {fb:Nat} {F:Fa} {N:List bS} {Cl:List CliR} {P:Nat→List bJ} (h:cY w fb F N Cl P) {p:pA} (hp:pj p) {r:bS} (hr:r ∈ N) {ad:Addr} (had:NdAt fb F N Cl P r ad) :
  Does 79 [.pointer (some ⟨fb,0,none⟩),.pointer (some ad),p.val] w (LogR N w):=by
 refine does Tryz.func79 ?_
 rw [oQ]
 have hln:=h.ln
 have hn15:=h.n1
 rintro b1 w1 hb1 hw1
 obtain ⟨hz1,hn1⟩:=aR hb1 hw1
 have hz1:Blk w1 b1 p.cells TPo:=hz1
 clear hw1
 rintro w2 hw2
 have hn2:New w1 w2:=by rw [hw2];exact aT _
 clear hw2
 have hz2:=New.blk hn2 hz1
 have hn02:=hn1.new hn2
 have h2:=h.new hn02
 have hnm:I64 (if (3:Int)<1 then 0 else p.A % 3):=by
  have:=jT (x:=p.A) (n:=3) (by omega)
  exact ⟨by omega,by omega⟩
 refine ⟨λy=>New w2 y,Keep.refl _ _,_,λy hy=>(New.blk hy hz2).cell (i:=3) rfl,_,λy hy=>(New.blk hy hz2).cell (i:=4) rfl,_,λy hy=>(New.blk hy hz2).cell (i:=4) rfl,_,_,_,λy hy=>(h2.new hy).fab.cell (i:=1) rfl,?g12,?g3⟩
 case' g12=>
  refine aC (dK w2 p.A 3 hp.a (by omega)) ?_
  rintro x w3 ⟨rfl,rfl⟩
  refine ⟨_,rfl,Keep.refl _ _,?ga,?gb⟩
  case' ga=>
   refine aC (vo w3 (n:=N.length) (boots:=[]) hnm hp.b (iZ _) (.inl rfl) rfl (by simp) (by simp) (by omega) (by omega)) ?_
   rintro x w4 ⟨rv,v,rfl,hv,hn4,hgd⟩
   refine aF.mk_ex rv ⟨rfl,hn4,?_⟩
   rintro b2 u hb2 hu
   obtain ⟨hbz,hn5⟩:=aR hb2 hu
   have hbz:Blk u b2 (aF.cells ⟨0,none,0,0⟩) TVw:=hbz
   clear hu
   have hnu:=hn4.new hn5
   have hb2':w3.heap.size≤b2:=by have:=hn4.size;omega
   have hoff:(gV v.mem).flatten=[]∨Off (λk=>k=b2) rv.Members:=by
    have h4:=hv.rd
    by_cases hxs:(gV v.mem).flatten=[]
    ·exact .inl hxs
    ·refine .inr ?_
     cases ha:rv.Members with
     |none=>trivial
     |some a=>
      rw [ha] at h4
      have:=Rd.lt h4 hxs
      exact λe=>by have e:a.block=b2:=e;omega
   have hv:=gO.new hv hn5
   refine ⟨hnu,?_⟩
  case' gb=>
   rintro b2 w4 hb2 hw4
   obtain ⟨hbz,hn4⟩:=aR hb2 hw4
   have hbz:Blk w4 b2 (aF.cells ⟨0,none,0,0⟩) TVw:=hbz
   clear hw4
   refine ⟨hn4,?_⟩
   refine aC (vo w4 (n:=N.length) (boots:=[]) hnm hp.b (iZ _) (.inl rfl) rfl (by simp) (by simp) (by omega) (by omega)) ?_
   rintro x u ⟨rv,v,rfl,hv,hn5,hgd⟩
   have hnu:=hn4.new hn5
   have hb2':w3.heap.size≤b2:=by omega
   have hbl:=hbz.lt
   have hbz:=New.blk hn5 hbz
   have hoff:(gV v.mem).flatten=[]∨Off (λk=>k=b2) rv.Members:=by
    rcases hv.off with e | e
    ·exact .inl e
    ·refine .inr ?_
     cases ha:rv.Members with
     |none=>trivial
     |some a=>
      rw [ha] at e
      exact λe'=>e (by rw [show a.block=b2 from e'];exact hbl)
   refine aF.mk_ex rv ⟨rfl,hnu,?_⟩
 case' g3=>
  rintro b2 w4 hb2 hw4
  obtain ⟨hbz,hn4⟩:=aR hb2 hw4
  have hbz:Blk w4 b2 (aF.cells ⟨0,none,0,0⟩) TVw:=hbz
  clear hw4
  refine ⟨hn4,?_⟩
  refine aC (dK w4 p.A 3 hp.a (by omega)) ?_
  rintro x w3 ⟨rfl,rfl⟩
  refine ⟨_,rfl,hn4,?_⟩
  refine aC (vo w3 (n:=N.length) (boots:=[]) hnm hp.b (iZ _) (.inl rfl) rfl (by simp) (by simp) (by omega) (by omega)) ?_
  rintro x u ⟨rv,v,rfl,hv,hn5,hgd⟩
  have hnu:=hn4.new hn5
  have hb2':w2.heap.size≤b2:=by omega
  have hbl:=hbz.lt
  have hbz:=New.blk hn5 hbz
  have hoff:(gV v.mem).flatten=[]∨Off (λk=>k=b2) rv.Members:=by
   rcases hv.off with e | e
   ·exact .inl e
   ·refine .inr ?_
    cases ha:rv.Members with
    |none=>trivial
    |some a=>
     rw [ha] at e
     exact λe'=>e (by rw [show a.block=b2 from e'];exact hbl)
  refine aF.mk_ex rv ⟨rfl,hnu,?_⟩
 all_goals
  refine oG (vs:=rv.cells) hbz rfl (aF.single _) λw6 hz6 hk6=>?_
  have hn6:=hnu.trans hk6 λk hlt e=>by omega
  have hv6:gO NoM w6 rv v:=⟨hv.num,hv.len,hv.cap,hv.rd.keep hk6 hoff,.inr (Fe _),hv.small⟩
  refine aF.mk_ex rv ⟨aH hz6 rfl,?_⟩
  refine aC (Ci hv6) ?_
  rintro x w7 ⟨vl,ve,rfl,hvl,hn7⟩
  have hn07:=hn6.new hn7
  refine ⟨_,_,rfl,_,(New.blk hn07 hz2).cell (i:=2) rfl,?_⟩
  refine aC (dK w7 p.Client 40 hp.c (by omega)) ?_
  rintro x w8 ⟨rfl,rfl⟩
  refine ⟨_,rfl,?_⟩
  rintro w9 hw9
  have hn9:New w8 w9:=by rw [hw9];exact aT _
  clear hw9
  have hn09:=hn02.new (hn07.new hn9)
  have h9:=h.new hn09
  have hz9:=New.blk (hn07.new hn9) hz2
  have hz69:=New.blk (hn7.new hn9) hz6
  have hnum:=hgd.num
  have hvn:=hv.num
  refine ⟨λy=>New w9 y,Keep.refl _ _,_,_,_,λy hy=>had y (h9.new hy),_,λy hy=>(New.blk hy hz69).cell (i:=0) rfl,_,λy hy=>(New.blk hy hz9).cell (i:=3) rfl,?_⟩
  refine aC (qT w9 (i:=rv.Number) (by omega) (by omega)) ?_
  rintro x w10 ⟨rfl,rfl⟩
  refine ⟨_,rfl,Keep.refl _ _,?_⟩
  refine aC (dK w10 _ 2 (iZ _) (by omega)) ?_
  rintro x w11 ⟨rfl,rfl⟩
  refine ⟨_,rfl,Keep.refl _ _,?_⟩
  refine aC (wz w11 _ _ _) ?_
  rintro x w12 ⟨cv,ce,rfl,hcv,hn12⟩
  refine ⟨_,_,rfl,hn12,lZ (h9.new hn12) hr hcv (by omega) (by omega) λad' w' hw=>⟨rfl,(Wr.of_new (hn09.new hn12)).trans hw⟩⟩
end Go.Proofs.YtafopfaomkklpaaGreat
