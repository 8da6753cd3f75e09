import Derived.Test.YtmkljjbioomepaaGreatf06
set_option linter.all false
set_option maxHeartbeats 4000000
set_option maxRecDepth 100000
namespace Go.Proofs.YtmkljjbioomepaaGreat
open Go.Proofs.Tryz Go.bd
variable {A A':a6}{a ap dg:an}{cT aJ i j k lcap fF:Nat}{v:bl}{w w':aj}{xs:au}
section
structure cL where
 pair:db
 bZ:cV
structure bB where
 alive:Bool
 inc:Int
 aG:List cL
 batch:Option cw
 waiting:Nat
 kK:Int
 nO:Int
structure aH where
 lines:Nat
 nodes:List aO
 aY:List bB
 b2:List db
structure ii where
 eC:Int
 a3:Int
 node:Int
def aH.cR (F:aH)(c:Int):Option bB:=if c<0 then none else F.aY[c.toNat]?
def aH.nd (F:aH)(i:Int):Option aO:=if i<0 then none else F.nodes[i.toNat]?
def bB.gl (C:bB)(k:Nat)(v:bE):bB:=
 {C with aG:=C.aG.modify v.node.toNat λl=>⟨{l.pair with bj:=l.pair.bj++[v]},l.bZ++[k]⟩}
def bB.gS (C:bB)(k:Nat):bu->bB
 | []=>C
 |v::vs=>(C.gl k v).gS (k+1) vs
def jH (nodes lines:Int):bu->Int
 | []=>0
 |v::vs=>if v.v.valid nodes lines≠0 then v.v.valid nodes lines else jH nodes lines vs
def bB.kE (C:bB)(vs:bu):bB:=
 {(C.gS 0 vs)with batch:=some (List.replicate vs.length ⟨0,[]⟩),waiting:=vs.length,kK:=IntKind.i64.wrap (C.kK+1),nO:=IntKind.i64.wrap (C.nO+vs.length)}
def aH.eW (F:aH)(c:Int)(C:bB):aH:={F with aY:=F.aY.set c.toNat C}
def aH.post (F:aH)(c:Int)(vs:bu):Int×aH:=
 match F.cR c with
 |none=>(1,F)
 |some C=>
  if C.alive=false then(1,F)else if C.batch.isSome then(3,F)else if vs.length=0 then(1,F)else if vs.length>1024 then(18,F)
  else if jH F.nodes.length F.lines vs≠0 then(jH F.nodes.length F.lines vs,F)
  else(0,F.eW c (C.kE vs))
def aH.waiting (F:aH)(c:Int):Nat:=match F.cR c with
 |none=>0
 |some C=>C.waiting
def aH.alive (F:aH)(c:Int):Bool:=match F.cR c with
 |none=>false
 |some C=>C.alive
def aH.kK (F:aH)(c:Int):Int:=match F.cR c with
 |none=>0
 |some C=>C.kK
def aH.take (F:aH)(c:Int):Option cw×aH:=
 match F.cR c with
 |none=>(none,F)
 |some C=>if C.alive=false then(none,F)else match C.batch with
  |none=>(none,F)
  |some ds=>if 0<C.waiting then(none,F)else(some ds,F.eW c {C with batch:=none})
def k7 (i:Nat):Nat->List cL->List ii
 | _,[]=>[]
 |j,l::ls=>(if 0<l.pair.bj.length then[⟨-1,i,j⟩]else[])++k7 i (j+1) ls
def jY:Nat->List bB->List ii
 | _,[]=>[]
 |i,c::cs=>k7 i 0 c.aG++jY (i+1) cs
def ip:Nat->List db->List ii
 | _,[]=>[]
 |i,p::cp=>⟨i,p.a3,p.node⟩::ip (i+1) cp
def aH.e5 (F:aH):List ii:=jY 0 F.aY++ip 0 F.b2
def aH.drop (F:aH)(i:Int):Bool×aH:=if i<0\/F.b2.length<=i.toNat then(false,F)else(true,{F with b2:=F.b2.eraseIdx i.toNat})
def aH.iu (F:aH)(i:Nat):Bool×aH:=
 match F.b2[i]? with
 |none=>(false,F)
 |some p=>match F.nodes[p.node.toNat]? with
  |none=>(false,F)
  |some n=>
   let r:=p.step n;let dx:={F with nodes:=F.nodes.set p.node.toNat r.2.1,b2:=if r.1.bj.length=0 then F.b2.eraseIdx i else F.b2.set i r.1}
   (true,dx)
def bB.comes (C:bB)(j:Nat)(l:cL)(p:db):Option cW->bB
 |none=>{C with aG:=C.aG.set j {l with pair:=p} }
 |some d=>{C with aG:=C.aG.set j ⟨p,l.bZ.tail⟩,batch:=C.batch.map λds=>ds.set (l.bZ.headD 0) d,waiting:=C.waiting-1}
def aH.step (F:aH)(x:ii):Bool×aH:=
 if 0<=x.eC then F.iu x.eC.toNat
 else if x.eC < -1 then(false,F)
 else match F.cR x.a3 with
  |none=>(false,F)
  |some C=>if x.node<0 then(false,F)else match C.aG[x.node.toNat]?,F.nodes[x.node.toNat]? with
   |some l,some n=>if l.pair.bj.length=0 then(false,F)else
    let r:=l.pair.step n
    (true,{F with nodes:=F.nodes.set x.node.toNat r.2.1,aY:=F.aY.set x.a3.toNat (C.comes x.node.toNat l r.1 r.2.2)})
   | _,_=>(false,F)
def aH.die (F:aH)(c:Int):Bool×aH:=
 match F.cR c with
 |none=>(false,F)
 |some C=>if C.alive=false then(false,F)else
  (true,{F with b2:=F.b2++(C.aG.map cL.pair).filter (λp=>decide (0<p.bj.length)),aY:=F.aY.set c.toNat {C with alive:=false,aG:=[],batch:=none,waiting:=0} })
structure F5 (i:Nat)(inc:Int)(j:Nat)(len:Nat)(l:cL):Prop where
 a3:l.pair.a3=i
 inc:l.pair.inc=inc
 node:l.pair.node=j
 bZ:l.bZ.length=l.pair.bj.length
 low:∀ k ∈ l.bZ,k<len
 hL:l.pair.hL
def g5 (ls:List cL):Nat:=(ls.map λl=>l.pair.bj.length).sum
structure t' (n:Nat)(i:Nat)(C:bB):Prop where
 inc:0<=C.inc/\C.inc<=59
 aG:C.aG.length=if C.alive then n else 0
 lane:∀ (j:Nat) (l:cL),C.aG[j]?=some l->F5 i C.inc j (C.batch.getD []).length l
 waiting:C.waiting=g5 C.aG
 batch:C.waiting<=(C.batch.getD []).length/\(C.batch.getD []).length<=1024
 full:∀ ds,C.batch=some ds->0<ds.length
structure n_ (F:aH):Prop where
 lines:1<=F.lines/\F.lines<=256
 nodes:1<=F.nodes.length/\F.nodes.length<=5
 words:∀ n ∈ F.nodes,n.words.length=F.lines*8
 aY:1<=F.aY.length/\F.aY.length<=6
 a3:∀ (i:Nat) (C:bB),F.aY[i]?=some C->t' F.nodes.length i C
 eC:∀ p ∈ F.b2,0<=p.node/\p.node<F.nodes.length/\p.hL
inductive Tag where
 |cF
 |cn
 |nodes
 |node (i:Nat)
 |word (i:Nat)
 |aY
 |aG (c:Nat)
 |lane (c n:Nat)
 |bZ (c n:Nat)
 |batch (c:Nat)
 |f_
 |hI (b:Nat)
abbrev bI:=Nat->Tag
def iF (c:Nat):Tag->Prop
 |.aG i=>i=c
 |.lane i _=>i=c
 |.bZ i _=>i=c
 |.batch i=>i=c
 | _=>False
structure df where
 pb:Nat
 p:dz
 bZ:cV
 kD:an
 ll:Nat
def df.pure (l:df):cL:=⟨l.p.pure,l.bZ⟩
def df.cells (l:df):au:=[.pointer (some ⟨l.pb,0,none⟩),.slice l.kD l.bZ.length l.ll]
structure b9 where
 alive:Bool
 inc:Int
 aG:List df
 la:an
 lc:Nat
 gY:Option Nat
 raw:List bR
 batch:cw
 waiting:Nat
 kK:Int
 nO:Int
def b9.pure (c:b9):bB:=⟨c.alive,c.inc,c.aG.map df.pure,c.gY.map λ_=>c.batch,c.waiting,c.kK,c.nO⟩
def b9.cells (c:b9):au:=[.bool c.alive,.int .i64 c.inc,.slice c.la c.aG.length c.lc,.slice (c.gY.map λb=>⟨b,0,none⟩) c.raw.length c.raw.length,.int .i64 c.waiting,.int .i64 c.kK,.int .i64 c.nO]
structure d' where
 b:Nat
 aQ:Nat
 n:aO
structure bt where
 lines:Nat
 nodes:List d'
 na:an
 nc:Nat
 a0:Nat
 aY:List b9
 b2:List (Nat×dz)
 f9:an
 jN:Nat
def bt.pure (X:bt):aH:=⟨X.lines,X.nodes.map d'.n,X.aY.map b9.pure,X.b2.map λp=>p.2.pure⟩
def bt.cells (X:bt):au:=[.int .i64 X.lines,.slice X.na X.nodes.length X.nc,.slice (some ⟨X.a0,0,none⟩) X.aY.length X.aY.length,.slice X.f9 X.b2.length X.jN]
def ptr (b:Nat):bl:=.pointer (some ⟨b,0,none⟩)
def g4 (ls:List df):List au:=ls.map df.cells
def fY (cs:List b9):List au:=cs.map b9.cells
abbrev lN:bU:=110
abbrev jV:bU:=102
abbrev lO:bU:=105
abbrev Bi:bU:=92
abbrev ot:bU:=103
abbrev mo:bU:=3
structure ua (A:a6)(av:bI)(w:aj)(i j:Nat)(l:df):Prop where
 pair:dK A w l.pb l.p
 tag:∀ k,l.p.mut l.pb k->av k=.lane i j
 bZ:aZ w mo 1 l.kD l.bZ.length l.ll (is (l.bZ.map Int.ofNat))
 s5:∀ k,aP l.kD k->av k=.bZ i j
def gX (A:a6)(w:aj)(raw:List bR)(xs:cw):Prop:=raw.length=xs.length/\∀ (i:Nat) (v:bR) (x:cW),raw[i]?=some v->xs[i]?=some x->lv A w v x
structure kI (A:a6)(av:bI)(w:aj)(i:Nat)(c:b9):Prop where
 own:aZ w lO 2 c.la c.aG.length c.lc (g4 c.aG).flatten
 tag:∀ k,aP c.la k->av k=.aG i
 lane:∀ (j:Nat) (l:df),c.aG[j]?=some l->ua A av w i j l
 none:c.gY=none->c.raw=[]/\c.batch=[]
 batch:∀ b,c.gY=some b->aq w b (fL c.raw).flatten iT/\av b=.batch i
 ds:gX A w c.raw c.batch
structure wF (av:bI)(w:aj)(i:Nat)(x:d'):Prop where
 node:d9 w x.b x.aQ x.n
 tag:av x.b=.node i
 jS:av x.aQ=.word i
structure b4 (A:a6)(av:bI)(w:aj)(aJ:Nat)(X:bt):Prop where
 fb:∀ k,av k≠.cF->A k
 low:∀ k,A k->k<w.heap.size
 cn:aq w aJ X.cells lN
 gO:av aJ=.cn
 nodes:aZ w Bi 1 X.na X.nodes.length X.nc (X.nodes.map λx=>ptr x.b)
 jM:∀ k,aP X.na k->av k=.nodes
 node:∀ (i:Nat) (x:d'),X.nodes[i]?=some x->wF av w i x
 cls:aq w X.a0 (fY X.aY).flatten jV
 fj:av X.a0=.aY
 a3:∀ (i:Nat) (c:b9),X.aY[i]?=some c->kI A av w i c
 f_:aZ w ot 1 X.f9 X.b2.length X.jN (X.b2.map λp=>ptr p.1)
 j6:∀ k,aP X.f9 k->av k=.f_
 eC:∀ p ∈ X.b2,dK A w p.1 p.2/\∀ k,p.2.mut p.1 k->av k=.hI p.1
 nodup:(X.b2.map Prod.fst).Nodup
structure kW (T:Tag->Prop)(A A':a6)(av χ':bI)(w w':aj):Prop where
 aC:ao (λk=>T (av k)) w w'
 cF:¬ T .cF
 fb:∀ k,av k≠.cF->A k
 old:∀ k,k<w.heap.size->A' k->A k
 same:∀ k,k<w.heap.size->¬ T (av k)->av k≠.cF->χ' k=av k
 mv:∀ k,χ' k≠.cF->A' k
theorem kW.sT {T:Tag->Prop}{av χ':bI}(m:kW T A A' av χ' w w'):ao A w w':=m.aC.mono λk _ h=>m.fb k λe=>m.cF (by grind)
theorem dK.cY {T:Tag->Prop}{av χ':bI}(m:kW T A A' av χ' w w'){b:Nat}{p:dz}{t:Tag}(h:dK A w b p)(j:∀ k,p.mut b k->av k=t)(i:¬ T t)(n:t≠.cF):dK A' w' b p/\∀ k,p.mut b k->χ' k=t:=by
 have f:∀ k,p.mut b k->k<w.heap.size:=by
  rintro k (rfl | a | a)
  ·exact h.ak.lt
  ·exact h.own.lt a
  ·exact h.kN.lt a
 have c:∀ k,p.mut b k->χ' k=t:=λk a=>by rw[m.same k (f k a) (by grind) (by grind),j k a]
 refine⟨?_,c⟩;have d:=h.aC m.aC (λk a l=>i (by grind)) (λk a=>m.fb k λe=>m.cF (by grind));refine⟨d.ak,d.own,d.kN,h.vs.aC m.sT λk a g=>m.old k a g,h.a3,h.inc,h.node,h.len,h.kM,h.mT,h.ex,h.tr,λk a=>m.mv k (by grind)⟩
theorem aZ.cY {T:Tag->Prop}{av χ':bI}(m:kW T A A' av χ' w w'){e sz n cap:Nat}{t:Tag}(h:aZ w e sz a n cap xs)(d:∀ k,aP a k->av k=t)(c:¬ T t)(g:t≠.cF):aZ w' e sz a n cap xs/\∀ k,aP a k->χ' k=t:=
 ⟨h.aC m.aC λk b f=>c (by grind),λk b=>by rw[m.same k (h.lt b) (by grind) (by grind),d k b]⟩
theorem aq.cY {T:Tag->Prop}{av χ':bI}(m:kW T A A' av χ' w w'){b:Nat}{cs:au}{ty:bU}{t:Tag}(h:aq w b cs ty)(c:av b=t)(a:¬ T t)(e:t≠.cF):aq w' b cs ty/\χ' b=t:=
 ⟨m.aC.ak h λd=>a (by grind),by rw[m.same b h.lt (by grind) (by grind),c]⟩
theorem gX.aC {A A':a6}{w w':aj}{raw:List bR}{xs:cw}(h:gX A w raw xs)(b:ao A w w')(a:∀ k,k<w.heap.size->A' k->A k):gX A' w' raw xs:=
 ⟨h.1,λi v x ar c=>(h.2 i v x ar c).aC b a⟩
theorem ua.cY {T:Tag->Prop}{A A':a6}{av χ':bI}{w w':aj}(m:kW T A A' av χ' w w'){i j:Nat}{l:df}(h:ua A av w i j l)(d:¬ T (.lane i j))(e:¬ T (.bZ i j)):ua A' χ' w' i j l:=by obtain⟨a,b8⟩:=dK.cY m h.pair h.tag d (by simp);obtain⟨b,c⟩:=aZ.cY m h.bZ h.s5 e (by simp);exact⟨a,b8,b,c⟩
theorem kI.cY {T:Tag->Prop}{A A':a6}{av χ':bI}{w w':aj}(m:kW T A A' av χ' w w'){i:Nat}{c:b9}(h:kI A av w i c)(a:∀ t,iF i t->¬ T t):kI A' χ' w' i c:=by obtain⟨e,b8⟩:=aZ.cY m h.own h.tag (a _ rfl) (by simp);refine⟨e,b8,λj l f=>(h.lane j l f).cY m (a _ rfl) (a _ rfl),h.none,λb d=>?_,h.ds.aC m.sT m.old⟩;exact aq.cY m (h.batch b d).1 (h.batch b d).2 (a _ rfl) (by simp)
theorem wF.cY {T:Tag->Prop}{A A':a6}{av χ':bI}{w w':aj}(m:kW T A A' av χ' w w'){i:Nat}{x:d'}(h:wF av w i x)(d:¬ T (.node i))(e:¬ T (.word i)):wF χ' w' i x:=by obtain⟨a,b8⟩:=aq.cY m h.node.node h.tag d (by simp);obtain⟨b,c⟩:=aq.cY m h.node.words h.jS e (by simp);exact⟨⟨a,b,h.node.len,h.node.vm,h.node.wf⟩,b8,c⟩
def gu (A:a6)(av χ':bI)(w:aj)(k:Nat):Prop:=χ' k≠.cF\/(k<w.heap.size/\A k/\av k=.cF)
structure Next (A A':a6)(av χ':bI)(w w':aj):Prop where
 aC:ao (λk=>av k≠.cF) w w'
 grow:∀ k,k<w.heap.size->χ' k≠.cF->av k≠.cF
 iff:∀ k,A' k↔gu A av χ' w k
theorem Next.refl {av:bI}(b:∀ k,av k≠.cF->A k)(c:∀ k,A k->k<w.heap.size)(d:ai w w'):Next A A av av w w':=
 ⟨ao.b7 d,λ_ _ h=>h,λk=>⟨λh=>by
  by_cases a:av k=.cF
  ·exact .inr ⟨c k h,h,a⟩
  ·exact .inl a,λh=>h.elim (b k) λh=>h.2.1⟩⟩
theorem Next.trans {A g j:a6}{av f o:bI}{w w1 n:aj}(h:Next A g av f w w1)(c:Next g j f o w1 n):Next A j av o w n:=by
 refine⟨h.aC.trans c.aC λi s a=>h.grow i s a,λk l a=>h.grow k l (c.grow k (fQ l h.aC.size) a),λk=>?_⟩
 rw[c.iff k];constructor
 ·rintro(a | ⟨b,d,e⟩)
  ·exact .inl a
  ·rcases(h.iff k).1 d with a | ⟨p,q,r⟩
   ·grind
   ·exact .inr ⟨p,q,r⟩
 ·rintro(a | ⟨b,d,e⟩)
  ·exact .inl a
  ·refine .inr ⟨fQ b h.aC.size,(h.iff k).2 (.inr ⟨b,d,e⟩),?_⟩;by_cases a:f k=.cF
   ·exact a
   ·exact b_ e (h.grow k b a)
theorem Next.new {A a:a6}{av c:bI}{w w1 b:aj}(h:Next A a av c w w1)(d:ai w1 b):Next A a av c w b:=⟨h.aC.new d,h.grow,h.iff⟩
theorem b4.move {T:Tag->Prop}{av χ':bI}{X:bt}(h:b4 A av w aJ X)(f:ao (λk=>T (av k)) w w')(d:¬ T .cF)
  (c:∀ k,k<w.heap.size->χ' k≠.cF->av k≠.cF) (i:∀ k,k<w.heap.size->¬ T (av k)->av k≠.cF->χ' k=av k):kW T A (gu A av χ' w) av χ' w w'/\Next A (gu A av χ' w) av χ' w w':=by
 refine⟨⟨f,d,h.fb,λk b a=>?_,i,λk g=>.inl g⟩,⟨f.mono λk _ j e=>d (by grind),c,λk=>Iff.rfl⟩⟩
 rcases a with a | a
 ·exact h.fb k (c k b a)
 grind
theorem b4.new {A:a6}{av:bI}{w w':aj}{aJ:Nat}{X:bt}(h:b4 A av w aJ X)(a:ai w w'):b4 A av w' aJ X:=by
 have m:kW (λ_=>False) A A av av w w':=⟨a,id,h.fb,λ_ _ h=>h,λ_ _ _ _=>rfl,h.fb⟩;refine⟨h.fb,λk b=>fQ (h.low k b) a.size,ai.ak a h.cn,h.gO,h.nodes.new a,h.jM,λi x e=>(h.node i x e).cY m id id,ai.ak a h.cls,h.fj,
  λi c b=>(h.a3 i c b).cY m λ_ _=>id,h.f_.new a,h.j6,λp d=>⟨(h.eC p d).1.new a,(h.eC p d).2⟩,h.nodup⟩
theorem b4.mP {av:bI}{X:bt}(h:b4 A av w aJ X)(d:∀ k,A' k->A k)(e:∀ k,av k≠.cF->A' k):b4 A' av w aJ X:=by
 have m:kW (λ_=>False) A A' av av w w:=⟨ao.refl _ _,id,h.fb,λk _=>d k,λ_ _ _ _=>rfl,e⟩;refine⟨e,λk a=>h.low k (d k a),h.cn,h.gO,h.nodes,h.jM,h.node,h.cls,h.fj,
  λi c a=>(h.a3 i c a).cY m λ_ _=>id,h.f_,h.j6,λp b=>⟨(dK.cY m (h.eC p b).1 (h.eC p b).2 id (by simp)).1,(h.eC p b).2⟩,h.nodup⟩
theorem b4.other {S:a6}{av:bI}{X:bt}(h:b4 A av w aJ X)(r:ao S w w')(B:∀ k,S k->A k/\av k=.cF):b4 A av w' aJ X:=by
 have o:∀ {b:Nat} {cs:au} {T:bU} {t:Tag},aq w b cs T->av b=t->t≠.cF->aq w' b cs T:=λo C y=>r.ak o λd=>y (by grind)
 have u:∀ {e sz n cap:Nat} {a:an} {xs:au} {t:Tag},aZ w e sz a n cap xs->(∀ k,aP a k->av k=t)->t≠.cF->aZ w' e sz a n cap xs:=λu C y=>u.aC r λk r d=>y (by grind)
 have z:∀ {b:Nat} {p:dz} {t:Tag},dK A w b p->(∀ k,p.mut b k->av k=t)->t≠.cF->dK A w' b p:=λz C y=>z.aC r (λk r d=>y (by grind)) (λk d=>(B k d).1)
 have D:ao A w w':=r.mono λk _ d=>(B k d).1
 refine⟨h.fb,λk d=>fQ (h.low k d) r.size,o h.cn h.gO (by simp),h.gO,u h.nodes h.jM (by simp),h.jM,λi x E=>?_,o h.cls h.fj (by simp),h.fj,λi c d=>?_,
  u h.f_ h.j6 (by simp),h.j6,λp s=>⟨z (h.eC p s).1 (h.eC p s).2 (by simp),(h.eC p s).2⟩,h.nodup⟩
 ·have f:=h.node i x E;exact⟨⟨o f.node.node f.tag (by simp),o f.node.words f.jS (by simp),f.node.len,f.node.vm,f.node.wf⟩,f.tag,f.jS⟩
 ·have d:=h.a3 i c d;refine⟨u d.own d.tag (by simp),d.tag,λj l g=>?_,d.none,λb q=>⟨o (d.batch b q).1 (d.batch b q).2 (by simp),(d.batch b q).2⟩,d.ds.aC D λ_ _ h=>h⟩;have g:=d.lane j l g;exact⟨z g.pair g.tag (by simp),g.tag,u g.bZ g.s5 (by simp),g.s5⟩
theorem lw (ls:List df):∀ r ∈ g4 ls,r.length=2:=by intro r a;simp only[g4,dD]at a;obtain⟨l,_,rfl⟩:=a;rfl
theorem zX (cs:List b9):∀ r ∈ fY cs,r.length=7:=by intro r a;simp only[fY,dD]at a;obtain⟨l,_,rfl⟩:=a;rfl
theorem kw {ls:List df}{l:df}(h:ls[i]?=some l):(g4 ls)[i]?=some l.cells:=by grind[g4]
theorem vL {cs:List b9}{c:b9}(h:cs[i]?=some c):(fY cs)[i]?=some c.cells:=by grind[fY]
theorem tk (cs:List b9)(i:Nat)(c:b9):(fY cs).set i c.cells=fY (cs.set i c):=by simp[fY]
theorem MH (ls:List df)(i:Nat)(l:df):(g4 ls).set i l.cells=g4 (ls.set i l):=by simp[g4]
theorem MI (ds:List bR)(i:Nat)(d:bR):(fL ds).set i d.cells=fL (ds.set i d):=by simp[fL]
theorem b4.ih {av:bI}{X:bt}(h:b4 A av w aJ X){c:b9}(a:X.aY[i]?=some c)(ar:c.cells[k]?=some v):w.cell? ⟨X.a0,0+i*7+k,none⟩=some v:=by rw[h_];exact h.cls.cell (we (zX _) (vL a) ar)
theorem bt.sD (X:bt)(c:Int):(X.pure.cR c=none/\(c<0\/(X.aY.length:Int)<=c))\/∃ i x,c=(i:Nat)/\X.aY[i]?=some x/\X.pure.cR c=some x.pure:=by
 unfold aH.cR;by_cases a:c<0
 ·grind
 ·rw[aW a]
  grind[bt.pure,List.getElem?_eq_none_iff]
theorem rt {av:bI}{X:bt}(h:b4 A av w aJ X){c:Int}(d:c<0\/(X.aY.length:Int)<=c) :
  a9 44 [ptr aJ,.int .i64 c] w λv w'=>v=.pointer none/\w'=w:=by
 refine a' Tryz.func44 ?_;rw[ptr,HF];refine a5 (λ_=>⟨rfl,rfl⟩) (λa=>?_)
 exact⟨_,_,_,h.cn.cell rfl,a5 (λ_=>⟨rfl,rfl⟩) (λb=>by omega)⟩
theorem sX {av:bI}{X:bt}(h:b4 A av w aJ X){x:b9}(a:X.aY[i]?=some x) :
  a9 44 [ptr aJ,.int .i64 i] w λv w'=>v=.pointer (some ⟨X.a0,0+i*7,none⟩)/\w'=w:=by
 refine a' Tryz.func44 ?_;rw[ptr,HF];have:=dk a;refine a5 (λ_=>by omega) (λb=>⟨_,_,_,h.cn.cell rfl,a5 (λ_=>by omega) (λc=>⟨_,_,_,h.cn.cell rfl,dM (by omega) (by omega) ⟨rfl,rfl⟩⟩)⟩)
theorem E8 {av:bI}{X:bt}(h:b4 A av w aJ X)(c:Int):a9 43 [ptr aJ,.int .i64 c] w λv w'=>v=.bool (X.pure.alive c)/\w'=w:=by
 refine a' Tryz.func43 ?_;rw[ptr,YJ];unfold aH.alive;rcases X.sD c with⟨a,b⟩ | ⟨i,x,rfl,a,b⟩
 ·refine aE (rt h b) ?_
  grind
 ·refine aE (sX h a) ?_;rintro v w' ⟨rfl,rfl⟩;rw[b];exact⟨_,rfl,⟨_,h.ih (k:=0) a rfl,rfl,rfl⟩⟩
theorem MJ {av:bI}{X:bt}(h:b4 A av w aJ X)(c:Int):a9 63 [ptr aJ,.int .i64 c] w λv w'=>v=.int .i64 (X.pure.waiting c)/\w'=w:=by
 refine a' Tryz.func63 ?_;rw[ptr,Yo];unfold aH.waiting;rcases X.sD c with⟨a,b⟩ | ⟨i,x,rfl,a,b⟩
 ·refine aE (rt h b) ?_
  grind
 ·refine aE (sX h a) ?_;rintro v w' ⟨rfl,rfl⟩;rw[b];exact⟨_,rfl,⟨_,h.ih (k:=4) a rfl,rfl,rfl⟩⟩
theorem AB {av:bI}{X:bt}(h:b4 A av w aJ X):a9 38 [ptr aJ] w λv w'=>v=.int .i64 X.nodes.length/\w'=w:=by refine a' Tryz.func38 ?_;rw[ptr,YI];exact⟨_,_,_,h.cn.cell rfl,rfl,rfl⟩
theorem rP {e cap:Nat}{cp:au}{n:Nat}(h:aZ w e 1 a n cap cp)(ar:cp[i]?=some v){K:aw->Prop}{z:Int}(ax:z=i)(f:∀ b,w.cell? b=some v->(∃ g,a=some ⟨g,0,none⟩/\b=⟨g,0+i*1,none⟩)->K b):bk a n z 1 K:=by
 subst ax;have o:=dk ar;have k:=h.1;rcases h.2 with⟨_,j,_⟩ | ⟨g,cur,rfl,c,hle,l,hlen,p⟩
 ·grind
 ·refine dM (by omega) (by omega) ?_;refine f _ ?_ ⟨g,rfl,by simp⟩;have d:cur[i]?=some v:=by
   grind
  have:=c.cell d
  grind
theorem ze {av:bI}{X:bt}(h:b4 A av w aJ X){x:d'}(c:X.nodes[i]?=some x):a9 39 [ptr aJ,.int .i64 i] w λv w'=>v=ptr x.b/\w'=w:=by refine a' Tryz.func39 ?_;rw[ptr,Y4];have:=dk c;refine a5 (λ_=>by omega) (λe=>⟨_,_,_,h.cn.cell rfl,a5 (λ_=>by omega) (λf=>⟨_,_,_,h.cn.cell rfl,?_⟩)⟩);exact rP (v:=ptr x.b) (i:=i) h.nodes (by grind) rfl λd a _=>⟨_,a,rfl,rfl⟩
theorem b4.setNode {av:bI}{X:bt}(h:b4 A av w aJ X){x:d'}(q:X.nodes[i]?=some x){n':aO}(g:ao (λk=>k=x.b\/k=x.aQ) w w')(o:d9 w' x.b x.aQ n') :
  ∃ A',Next A A' av av w w'/\b4 A' av w' aJ {X with nodes:=X.nodes.set i {x with n:=n'} }:=by
 have d:=h.node i x q;obtain⟨m,aS⟩:=h.move (χ':=av) (T:=λt=>t=.node i\/t=.word i) (w':=w') (g.mono λk _ a=>a.elim (λe=>.inl (e▸d.tag)) (λe=>.inr (e▸d.jS))) (by simp) (λ_ _ h=>h) (λ_ _ _ _=>rfl);refine⟨_,aS,m.mv,λk a=>fQ (a.elim (λa=>h.low k (h.fb k a)) (λa=>a.1)) g.size,?_,h.gO,?_,h.jM,?_,(aq.cY m h.cls h.fj (by simp) (by simp)).1,h.fj,λj c a=>(h.a3 j c a).cY m ?_,(aZ.cY m h.f_ h.j6 (by simp) (by simp)).1,h.j6,λp l=>dK.cY m (h.eC p l).1 (h.eC p l).2 (by simp) (by simp),h.nodup⟩
 ·have:=(aq.cY m h.cn h.gO (by simp) (by simp)).1
  grind[bt.cells]
 ·have:=(aZ.cY m h.nodes h.jM (by simp) (by simp)).1;have e:((X.nodes.set i { x with n:=n' }).map λx=>ptr x.b)=X.nodes.map λx=>ptr x.b:=by
   rw[m4];apply jb
   grind
  grind
 ·intro j y f;simp only[kg]at f;split at f
  ·rename_i he;subst he;split at f
   ·simp only[hA]at f;subst f;exact⟨o,d.tag,d.jS⟩
   grind
  ·rename_i he;exact(h.node j y f).cY m (by grind) (by grind)
 grind[iF]
end
section
theorem b4.jK {av:bI}{X:bt}(h:b4 A av w aJ X)(a:av k≠.cF):k<w.heap.size:=h.low k (h.fb k a)
theorem b4.fresh {av:bI}{X:bt}(h:b4 A av w aJ X)(b:w.heap.size<=k):av k=.cF:=by
 by_cases a:av k=.cF
 ·exact a
 ·have:=h.jK a;omega
theorem b4.refl {A:a6}{av:bI}{w w':aj}{aJ:Nat}{X:bt}(h:b4 A av w aJ X)(a:ai w w'):Next A A av av w w':=Next.refl h.fb h.low a
def dV (A:a6)(av:bI)(w:aj)(aJ:Nat)(F:aH)(w':aj)(K:(a6)->Prop):Prop:=∃ A' χ' a,Next A A' av χ' w w'/\b4 A' χ' w' aJ a/\a.pure=F/\K A'
theorem dV.same {av:bI}{X:bt}(h:b4 A av w aJ X)(a:ai w w'){K:(a6)->Prop}(b:K A):dV A av w aJ X.pure w' K:=⟨A,av,X,h.refl a,h.new a,rfl,b⟩
def l1 (i:Nat)(t:Tag):Prop:=t=.aY\/iF i t
theorem F7 (h:i≠j):∀ t,iF j t->¬ l1 i t:=by intro t a;cases t<;>simp[iF,l1]at a ⊢<;>omega
theorem bt.y0 (X:bt)(i:Nat)(c:b9):({X with aY:=X.aY.set i c}:bt).pure=X.pure.eW i c.pure:=by simp[bt.pure,aH.eW,m4]
theorem b4.rq {av χ':bI}{X:bt}(h:b4 A av w aJ X){c c':b9}(a:X.aY[i]?=some c)
  (e:ao (λk=>l1 i (av k)) w w') (l:∀ k,k<w.heap.size->χ' k≠.cF->av k≠.cF) (n:∀ k,k<w.heap.size->¬ l1 i (av k)->av k≠.cF->χ' k=av k) (r:∀ k,χ' k≠.cF->k<w'.heap.size)
  (q:aq w' X.a0 ((fY X.aY).set i c'.cells).flatten jV) (b:χ' X.a0=.aY) (g:kI (gu A av χ' w) χ' w' i c') :
  Next A (gu A av χ' w) av χ' w w'/\b4 (gu A av χ' w) χ' w' aJ {X with aY:=X.aY.set i c'}:=by
 obtain⟨m,aS⟩:=h.move e (by simp[l1,iF]) l n;have f1:=aq.cY m h.cn h.gO (by simp[l1,iF]) (by simp);have f2:=aZ.cY m h.nodes h.jM (by simp[l1,iF]) (by simp);have f3:=aZ.cY m h.f_ h.j6 (by simp[l1,iF]) (by simp);refine⟨aS,m.mv,λk a=>?_,?_,f1.2,f2.1,f2.2,λj x o=>(h.node j x o).cY m (by simp[l1,iF]) (by simp[l1,iF]),?_,b,λj y d=>?_,f3.1,f3.2,λp f=>dK.cY m (h.eC p f).1 (h.eC p f).2 (by simp[l1,iF]) (by simp),h.nodup⟩
 ·rcases a with a | a
  ·grind
  ·exact fQ a.1 e.size
 ·grind[bt.cells]
 ·grind[tk]
 ·simp only[kg]at d;split at d
  ·grind
  ·rename_i he;exact(h.a3 j y d).cY m (F7 he)
theorem Pi {a0:Nat}{cs:List b9}(h:aq w a0 (fY cs).flatten jV){c:b9}(a:cs[i]?=some c)(b:k<7)(v:bl) :
  aq (w.setCell ⟨a0,0+i*7+k,none⟩ v) a0 ((fY cs).set i (c.cells.set k v)).flatten jV:=by
 rw[h_];have:=h.setCell (i:=i*7+k) v;rw[Ab (zX cs) v (vL a) b]at this
 grind
open Classical in
theorem RV {av:bI}{X:bt}(h:b4 A av w aJ X)(c:Int):a9 64 [ptr aJ,.int .i64 c] w λv w'=>
  dV A av w aJ (X.pure.take c).2 w' λA'=>match (X.pure.take c).1 with
   |none=>v=.tuple #[.slice none 0 0,.bool false]
   |some ds=>∃ b raw,v=.tuple #[.slice (some ⟨b,0,none⟩) ds.length ds.length,.bool true]/\aq w' b (fL raw).flatten iT/\gX A' w' raw ds/\¬ A' b:=by
 refine a' Tryz.func64 ?_;rw[ptr,Zs];rcases X.sD c with⟨d,F⟩ | ⟨i,x,rfl,d,F⟩
 ·refine aE (rt h F) ?_;rintro v w' ⟨rfl,rfl⟩;have g:X.pure.take c=(none,X.pure):=by grind[aH.take]
  refine⟨_,rfl,?_⟩;rw[g];exact dV.same h (ao.refl _ _) rfl
 ·refine aE (sX h d) ?_;rintro v w' ⟨rfl,rfl⟩;refine⟨_,rfl,⟨_,h.ih (k:=0) d rfl,eu (λH=>?_) (λH=>?_)⟩⟩
  ·have g:X.pure.take i=(none,X.pure):=by grind[aH.take,b9.pure]
   rw[g];exact dV.same h (ao.refl _ _) rfl
  have a:=h.a3 i x d;refine⟨_,_,_,h.ih (k:=3) d rfl,?_⟩;cases z:x.gY with
  |none=>
   have g:X.pure.take i=(none,X.pure):=by grind[aH.take,b9.pure]
   rw[g];exact dV.same h (ao.refl _ _) rfl
  |some b=>
   refine⟨_,h.ih (k:=4) d rfl,a5 (λhw=>?_) (λhw=>?_)⟩
   ·have g:X.pure.take i=(none,X.pure):=by
     grind[aH.take,b9.pure]
    rw[g];exact dV.same h (ao.refl _ _) rfl
   ·have g:X.pure.take i=(some x.batch,X.pure.eW i { x.pure with batch:=none }):=by
     grind[aH.take,b9.pure]
    rw[g];refine⟨_,_,_,h.ih (k:=3) d rfl,⟨⟨_,h.ih (k:=3) d rfl⟩,?_,?_⟩⟩
    ·exact h.cls.frozen
    intro q p;have y:aq q X.a0 ((fY X.aY).set i (x.cells.set 3 (.slice none 0 0))).flatten jV:=by rw[p];exact Pi h.cls d (by omega) _
    have r:ao (λk=>k=X.a0) w' q:=by rw[p];exact eY _ _ _ _
    clear p;let χ':bI:=λk=>if av k=.batch i then .cF else av k
    have n:∀ k,χ' k≠.cF->av k≠.cF/\av k≠.batch i/\χ' k=av k:=by
     grind
    have C:=a.batch b z;have E:∀ k,av k≠.batch i->χ' k=av k:=λk u=>by grind
    have f:ao (λk=>av k=.aY) w' q:=r.mono λk _ e=>by rw[e];exact h.fj
    obtain⟨m,_⟩:=h.move (χ':=χ') (T:=λt=>t=.aY\/t=.batch i) (w':=q) (f.mono λk _ e=>.inl e) (by simp) (λk _ o=>(n k o).1) (λk _ u _=>E k λe=>u (.inr e));have f1:=aZ.cY m a.own a.tag (by simp) (by simp);obtain⟨aS,G⟩:=h.rq (χ':=χ') (w':=q) (c':={x with gY:=none,raw:=[],batch:=[]}) d (f.mono λk _ e=>.inl e) (λk _ o=>(n k o).1) (λk _ u _=>E k λe=>u (.inr (by rw[e];rfl)))
     (λk o=>fQ (h.jK (n k o).1) r.size) y (by rw[E _ (by rw[h.fj];simp),h.fj])
     ⟨f1.1,f1.2,λj l J=>(a.lane j l J).cY m (by simp) (by simp),λ_=>⟨rfl,rfl⟩,(λ_ I=>nomatch I),⟨rfl,λ_ _ _ o=>by grind⟩⟩
    have D:¬ gu A av χ' w' b:=by
     rintro(o | ⟨_,_,o⟩)
     ·grind
     grind
    have B:aq q b (fL x.raw).flatten iT:=f.ak C.1 (by grind);refine⟨_,χ',_,aS,G,?_,b,x.raw,?_,B,a.ds.aC (f.mono λk _ e=>h.fb k (by grind)) λk K s=>?_,D⟩
    ·grind[bt.y0,b9.pure]
    ·have:=a.ds.1
     grind
    ·rcases s with s | s
     ·exact h.fb k (n k s).1
     grind
theorem kI.IJ {T:Tag->Prop}{av χ':bI}(m:kW T A A' av χ' w w'){c:b9}{l':df}(h:kI A av w i c)(f:∀ t,iF i t->T t->t=.aG i\/t=.lane i j\/t=.bZ i j)
  (n:aZ w' lO 2 c.la c.aG.length c.lc ((g4 c.aG).set j l'.cells).flatten) (d:∀ k,aP c.la k->χ' k=.aG i) (o:ua A' χ' w' i j l'):kI A' χ' w' i {c with aG:=c.aG.set j l'}:=by
 refine⟨?_,d,λk y g=>?_,h.none,λb l=>?_,h.ds.aC m.sT m.old⟩
 ·grind[MH]
 ·simp only[kg]at g;split at g
  ·grind
  ·rename_i he;refine(h.lane k y g).cY m (λa=>?_) (λa=>?_)
   ·rcases f (.lane i k) rfl a with e | e | e
    ·cases e
    ·grind
    grind
   ·rcases f (.bZ i k) rfl a with e | e | e
    ·cases e
    ·cases e
    grind
 ·refine aq.cY m (h.batch b l).1 (h.batch b l).2 (λa=>?_) (by simp);rcases f (.batch i) rfl a with e | e | e<;>cases e
theorem mF {α:Type}{l:List α}{x:α}(h:l[i]?=some x):l.set i x=l:=by
 apply jb
 grind
def iy (i j n:Nat)(t:Tag):Prop:=t=.lane i j\/t=.word n
theorem b4.IL {av χ':bI}{X:bt}(h:b4 A av w aJ X){i j n:Nat}{c:b9}{l:df}{y:d'}(g:X.aY[i]?=some c)(D:c.aG[j]?=some l)(H:X.nodes[n]?=some y)
  (C:ao (λk=>iy i j n (av k)) w w') (F:∀ k,k<w.heap.size->χ' k≠.cF->av k≠.cF) (B:∀ k,k<w.heap.size->av k≠.lane i j->χ' k=av k) (E:∀ k,χ' k≠.cF->k<w'.heap.size)
  {n':aO} (x:d9 w' y.b y.aQ n') {p':dz} (r:dK (gu A av χ' w) w' l.pb p') (G:∀ k,p'.mut l.pb k->χ' k=.lane i j) :
  Next A (gu A av χ' w) av χ' w w'/\b4 (gu A av χ' w) χ' w' aJ {X with nodes:=X.nodes.set n {y with n:=n'},aY:=X.aY.set i {c with aG:=c.aG.set j {l with p:=p'} } }:=by
 obtain⟨m,aS⟩:=h.move (T:=iy i j n) C (by simp[iy]) F (λk u x _=>B k u λe=>x (.inl e));have f1:=aq.cY m h.cn h.gO (by simp[iy]) (by simp);have f2:=aZ.cY m h.nodes h.jM (by simp[iy]) (by simp);have f3:=aZ.cY m h.f_ h.j6 (by simp[iy]) (by simp);have f4:=aq.cY m h.cls h.fj (by simp[iy]) (by simp);have a:=h.node n y H;have d:=h.a3 i c g;refine⟨aS,m.mv,λk g=>?_,?_,f1.2,?_,f2.2,?_,?_,f4.2,λq z ax=>?_,f3.1,f3.2,λp r=>dK.cY m (h.eC p r).1 (h.eC p r).2 (by simp[iy]) (by simp),h.nodup⟩
 ·rcases g with g | g
  ·grind
  ·exact fQ g.1 C.size
 ·grind[bt.cells]
 ·grind[ptr,List.map_set,mF]
 ·intro q z ax;simp only[kg]at ax;split at ax
  ·rename_i he;subst he;split at ax
   ·simp only[hA]at ax;subst ax;exact⟨x,by rw[B _ a.node.node.lt (by rw[a.tag];simp)];exact a.tag,by rw[B _ a.node.words.lt (by rw[a.jS];simp)];exact a.jS⟩
   grind
  ·rename_i he;exact(h.node q z ax).cY m (by simp[iy]) (by grind[iy])
 ·grind[fY,List.map_set,mF,b9.cells]
 ·simp only[kg]at ax;split at ax
  ·rename_i he;subst he;split at ax
   ·simp only[hA]at ax;subst ax;have f5:=aZ.cY m d.own d.tag (by simp[iy]) (by simp);have o:=d.lane j l D;refine d.IJ m (λt f s=>?_) ?_ f5.2 ?_
    ·rcases s with e | e
     ·grind
     ·rw[e]at f;cases f
    ·have e:(g4 c.aG).set j ({l with p:=p'}:df).cells=g4 c.aG:=mF (by rw[kw D];rfl)
     grind
    ·have f6:=aZ.cY m o.bZ o.s5 (by simp[iy]) (by simp);exact⟨r,G,f6.1,f6.2⟩
   grind
  ·rename_i he;refine(h.a3 q z ax).cY m (λt f s=>?_);rcases s with e | e
   ·rw[e]at f;exact he f
   ·rw[e]at f;cases f
end
section
theorem aZ.row {w:aj}{e sz n cap:Nat}{a:an}{rows:List au}(h:aZ w e sz a n cap rows.flatten)(f:∀ r ∈ rows,r.length=sz)(ax:0<sz){i:Nat}{r:au}(q:rows[i]?=some r) :
  ∃ g,a=some ⟨g,0,none⟩/\i<n/\(∃ cs,aq w g cs e)/\b6 w ⟨g,0+i*sz,none⟩ 0 r/\∀ k v,r[k]?=some v->w.cell? ⟨g,0+i*sz+k,none⟩=some v:=by
 obtain⟨b,o,c,l,p⟩:=h.rd.row f ax q;rcases h.2 with⟨s,_⟩ | ⟨j,cur,he,d,hle,t,u,x⟩
 ·grind
 ·rw[he]at c;simp only[hA,Addr.mk.injEq,and_true]at c;obtain⟨rfl,rfl⟩:=c;refine⟨j,he,?_,⟨cur,d⟩,l,p⟩;have hlen:=h.1;rw[lT f]at hlen
  grind[dk,Nat.lt_of_lt_of_eq,Nat.eq_of_mul_eq_mul_right]
def rv (i j:Nat)(t:Tag):Prop:=t=.bZ i j\/t=.aG i
open Classical in
theorem b4.IM {av:bI}{X:bt}(h:b4 A av w aJ X){c:b9}{l:df}(d:X.aY[i]?=some c)(C:c.aG[j]?=some l)
  (o:ao (λk=>rv i j (av k)) w w') {a:cV} (B:∀ k,aP ap k->av k=.bZ i j\/w.heap.size<=k) (f:aZ w' mo 1 ap a.length cT (is (a.map Int.ofNat)))
  (p:aZ w' lO 2 c.la c.aG.length c.lc ((g4 c.aG).set j (df.cells {l with bZ:=a,kD:=ap,ll:=cT})).flatten) :
  ∃ A' χ',Next A A' av χ' w w'/\b4 A' χ' w' aJ {X with aY:=X.aY.set i {c with aG:=c.aG.set j {l with bZ:=a,kD:=ap,ll:=cT} } }:=by
 let χ':bI:=λk=>if aP ap k then .bZ i j else av k
 have y:∀ k,aP ap k->χ' k=.bZ i j:=λk o=>by grind
 have z:∀ k,¬ aP ap k->χ' k=av k:=λk o=>by grind
 have u:∀ k,k<w.heap.size->χ' k≠.cF->av k≠.cF:=by
  grind
 have r:∀ k,k<w.heap.size->av k≠.bZ i j->χ' k=av k:=by
  grind
 have b:=h.a3 i c d;have q:=b.lane j l C;obtain⟨m,_⟩:=h.move (T:=rv i j) (χ':=χ') o (by simp[rv]) u (λk g s _=>r k g λe=>s (.inl e));obtain⟨x,b8⟩:=dK.cY m q.pair q.tag (by simp[rv]) (by simp);have E:ao (λk=>l1 i (av k)) w w':=o.mono λk _ d=>by
  rcases d with e | e
  ·exact .inr (by rw[e];rfl)
  ·exact .inr (by rw[e];rfl)
 have F:∀ k,χ' k≠.cF->k<w'.heap.size:=λk d=>by
  by_cases n:aP ap k
  ·exact f.lt n
  ·rw[z k n]at d;exact fQ (h.jK d) o.size
 have G:aq w' X.a0 ((fY X.aY).set i (b9.cells {c with aG:=c.aG.set j {l with bZ:=a,kD:=ap,ll:=cT} })).flatten jV:=by have e:(fY X.aY).set i (b9.cells {c with aG:=c.aG.set j {l with bZ:=a,kD:=ap,ll:=cT} })=fY X.aY:=mF (by rw[vL d];simp[b9.cells]);rw[e];exact(aq.cY m h.cls h.fj (by simp[rv]) (by simp)).1
 have H:kI (gu A av χ' w) χ' w' i {c with aG:=c.aG.set j {l with bZ:=a,kD:=ap,ll:=cT} }:=by refine b.IJ m (λt _ D=>D.elim (λe=>.inr (.inr e)) .inl) p (λk n=>?_) ⟨x,b8,f,y⟩;rw[r k (b.own.lt n) (by rw[b.tag k n];simp)];exact b.tag k n
 obtain⟨aS,I⟩:=h.rq d E u (λk g s _=>r k g λe=>s (.inr (by rw[e];rfl))) F G (by rw[r _ h.cls.lt (by rw[h.fj];simp)];exact h.fj) H
 grind
theorem KV (C:bB)(k:Nat):C.gS k []=C:=rfl
theorem KG (C:bB)(k:Nat)(v:bE)(vs:bu):C.gS k (v::vs)=(C.gl k v).gS (k+1) vs:=rfl
structure xf (A:a6)(av:bI)(w:aj)(aJ:Nat)(X:bt)(i:Nat)(x:b9)(vs:bu)(k:Nat)(u:aj)(A':a6)(χ':bI)(ls:List df):Prop where
 next:Next A A' av χ' w u
 cn:b4 A' χ' u aJ {X with aY:=X.aY.set i {x with aG:=ls} }
 pure:(b9.pure {x with aG:=ls}).gS k (vs.drop k)=x.pure.gS 0 vs
 len:ls.length=X.nodes.length
 lane:∀ (j:Nat) (l:df),ls[j]?=some l->l.p.node=j/\l.p.bj.length<=k/\l.bZ.length<=k
theorem kq {α:Type}(l:List α)(i:Nat)(a b:α):(l.set i a).set i b=l.set i b:=List.set_set ..
open Classical in
theorem OH {av:bI}{X:bt}{x:b9}{vs:bu}{u:aj}{χ':bI}{ls:List df}
  (bf:xf A av w aJ X i x vs k u A' χ' ls) (U:i<X.aY.length) (ar:k<vs.length) (T:vs.length<=1024) {l:df} (F:ls[j]?=some l) (N:vs[k].node=j) (S:0<X.nodes.length)
  {p':dz} {w1:aj} {R:aI} (B:p'=l.p.post R vs[k] dg fF)
  (q:∀ M':a6,uG A' M' u (aP dg)->(∀ k,p'.mut l.pb k->M' k)->dK M' w1 l.pb p') (c:ao (λk=>k=l.pb\/aP l.p.dg k) u w1) (C:dg=l.p.dg\/∀ k,aP dg k->u.heap.size<=k) (H:∀ k,aP dg k->k<w1.heap.size) :
  ∃ E d,Next A' E χ' d u w1/\b4 E d w1 aJ {X with aY:=X.aY.set i {x with aG:=ls.set j {l with p:=p'} } }:=by
 have h:=bf.cn;have o:(X.aY.set i {x with aG:=ls})[i]?=some {x with aG:=ls}:=by grind
 have z:=h.a3 i _ o;have f:=z.lane j l F;obtain⟨y,D⟩:∃ y,X.nodes[0]?=some y:=⟨X.nodes[0],by grind⟩;have r:=h.node 0 y D;let d:bI:=λk=>if aP dg k then .lane i j else χ' k
 have I:∀ k,aP dg k->d k=.lane i j:=λk a=>by grind
 have t:∀ k,¬ aP dg k->d k=χ' k:=λk a=>by grind
 have G:∀ k,aP dg k->χ' k=.lane i j\/u.heap.size<=k:=by
  intro k a;rcases C with e | e
  ·exact .inl (f.tag k (.inr (.inl (e▸a))))
  grind
 have K:∀ k,k<u.heap.size->d k≠.cF->χ' k≠.cF:=by
  grind
 have L:∀ k,k<u.heap.size->χ' k≠.lane i j->d k=χ' k:=by
  grind
 have M:∀ k,p'.mut l.pb k->d k=.lane i j:=by
  subst B;rintro k (a | a | a)
  ·by_cases g:aP dg k
   ·grind
   ·rw[t k g];exact f.tag k (.inl a)
  ·exact I k a
  ·by_cases g:aP dg k
   ·grind
   ·rw[t k g];exact f.tag k (.inr (.inr a))
 have s:ao (λk=>χ' k=.lane i j) u w1:=c.mono λk _ o=>f.tag k (o.elim .inl λe=>.inr (.inl e))
 have O:∀ k,d k≠.cF->k<w1.heap.size:=λk o=>by
  by_cases g:aP dg k
  ·grind
  ·rw[t k g]at o;exact fQ (h.jK o) c.size
 have P:d9 w1 y.b y.aQ y.n:=r.node.aC s (by rw[r.tag];simp) (by rw[r.jS];simp);have Q:dK (gu A' χ' d u) w1 l.pb p':=by
  refine q _ (λk a=>?_) (λk a=>.inl (by grind));rcases a with a | a
  ·by_cases g:aP dg k
   ·grind
   ·rw[t k g]at a;exact .inl ⟨h.jK a,h.fb k a⟩
  grind
 obtain⟨aS,J⟩:=h.IL (χ':=d) (n':=y.n) (p':=p') o F D (s.mono λk _ e=>.inl e) K L O P Q M;rw[mF D,kq]at J
 grind
theorem KW (a b:Int):jH a b []=0:=rfl
theorem Jj (a b:Int)(v:bE)(vs:bu):jH a b (v::vs)=if v.v.valid a b≠0 then v.v.valid a b else jH a b vs:=rfl
theorem Jk {a b:Int}:∀ {vs:bu},jH a b vs=0->∀ v ∈ vs,v.v.valid a b=0
 | [],_,v,ar=>by cases ar
 |x::xs,h,v,ar=>by
  rw[Jj]at h;split at h
  ·grind
  ·rename_i c;rcases gw.1 ar with e | e
   ·grind
   ·exact Jk h v e
theorem Mi {v:aI}{a b:Int}(h:v.valid a b=0):0<=v.Node/\v.Node<a/\v.valid 5 b=0:=by
 obtain⟨f,d⟩:=y_ h;have c:=pI d;refine⟨c.2.2.2.2.1,c.2.2.2.2.2.1,?_⟩;have e:v.inside 5 b=true:=tF ⟨by omega,by omega,c.2.2.1,c.2.2.2.1,c.2.2.2.2.1,by omega,c.2.2.2.2.2.2⟩
 grind[aI.valid]
theorem KH {ls:List df}{x:b9}{l:df}{v:bE}{a:aI}(b:ls[j]?=some l)(ar:v.node=j) :
  b9.pure {x with aG:=ls.set j ⟨l.pb,l.p.post a v dg fF,l.bZ++[k],ap,cT⟩}=(b9.pure {x with aG:=ls}).gl k v:=by
 simp only[b9.pure,bB.gl,bB.mk.injEq,true_and,and_true];rw[ar,m4,g9];apply jb;intro q;rw[kg,Cm]
 grind[dk,df.pure,dz.post,dz.pure]
theorem RW (a:cV)(k:Nat):is ((a++[k]).map Int.ofNat)=is (a.map Int.ofNat)++[.int .i64 k]:=by simp[is]
theorem bh.next {av χ':bI}(n:Next A A' av χ' w w')(e:∀ k,av k≠.cF->A k)(h:bh w a xs)(c:xs=[]\/gn A a):bh w' a xs/\(xs=[]\/gn A' a):=by
 refine⟨h.aC (n.aC.mono λk _ b=>e k b) c,?_⟩;by_cases f:xs=[]
 ·grind
 ·refine .inr ?_;rcases c with c | c
  ·grind
  ·cases a with
   |none=>trivial
   |some a=>
    intro b;have d:=h.lt f;rcases(n.iff _).1 b with b | b
    ·exact c (e _ (n.grow _ d b))
    ·exact c b.2.1
theorem cQ.next {av χ':bI}(n:Next A A' av χ' w w')(c:∀ k,av k≠.cF->A k){v:aI}{x:bE}(h:cQ A w v x):cQ A' w' v x:=
 h.aC (n.aC.mono λk _ a=>c k a) λk b a=>by
  rcases(n.iff _).1 a with a | a
  ·exact c _ (n.grow _ b a)
  grind
theorem zf {α:Type}{l:List α}(h:k<l.length):l.drop k=l[k]::l.drop (k+1):=vR h
theorem MK {av:bI}{X:bt}(h:b4 A av w aJ X)(bR:n_ X.pure){x:b9}(dw:X.aY[i]?=some x)(dE:x.alive=true)(dG:x.gY=none)
  {la:an} {raw:List aI} {vs:bu} (d9:bh w la (dQ raw).flatten) (bQ:(dQ raw).flatten=[]\/gn A la) (bY:er A w raw vs) (dX:vs.length<=1024) (ah:jH X.nodes.length X.lines vs=0)
  {j:au} {R:bg} (ei:∀ u A' χ' ls,xf A av w aJ X i x vs vs.length u A' χ' ls->∀ cl,W prog (sub (ay f66) [1,1,1,1,1]) (BK la raw.length lcap (some ⟨X.a0,0+i*7,none⟩) cl) (cS prog f66 R) u) :
  cj prog (.loop (sub (ay f66) [1,1,1,1,0,1,0,0])) (u_ ⟨aJ,0,none⟩ la raw.length lcap (some ⟨X.a0,0+i*7,none⟩) la raw.length lcap raw.length 0 j)
   (aL 3 (aM (λenv w=>W prog (sub (ay f66) [1,1,1,1,1]) env (cS prog f66 R) w) (cS prog f66 R))) w:=by
 have hlen:raw.length=vs.length:=bY.1;have da:=dk dw;have O:=bR.a3 i x.pure (by grind[bt.pure]);have cM:x.aG.length=X.nodes.length:=by
  have:=O.aG
  grind[b9.pure,bt.pure]
 have dZ:=bR.nodes;have a4:g5 x.pure.aG=0:=by
  have dt:=O.waiting;have eh:=O.batch.1
  grind[b9.pure]
 have Q:∀ (q:Nat) (l:df),x.aG[q]?=some l->l.p.node=q/\l.p.bj.length<=0/\l.bZ.length<=0:=by
  intro q l dT;have cZ:=O.lane q l.pure (by grind[b9.pure]);have ax:l.p.bj.length=0:=by
   have hm:l.pure.pair.bj.length ∈ x.pure.aG.map λl=>l.pair.bj.length:=dD.2 ⟨l.pure,cu (i:=q) (by grind[b9.pure]),rfl⟩
   have:=List.sum_eq_zero_iff_forall_eq_nat.1 a4 _ hm;exact this
  have c1:=cZ.bZ;refine⟨cZ.node,by omega,?_⟩;have:l.pure.bZ.length=l.pure.pair.bj.length:=c1;have e:l.pure.pair.bj.length=l.p.bj.length:=rfl;have eg:l.pure.bZ.length=l.bZ.length:=rfl;omega
 refine cP mix (λm env u=>∃ (k:Nat) (cl:au) (A':a6) (χ':bI) (ls:List df),k<=vs.length/\m=vs.length - k/\env=u_ ⟨aJ,0,none⟩ la raw.length lcap (some ⟨X.a0,0+i * 7,none⟩) la raw.length lcap raw.length k cl/\
   xf A av w aJ X i x vs k u A' χ' ls) vs.length ⟨0,_,A,av,x.aG,by omega,by omega,rfl,h.refl (ao.refl _ _),?_,rfl,cM,Q⟩ ?_
 ·have:({x with aG:=x.aG}:b9)=x:=rfl;rw[this,mF dw];exact h
 rintro m env u ⟨k,cl,A',χ',ls,F,rfl,rfl,bf⟩;rw[VE];refine a5 (λcN=>?_) (λcN=>?_)
 ·have aR:k<vs.length:=by omega
  have dS:k<raw.length:=by omega
  have ar:raw[k]?=some raw[k]:=by grind
  have b5:cQ A w raw[k] vs[k]:=bY.2 k _ _ ar (by grind);have b6:cQ A' u raw[k] vs[k]:=b5.next bf.next h.fb;obtain⟨c6,d_⟩:=bh.next bf.next h.fb d9 bQ;obtain⟨ef,ek,rfl,dI,cD⟩:=c6.row (vK raw) (by omega) (zW ar);have bX:=Jk ah vs[k] (vX aR);obtain⟨cO,cX,a9⟩:=Mi bX;have aW:vs[k].v.Node=vs[k].node:=rfl;rw[aW]at cO cX;have c9:raw[k].Node=vs[k].node:=by rw[b5.eq];rfl
  obtain⟨q,c5⟩:∃ q:Nat,vs[k].node=q:=⟨vs[k].node.toNat,by omega⟩;have d8:q<ls.length:=by rw[bf.len];omega
  have bb:ls[q]?=some ls[q]:=by grind
  generalize dT:ls[q]=l at bb;obtain⟨dU,dV,dW⟩:=bf.lane q l bb;have ag:(X.aY.set i {x with aG:=ls})[i]?=some {x with aG:=ls}:=by grind
  refine dM (by omega) (by omega) ?_;refine i' (v:=raw[k]) (by simp_all) ?_;rintro b1 w1 cy ca;obtain⟨ax,ab⟩:=bo cy ca;refine⟨fU (vs:=aI.cells raw[k]) ax (by simp[aI.cells]) (aI.single raw[k]),?_⟩;rintro ea cb cm cd;obtain⟨bH,cY⟩:=oV (vs:=aI.cells raw[k]) ax (by simp[aI.cells]) ab (by omega) cb;have bO:Go.bd.ai ea cm:=by rw[cd];exact cC _
  have G:=ai.ak bO bH;have ad:Go.bd.ai u cm:=cY.new bO;have bs:=bf.cn.new ad;clear ca cb ax ab cd;refine⟨λz=>Go.bd.ai cm z,ao.refl _ _,_,_,_,λz ax=>(bs.new ax).ih (k:=2) ag rfl,_,λz ax=>(ai.ak ax G).cell (i:=1) rfl,?_⟩;obtain⟨g,cG,dN,⟨dA,dJ⟩,dK,cK⟩:=aZ.row (bs.a3 i _ ag).own (lw ls) (by omega) (kw bb);show bk x.la ls.length raw[k].Node 2 _;have V:x.la=some ⟨g,0,none⟩:=cG;rw[V,c9,c5];refine dM (by omega) (by omega) ?_;rw[g9];intro bm cf;have aV:Go.bd.ai cm bm:=by rw[cf];exact cC _
  clear cf;have af:=ai.ak aV G;have K:Go.bd.ai u bm:=ad.new aV;have ae:=bf.cn.new K;have bJ:=ae.a3 i _ ag;have f:=bJ.lane q l bb;refine⟨λz=>Go.bd.ai bm z,ao.refl _ _,some ⟨l.pb,0,none⟩,λz ax=>?_,?_⟩
  ·exact jG (aV.new ax) (cK 0 _ rfl) id
  refine mV (v:=raw[k]) (λz ax=>g8 (ai.ak ax af)) ?_;refine⟨_,λz ax=>(ae.new ax).cn.cell (i:=0) rfl,?_⟩;have b_:cQ A' bm raw[k] vs[k]:=b6.aC (ao.b7 K) λ_ _ h=>h
  refine aE (PK f.pair b_ a9 (by grind) (by omega)) ?_;rintro r eb ⟨rfl,N,dg,fF,M,aB,c_⟩;have a8:∀ k,aP dg k->k<eb.heap.size:=by
   intro b dF;have c1:=M (λk=>(k<bm.heap.size/\A' k)\/aP dg k) (λk F=>F) (λk F=>?_)
   ·exact c1.own.lt dF
   ·rcases F with F | F | F
    ·exact .inl ⟨F▸f.pair.ak.lt,f.pair.iE k (.inl F)⟩
    ·exact .inr F
    ·exact .inl ⟨f.pair.kN.lt F,f.pair.iE k (.inr (.inr F))⟩
  have dr:xf A av w aJ X i x vs k bm A' χ' ls:=⟨bf.next.new K,ae,bf.pure,bf.len,bf.lane⟩;obtain⟨ee,cv,dp,bx⟩:=OH dr da aR dX bb c5 (by grind) rfl M aB c_ a8;have H:(X.aY.set i {x with aG:=ls.set q {l with p:=l.p.post N vs[k] dg fF} })[i]?=some {x with aG:=ls.set q {l with p:=l.p.post N vs[k] dg fF} }:=by grind
  have I:(ls.set q {l with p:=l.p.post N vs[k] dg fF})[q]?=some {l with p:=l.p.post N vs[k] dg fF}:=by grind
  have d:=bx.a3 i _ H;have dv:=d.lane q _ I;obtain⟨S,B,_,⟨br,Y⟩,_,Z⟩:=aZ.row d.own (lw _) (by omega) (kw I);have cH:S=g:=by
   grind
  subst cH;refine⟨_,rfl,_,_,_,Z 1 _ rfl,?_⟩;rintro az cq cA ch;obtain⟨dm,E⟩:=bo cA ch;have bD:=bx.new E;clear ch;have J:=(bD.a3 i _ H).lane q _ I;obtain⟨d',dR,dn,a7,dH⟩:=ft (T:=3) (z:=.int .i64 0) (n:=1) (m:=8) (by kernel_rfl);have bV:aZ cq 3 d'.size l.kD l.bZ.length l.ll (is (l.bZ.map Int.ofNat)):=by rw[a7];exact J.bZ
  obtain⟨ap,cT,ck,bW,L,cL,cx⟩:=bV.append (P:=prog) (t:=22) (ty:=22) Tryz.underlying22 dR dn (by rw[a7];rfl) (by omega)
   (s:=some ⟨az,0,none⟩) (m:=1) (c:=1) (news:=[.int .i64 k]) (by grind) (e6 dm (by simp)) (by simp[single]) (by omega) (by grind)
  rw[a7]at L;refine⟨ap,_,cT,ck,bW,?_⟩;have C:ao (λz=>cv z=.bZ i q) cq ck:=cL.mono λz _ ax=>J.s5 z ax
  have bK:aq ck S br lO:=C.ak (ai.ak E Y) (by rw[d.tag S ⟨0,B⟩];simp);have D:aZ ck lO 2 x.la (ls.set q {l with p:=l.p.post N vs[k] dg fF}).length x.lc (g4 (ls.set q {l with p:=l.p.post N vs[k] dg fF})).flatten:=(d.own.new E).aC C λz ax=>by rw[d.tag z ax];simp
  refine⟨⟨_,jG C (jG E (Z 1 _ rfl) id) (by rw[d.tag S ⟨0,B⟩];simp)⟩,bK.frozen,?_⟩;intro cr a';have bN:ao (λz=>z=S) ck cr:=by rw[a'];exact eY _ _ _ _
  have bL:ao (λz=>rv i q (cv z)) cq cr:=(C.mono λz _ e=>.inl e).trans bN λz _ e=>.inr (by rw[e];exact d.tag S ⟨0,B⟩)
  have aT:aZ cr lO 2 x.la (ls.set q {l with p:=l.p.post N vs[k] dg fF}).length x.lc ((g4 (ls.set q {l with p:=l.p.post N vs[k] dg fF})).set q (df.cells ⟨l.pb,l.p.post N vs[k] dg fF,l.bZ++[k],ap,cT⟩)).flatten:=by rw[V]at D ⊢;rw[a'];have:=aZ.setCell D (i:=q*2+1) (by grind) (.slice ap (l.bZ.length+1) cT);rw[Ab (lw _) _ (kw I) (by omega)]at this;simpa[df.cells]using this
  have dP:cv S=.aG i:=d.tag S ⟨0,B⟩;have U:∀ z,aP ap z->cv z=.bZ i q\/cq.heap.size<=z:=by
   intro z ax;rcases cx with e | e
   ·exact .inl (J.s5 z (e▸ax))
   ·obtain⟨o,cZ⟩:=ax
    grind
  have a1:aZ cr mo 1 ap (l.bZ++[k]).length cT (is ((l.bZ++[k]).map Int.ofNat)):=by
   rw[RW];have:=L.aC bN (λz ax e=>?_)
   ·grind
   ·rcases U z ax with dt | dt
    ·grind
    ·have:=(ai.ak E Y).lt;omega
  clear a';obtain⟨dy,ec,dq,bG⟩:=bD.IM H I bL U a1 aT;rw[kq,kq]at bG;rw[show IntKind.i64.wrap ((k:Int)+1)=((k+1:Nat):Int) by rw[bq (by omega) (by omega)];rfl];refine⟨vs.length-(k+1),by omega,k+1,_,dy,ec,ls.set q ⟨l.pb,l.p.post N vs[k] dg fF,l.bZ++[k],ap,cT⟩,by omega,rfl,rfl,?_⟩;refine⟨((dr.next.trans dp).new E).trans dq,bG,?_,by simp[bf.len],?_⟩
  ·rw[KH bb c5,<-bf.pure,zf aR,KG]
  ·intro z y dh;rw[kg]at dh;split at dh
   ·grind[Option.some.injEq,dz.post]
   ·obtain⟨a,b,c⟩:=bf.lane z y dh
    grind
 grind
theorem Mj (n:Nat):ju n [.int .i64 0,.slice none 0 0]=(fL (List.replicate n ⟨0,none,0,0⟩)).flatten:=by
 induction n with
 |zero=>rfl
 |succ n a=>rw[rL,fL,jT,kR,<-fL,<-a];rfl
theorem Qj (A:a6)(w:aj)(n:Nat):gX A w (List.replicate n ⟨0,none,0,0⟩) (List.replicate n ⟨0,[]⟩):=by
 refine⟨by simp,λi v x ar a=>?_⟩;rw[List.getElem?_replicate]at ar a;split at ar
 ·rw[bm ‹_›]at a;simp only[hA]at ar a;subst ar;subst a;exact⟨rfl,rfl,.inl rfl,λ_=>rfl,.inl rfl,by simp,dr _⟩
 grind
theorem lg {a0:Nat}{cs:List b9}(h:aq w a0 (fY cs).flatten jV){c c':b9}(a:cs[i]?=some c)(b:k<7)(e:c.cells.set k v=c'.cells) :
  aq (w.setCell ⟨a0,0+i*7+k,none⟩ v) a0 (fY (cs.set i c')).flatten jV/\(cs.set i c')[i]?=some c':=by
 have:=Pi h a b v
 grind[tk,dk]
theorem lx {a0:Nat}{cs:List b9}(h:aq w a0 (fY cs).flatten jV){c:b9}(a:cs[i]?=some c)(ar:c.cells[k]?=some v):w.cell? ⟨a0,0+i*7+k,none⟩=some v:=by rw[h_];exact h.cell (we (zX _) (vL a) ar)
open Classical in
theorem RX {av:bI}{X:bt}(h:b4 A av w aJ X)(bJ:n_ X.pure)(c:Int){la:an}{raw:List aI}{vs:bu}
  (bW:bh w la (dQ raw).flatten) (aP:(dQ raw).flatten=[]\/gn A la) (S:er A w raw vs) :
  a9 66 [ptr aJ,.int .i64 c,.slice la raw.length lcap] w λv w'=>v=.int .i64 (X.pure.post c vs).1/\dV A av w aJ (X.pure.post c vs).2 w' λ_=>True:=by
 refine a' Tryz.func66 ?_;rw[ptr,Zt];have hlen:raw.length=vs.length:=S.1;rcases X.sD c with⟨Y,a1⟩ | ⟨i,x,rfl,Y,a1⟩
 ·refine aE (rt h a1) ?_;rintro v w' ⟨rfl,rfl⟩;have F:X.pure.post c vs=(1,X.pure):=by grind[aH.post]
  refine⟨_,rfl,?_⟩;rw[F];exact⟨rfl,dV.same h (ao.refl _ _) trivial⟩
 refine aE (sX h Y) ?_;rintro v w' ⟨rfl,rfl⟩;refine⟨_,rfl,⟨_,h.ih (k:=0) Y rfl,eu (λbR=>?_) (λbR=>?_)⟩⟩
 ·have F:X.pure.post i vs=(1,X.pure):=by grind[aH.post,b9.pure]
  rw[F];exact⟨rfl,dV.same h (ao.refl _ _) trivial⟩
 have b6:=h.a3 i x Y;refine⟨_,_,_,h.ih (k:=3) Y rfl,?_⟩;cases a8:x.gY with
 |some b=>
  have F:X.pure.post i vs=(3,X.pure):=by grind[aH.post,b9.pure]
  rw[F];exact⟨rfl,dV.same h (ao.refl _ _) trivial⟩
 |none=>
  refine dm rfl (dJ (λbQ=>?_) (λbQ=>?_))
  ·have ax:vs=[]:=hh (by omega);have F:X.pure.post i vs=(1,X.pure):=by grind[aH.post,b9.pure]
   rw[F];exact⟨rfl,dV.same h (ao.refl _ _) trivial⟩
  have cd:¬ vs=[]:=λe=>bQ (by grind)
  refine a5 (λb_=>?_) (λb_=>?_)
  ·have F:X.pure.post i vs=(18,X.pure):=by
    grind[aH.post,b9.pure]
   rw[F];exact⟨rfl,dV.same h (ao.refl _ _) trivial⟩
  have hle:vs.length<=1024:=by omega
  have F:X.pure.post i vs=if jH X.nodes.length X.lines vs≠0 then(jH X.nodes.length X.lines vs,X.pure)else(0,X.pure.eW i (x.pure.kE vs)):=by
   have bY:¬ vs.length>1024:=by omega
   have bO:X.pure.nodes.length=X.nodes.length:=by simp[bt.pure]
   have aT:X.pure.lines=X.lines:=rfl;simp only[aH.post,a1,bO,aT];rw[aW (by grind[b9.pure]),aW (by grind[b9.pure]),aW (by grind),aW bY]
  rw[F];refine cP mix (λm env u=>∃ (k:Nat) (bX:au),k<=vs.length/\m=vs.length-k/\env=x_ ⟨aJ,0,none⟩ la raw.length lcap (some ⟨X.a0,0+i*7,none⟩) la raw.length lcap raw.length k bX/\
   Go.bd.ai w' u/\jH X.nodes.length X.lines vs=jH X.nodes.length X.lines (vs.drop k)) vs.length ⟨0,_,by omega,by omega,rfl,ao.refl _ _,rfl⟩ ?_
  rintro m env u ⟨k,bX,K,rfl,rfl,n,a⟩;rw[VD];refine a5 (λbG=>?_) (λbG=>?_)
  ·have bD:k<vs.length:=by omega
   have ca:k<raw.length:=by omega
   have ar:raw[k]?=some raw[k]:=by grind
   have bL:cQ A w' raw[k] vs[k]:=S.2 k _ _ ar (by grind);obtain⟨ck,cm,rfl,b5,bb⟩:=(bh.new n bW).row (vK raw) (by omega) (zW ar);refine dM (by omega) (by omega) ?_;refine i' (v:=raw[k]) (by grind) ?_;rintro b1 w1 O o;obtain⟨ax,M⟩:=bo O o;refine⟨fU (vs:=aI.cells raw[k]) ax (by simp[aI.cells]) (aI.single raw[k]),?_⟩;rintro aV p Z q;obtain⟨af,bH⟩:=oV (vs:=aI.cells raw[k]) ax (by simp[aI.cells]) M (by omega) p;have aL:Go.bd.ai aV Z:=by rw[q];exact cC _
   have P:=ai.ak aL af;have E:Go.bd.ai w' Z:=(n.new bH).new aL;have ab:=h.new E;clear o p ax M q;refine⟨λz=>Go.bd.ai Z z,ao.refl _ _,mV (v:=raw[k]) (λz ax=>g8 (ai.ak ax P)) ?_⟩;refine⟨_,_,_,λz ax=>(ab.new ax).cn.cell (i:=1) rfl,_,λz ax=>(ab.new ax).cn.cell (i:=0) rfl,?_⟩;refine aE (AA _ raw[k] _ _) ?_;rintro r bN ⟨rfl,D⟩;refine⟨_,rfl,D,?_⟩;rw[bL.valid];rw[zf bD,Jj]at a;refine dw (λae=>?_) (λae=>?_)
   ·rw[bm ae]at a;rw[a,bm ae];exact⟨rfl,dV.same h (E.new D) trivial⟩
   ·rw[aW (λG=>G ae)]at a;rw[show IntKind.i64.wrap ((k:Int)+1)=((k+1:Nat):Int) by rw[bq (by omega) (by omega)];rfl];exact⟨vs.length-(k+1),by omega,k+1,_,by omega,rfl,rfl,E.new D,a⟩
  ·have:k=vs.length:=by omega
   subst this;rw[Jn,KW]at a;rw[aW (λG=>G a)];rw[XG];have hu:=h.new n;have bK:bh u la (dQ raw).flatten:=bh.new n bW;have aR:er A u raw vs:=S.aC (ao.b7 n) λ_ _ h=>h
   refine MK hu bJ Y bR a8 bK aP aR hle a ?_;intro b3 A' χ' ls bf cf;rw[XH];have H:=bf.cn;have I:(X.aY.set i {x with aG:=ls})[i]?=some {x with aG:=ls}:=by grind
   have C:=H.a3 i _ I;refine⟨by omega,by omega,by omega,by omega,?_⟩;rintro b1 w1 O o;rw[Mj]at o;obtain⟨ag,aB⟩:=bo O o;clear o;simp only at ag;have a4:=H.new aB;have B:aq w1 X.a0 (fY (X.aY.set i {x with aG:=ls})).flatten jV:=a4.cls;refine⟨⟨_,lx (k:=3) B I rfl⟩,B.frozen,?_⟩;intro aV p;obtain⟨g,J⟩:=lg (k:=3) (c':={x with aG:=ls,gY:=some b1,raw:=List.replicate raw.length ⟨0,none,0,0⟩,batch:=List.replicate vs.length ⟨0,[]⟩}) B I (by omega) (v:=.slice (some ⟨b1,0,none⟩) (Int.toNat raw.length) (Int.toNat raw.length)) (by simp[b9.cells]);rw[<-p]at g;have bk:ao (λz=>z=X.a0) w1 aV:=by rw[p];exact eY _ _ _ _
   clear p;refine⟨⟨_,lx (k:=4) g J rfl⟩,g.frozen,?_⟩;intro Z q;obtain⟨d,s⟩:=lg (k:=4) (c':={x with aG:=ls,gY:=some b1,raw:=List.replicate raw.length ⟨0,none,0,0⟩,batch:=List.replicate vs.length ⟨0,[]⟩,waiting:=vs.length}) g J (by omega) (v:=.int .i64 raw.length) (by grind[b9.cells]);rw[<-q]at d;have br:ao (λz=>z=X.a0) aV Z:=by rw[q];exact eY _ _ _ _
   clear q;refine⟨_,lx (k:=5) d s rfl,⟨_,lx (k:=5) d s rfl⟩,d.frozen,?_⟩;intro bN U;obtain⟨f,y⟩:=lg (k:=5) (c':={x with aG:=ls,gY:=some b1,raw:=List.replicate raw.length ⟨0,none,0,0⟩,batch:=List.replicate vs.length ⟨0,[]⟩,waiting:=vs.length,kK:=IntKind.i64.wrap (x.kK+1)}) d s (by omega) (v:=.int .i64 (IntKind.i64.wrap (x.kK+1))) (by simp[b9.cells]);rw[<-U]at f;have D:ao (λz=>z=X.a0) Z bN:=by rw[U];exact eY _ _ _ _
   clear U;refine⟨_,lx (k:=6) f y rfl,⟨_,lx (k:=6) f y rfl⟩,f.frozen,?_⟩;intro W V;obtain⟨Q,bV⟩:=lg (k:=6) (c':={x with aG:=ls,gY:=some b1,raw:=List.replicate raw.length ⟨0,none,0,0⟩,batch:=List.replicate vs.length ⟨0,[]⟩,waiting:=vs.length,kK:=IntKind.i64.wrap (x.kK+1),nO:=IntKind.i64.wrap (x.nO+vs.length)}) f y (by omega) (v:=.int .i64 (IntKind.i64.wrap (x.nO+raw.length))) (by grind[b9.cells]);rw[<-V]at Q;have bs:ao (λz=>z=X.a0) bN W:=by rw[V];exact eY _ _ _ _
   clear V;have L:ao (λz=>z=X.a0) w1 W:=((bk.trans br λ_ _ h=>h).trans D λ_ _ h=>h).trans bs λ_ _ h=>h
   have bx:ao (λz=>χ' z=.aY) w1 W:=L.mono λz _ e=>by rw[e];exact H.fj
   have R:ao (λz=>χ' z=.aY) b3 W:=(ao.b7 aB).trans bx λ_ _ h=>h
   let N:bI:=λk=>if k=b1 then .batch i else χ' k
   have bO:N b1=.batch i:=bm rfl;have aT:∀ k,k≠b1->N k=χ' k:=λk K=>by grind
   have hold:∀ k,k<b3.heap.size->N k=χ' k:=λk K=>aT k (by omega)
   obtain⟨m,_⟩:=H.move (T:=λt=>t=.aY) (χ':=N) R (by simp) (λk K G=>by grind) (λk K _ _=>hold k K);have f1:=aZ.cY m C.own C.tag (by simp) (by simp);have a7:aq W b1 (fL (List.replicate raw.length ⟨0,none,0,0⟩)).flatten iT:=by
    have aM:b1≠X.a0:=by have:=H.cls.lt;grind
    have:=L.ak ag aM
    grind
   have ch:kI (gu A' χ' N b3) N W i {x with aG:=ls,gY:=some b1,raw:=List.replicate raw.length ⟨0,none,0,0⟩,batch:=List.replicate vs.length ⟨0,[]⟩,waiting:=vs.length,kK:=IntKind.i64.wrap (x.kK+1),nO:=IntKind.i64.wrap (x.nO+vs.length)}:=by
    refine⟨f1.1,f1.2,λj l cb=>(C.lane j l cb).cY m (by simp) (by simp),(λG=>nomatch G),λb ae=>?_,?_⟩
    ·grind
    grind[Qj,gu]
   have cj:∀ k,N k≠.cF->k<W.heap.size:=λk G=>by
    by_cases ah:k=b1
    ·rw[ah];exact a7.lt
    ·rw[aT k ah]at G;exact fQ (H.jK G) R.size
   obtain⟨aS,ad⟩:=H.rq (χ':=N) I (R.mono λk _ e=>.inl e) (λk K G=>by grind) (λk K _ _=>hold k K) cj (by
    grind[tk,kq]) (by rw[hold _ H.cls.lt];exact H.fj) ch
   rw[kq]at ad;refine⟨rfl,_,_,_,((h.refl n).trans bf.next).trans aS,ad,?_,trivial⟩;refine(bt.y0 X i _).trans ?_;congr 1;have cl:=bf.pure
   grind[List.drop_length,KV,bB.kE,b9.pure]
end
end Go.Proofs.YtmkljjbioomepaaGreat
