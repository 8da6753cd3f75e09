import Derived.Test.YtmkljjbioomepaaGreate05
import Derived.Test.YtmkljjbioomepaaGreate08
set_option linter.all false
namespace Go.Proofs.YtmkljjbioomepaaGreat
open Go.Proofs.Tryz Go.bn
variable {M:a2} {a:an} {b aK fk fa:Nat} {pc:Int×Int} {w:al}
section
structure aG where
 kind:Int
 node:Int
 at_:Int
 n:Int
 old:Int
 new:Int
 words:a4
 key:Int
 dQ:Int
def aG.v (x:aG):aF:=⟨x.kind,x.node,x.at_,x.n,x.old,x.new,none,x.words.length,0,x.key,x.dQ⟩
structure aC where
 code:Int
 words:a4
structure cF where
 aP:Int
 inc:Int
 node:Int
 a6:List aG
 bO:Nat
 words:a4
def cF.refusal (p:cF) (x:aG) (n:aH):Int:=
 if n.down=true then 4 else if x.v.valid 5 (n.words.length / 8:Nat)≠0 then 2 else x.v.check p.inc (n.get (24+p.aP).toNat) (n.get 0) (n.get 1)
def exec (x:aG) (pc:Int×Int) (n:aH):aH×a4:=
 if x.kind=1 then (n,n.read pc.1 pc.2)
 else if x.kind=2 then (n.write pc.1.toNat ((x.words.drop (pc.1 - x.at_).toNat).take pc.2.toNat),[])
 else if x.kind=3 then (n.eU x.at_ x.old x.new,[n.get x.at_.toNat])
 else if x.kind=4 then (n.add x.at_ x.new,[n.get x.at_.toNat])
 else (n,[])
def cF.h' (p:cF):Prop:=∀ x xs,p.a6=x::xs->p.bO<x.v.pieces.length
def cF.done (p:cF):cF:={ p with a6:=p.a6.tail,bO:=0,words:=[] }
def cF.step (p:cF) (n:aH):cF×aH×Option aC:=
 match p.a6 with
 | []=>(p,n,none)
 |x::_=>
  if p.refusal x n≠0 then (p.done,n,some ⟨p.refusal x n,[]⟩)
  else
   let r:=exec x (x.v.pieces.getD p.bO (0,0)) n
   if p.bO+1<x.v.pieces.length then ({ p with bO:=p.bO+1,words:=p.words++r.2 },r.1,none)
   else (p.done,r.1,some ⟨0,p.words++r.2⟩)
structure cA (M:a2) (w:al) (v:aF) (x:aG):Prop where
 eq:v={ x.v with Words:=v.Words,cy:=v.cy }
 rd:bg w v.Words (us x.words)
 nil:v.Words=none->x.words=[]
 off:x.words=[]\/fM M v.Words
 wf:∀ u ∈ x.words,b3 u
 new:b3 x.new
 old:b3 x.old
 key:b3 x.key
 dQ:dO x.dQ
 cap:v.cG<=v.cy
 ko:x.words.length<=1000000
theorem cA.ax {M M':a2} {w w':al} {v:aF} {x:aG} (h:cA M w v x) (i:ao M w w') (g:∀ k,k<w.heap.size->M' k->M k):cA M' w' v x:=by
 refine ⟨h.eq,h.rd.ax i (h.off.imp (λe=>by rw [e];rfl) id),h.nil,?_,h.wf,h.new,h.old,h.key,h.dQ,h.cap,h.ko⟩;rcases h.off with b | b
 ·exact .inl b
 ·by_cases f:x.words=[]
  ·exact .inl f
  ·refine .inr ?_;cases c:v.Words with
   |none=>trivial
   |some a=>rw [c] at b;have d:=h.rd;rw [c] at d;intro hm;exact b (g _ (d.lt (by simpa [us] using f)) hm)
theorem cA.count {M:a2} {w:al} {v:aF} {x:aG} (h:cA M w v x):v.count=x.v.count:=by rw [h.eq];rfl
theorem cA.valid {M:a2} {w:al} {v:aF} {x:aG} (h:cA M w v x) (a b:Int):v.valid a b=x.v.valid a b:=by rw [h.eq];rfl
theorem cA.check {M:a2} {w:al} {v:aF} {x:aG} (h:cA M w v x) (a b c d:Int):v.check a b c d=x.v.check a b c d:=by rw [h.eq];rfl
theorem cA.pieces {M:a2} {w:al} {v:aF} {x:aG} (h:cA M w v x):v.pieces=x.v.pieces:=by rw [h.eq];rfl
theorem cA.at_ {M:a2} {w:al} {v:aF} {x:aG} (h:cA M w v x):v.bQ=x.at_:=by rw [h.eq];rfl
theorem cA.kind {M:a2} {w:al} {v:aF} {x:aG} (h:cA M w v x):v.Kind=x.kind:=by rw [h.eq];rfl
structure da where
 aP:Int
 inc:Int
 node:Int
 raw:List aF
 a6:List aG
 cT:an
 fl:Nat
 bO:Nat
 words:a4
 c0:an
 dY:Nat
def da.pure (p:da):cF:=⟨p.aP,p.inc,p.node,p.a6,p.bO,p.words⟩
def da.cells (p:da):aw:=[.int .i64 p.aP,.int .i64 p.inc,.int .i64 p.node,.slice p.cT p.a6.length p.fl,.int .i64 p.bO,.slice p.c0 p.words.length p.dY]
abbrev po:TypeId:=139
abbrev pr:TypeId:=30
def dX (M:a2) (w:al) (raw:List aF) (xs:List aG):Prop:=raw.length=xs.length/\∀ (i:Nat) (v:aF) (x:aG),raw[i]?=some v->xs[i]?=some x->cA M w v x
theorem dX.ax {M M':a2} {w w':al} {raw:List aF} {xs:List aG} (h:dX M w raw xs) (b:ao M w w') (a:∀ k,k<w.heap.size->M' k->M k):dX M' w' raw xs:=
 ⟨h.1,λi v x aj c=>(h.2 i v x aj c).ax b a⟩
theorem dX.tail {v:aF} {raw:List aF} {x:aG} {xs:List aG} (h:dX M w (v::raw) (x::xs)):dX M w raw xs:=
 ⟨by simpa using h.1,λi v x aj a=>h.2 (i+1) v x (by simpa using aj) (by simpa using a)⟩
def da.mut (b:Nat) (p:da) (k:Nat):Prop:=k=b\/aL p.cT k\/aL p.c0 k
structure dx (M:a2) (w:al) (b:Nat) (p:da):Prop where
 ak:av w b p.cells po
 own:aY w cr 9 p.cT p.a6.length p.fl (dz p.raw).flatten
 jU:aY w pr 1 p.c0 p.words.length p.dY (us p.words)
 vs:dX M w p.raw p.a6
 aP:0<=p.aP/\p.aP<6
 inc:0<=p.inc/\p.inc<=59
 node:0<=p.node/\p.node<5
 len:p.a6.length<=1024
 ko:p.words.length<=8 * p.bO
 l_:∀ x ∈ p.a6,x.v.valid 5 256=0/\x.node=p.node
 ex:match p.a6 with
  | []=>p.bO=0
  |x::_=>p.bO<=x.v.pieces.length
 rO:∀ u ∈ p.words,b3 u
 hS:∀ k,p.mut b k->M k
theorem dx.ax {M M':a2} {w w':al} {b:Nat} {p:da} (h:dx M w b p) (a:ao M' w w') (d:∀ k,p.mut b k->¬ M' k) (e:∀ k,M' k->M k):dx M w' b p:=
 ⟨a.ak h.ak (d b (.inl rfl)),h.own.ax a λk c=>d k (.inr (.inl c)),h.jU.ax a λk c=>d k (.inr (.inr c)),h.vs.ax (a.mono λi _=>e i) λ_ _ h=>h,
  h.aP,h.inc,h.node,h.len,h.ko,h.l_,h.ex,h.rO,h.hS⟩
theorem dx.new {w':al} {p:da} (h:dx M w b p) (c:ai w w'):dx M w' b p:=h.ax c (λ_ _ a=>a) (λ_ a=>a.elim)
theorem dx.l4 {M':a2} {p:da} (h:dx M w b p) (a:∀ k,k<w.heap.size->M' k->M k) (c:∀ k,p.mut b k->M' k):dx M' w b p:=
 ⟨h.ak,h.own,h.jU,h.vs.ax (ao.refl _ _) a,h.aP,h.inc,h.node,h.len,h.ko,h.l_,h.ex,h.rO,c⟩
theorem wk {p:da} (h:dx M w b p):ba 45 [.pointer (some ⟨b,0,none⟩)] w λv w'=>v=.int .i64 p.a6.length/\w'=w:=by refine bc Tryz.func45 ?_;rw [Ra];exact ⟨_,_,_,h.ak.cell rfl,rfl,rfl⟩
theorem IB {p:da} (h:dx M w b p):ba 67 [.pointer (some ⟨b,0,none⟩)] w λv w'=>v=.int .i64 p.aP/\w'=w:=by refine bc Tryz.func67 ?_;rw [Q5];exact ⟨_,h.ak.cell rfl,rfl,rfl⟩
theorem BV {p:da} (h:dx M w b p):ba 68 [.pointer (some ⟨b,0,none⟩)] w λv w'=>v=.int .i64 p.node/\w'=w:=by refine bc Tryz.func68 ?_;rw [rg];exact ⟨_,h.ak.cell rfl,rfl,rfl⟩
theorem L6 {c i n:Int} (d:0<=c/\c<6) (e:0<=i/\i<=59) (f:0<=n/\n<5) :
  ba 80 [.int .i64 c,.int .i64 i,.int .i64 n] w λv w'=>v=.tuple #[.pointer (some ⟨w.heap.size,0,none⟩),.int .i64 0]/\(∀ M:a2,M w.heap.size->dx M w' w.heap.size ⟨c,i,n,[],[],none,0,0,[],none,0⟩)/\ai w w'/\w'.heap.size=w.heap.size+1:=by
 refine bc Tryz.func80 ?_;rw [Tt];refine a9 (λh=>by omega) (λ_=>a9 (λh=>by omega) (λ_=>a9 (λh=>by omega) (λ_=>a9 (λh=>by omega) (λ_=>a9 (λh=>by omega) (λ_=>a9 (λh=>by omega) (λ_=>?_))))))
 rintro b1 w1 rfl rfl;refine ⟨rfl,λM b=>?_,gY _ _,by simp⟩;refine ⟨oz w [.int .i64 c,.int .i64 i,.int .i64 n,.slice none 0 0,.int .i64 0,.slice none 0 0] po,aY.nil _ _ _,aY.nil _ _ _,⟨rfl,λi v x aj=>by simp at aj⟩,d,e,f,by simp,by simp,by simp,rfl,by simp,?_⟩;rintro k (rfl | ⟨o,a⟩ | ⟨o,a⟩)
 ·exact b
 ·cases a
 ·cases a
theorem GF (vs:List aF):∀ u ∈ (dz vs).flatten,single u=true:=by intro u hu;simp only [dz,kZ,cD] at hu;obtain ⟨r,⟨v,_,rfl⟩,hu⟩:=hu;exact v.single u hu
theorem T5 (vs:List aF):(dz vs).flatten.length=vs.length * 9:=by rw [lN (tm vs)];simp [dz]
theorem Gq {n c:Nat} {vs:List aF} (h:vs.length=n) (r:bg w a (dz vs).flatten) (s:n<=1000000) (l:a=none->n=0) :
  ba 137 [.slice a n c] w λv w'=>∃ e cap,v=.slice e n cap/\r6 w w' cr 9 a e n cap (dz vs).flatten:=by
 refine bc Tryz.func137 ?_;rw [OZ];obtain ⟨i,p,au,d,g⟩:=fp (T:=cr) (z:=.agg #[.int .i64 0,.int .i64 0,.int .i64 0,.int .i64 0,.int .u64 0,.int .u64 0,.slice none 0 0,.int .u64 0,.int .i64 0]) (n:=9) (m:=88) (by kernel_rfl);cases a with
 |none=>
  refine fK rfl ⟨none,0,by rw [l rfl],ao.refl _ _,?_,?_,by simp⟩
  ·rw [l rfl] at h ⊢;rw [fb h];exact aY.nil _ _ _
  ·rintro k ⟨o,q⟩;cases q
 |some a=>refine dw rfl ?_;rintro b1 w1 rfl rfl;obtain ⟨e,b,w',f,j⟩:=v9 (t:=125) (ty:=125) (n:=n) (c:=c) (w:=w) (a:=a) (xs:=(dz vs).flatten) Tryz.underlying125 p au (by rw [d];rfl) (by omega) (by rw [T5,h,d]) r (GF vs) (by omega) (by rw [g];omega);exact ⟨e,n,b,w',f,e,b,rfl,by rw [d] at j;exact j⟩
theorem LO {v:aF} {ws:a4} (L:bg w v.Words (us ws)) (I:ws.length=v.cG) (r:v.cG<=1000000) (J:v.Words=none->v.cG=0) :
  ba 134 [v.val] w λx w'=>∃ a cap,x=aF.val { v with Words:=a,cy:=cap }/\ai w w'/\aY w' pr 1 a v.cG cap (us ws)/\(∀ k,aL a k->w.heap.size<=k)/\(a=none↔v.Words=none):=by
 refine bc Tryz.func134 ?_;refine Eq.mpr (S1 v.Kind v.Node v.bQ v.N v.Old v.ai v.Words v.cG v.cy v.Key v.ch w _) ?_;rintro b1 w1 s d az F t e;obtain ⟨E,n⟩:=bk s d;obtain ⟨au,c⟩:=bk t e;have A:w1.heap.size=w.heap.size+1:=by rw [d];simp
 have M:F.heap.size=w.heap.size+2:=by rw [e];simp [A]
 have b:=ai.ak c E;have p:Go.bn.ai w F:=n.new c;clear d e E n c;refine ⟨_,_,_,b.cell rfl,?_⟩;refine aD (zm (by rw [hg,I]) (L.new p) (oB ws) (by omega) J) ?_;rintro x O ⟨a,cap,rfl,h,K,u,H⟩;refine ⟨_,_,_,rfl,⟨_,(ai.ak h b).cell rfl⟩,(ai.ak h b).frozen,?_⟩;intro D f;have B:av D b1 (aF.cells { v with Words:=a,cy:=cap }) cr:=by rw [f];exact (ai.ak h b).setCell _
 have g:=(ai.ak h au).Fb (b':=b1) (i:=6) (by omega) (.slice a v.cG cap);rw [<-f] at g;have j:ao (λk=>k=b1) O D:=by rw [f];exact eA _ _ _ _
 refine iy (v:={ v with Words:=a,cy:=cap }) (gF B) ⟨fI (vs:=aF.cells { v with Words:=a,cy:=cap }) g (by simp [aF.cells]) (aF.single _),?_⟩;intro G q;have C:av G az (aF.cells { v with Words:=a,cy:=cap }) cr:=by rw [q];have:=g.cl (o:=0) (i:=0) (vs:=aF.cells { v with Words:=a,cy:=cap });rw [oy (by simp [aF.cells])] at this;exact this
 have l:ao (λk=>k=az) D G:=by rw [q];exact ht _ _ _ _ _
 refine iy (v:={ v with Words:=a,cy:=cap }) (gF C) ⟨rfl,a,cap,rfl,?_,?_,λk z=>?_,H⟩
 ·exact ((p.new h).trans j (λi y he=>by omega)).trans l (λi y he=>by omega)
 ·refine (K.ax j ?_).ax l ?_
  ·intro k r he;have:=u k r;omega
  ·intro k r he;have:=u k r;omega
 ·have:=u k z;omega
theorem xK {n:aH} (h:dK w b aK n) (hu:n.down=false) (at_:Int) (l:0<=at_) (o:at_<100):ba 135 [.pointer (some ⟨b,0,none⟩),.int .i64 at_] w λv w'=>v=.int .u64 (n.get at_.toNat)/\ai w w':=by
 refine bc Tryz.func135 ?_;rw [Th];refine aD (xJ h at_ 1) ?_;intro v w1 j;rcases j with ⟨c,rfl,rfl⟩ | ⟨c,a,cap,rfl,f,e,p⟩
 ·refine ⟨_,_,_,_,rfl,dt (λ_=>⟨?_,ao.refl _ _⟩) (λh=>absurd h c)⟩;have:(n.words.length:Int)<=at_:=by
   unfold aH.e3 at c;split at c
   ·omega
   ·simp [hu] at c
  rw [aH.get,cK,kX (by omega)];rfl
 ·refine ⟨_,_,_,_,rfl,dt (λh=>absurd rfl h) (λ_=>?_)⟩
  rcases e.2 with ⟨d,_⟩ | ⟨g,cur,d,_⟩
  ·cases d
  simp only [e7] at d;subst d;obtain ⟨b1,az,k,_⟩:=aH.qM c;refine dT (by omega) (by simp) ⟨n.get at_.toNat,?_,rfl,f⟩;refine e.rd.cell (r' ?_);simp only [aH.read];rw [jX,if_pos (by simp),kW];simpa using aH.get_some (n:=n) (i:=at_.toNat) (by omega)
theorem IC {p:da} {n:aH} {v:aF} {x:aG} (h:dx M w b p) (z:dK w fk fa n) (aj:cA M w v x) :
  ba 96 [.pointer (some ⟨b,0,none⟩),v.val,.pointer (some ⟨fk,0,none⟩)] w λr w'=>r=.int .i64 (p.pure.refusal x n)/\ai w w':=by
 refine bc Tryz.func96 ?_;refine Eq.mpr (Rb b v.Kind v.Node v.bQ v.N v.Old v.ai v.Words v.cG v.cy v.Key v.ch fk w _) ?_;rintro b1 w1 C A;obtain ⟨P,j⟩:=bk C A;clear A;refine aD (DH (z.new j)) ?_;rintro r R ⟨rfl,rfl⟩;refine ⟨_,rfl,dZ (λaA=>⟨?_,j⟩) (λaA=>?_)⟩
 ·have:n.down=true:=by simpa using aA
  simp [cF.refusal,this]
 have e:n.down=false:=by simpa using aA
 intro J F;have o:Go.bn.ai R J:=by rw [F];exact cL _
 have B:av J b1 v.cells cr:=ai.ak o P;have g:=j.new o;refine ⟨λu=>Go.bn.ai J u,ao.refl _ _,l3 (λu hu=>gF (ai.ak hu B)) ?_⟩;refine aD (wh (z.new g)) ?_;rintro r U ⟨rfl,rfl⟩;refine ⟨_,rfl,ao.refl _ _,?_⟩;refine aD (xz _ v 5 _) ?_;rintro r V ⟨rfl,q⟩;have H:=ai.ak q B;have c:=g.new q;refine ⟨_,rfl,dt (λa=>⟨?_,c⟩) (λa=>?_)⟩
 ·rw [aj.valid] at a;rw [cF.refusal,if_neg (by simp [e]),if_pos a]
 have O:=h.aP;refine ⟨_,((h.new c).ak).cell rfl,?_⟩;dsimp only;rw [bA (x:=24+p.aP) (by omega) (by omega)];refine aD (xK (z.new c) e (24+p.aP) (by omega) (by omega)) ?_;rintro r S ⟨rfl,s⟩;refine ⟨_,rfl,?_⟩;intro L G;have t:Go.bn.ai S L:=by rw [G];exact cL _
 have d:=(c.new s).new t;have I:=ai.ak t (ai.ak s H);refine ⟨λu=>Go.bn.ai L u,ao.refl _ _,l3 (λu hu=>gF (ai.ak hu I)) ⟨_,λu hu=>((h.new (d.new hu)).ak).cell rfl,?_⟩⟩;refine aD (xK (z.new d) e 0 (by omega) (by omega)) ?_;rintro r W ⟨rfl,f⟩;refine ⟨_,rfl,f,?_⟩;refine aD (xK (z.new (d.new f)) e 1 (by omega) (by omega)) ?_;rintro r X ⟨rfl,y⟩;refine ⟨_,rfl,f.new y,?_⟩;have E:¬ v.valid 5 (n.words.length / 8:Nat)≠0:=by omega
 have k:v.inside 5 (n.words.length / 8:Nat)=true:=by
  unfold aF.valid at a;cases D:v.inside 5 (n.words.length / 8:Nat) with
  |true=>rfl
  |false=>rw [D] at a;simp at a;split at a<;>omega
 have T:=ox k;have K:=h.inc;have i:=aj.dQ;refine aD (LN _ v p.inc _ _ _ (by omega) (by omega) (by omega) (by rw [aj.eq];exact i.2)) ?_;rintro r Q ⟨rfl,l⟩;refine ⟨_,rfl,?_,((d.new f).new y).new l⟩;rw [aj.valid] at a;rw [aj.check];rw [cF.refusal,if_neg (by simp [e]),if_neg (λh=>h a)];rfl
def Ky (M:a2) (fk fa:Nat) (n:aH) (x:aG) (pc:Int×Int) (w:al) (r:a0) (w':al):Prop:=
 ∃ a cap,r=.slice a (exec x pc n).2.length cap/\bg w' a (us (exec x pc n).2)/\(∀ k,aL a k->w.heap.size<=k)/\dK w' fk fa (exec x pc n).1/\ao (λk=>k=fa) w w'
theorem LP {n:aH} (h:dK w b aK n) (i c:Int):∀ u ∈ n.read i c,b3 u:=by intro u hu;exact h.wf u (n1 (r3 hu))
theorem LQ {n:aH} (h:dK w b aK n) (x:aG) (pc:Int×Int):∀ u ∈ (exec x pc n).2,b3 u:=by
 intro u hu;unfold exec at hu;split at hu
 ·exact LP h _ _ u hu
 split at hu
 ·simp at hu
 split at hu
 ·simp at hu;subst hu;exact h.FW _
 split at hu
 ·simp at hu;subst hu;exact h.FW _
 ·simp at hu
theorem ID {n:aH} {v:aF} {x:aG} (Uq:dK w fk fa n) (t:n.down=false) (aj:cA M w v x) (Ur:x.words=[]\/fM (λk=>k=fa) v.Words)
  (UF:x.at_<=pc.1) (gr:1<=pc.2) (UG:pc.2<=8) (UH:pc.1+pc.2<=x.at_+x.v.count) (UD:0<=x.at_) (UE:x.at_+x.v.count<=n.words.length) :
  ba 99 [v.val,.agg #[.int .i64 pc.1,.int .i64 pc.2],.pointer (some ⟨fk,0,none⟩)] w (Ky M fk fa n x pc w):=by
 have hlen:=Uq.len;refine bc Tryz.func99 ?_;refine Eq.mpr (SK v.Kind v.Node v.bQ v.N v.Old v.ai v.Words v.cG v.cy v.Key v.ch pc.1 pc.2 fk w _) ?_;rintro b1 w1 X P az Uo Y Q;obtain ⟨Us,L⟩:=bk X P;obtain ⟨au,E⟩:=bk Y Q;have d:=ai.ak E Us;have e:Go.bn.ai w Uo:=L.new E;have Uy:w.heap.size<=Uo.heap.size:=e.size;clear P Q Us L E;have G:=Uq.new e;have I:=aj.kind;have V:=aj.at_;refine ⟨_,d.cell rfl,dJ (λD=>?_) (λD=>dJ (λf=>?_) (λf=>dJ (λc=>?_) (λc=>dJ (λb=>?_) (λb=>?_))))⟩
 ·
  rw [I] at D;have H:x.v.count=x.n:=by simp [aF.count,aG.v,D]
  have g:n.e3 pc.1 pc.2=0:=by unfold aH.e3;rw [if_neg (by omega),if_neg (by simp [t])]
  refine ⟨_,au.cell rfl,_,au.cell rfl,?_⟩;refine aD (xJ G pc.1 pc.2) ?_;intro r UI Uj;rcases Uj with ⟨Z,_⟩ | ⟨_,a,cap,rfl,c,Ux,Up⟩
  ·exact absurd g Z
  have ex:exec x pc n=(n,n.read pc.1 pc.2):=by simp [exec,D]
  refine ⟨_,_,_,_,rfl,some a,cap,?_,?_,?_,?_,?_⟩
  ·rw [ex];simp only [aH.v5 g]
  ·rw [ex];exact Ux.rd
  ·rintro k ⟨o,he⟩;simp at he;rw [he] at Up;exact kq Uy Up
  ·rw [ex];exact G.new c
  ·exact ao.bZ (e.new c)
 ·
  rw [I] at D f;have H:x.v.count=x.words.length:=by simp [aF.count,aG.v,f]
  have ex:exec x pc n=(n.write pc.1.toNat ((x.words.drop (pc.1 - x.at_).toNat).take pc.2.toNat),[]):=by simp [exec,f]
  refine ⟨_,au.cell rfl,_,d.cell rfl,?_⟩;rintro T R;have b:Go.bn.ai Uo T:=by rw [R];exact cL _
  clear R;have y:=ai.ak b au;have S:=ai.ak b d;have s:=G.new b;have z:=e.new b;refine ⟨λu=>ao (λk=>k=fa) T u,ao.refl _ _,_,λu hu=>(hu.ak y (y.ne s.words (by decide))).cell rfl,_,_,_,λu hu=>(hu.ak S (S.ne s.words (by decide))).cell rfl,_,λu hu=>(hu.ak y (y.ne s.words (by decide))).cell rfl,?_⟩;have Ut:IntKind.i64.wrap (pc.1 - v.bQ)=pc.1 - x.at_:=by rw [V,bA (by omega) (by omega)]
  have Uu:IntKind.i64.wrap (pc.1 - x.at_+pc.2)=pc.1 - x.at_+pc.2:=bA (by omega) (by omega);dsimp only;rw [Ut,Uu];have Uz:v.cG=x.words.length:=by rw [aj.eq];rfl
  have Ui:x.words≠[]:=by intro g;rw [g] at H;simp at H <;> omega
  have Uk:=aj.rd.new z;have Un:v.cG<=v.cy:=aj.cap;rcases Uk with Uj | ⟨sb,so,Ul,C⟩
  ·exact absurd (by simpa [us] using Uj) Ui
  rw [Ul];refine kc (by omega) (by omega) (by omega) (by omega) Un ?_;intro a Uw;rcases Uw with rfl | ⟨UA,_⟩
  ·have q:((x.words.drop (pc.1 - x.at_).toNat).take pc.2.toNat).length=(pc.1 - x.at_+pc.2).toNat - (pc.1 - x.at_).toNat:=by simp;omega
   have O:bg T (some ⟨sb,so+(pc.1 - x.at_).toNat * 1,none⟩) (us ((x.words.drop (pc.1 - x.at_).toNat).take pc.2.toNat)):=by rw [<-xx,<-xy,Nat.mul_one];have:bg T (some ⟨sb,so,none⟩) (us x.words):=.inr ⟨sb,so,rfl,C⟩;exact (this.drop _).take _
   rw [<-q];refine aD (GE s pc.1 O (λu hu=>aj.wf u (n1 (r3 hu))) (by simp)) ?_;rintro r UJ ⟨rfl,J,K⟩;have g:n.e3 pc.1 ((x.words.drop (pc.1 - x.at_).toNat).take pc.2.toNat).length=0:=by unfold aH.e3;rw [if_neg (by rw [q];omega),if_neg (by simp [t])]
   rw [if_pos g] at J;refine ⟨_,rfl,K,none,0,?_,?_,?_,?_,?_⟩
   ·rw [ex];rfl
   ·rw [ex];exact bg.nil _ _
   ·rintro k ⟨o,he⟩;cases he
   ·rw [ex];exact J
   ·exact (ao.bZ z).trans K λi _ h=>h
  ·omega
 ·
  rw [I] at c;have H:x.v.count=1:=by simp [aF.count,aG.v,c]
  have ex:exec x pc n=(n.eU x.at_ x.old x.new,[n.get x.at_.toNat]):=by simp [exec,c]
  have Uv:v.Old=x.old:=by rw [aj.eq];rfl
  have W:v.ai=x.new:=by rw [aj.eq];rfl
  refine ⟨_,d.cell rfl,_,d.cell rfl,_,d.cell rfl,?_⟩;rw [V,Uv,W];refine aD (NG G x.at_ x.old x.new aj.new.1 aj.new.2) ?_;rintro r UB ⟨rfl,j,l⟩;have g:n.e3 x.at_ 1=0:=by unfold aH.e3;rw [if_neg (by omega),if_neg (by simp [t])]
  rw [if_pos g] at j;rw [if_pos g];refine ⟨_,_,rfl,?_⟩;intro U UC A F;obtain ⟨B,p⟩:=bk A F;have Um:=l.size;refine ⟨some ⟨U,0,none⟩,1,?_,?_,?_,?_,?_⟩
  ·rw [ex];rfl
  ·rw [ex];exact e9 B rfl
  ·rintro k ⟨o,he⟩;simp at he <;> omega
  ·rw [ex];exact j.new p
  ·exact ((ao.bZ e).trans l λi _ h=>h).new p
 ·
  rw [I] at b;have H:x.v.count=1:=by simp [aF.count,aG.v,b]
  have ex:exec x pc n=(n.add x.at_ x.new,[n.get x.at_.toNat]):=by simp [exec,b]
  have W:v.ai=x.new:=by rw [aj.eq];rfl
  refine ⟨_,d.cell rfl,_,d.cell rfl,?_⟩;rw [V,W];refine aD (NH G x.at_ x.new) ?_;rintro r UB ⟨rfl,j,l⟩;have g:n.e3 x.at_ 1=0:=by unfold aH.e3;rw [if_neg (by omega),if_neg (by simp [t])]
  rw [if_pos g] at j;rw [if_pos g];refine ⟨_,_,rfl,?_⟩;intro U UC A F;obtain ⟨B,p⟩:=bk A F;have Um:=l.size;refine ⟨some ⟨U,0,none⟩,1,?_,?_,?_,?_,?_⟩
  ·rw [ex];rfl
  ·rw [ex];exact e9 B rfl
  ·rintro k ⟨o,he⟩;simp at he <;> omega
  ·rw [ex];exact j.new p
  ·exact ((ao.bZ e).trans l λi _ h=>h).new p
 ·rw [I] at D f c b;have ex:exec x pc n=(n,[]):=by simp [exec,D,f,c,b]
  refine ⟨none,0,?_,?_,?_,?_,ao.bZ e⟩
  ·rw [ex];rfl
  ·rw [ex];exact bg.nil _ _
  ·rintro k ⟨o,he⟩;cases he
  ·rw [ex];exact G
def sv (M M':a2) (w:al) (a:a2):Prop:=∀ k,M' k->(k<w.heap.size/\M k)\/a k
theorem av.iA {cs a:aw} {T c:TypeId} (h:av w b cs T) (d:av w b a c):T=c:=(h.uniq d).2
def da.done (p:da) (cT:an) (fl:Nat):da:={ p with raw:=p.raw.tail,a6:=p.a6.tail,cT:=cT,fl:=fl,bO:=0,words:=[],c0:=none,dY:=0 }
theorem Ic (v:aF) (vs:List aF):(dz (v::vs)).flatten.drop 9=(dz vs).flatten:=by simp [dz,aF.cells]
theorem Ga {p:da} (h:dx M w b p) (F:p.a6≠[]) :
  ba 97 [.pointer (some ⟨b,0,none⟩)] w λr w'=>r=.tuple #[]/\∃ cT fl,(∀ M':a2,sv M M' w (aL cT)->(∀ k,(p.done cT fl).mut b k->M' k)->dx M' w' b (p.done cT fl))/\ao (λk=>k=b) w w'/\(∀ k,aL cT k->w.heap.size<=k):=by
 refine bc Tryz.func97 ?_;rw [Qx];obtain ⟨x,xs,d⟩:∃ x xs,p.a6=x::xs:=by
  cases G:p.a6 with
  |nil=>exact absurd G F
  |cons x xs=>exact ⟨x,xs,rfl⟩
 obtain ⟨v,vs,c⟩:∃ v vs,p.raw=v::vs:=by
  cases G:p.raw with
  |nil=>have:=h.vs.1;rw [G,d] at this;simp at this
  |cons v vs=>exact ⟨v,vs,rfl⟩
 have X:=h.len;have hlen:p.a6.length=vs.length+1:=by have:=h.vs.1;rw [c] at this;simpa using this.symm
 have hle:=h.own.le;have A:=h.ak;refine ⟨_,_,_,A.cell rfl,?_⟩;rcases h.own.2 with ⟨_,au,_⟩ | ⟨g,cur,u,V,S,P,Q,I⟩
 ·rw [hlen] at au;omega
 rw [u];refine kc (by omega) (by omega) (by omega) (by omega) hle ?_;intro a J;have H:bg w a (dz vs).flatten:=by
  rcases J with rfl | ⟨he,rfl⟩
  ·have q:=h.own.rd;rw [u] at q;have:=q.drop 9;rw [c,Ic] at this;exact this
  ·have:vs=[]:=fb (by omega);rw [this];exact bg.nil _ _
 have L:((p.a6.length:Int).toNat - (1:Int).toNat)=vs.length:=by omega
 rw [L];refine aD (Gq rfl H (by omega) (by intro O;rcases J with rfl | ⟨_,rfl⟩<;>cases O)) ?_;rintro r w1 ⟨f,cap,rfl,K,T,D,W⟩;have j:=ai.ak K A;refine ⟨_,_,_,rfl,⟨_,j.cell rfl⟩,j.frozen,?_⟩;rintro Z rfl;have l:=j.setCell (i:=3) (.slice f vs.length cap);refine ⟨⟨_,l.cell rfl⟩,l.frozen,?_⟩;rintro Ui rfl;have n:=l.setCell (i:=4) (.int .i64 0);refine ⟨⟨_,n.cell rfl⟩,n.frozen,?_⟩;rintro Uj rfl;have C:=n.setCell (i:=5) (.slice none 0 0);have s:ao (λk=>k=b) w (((w1.setCell ⟨b,3,none⟩ (.slice f vs.length cap)).setCell ⟨b,4,none⟩ (.int .i64 0)).setCell ⟨b,5,none⟩ (.slice none 0 0)):=
  (((ao.bZ (M:=λk=>k=b) K).setCell (.inl rfl) _).setCell (.inl rfl) _).setCell (.inl rfl) _
 have E:ao (λk=>k=b) w1 (((w1.setCell ⟨b,3,none⟩ (.slice f vs.length cap)).setCell ⟨b,4,none⟩ (.int .i64 0)).setCell ⟨b,5,none⟩ (.slice none 0 0)):=
  (((ao.refl (λk=>k=b) _).setCell (.inl rfl) _).setCell (.inl rfl) _).setCell (.inl rfl) _
 refine ⟨rfl,f,cap,λM' z o=>?_,s,D⟩;have t:p.a6.tail.length=vs.length:=by rw [d];rw [d] at hlen;simpa using hlen
 have N:=A.lt;refine ⟨?_,?_,aY.nil _ _ _,?_,h.aP,h.inc,h.node,?_,by simp [da.done],?_,?_,by simp [da.done],o⟩
 ·have e:(p.done f cap).cells=((p.cells.set 3 (.slice f vs.length cap)).set 4 (.int .i64 0)).set 5 (.slice none 0 0):=by simp only [da.done,da.cells,t];rfl
  rw [e];exact C
 ·show aY _ cr 9 f p.a6.tail.length cap (dz p.raw.tail).flatten;rw [t,c];exact T.ax E λk B he=>by have:=D k B;omega
 ·show dX M' _ p.raw.tail p.a6.tail;rw [c,d];have q:=h.vs;rw [c,d] at q;refine q.tail.ax (s.mono λk _ e=>h.hS k (.inl e)) λk R hm=>?_
  rcases z k hm with hm | hm
  ·exact hm.2
  ·have:=D k hm;omega
 ·show p.a6.tail.length<=1024;omega
 ·intro y U;exact h.l_ y (qi U)
 ·show match p.a6.tail with | []=>(0:Nat)=0 | x::_=>0<=x.v.pieces.length
  cases Y:p.a6.tail with
  |nil=>rfl
  |cons y ys=>exact Nat.zero_le _
def da.post (p:da) (v:aF) (x:aG) (cT:an) (fl:Nat):da:={ p with raw:=p.raw++[v],a6:=p.a6++[x],cT:=cT,fl:=fl }
theorem FQ (a b:List aF):(dz (a++b)).flatten=(dz a).flatten++(dz b).flatten:=by simp [dz]
theorem Ie {v:aF} {a b:Int} (h:v.valid a b=0):v.valid 5 256=0:=by
 unfold aF.valid at *;split at h
 ·omega
 rename_i e;split at h
 ·omega
 rename_i f;split at h
 ·omega
 rename_i g;have c:v.inside a b=true:=by simpa using f
 have:=ox c;have d:v.inside 5 256=true:=by unfold aF.inside;exact decide_eq_true (by omega)
 rw [if_neg e,if_neg (by simp [d]),if_neg g]
theorem LR {U6:a2} {p:da} {v:aF} {x:aG} {lines:Int} (h:dx M w b p) (aj:cA U6 w v x) (q:x.v.valid 5 lines=0) (V:x.node=p.node) (hlen:p.a6.length<1024) :
  ba 95 [.pointer (some ⟨b,0,none⟩),v.val,.int .i64 lines] w λr w'=>r=.int .i64 0/\∃ UK cT fl,
   (∀ M':a2,sv M M' w (aL cT)->(∀ k,(p.post UK x cT fl).mut b k->M' k)->dx M' w' b (p.post UK x cT fl))/\ao (λk=>k=b\/aL p.cT k) w w'/\(cT=p.cT\/∀ k,aL cT k->w.heap.size<=k):=by
 refine bc Tryz.func95 ?_;refine Eq.mpr (R' b v.Kind v.Node v.bQ v.N v.Old v.ai v.Words v.cG v.cy v.Key v.ch lines w _) ?_;rintro b1 w1 UP UE;obtain ⟨U5,UW⟩:=bk UP UE;clear UE;refine iy (v:=v) (gF U5) ?_;refine aD (xz _ v 5 lines) ?_;rintro r U_ ⟨rfl,UA⟩;have UZ:=ai.ak UA U5;have UC:=UW.new UA;refine ⟨_,rfl,dt (λf=>absurd (by rw [aj.valid];exact q) f) (λ_=>?_)⟩
 intro UL UF;have UB:Go.bn.ai U_ UL:=by rw [UF];exact cL _
 have UI:av UL b1 v.cells cr:=ai.ak UB UZ;have Ul:=UC.new UB;have Us:=h.new Ul;clear UF;refine ⟨λu=>Go.bn.ai UL u,ao.refl _ _,_,λu hu=>(ai.ak hu UI).cell rfl,_,λu hu=>((Us.new hu).ak).cell rfl,dt (λf=>absurd (by rw [aj.eq];exact V) f) (λ_=>?_)⟩
 refine ⟨_,_,_,Us.ak.cell rfl,a9 (λf=>by omega) (λ_=>?_)⟩
 intro UM UG;have Up:Go.bn.ai UL UM:=by rw [UG];exact cL _
 have U0:av UM b1 v.cells cr:=ai.ak Up UI;have l:=Ul.new Up;have UX:=Us.new Up;clear UG;have E:∀ k,aL p.cT k->k<w.heap.size:=λk A=>h.own.lt A
 have O:¬ aL p.cT b:=by
  intro f;rcases h.own.2 with ⟨he,_⟩ | ⟨g,cur,he,Uk,_⟩
  ·obtain ⟨o,d⟩:=f;rw [he] at d;cases d
  ·obtain ⟨o,d⟩:=f;rw [he] at d;simp at d;have:=av.iA (d.1▸Uk) h.ak;revert this;decide
 refine ⟨λu=>ao (aL p.cT) UM u,ao.refl _ _,_,_,_,λu hu=>(hu.ak UX.ak O).cell rfl,l3 (v:=v) (λu hu=>gF (hu.ak U0 (λf=>by have:=E _ f;omega))) ?_⟩;have Uv:x.words.length=v.cG:=by rw [aj.eq];rfl
 have Uz:x.v.inside 5 lines=true:=by
  unfold aF.valid at q;cases Uy:x.v.inside 5 lines with
  |true=>rfl
  |false=>rw [Uy] at q;simp at q;split at q<;>omega
 have Uy:=ox Uz;refine aD (LO (v:=v) (ws:=x.words) (aj.rd.new l) Uv ?_ (λf=>by rw [<-Uv,aj.nil f];rfl)) ?_
 ·rw [<-Uv];exact aj.ko
 rintro r Va ⟨X,cap,rfl,Z,I,Y,UV⟩;refine ⟨_,_,_,_,_,_,_,_,_,_,_,rfl,ao.bZ Z,?_⟩;rintro az Vb UQ UH;obtain ⟨U1,U⟩:=bk UQ UH;clear UH;have W:=(l.new Z).new U;have Ut:=h.new W;refine ⟨(ao.bZ Z).new U,?_⟩;obtain ⟨inf,U9,au,Ui,US⟩:=fp (T:=cr) (z:=.agg #[.int .i64 0,.int .i64 0,.int .i64 0,.int .i64 0,.int .u64 0,.int .u64 0,.slice none 0 0,.int .u64 0,.int .i64 0]) (n:=9) (m:=88) (by kernel_rfl);have Um:=Ut.own;rw [<-Ui] at Um;obtain ⟨ap,j,U2,UD,D,G,K⟩:=Um.append (P:=prog) (t:=125) (ty:=125) Tryz.underlying125 U9 au (by rw [Ui];rfl) (by omega)
  (s:=some ⟨az,0,none⟩) (m:=1) (c:=1) (news:=aF.cells { v with Words:=X,cy:=cap }) (by rw [Ui];rfl) (e9 U1 (by simp [aF.cells])) (aF.single _) (by omega) (by rw [US];omega)
 rw [Ui] at D;refine ⟨ap,p.a6.length+1,j,U2,UD,((ao.bZ Z).new U).trans G (λ_ _ h=>h),?_⟩;have Uo:av U2 b p.cells po:=G.ak Ut.ak O;refine ⟨⟨_,Uo.cell rfl⟩,Uo.frozen,?_⟩;rintro Un Uu;have H:ao (λk=>k=b) U2 Un:=by rw [Uu];exact eA _ _ _ _
 have UR:av Un b (p.cells.set 3 (.slice ap (p.a6.length+1) j)) po:=by rw [Uu];exact Uo.setCell _
 clear Uu;have L:ap=p.cT\/∀ k,aL ap k->w.heap.size<=k:=by
  rcases K with K | K
  ·exact .inl K
  ·refine .inr ?_;rintro k ⟨o,d⟩;rw [K] at d;simp at d;have:=W.size;omega
 have R:ao (λk=>k=b\/aL p.cT k) w Un:=((ao.bZ W).trans G (λk _ A=>.inr A)).trans H (λk _ A=>.inl A);have Uj:¬ aL ap b:=by
  intro f;rcases L with he | he
  ·exact O (he▸f)
  ·have:=he b f;have:=h.ak.lt;omega
 refine ⟨rfl,{ v with Words:=X,cy:=cap },ap,j,λM' Uw Uq=>?_,R,L⟩;refine ⟨?_,?_,?_,?_,h.aP,h.inc,h.node,by simp [da.post];omega,h.ko,?_,?_,h.rO,Uq⟩
 ·have e:(p.post { v with Words:=X,cy:=cap } x ap j).cells=p.cells.set 3 (.slice ap (p.a6.length+1) j):=by simp only [da.post,da.cells,c8,fU,nZ];rfl
  rw [e];exact UR
 ·show aY Un cr 9 ap (p.a6++[x]).length j (dz (p.raw++[_])).flatten;rw [FQ,c8];have:(dz [{ v with Words:=X,cy:=cap }]).flatten=aF.cells { v with Words:=X,cy:=cap }:=by simp [dz]
  rw [this];exact D.ax H λk A he=>Uj (he▸A)
 ·refine (Ut.jU.ax G ?_).ax H ?_
  ·rintro k A f;rcases h.own.2 with ⟨he,_⟩ | ⟨g,cur,he,Uk,_⟩
   ·obtain ⟨o,d⟩:=f;rw [he] at d;cases d
   rcases h.jU.2 with ⟨C,_⟩ | ⟨UN,J,C,Q,_⟩
   ·obtain ⟨o,d⟩:=A;rw [C] at d;cases d
   obtain ⟨o,d⟩:=A;obtain ⟨U',Ur⟩:=f;rw [C] at d;rw [he] at Ur;simp at d Ur;have:=av.iA (Ur.1▸Uk) (d.1▸Q);revert this;decide
  ·rintro k A he;rcases h.jU.2 with ⟨C,_⟩ | ⟨UN,J,C,Q,_⟩
   ·obtain ⟨o,d⟩:=A;rw [C] at d;cases d
   obtain ⟨o,d⟩:=A;rw [C] at d;simp at d;have:=av.iA (d.1▸Q) (he▸h.ak);revert this;decide
 ·show dX M' Un (p.raw++[_]) (p.a6++[x]);have hold:dX M' Un p.raw p.a6:=h.vs.ax (R.mono λk _ A=>h.hS k (A.elim .inl λe=>.inr (.inl e))) λk S hm=>by
   rcases Uw k hm with hm | hm
   ·exact hm.2
   ·rcases L with he | he
    ·exact h.hS k (.inr (.inl (he▸hm)))
    ·have:=he k hm;omega
  refine ⟨by simp [h.vs.1],λi UK jc B F=>?_⟩;rw [o3] at B F;by_cases S:i<p.raw.length
  ·rw [if_pos S] at B;rw [if_pos (h.vs.1▸S)] at F;exact hold.2 i UK jc B F
  ·rw [if_neg S] at B;rw [if_neg (h.vs.1▸S)] at F;have Ux:i - p.raw.length=0:=by
    rcases wP (i - p.raw.length) with U3 | U3
    ·exact U3
    ·rw [kX (by simp;omega)] at B;cases B
   rw [Ux] at B;rw [<-h.vs.1,Ux] at F;simp only [qd,e7] at B F;subst B F;have UY:∀ k,aL X k->UM.heap.size<=k/\∃ cs,av Un k cs pr:=by
    intro k A;refine ⟨Y k A,?_⟩;rcases I.2 with ⟨he,_⟩ | ⟨g,cur,he,Uk,_⟩
    ·obtain ⟨o,d⟩:=A;rw [he] at d;cases d
    ·obtain ⟨o,d⟩:=A;rw [he] at d;simp at d;have U8:=Y g ⟨0,he⟩;have UO:=l.size;refine ⟨cur,?_⟩;rw [<-d.1];refine H.ak (G.ak (ai.ak U Uk) ?_) ?_
     ·intro f;have:=E _ f;omega
     ·intro f;have:=h.ak.lt;omega
   refine ⟨?_,?_,?_,?_,aj.wf,aj.new,aj.old,aj.key,aj.dQ,I.le,aj.ko⟩
   ·have he:=aj.eq;rw [he]
   ·refine ((I.rd.new U).ax G ?_).ax H ?_
    ·cases X with
     |none=>exact .inr trivial
     |some a=>
      refine .inr λf=>?_
      rcases I.2 with ⟨he,_⟩ | ⟨g,cur,he,Uk,_⟩
      ·cases he
      ·simp at he;subst he;have:=Y g ⟨0,rfl⟩;have:=E _ f;have:=l.size;simp at *;omega
    ·cases X with
     |none=>exact .inr trivial
     |some a=>
      refine .inr λf=>?_
      rcases I.2 with ⟨he,_⟩ | ⟨g,cur,he,Uk,_⟩
      ·cases he
      ·simp at he;subst he;have:=Y g ⟨0,rfl⟩;have:=h.ak.lt;have:=l.size;simp at f <;> omega
   ·intro f;exact aj.nil (UV.1 f)
   ·cases X with
    |none=>exact .inr trivial
    |some a=>
     refine .inr λhm=>?_
     rcases I.2 with ⟨he,_⟩ | ⟨g,cur,he,Uk,_⟩
     ·cases he
     simp at he;subst he;obtain ⟨U7,cs,UT⟩:=UY g ⟨0,rfl⟩;have UO:=l.size;rcases Uw g hm with hm | hm
     ·omega
     ·rcases D.2 with ⟨he,_⟩ | ⟨UN,J,he,Q,_⟩
      ·obtain ⟨o,d⟩:=hm;rw [he] at d;cases d
      ·obtain ⟨o,d⟩:=hm;rw [he] at d;simp at d;have UU:av Un UN J cr:=H.ak Q (λf=>Uj (by rw [he,<-f];exact ⟨0,rfl⟩));have:=av.iA (d.1▸UU) UT;revert this;decide
 ·intro y UJ;simp only [da.post,gH,w5] at UJ;rcases UJ with UJ | rfl
  ·exact h.l_ y UJ
  ·exact ⟨Ie q,V⟩
 ·have hex:=h.ex;show match p.a6++[x] with | []=>p.bO=0 | x::_=>p.bO<=x.v.pieces.length
  cases U4:p.a6 with
  |nil=>rw [U4] at hex;simp only [m4];rw [hex];exact Nat.zero_le _
  |cons y ys=>rw [U4] at hex;exact hex
structure kK (M:a2) (w:al) (d:bF) (x:aC):Prop where
 code:d.Code=x.code
 len:d.cG=x.words.length
 rd:bg w d.Words (us x.words)
 nil:d.Words=none->x.words=[]
 off:x.words=[]\/fM M d.Words
 wf:∀ u ∈ x.words,b3 u
 cap:d.cG<=d.cy
theorem kK.ax {M M':a2} {w w':al} {v:bF} {x:aC} (h:kK M w v x) (i:ao M w w') (g:∀ k,k<w.heap.size->M' k->M k):kK M' w' v x:=by
 refine ⟨h.code,h.len,h.rd.ax i (h.off.imp (λe=>by rw [e];rfl) id),h.nil,?_,h.wf,h.cap⟩;rcases h.off with b | b
 ·exact .inl b
 ·by_cases f:x.words=[]
  ·exact .inl f
  ·refine .inr ?_;cases c:v.Words with
   |none=>trivial
   |some a=>rw [c] at b;have d:=h.rd;rw [c] at d;intro hm;exact b (g _ (d.lt (by simpa [us] using f)) hm)
theorem fm {e sz n cap:Nat} {xs:aw} (h:aY w e sz a n cap xs) {k:Nat} (c:aL a k):∃ cs,av w k cs e:=by
 rcases h.2 with ⟨he,_⟩ | ⟨g,cur,he,d,_⟩
 ·obtain ⟨o,b⟩:=c;rw [he] at b;cases b
 ·obtain ⟨o,b⟩:=c;rw [he] at b;simp at b;exact ⟨cur,b.1▸d⟩
def wD (M:a2) (b fk fa:Nat) (p:da) (n:aH) (w:al) (r:a0) (w':al):Prop:=
 ∃ (d:bF) (p':da),r=.tuple #[d.val,.bool (p.pure.step n).2.2.isSome]/\p'.pure=(p.pure.step n).1/\dK w' fk fa (p.pure.step n).2.1/\
  (∀ x,(p.pure.step n).2.2=some x->d.Code=x.code/\d.cG=x.words.length/\bg w' d.Words (us x.words)/\(d.Words=none->x.words=[])/\(∀ u ∈ x.words,b3 u)/\d.cG<=d.cy/\p'.c0=none)/\
  (∀ k,aL d.Words k->aL p.c0 k\/w.heap.size<=k)/\
  (∀ M':a2,sv M M' w (λk=>aL p'.cT k\/aL p'.c0 k)->(∀ k,p'.mut b k->M' k)->dx M' w' b p')/\
  ao (λk=>k=b\/aL p.c0 k\/k=fa) w w'/\(p'.cT=p.cT\/∀ k,aL p'.cT k->w.heap.size<=k)/\(p'.c0=p.c0\/∀ k,aL p'.c0 k->w.heap.size<=k)/\
  (∀ k,aL d.Words k->∃ cs,av w' k cs pr)
theorem ru {d:bF} (h:av w b d.cells ij):b7 w ⟨b,0,none⟩ 0 d.cells:=bI h (by simp [bF.cells])
theorem sk {bu:aV} {d:bF} {K:Int->an->Nat->a2} (h:b7 w bu 0 d.cells) (a:K d.Code d.Words d.cG d.cy) :
  ∃ (Code:Int) (Words:an) (cG:Nat) (cy:Nat),b7 w bu 0 [.int .i64 Code,.slice Words cG cy]/\K Code Words cG cy:=⟨_,_,_,_,h,a⟩
theorem Kz {p:cF} {n:aH} (h:p.a6=[]):p.step n=(p,n,none):=by unfold cF.step;rw [h]
theorem IE {p:cF} {n:aH} {x:aG} {xs:List aG} (h:p.a6=x::xs):p.step n =
  if p.refusal x n≠0 then (p.done,n,some ⟨p.refusal x n,[]⟩)
  else if p.bO+1<x.v.pieces.length then ({ p with bO:=p.bO+1,words:=p.words++(exec x (x.v.pieces.getD p.bO (0,0)) n).2 },(exec x (x.v.pieces.getD p.bO (0,0)) n).1,none)
   else (p.done,(exec x (x.v.pieces.getD p.bO (0,0)) n).1,some ⟨0,p.words++(exec x (x.v.pieces.getD p.bO (0,0)) n).2⟩):=by
 unfold cF.step;rw [h]
theorem GG {p:cF} {x:aG} {n:aH} (h:p.refusal x n=0):n.down=false/\x.v.valid 5 (n.words.length / 8:Nat)=0:=by
 unfold cF.refusal at h;split at h
 ·omega
 rename_i aA;split at h
 ·omega
 rename_i aj;exact ⟨by simpa using aA,by simpa using aj⟩
theorem v_ {v:aF} {a b:Int} (h:v.valid a b=0):1<=v.count/\v.inside a b=true:=by
 unfold aF.valid at h;split at h
 ·omega
 rename_i d;split at h
 ·omega
 rename_i c;exact ⟨by omega,by simpa using c⟩
theorem KA {x:aG} {n:aH} (h:pc.2<=8) (a:1<=pc.2):(exec x pc n).2.length<=8:=by
 unfold exec;split
 ·simp [aH.read];omega
 split
 ·simp
 split
 ·simp
 split<;>simp
end
end Go.Proofs.YtmkljjbioomepaaGreat
