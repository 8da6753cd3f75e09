import Derived.Test.YtmkljjbioomepaaGreata05
import Derived.Test.YtmkljjbioomepaaGreata08
set_option linter.all false
namespace Go.Proofs.YtmkljjbioomepaaGreat
open Go.Proofs.Tryz Go.b8
variable {M:bB} {a:ax} {b a4 jN jx:Nat} {d:cL} {pc:Int×Int} {w:av}
section
structure bn where
 kind:Int
 node:Int
 at_:Int
 n:Int
 old:Int
 new:Int
 words:bR
 key:Int
 hd:Int
def bn.v (x:bn):a0:=⟨x.kind,x.node,x.at_,x.n,x.old,x.new,none,x.words.length,0,x.key,x.hd⟩
structure a_ where
 code:Int
 words:bR
structure fx where
 bw:Int
 inc:Int
 node:Int
 bN:List bn
 cu:Nat
 words:bR
def fx.refusal (p:fx) (x:bn) (n:bt):Int:=
 if n.down=true then 4 else if x.v.valid 5 (n.words.length / 8:Nat)≠0 then 2 else x.v.check p.inc (n.get (24+p.bw).toNat) (n.get 0) (n.get 1)
def exec (x:bn) (pc:Int×Int) (n:bt):bt×bR:=
 if x.kind=1 then (n,n.read pc.1 pc.2)
 else if x.kind=2 then (n.write pc.1.toNat ((x.words.drop (pc.1 - x.at_).toNat).take pc.2.toNat),[])
 else if x.kind=3 then (n.kS x.at_ x.old x.new,[n.get x.at_.toNat])
 else if x.kind=4 then (n.add x.at_ x.new,[n.get x.at_.toNat])
 else (n,[])
def fx.nr (p:fx):Prop:=∀ x xs,p.bN=x::xs->p.cu<x.v.pieces.length
def fx.done (p:fx):fx:={ p with bN:=p.bN.tail,cu:=0,words:=[] }
def fx.step (p:fx) (n:bt):fx×bt×Option a_:=
 match p.bN with
 | []=>(p,n,none)
 |x::_=>
  if p.refusal x n≠0 then (p.done,n,some ⟨p.refusal x n,[]⟩)
  else
   let r:=exec x (x.v.pieces.getD p.cu (0,0)) n
   if p.cu+1<x.v.pieces.length then ({ p with cu:=p.cu+1,words:=p.words++r.2 },r.1,none)
   else (p.done,r.1,some ⟨0,p.words++r.2⟩)
structure ei (M:bB) (w:av) (v:a0) (x:bn):Prop where
 eq:v={ x.v with Words:=v.Words,eg:=v.eg }
 rd:bW w v.Words (us x.words)
 nil:v.Words=none->x.words=[]
 off:x.words=[]\/kR M v.Words
 wf:∀ u ∈ x.words,dp u
 new:dp x.new
 old:dp x.old
 key:dp x.key
 hd:gF x.hd
 cap:v.ey<=v.eg
 sU:x.words.length<=1000000
theorem ei.aO {M M':bB} {w w':av} {v:a0} {x:bn} (h:ei M w v x) (J:ay M w w') (c1:∀ k,k<w.heap.size->M' k->M k):ei M' w' v x:=by
 refine ⟨h.eq,h.rd.aO J (h.off.imp (λe=>by rw [e];rfl) id),h.nil,?_,h.wf,h.new,h.old,h.key,h.hd,h.cap,h.sU⟩;rcases h.off with aq | aq
 ·exact .inl aq
 ·by_cases ao:x.words=[]
  ·exact .inl ao
  ·refine .inr ?_;cases bc:v.Words with
   |none=>trivial
   |some a=>rw [bc] at aq;have aA:=h.rd;rw [bc] at aA;intro hm;exact aq (c1 _ (aA.lt (by simpa [us] using ao)) hm)
theorem ei.count {M:bB} {w:av} {v:a0} {x:bn} (h:ei M w v x):v.count=x.v.count:=by rw [h.eq];rfl
theorem ei.valid {M:bB} {w:av} {v:a0} {x:bn} (h:ei M w v x) (a b:Int):v.valid a b=x.v.valid a b:=by rw [h.eq];rfl
theorem ei.check {M:bB} {w:av} {v:a0} {x:bn} (h:ei M w v x) (a b c d:Int):v.check a b c d=x.v.check a b c d:=by rw [h.eq];rfl
theorem ei.pieces {M:bB} {w:av} {v:a0} {x:bn} (h:ei M w v x):v.pieces=x.v.pieces:=by rw [h.eq];rfl
theorem ei.at_ {M:bB} {w:av} {v:a0} {x:bn} (h:ei M w v x):v.cY=x.at_:=by rw [h.eq];rfl
theorem ei.kind {M:bB} {w:av} {v:a0} {x:bn} (h:ei M w v x):v.Kind=x.kind:=by rw [h.eq];rfl
structure gh where
 bw:Int
 inc:Int
 node:Int
 raw:List a0
 bN:List bn
 e5:ax
 jQ:Nat
 cu:Nat
 words:bR
 fw:ax
 h0:Nat
def gh.pure (p:gh):fx:=⟨p.bw,p.inc,p.node,p.bN,p.cu,p.words⟩
def gh.cells (p:gh):aH:=[.int .i64 p.bw,.int .i64 p.inc,.int .i64 p.node,.slice p.e5 p.bN.length p.jQ,.int .i64 p.cu,.slice p.fw p.words.length p.h0]
abbrev Dj:TypeId:=139
abbrev Dl:TypeId:=30
def hp (M:bB) (w:av) (raw:List a0) (xs:List bn):Prop:=raw.length=xs.length/\∀ (i:Nat) (v:a0) (x:bn),raw[i]?=some v->xs[i]?=some x->ei M w v x
theorem hp.aO {M M':bB} {w w':av} {raw:List a0} {xs:List bn} (h:hp M w raw xs) (J:ay M w w') (c1:∀ k,k<w.heap.size->M' k->M k):hp M' w' raw xs:=
 ⟨h.1,λi v x aw ao=>(h.2 i v x aw ao).aO J c1⟩
theorem hp.tail {v:a0} {raw:List a0} {x:bn} {xs:List bn} (h:hp M w (v::raw) (x::xs)):hp M w raw xs:=
 ⟨by simpa using h.1,λi v x aw ao=>h.2 (i+1) v x (by simpa using aw) (by simpa using ao)⟩
def gh.mut (b:Nat) (p:gh) (k:Nat):Prop:=k=b\/a7 p.e5 k\/a7 p.fw k
structure gy (M:bB) (w:av) (b:Nat) (p:gh):Prop where
 an:aF w b p.cells Dj
 own:bu w d8 9 p.e5 p.bN.length p.jQ (gG p.raw).flatten
 rI:bu w Dl 1 p.fw p.words.length p.h0 (us p.words)
 vs:hp M w p.raw p.bN
 bw:0<=p.bw/\p.bw<6
 inc:0<=p.inc/\p.inc<=59
 node:0<=p.node/\p.node<5
 len:p.bN.length<=1024
 sU:p.words.length<=8 * p.cu
 w5:∀ x ∈ p.bN,x.v.valid 5 256=0/\x.node=p.node
 ex:match p.bN with
  | []=>p.cu=0
  |x::_=>p.cu<=x.v.pieces.length
 H5:∀ u ∈ p.words,dp u
 oT:∀ k,p.mut b k->M k
theorem gy.aO {M M':bB} {w w':av} {b:Nat} {p:gh} (h:gy M w b p) (J:ay M' w w') (ar:∀ k,p.mut b k->¬ M' k) (c1:∀ k,M' k->M k):gy M w' b p:=
 ⟨J.an h.an (ar b (.inl rfl)),h.own.aO J λk ak=>ar k (.inr (.inl ak)),h.rI.aO J λk ak=>ar k (.inr (.inr ak)),h.vs.aO (J.mono λi _=>c1 i) λ_ _ h=>h,
  h.bw,h.inc,h.node,h.len,h.sU,h.w5,h.ex,h.H5,h.oT⟩
theorem gy.new {w':av} {p:gh} (h:gy M w b p) (J:ai w w'):gy M w' b p:=h.aO J (λ_ _ aJ=>aJ) (λ_ aJ=>aJ.elim)
theorem gy.wP {M':bB} {p:gh} (h:gy M w b p) (c1:∀ k,k<w.heap.size->M' k->M k) (ar:∀ k,p.mut b k->M' k):gy M' w b p:=
 ⟨h.an,h.own,h.rI,h.vs.aO (ay.refl _ _) c1,h.bw,h.inc,h.node,h.len,h.sU,h.w5,h.ex,h.H5,ar⟩
theorem Qs {p:gh} (h:gy M w b p):bK 45 [.pointer (some ⟨b,0,none⟩)] w λv w'=>v=.int .i64 p.bN.length/\w'=w:=by refine bO Tryz.func45 ?_;rw [pu];exact ⟨_,_,_,h.an.cell rfl,rfl,rfl⟩
theorem aim {p:gh} (h:gy M w b p):bK 67 [.pointer (some ⟨b,0,none⟩)] w λv w'=>v=.int .i64 p.bw/\w'=w:=by refine bO Tryz.func67 ?_;rw [aw5];exact ⟨_,h.an.cell rfl,rfl,rfl⟩
theorem YY {p:gh} (h:gy M w b p):bK 68 [.pointer (some ⟨b,0,none⟩)] w λv w'=>v=.int .i64 p.node/\w'=w:=by refine bO Tryz.func68 ?_;rw [axM];exact ⟨_,h.an.cell rfl,rfl,rfl⟩
theorem amI {c i n:Int} (ab:0<=c/\c<6) (aD:0<=i/\i<=59) (aj:0<=n/\n<5) :
  bK 80 [.int .i64 c,.int .i64 i,.int .i64 n] w λv w'=>v=.tuple #[.pointer (some ⟨w.heap.size,0,none⟩),.int .i64 0]/\(∀ M:bB,M w.heap.size->gy M w' w.heap.size ⟨c,i,n,[],[],none,0,0,[],none,0⟩)/\ai w w'/\w'.heap.size=w.heap.size+1:=by
 refine bO Tryz.func80 ?_;rw [aBo];refine bL (λh=>by omega) (λ_=>bL (λh=>by omega) (λ_=>bL (λh=>by omega) (λ_=>bL (λh=>by omega) (λ_=>bL (λh=>by omega) (λ_=>bL (λh=>by omega) (λ_=>?_))))))
 rintro b1 w1 rfl rfl;refine ⟨rfl,λM c1=>?_,mE _ _,by simp⟩;refine ⟨Cj w [.int .i64 c,.int .i64 i,.int .i64 n,.slice none 0 0,.int .i64 0,.slice none 0 0] Dj,bu.nil _ _ _,bu.nil _ _ _,⟨rfl,λi v x aw=>by simp at aw⟩,ab,aD,aj,by simp,by simp,by simp,rfl,by simp,?_⟩;rintro k (rfl | ⟨o,aq⟩ | ⟨o,aq⟩)
 ·exact c1
 ·cases aq
 ·cases aq
theorem agR (vs:List a0):∀ u ∈ (gG vs).flatten,single u=true:=by intro u hu;simp only [gG,A4,eQ] at hu;obtain ⟨r,⟨v,_,rfl⟩,hu⟩:=hu;exact v.single u hu
theorem aCM (vs:List a0):(gG vs).flatten.length=vs.length * 9:=by rw [vP (Lx vs)];simp [gG]
theorem ag8 {n c:Nat} {vs:List a0} (au:vs.length=n) (aA:bW w a (gG vs).flatten) (ak:n<=1000000) (aj:a=none->n=0) :
  bK 137 [.slice a n c] w λv w'=>∃ cB cap,v=.slice cB n cap/\Iv w w' d8 9 a cB n cap (gG vs).flatten:=by
 refine bO Tryz.func137 ?_;rw [auC];obtain ⟨i,aD,aE,cr,gm⟩:=j5 (T:=d8) (z:=.agg #[.int .i64 0,.int .i64 0,.int .i64 0,.int .i64 0,.int .u64 0,.int .u64 0,.slice none 0 0,.int .u64 0,.int .i64 0]) (n:=9) (m:=88) (by kernel_rfl);cases a with
 |none=>
  refine g8 rfl ⟨none,0,by rw [aj rfl],ay.refl _ _,?_,?_,by simp⟩
  ·rw [aj rfl] at au ⊢;rw [jR au];exact bu.nil _ _ _
  ·rintro k ⟨o,aq⟩;cases aq
 |some a=>refine eX rfl ?_;rintro b1 w1 rfl rfl;obtain ⟨cB,bU,w',fV,ab⟩:=Qn (t:=125) (ty:=125) (n:=n) (c:=c) (w:=w) (a:=a) (xs:=(gG vs).flatten) Tryz.underlying125 aD aE (by rw [cr];rfl) (by omega) (by rw [aCM,au,cr]) aA (agR vs) (by omega) (by rw [gm];omega);exact ⟨cB,n,bU,w',fV,cB,bU,rfl,by rw [cr] at ab;exact ab⟩
theorem alv {v:a0} {ws:bR} (aA:bW w v.Words (us ws)) (au:ws.length=v.ey) (ak:v.ey<=1000000) (aj:v.Words=none->v.ey=0) :
  bK 134 [v.val] w λx w'=>∃ cB cap,x=a0.val { v with Words:=cB,eg:=cap }/\ai w w'/\bu w' Dl 1 cB v.ey cap (us ws)/\(∀ k,a7 cB k->w.heap.size<=k)/\(cB=none↔v.Words=none):=by
 refine bO Tryz.func134 ?_;refine Eq.mpr (azl v.Kind v.Node v.cY v.N v.Old v.ai v.Words v.ey v.eg v.Key v.dJ w _) ?_;rintro b1 w1 bA br aP aS cv cG;obtain ⟨ao,a1⟩:=b4 bA br;obtain ⟨aE,a5⟩:=b4 cv cG;have fI:w1.heap.size=w.heap.size+1:=by rw [br];simp
 have jc:aS.heap.size=w.heap.size+2:=by rw [cG];simp [fI]
 have hg:=ai.an a5 ao;have jH:Go.b8.ai w aS:=a1.new a5;clear br cG ao a1 a5;refine ⟨_,_,_,hg.cell rfl,?_⟩;refine aR (VY (by rw [m9,au]) (aA.new jH) (Cl ws) (by omega) aj) ?_;rintro x aY ⟨cB,cap,rfl,J,aq,aJ,aD⟩;refine ⟨_,_,_,rfl,⟨_,(ai.an J hg).cell rfl⟩,(ai.an J hg).frozen,?_⟩;intro bZ eE;have Ai:aF bZ b1 (a0.cells { v with Words:=cB,eg:=cap }) d8:=by rw [eE];exact (ai.an J hg).setCell _
 have dk:=(ai.an J aE).afz (b':=b1) (i:=6) (by omega) (.slice cB v.ey cap);rw [<-eE] at dk;have dv:ay (λk=>k=b1) aY bZ:=by rw [eE];exact iu _ _ _ _
 refine py (v:={ v with Words:=cB,eg:=cap }) (l4 Ai) ⟨kA (vs:=a0.cells { v with Words:=cB,eg:=cap }) dk (by simp [a0.cells]) (a0.single _),?_⟩;intro cK eO;have dL:aF cK aP (a0.cells { v with Words:=cB,eg:=cap }) d8:=by rw [eO];have:=dk.dO (o:=0) (i:=0) (vs:=a0.cells { v with Words:=cB,eg:=cap });rw [Cf (by simp [a0.cells])] at this;exact this
 have g_:ay (λk=>k=aP) bZ cK:=by rw [eO];exact nI _ _ _ _ _
 refine py (v:={ v with Words:=cB,eg:=cap }) (l4 dL) ⟨rfl,cB,cap,rfl,?_,?_,λk dQ=>?_,aD⟩
 ·exact ((jH.new J).trans dv (λi pR he=>by omega)).trans g_ (λi pR he=>by omega)
 ·refine (aq.aO dv ?_).aO g_ ?_
  ·intro k ak he;have:=aJ k ak;omega
  ·intro k ak he;have:=aJ k ak;omega
 ·have:=aJ k dQ;omega
theorem RO {n:bt} (h:gY w b a4 n) (hu:n.down=false) (at_:Int) (aN:0<=at_) (af:at_<100):bK 135 [.pointer (some ⟨b,0,none⟩),.int .i64 at_] w λv w'=>v=.int .u64 (n.get at_.toNat)/\ai w w':=by
 refine bO Tryz.func135 ?_;rw [azp];refine aR (MR h at_ 1) ?_;intro v w1 aA;rcases aA with ⟨ab,rfl,rfl⟩ | ⟨ab,a,cap,rfl,aj,aq,aJ⟩
 ·refine ⟨_,_,_,_,rfl,fX (λ_=>⟨?_,ay.refl _ _⟩) (λh=>absurd h ab)⟩;have:(n.words.length:Int)<=at_:=by
   unfold bt.iM at ab;split at ab
   ·omega
   ·simp [hu] at ab
  rw [bt.get,gd,ug (by omega)];rfl
 ·refine ⟨_,_,_,_,rfl,fX (λh=>absurd rfl h) (λ_=>?_)⟩
  rcases aq.2 with ⟨ao,_⟩ | ⟨g,cur,ao,_⟩
  ·cases ao
  simp only [iX] at ao;subst ao;obtain ⟨b1,aP,bT,_⟩:=bt.Gm ab;refine hc (by omega) (by simp) ⟨n.get at_.toNat,?_,rfl,aj⟩;refine aq.rd.cell (It ?_);simp only [bt.read];rw [A3,if_pos (by simp),uf];simpa using bt.get_some (n:=n) (i:=at_.toNat) (by omega)
theorem ain {p:gh} {n:bt} {v:a0} {x:bn} (h:gy M w b p) (aj:gY w jN jx n) (aw:ei M w v x) :
  bK 96 [.pointer (some ⟨b,0,none⟩),v.val,.pointer (some ⟨jN,0,none⟩)] w λr w'=>r=.int .i64 (p.pure.refusal x n)/\ai w w':=by
 refine bO Tryz.func96 ?_;refine Eq.mpr (aw_ b v.Kind v.Node v.cY v.N v.Old v.ai v.Words v.ey v.eg v.Key v.dJ jN w _) ?_;rintro b1 w1 bA br;obtain ⟨ao,a1⟩:=b4 bA br;clear br;refine aR (aaH (aj.new a1)) ?_;rintro r aS ⟨rfl,rfl⟩;refine ⟨_,rfl,ht (λaC=>⟨?_,a1⟩) (λaC=>?_)⟩
 ·have:n.down=true:=by simpa using aC
  simp [fx.refusal,this]
 have rk:n.down=false:=by simpa using aC
 intro aY dY;have ek:Go.b8.ai aS aY:=by rw [dY];exact eh _
 have Ew:aF aY b1 v.cells d8:=ai.an ek ao;have uT:=a1.new ek;refine ⟨λu=>Go.b8.ai aY u,ay.refl _ _,wU (λu hu=>l4 (ai.an hu Ew)) ?_⟩;refine aR (Qq (aj.new uT)) ?_;rintro r bZ ⟨rfl,rfl⟩;refine ⟨_,rfl,ay.refl _ _,?_⟩;refine aR (Rt _ v 5 _) ?_;rintro r cK ⟨rfl,g_⟩;have Pp:=ai.an g_ Ew;have B1:=uT.new g_;refine ⟨_,rfl,fX (λil=>⟨?_,B1⟩) (λil=>?_)⟩
 ·rw [aw.valid] at il;rw [fx.refusal,if_neg (by simp [rk]),if_pos il]
 have c7:=h.bw;refine ⟨_,((h.new B1).an).cell rfl,?_⟩;dsimp only;rw [cn (x:=24+p.bw) (by omega) (by omega)];refine aR (RO (aj.new B1) rk (24+p.bw) (by omega) (by omega)) ?_;rintro r dh ⟨rfl,eu⟩;refine ⟨_,rfl,?_⟩;intro cR kj;have eD:Go.b8.ai dh cR:=by rw [kj];exact eh _
 have OY:=(B1.new eu).new eD;have atT:=ai.an eD (ai.an eu Pp);refine ⟨λu=>Go.b8.ai cR u,ay.refl _ _,wU (λu hu=>l4 (ai.an hu atT)) ⟨_,λu hu=>((h.new (OY.new hu)).an).cell rfl,?_⟩⟩;refine aR (RO (aj.new OY) rk 0 (by omega) (by omega)) ?_;rintro r e6 ⟨rfl,fe⟩;refine ⟨_,rfl,fe,?_⟩;refine aR (RO (aj.new (OY.new fe)) rk 1 (by omega) (by omega)) ?_;rintro r hD ⟨rfl,fK⟩;refine ⟨_,rfl,fe.new fK,?_⟩;have adz:¬ v.valid 5 (n.words.length / 8:Nat)≠0:=by omega
 have J7:v.inside 5 (n.words.length / 8:Nat)=true:=by
  unfold a0.valid at il;cases gE:v.inside 5 (n.words.length / 8:Nat) with
  |true=>rfl
  |false=>rw [gE] at il;simp at il;split at il<;>omega
 have aD:=Ce J7;have acm:=h.inc;have aqA:=aw.hd;refine aR (alu _ v p.inc _ _ _ (by omega) (by omega) (by omega) (by rw [aw.eq];exact aqA.2)) ?_;rintro r hZ ⟨rfl,D5⟩;refine ⟨_,rfl,?_,((OY.new fe).new fK).new D5⟩;rw [aw.valid] at il;rw [aw.check];rw [fx.refusal,if_neg (by simp [rk]),if_neg (λh=>h il)];rfl
def akv (M:bB) (jN jx:Nat) (n:bt) (x:bn) (pc:Int×Int) (w:av) (r:bx) (w':av):Prop:=
 ∃ a cap,r=.slice a (exec x pc n).2.length cap/\bW w' a (us (exec x pc n).2)/\(∀ k,a7 a k->w.heap.size<=k)/\gY w' jN jx (exec x pc n).1/\ay (λk=>k=jx) w w'
theorem alw {n:bt} (h:gY w b a4 n) (i c:Int):∀ u ∈ n.read i c,dp u:=by intro u hu;exact h.wf u (A5 (Im hu))
theorem alx {n:bt} (h:gY w b a4 n) (x:bn) (pc:Int×Int):∀ u ∈ (exec x pc n).2,dp u:=by
 intro u hu;unfold exec at hu;split at hu
 ·exact alw h _ _ u hu
 split at hu
 ·simp at hu
 split at hu
 ·simp at hu;subst hu;exact h.V6 _
 split at hu
 ·simp at hu;subst hu;exact h.V6 _
 ·simp at hu
theorem ai_ {n:bt} {v:a0} {x:bn} (aj:gY w jN jx n) (rk:n.down=false) (aw:ei M w v x) (pU:x.words=[]\/kR (λk=>k=jx) v.Words)
  (hV:x.at_<=pc.1) (nm:1<=pc.2) (hr:pc.2<=8) (ry:pc.1+pc.2<=x.at_+x.v.count) (aN:0<=x.at_) (af:x.at_+x.v.count<=n.words.length) :
  bK 99 [v.val,.agg #[.int .i64 pc.1,.int .i64 pc.2],.pointer (some ⟨jN,0,none⟩)] w (akv M jN jx n x pc w):=by
 have hlen:=aj.len;refine bO Tryz.func99 ?_;refine Eq.mpr (ayE v.Kind v.Node v.cY v.N v.Old v.ai v.Words v.ey v.eg v.Key v.dJ pc.1 pc.2 jN w _) ?_;rintro b1 w1 bA br aP aS cv cG;obtain ⟨ao,a1⟩:=b4 bA br;obtain ⟨aE,a5⟩:=b4 cv cG;have hg:=ai.an a5 ao;have jH:Go.b8.ai w aS:=a1.new a5;have aX:w.heap.size<=aS.heap.size:=jH.size;clear br cG ao a1 a5;have kE:=aj.new jH;have ta:=aw.kind;have r2:=aw.at_;refine ⟨_,hg.cell rfl,gX (λJ=>?_) (λJ=>gX (λeN=>?_) (λeN=>gX (λek=>?_) (λek=>gX (λdv=>?_) (λdv=>?_))))⟩
 ·
  rw [ta] at J;have s':x.v.count=x.n:=by simp [a0.count,bn.v,J]
  have ab:n.iM pc.1 pc.2=0:=by unfold bt.iM;rw [if_neg (by omega),if_neg (by simp [rk])]
  refine ⟨_,aE.cell rfl,_,aE.cell rfl,?_⟩;refine aR (MR kE pc.1 pc.2) ?_;intro r aY aA;rcases aA with ⟨kd,_⟩ | ⟨_,a,cap,rfl,ek,aq,aJ⟩
  ·exact absurd ab kd
  have ex:exec x pc n=(n,n.read pc.1 pc.2):=by simp [exec,J]
  refine ⟨_,_,_,_,rfl,some a,cap,?_,?_,?_,?_,?_⟩
  ·rw [ex];simp only [bt.Qf ab]
  ·rw [ex];exact aq.rd
  ·rintro k ⟨o,he⟩;simp at he;rw [he] at aJ;exact ud aX aJ
  ·rw [ex];exact kE.new ek
  ·exact ay.db (jH.new ek)
 ·
  rw [ta] at J eN;have s':x.v.count=x.words.length:=by simp [a0.count,bn.v,eN]
  have ex:exec x pc n=(n.write pc.1.toNat ((x.words.drop (pc.1 - x.at_).toNat).take pc.2.toNat),[]):=by simp [exec,eN]
  refine ⟨_,aE.cell rfl,_,hg.cell rfl,?_⟩;rintro bZ eE;have dv:Go.b8.ai aS bZ:=by rw [eE];exact eh _
  clear eE;have dk:=ai.an dv aE;have Ai:=ai.an dv hg;have Ok:=kE.new dv;have sm:=jH.new dv;refine ⟨λu=>ay (λk=>k=jx) bZ u,ay.refl _ _,_,λu hu=>(hu.an dk (dk.ne Ok.words (by decide))).cell rfl,_,_,_,λu hu=>(hu.an Ai (Ai.ne Ok.words (by decide))).cell rfl,_,λu hu=>(hu.an dk (dk.ne Ok.words (by decide))).cell rfl,?_⟩;have bY:IntKind.i64.wrap (pc.1 - v.cY)=pc.1 - x.at_:=by rw [r2,cn (by omega) (by omega)]
  have bg:IntKind.i64.wrap (pc.1 - x.at_+pc.2)=pc.1 - x.at_+pc.2:=cn (by omega) (by omega);dsimp only;rw [bY,bg];have ps:v.ey=x.words.length:=by rw [aw.eq];rfl
  have cj:x.words≠[]:=by intro ab;rw [ab] at s';simp at s' <;> omega
  have dw:=aw.rd.new sm;have atQ:v.ey<=v.eg:=aw.cap;rcases dw with aA | ⟨sb,so,atj,jl⟩
  ·exact absurd (by simpa [us] using aA) cj
  rw [atj];refine sB (by omega) (by omega) (by omega) (by omega) atQ ?_;intro a bc;rcases bc with rfl | ⟨qA,_⟩
  ·have acz:((x.words.drop (pc.1 - x.at_).toNat).take pc.2.toNat).length=(pc.1 - x.at_+pc.2).toNat - (pc.1 - x.at_).toNat:=by simp;omega
   have Ad:bW bZ (some ⟨sb,so+(pc.1 - x.at_).toNat * 1,none⟩) (us ((x.words.drop (pc.1 - x.at_).toNat).take pc.2.toNat)):=by rw [<-Rr,<-Rs,Nat.mul_one];have:bW bZ (some ⟨sb,so,none⟩) (us x.words):=.inr ⟨sb,so,rfl,jl⟩;exact (this.drop _).take _
   rw [<-acz];refine aR (YX Ok pc.1 Ad (λu hu=>aw.wf u (A5 (Im hu))) (by simp)) ?_;rintro r cK ⟨rfl,abx,g_⟩;have ab:n.iM pc.1 ((x.words.drop (pc.1 - x.at_).toNat).take pc.2.toNat).length=0:=by unfold bt.iM;rw [if_neg (by rw [acz];omega),if_neg (by simp [rk])]
   rw [if_pos ab] at abx;refine ⟨_,rfl,g_,none,0,?_,?_,?_,?_,?_⟩
   ·rw [ex];rfl
   ·rw [ex];exact bW.nil _ _
   ·rintro k ⟨o,he⟩;cases he
   ·rw [ex];exact abx
   ·exact (ay.db sm).trans g_ λi _ h=>h
  ·omega
 ·
  rw [ta] at ek;have s':x.v.count=1:=by simp [a0.count,bn.v,ek]
  have ex:exec x pc n=(n.kS x.at_ x.old x.new,[n.get x.at_.toNat]):=by simp [exec,ek]
  have apu:v.Old=x.old:=by rw [aw.eq];rfl
  have SM:v.ai=x.new:=by rw [aw.eq];rfl
  refine ⟨_,hg.cell rfl,_,hg.cell rfl,_,hg.cell rfl,?_⟩;rw [r2,apu,SM];refine aR (aoB kE x.at_ x.old x.new aw.new.1 aw.new.2) ?_;rintro r dh ⟨rfl,JB,eu⟩;have ab:n.iM x.at_ 1=0:=by unfold bt.iM;rw [if_neg (by omega),if_neg (by simp [rk])]
  rw [if_pos ab] at JB;rw [if_pos ab];refine ⟨_,_,rfl,?_⟩;intro bT cR ej kj;obtain ⟨jt,eD⟩:=b4 ej kj;have yB:=eu.size;refine ⟨some ⟨bT,0,none⟩,1,?_,?_,?_,?_,?_⟩
  ·rw [ex];rfl
  ·rw [ex];exact jk jt rfl
  ·rintro k ⟨o,he⟩;simp at he <;> omega
  ·rw [ex];exact JB.new eD
  ·exact ((ay.db jH).trans eu λi _ h=>h).new eD
 ·
  rw [ta] at dv;have s':x.v.count=1:=by simp [a0.count,bn.v,dv]
  have ex:exec x pc n=(n.add x.at_ x.new,[n.get x.at_.toNat]):=by simp [exec,dv]
  have SM:v.ai=x.new:=by rw [aw.eq];rfl
  refine ⟨_,hg.cell rfl,_,hg.cell rfl,?_⟩;rw [r2,SM];refine aR (aoC kE x.at_ x.new) ?_;rintro r dh ⟨rfl,JB,eu⟩;have ab:n.iM x.at_ 1=0:=by unfold bt.iM;rw [if_neg (by omega),if_neg (by simp [rk])]
  rw [if_pos ab] at JB;rw [if_pos ab];refine ⟨_,_,rfl,?_⟩;intro bT cR ej kj;obtain ⟨jt,eD⟩:=b4 ej kj;have yB:=eu.size;refine ⟨some ⟨bT,0,none⟩,1,?_,?_,?_,?_,?_⟩
  ·rw [ex];rfl
  ·rw [ex];exact jk jt rfl
  ·rintro k ⟨o,he⟩;simp at he <;> omega
  ·rw [ex];exact JB.new eD
  ·exact ((ay.db jH).trans eu λi _ h=>h).new eD
 ·rw [ta] at J eN ek dv;have ex:exec x pc n=(n,[]):=by simp [exec,J,eN,ek,dv]
  refine ⟨none,0,?_,?_,?_,?_,ay.db jH⟩
  ·rw [ex];rfl
  ·rw [ex];exact bW.nil _ _
  ·rintro k ⟨o,he⟩;cases he
  ·rw [ex];exact kE
def IX (M M':bB) (w:av) (awd:bB):Prop:=∀ k,M' k->(k<w.heap.size/\M k)\/awd k
theorem aF.pA {cs mY:aH} {T er:TypeId} (h:aF w b cs T) (gH:aF w b mY er):T=er:=(h.uniq gH).2
def gh.done (p:gh) (e5:ax) (jQ:Nat):gh:={ p with raw:=p.raw.tail,bN:=p.bN.tail,e5:=e5,jQ:=jQ,cu:=0,words:=[],fw:=none,h0:=0 }
theorem ahZ (v:a0) (vs:List a0):(gG (v::vs)).flatten.drop 9=(gG vs).flatten:=by simp [gG,a0.cells]
theorem W7 {p:gh} (h:gy M w b p) (cj:p.bN≠[]) :
  bK 97 [.pointer (some ⟨b,0,none⟩)] w λr w'=>r=.tuple #[]/\∃ e5 jQ,(∀ M':bB,IX M M' w (a7 e5)->(∀ k,(p.done e5 jQ).mut b k->M' k)->gy M' w' b (p.done e5 jQ))/\ay (λk=>k=b) w w'/\(∀ k,a7 e5 k->w.heap.size<=k):=by
 refine bO Tryz.func97 ?_;rw [awj];obtain ⟨x,xs,tB⟩:∃ x xs,p.bN=x::xs:=by
  cases ar:p.bN with
  |nil=>exact absurd ar cj
  |cons x xs=>exact ⟨x,xs,rfl⟩
 obtain ⟨v,vs,eb⟩:∃ v vs,p.raw=v::vs:=by
  cases ar:p.raw with
  |nil=>have:=h.vs.1;rw [ar,tB] at this;simp at this
  |cons v vs=>exact ⟨v,vs,rfl⟩
 have au:=h.len;have hlen:p.bN.length=vs.length+1:=by have:=h.vs.1;rw [eb] at this;simpa using this.symm
 have hle:=h.own.le;have ak:=h.an;refine ⟨_,_,_,ak.cell rfl,?_⟩;rcases h.own.2 with ⟨_,aE,_⟩ | ⟨g,cur,j4,a',BY,BM,dG,Af⟩
 ·rw [hlen] at aE;omega
 rw [j4];refine sB (by omega) (by omega) (by omega) (by omega) hle ?_;intro a bc;have dw:bW w a (gG vs).flatten:=by
  rcases bc with rfl | ⟨he,rfl⟩
  ·have af:=h.own.rd;rw [j4] at af;have:=af.drop 9;rw [eb,ahZ] at this;exact this
  ·have:vs=[]:=jR (by omega);rw [this];exact bW.nil _ _
 have bY:((p.bN.length:Int).toNat - (1:Int).toNat)=vs.length:=by omega
 rw [bY];refine aR (ag8 rfl dw (by omega) (by intro ab;rcases bc with rfl | ⟨_,rfl⟩<;>cases ab)) ?_;rintro r w1 ⟨cB,cap,rfl,J,aq,aJ,aD⟩;have bA:=ai.an J ak;refine ⟨_,_,_,rfl,⟨_,bA.cell rfl⟩,bA.frozen,?_⟩;rintro aS rfl;have cv:=bA.setCell (i:=3) (.slice cB vs.length cap);refine ⟨⟨_,cv.cell rfl⟩,cv.frozen,?_⟩;rintro aY rfl;have ej:=cv.setCell (i:=4) (.int .i64 0);refine ⟨⟨_,ej.cell rfl⟩,ej.frozen,?_⟩;rintro bZ rfl;have iO:=ej.setCell (i:=5) (.slice none 0 0);have fo:ay (λk=>k=b) w (((w1.setCell ⟨b,3,none⟩ (.slice cB vs.length cap)).setCell ⟨b,4,none⟩ (.int .i64 0)).setCell ⟨b,5,none⟩ (.slice none 0 0)):=
  (((ay.db (M:=λk=>k=b) J).setCell (.inl rfl) _).setCell (.inl rfl) _).setCell (.inl rfl) _
 have hk:ay (λk=>k=b) w1 (((w1.setCell ⟨b,3,none⟩ (.slice cB vs.length cap)).setCell ⟨b,4,none⟩ (.int .i64 0)).setCell ⟨b,5,none⟩ (.slice none 0 0)):=
  (((ay.refl (λk=>k=b) _).setCell (.inl rfl) _).setCell (.inl rfl) _).setCell (.inl rfl) _
 refine ⟨rfl,cB,cap,λM' uF GW=>?_,fo,aJ⟩;have lY:p.bN.tail.length=vs.length:=by rw [tB];rw [tB] at hlen;simpa using hlen
 have mg:=ak.lt;refine ⟨?_,?_,bu.nil _ _ _,?_,h.bw,h.inc,h.node,?_,by simp [gh.done],?_,?_,by simp [gh.done],GW⟩
 ·have e:(p.done cB cap).cells=((p.cells.set 3 (.slice cB vs.length cap)).set 4 (.int .i64 0)).set 5 (.slice none 0 0):=by simp only [gh.done,gh.cells,lY];rfl
  rw [e];exact iO
 ·show bu _ d8 9 cB p.bN.tail.length cap (gG p.raw.tail).flatten;rw [lY,eb];exact aq.aO hk λk pg he=>by have:=aJ k pg;omega
 ·show hp M' _ p.raw.tail p.bN.tail;rw [eb,tB];have af:=h.vs;rw [eb,tB] at af;refine af.tail.aO (fo.mono λk _ e=>h.oT k (.inl e)) λk aK hm=>?_
  rcases uF k hm with hm | hm
  ·exact hm.2
  ·have:=aJ k hm;omega
 ·show p.bN.tail.length<=1024;omega
 ·intro y az;exact h.w5 y (Il az)
 ·show match p.bN.tail with | []=>(0:Nat)=0 | x::_=>0<=x.v.pieces.length
  cases aZ:p.bN.tail with
  |nil=>rfl
  |cons y ys=>exact Md _
def gh.post (p:gh) (v:a0) (x:bn) (e5:ax) (jQ:Nat):gh:={ p with raw:=p.raw++[v],bN:=p.bN++[x],e5:=e5,jQ:=jQ }
theorem agr (a b:List a0):(gG (a++b)).flatten=(gG a).flatten++(gG b).flatten:=by simp [gG]
theorem ah0 {v:a0} {a b:Int} (h:v.valid a b=0):v.valid 5 256=0:=by
 unfold a0.valid at *;split at h
 ·omega
 rename_i ab;split at h
 ·omega
 rename_i aD;split at h
 ·omega
 rename_i au;have pR:v.inside a b=true:=by simpa using aD
 have:=Ce pR;have c9:v.inside 5 256=true:=by unfold a0.inside;exact decide_eq_true (by omega)
 rw [if_neg ab,if_neg (by simp [c9]),if_neg au]
theorem aly {alS:bB} {p:gh} {v:a0} {x:bn} {lines:Int} (h:gy M w b p) (aw:ei alS w v x) (il:x.v.valid 5 lines=0) (jb:x.node=p.node) (hlen:p.bN.length<1024) :
  bK 95 [.pointer (some ⟨b,0,none⟩),v.val,.int .i64 lines] w λr w'=>r=.int .i64 0/\∃ bX e5 jQ,
   (∀ M':bB,IX M M' w (a7 e5)->(∀ k,(p.post bX x e5 jQ).mut b k->M' k)->gy M' w' b (p.post bX x e5 jQ))/\ay (λk=>k=b\/a7 p.e5 k) w w'/\(e5=p.e5\/∀ k,a7 e5 k->w.heap.size<=k):=by
 refine bO Tryz.func95 ?_;refine Eq.mpr (axO b v.Kind v.Node v.cY v.N v.Old v.ai v.Words v.ey v.eg v.Key v.dJ lines w _) ?_;rintro b1 w1 bA br;obtain ⟨ao,a1⟩:=b4 bA br;clear br;refine py (v:=v) (l4 ao) ?_;refine aR (Rt _ v 5 lines) ?_;rintro r aS ⟨rfl,eN⟩;have hg:=ai.an eN ao;have asj:=a1.new eN;refine ⟨_,rfl,fX (λab=>absurd (by rw [aw.valid];exact il) ab) (λ_=>?_)⟩
 intro aY dY;have ek:Go.b8.ai aS aY:=by rw [dY];exact eh _
 have Ew:aF aY b1 v.cells d8:=ai.an ek hg;have uT:=asj.new ek;have g':=h.new uT;clear dY;refine ⟨λu=>Go.b8.ai aY u,ay.refl _ _,_,λu hu=>(ai.an hu Ew).cell rfl,_,λu hu=>((g'.new hu).an).cell rfl,fX (λab=>absurd (by rw [aw.eq];exact jb) ab) (λ_=>?_)⟩
 refine ⟨_,_,_,g'.an.cell rfl,bL (λab=>by omega) (λ_=>?_)⟩
 intro bZ eE;have dv:Go.b8.ai aY bZ:=by rw [eE];exact eh _
 have Ai:aF bZ b1 v.cells d8:=ai.an dv Ew;have sm:=uT.new dv;have oO:=g'.new dv;clear eE;have UZ:∀ k,a7 p.e5 k->k<w.heap.size:=λk J=>h.own.lt J
 have Tl:¬ a7 p.e5 b:=by
  intro ab;rcases h.own.2 with ⟨he,_⟩ | ⟨g,cur,he,a',_⟩
  ·obtain ⟨o,aq⟩:=ab;rw [he] at aq;cases aq
  ·obtain ⟨o,aq⟩:=ab;rw [he] at aq;simp at aq;have:=aF.pA (aq.1▸a') h.an;revert this;decide
 refine ⟨λu=>ay (a7 p.e5) bZ u,ay.refl _ _,_,_,_,λu hu=>(hu.an oO.an Tl).cell rfl,wU (v:=v) (λu hu=>l4 (hu.an Ai (λab=>by have:=UZ _ ab;omega))) ?_⟩;have ps:x.words.length=v.ey:=by rw [aw.eq];rfl
 have J7:x.v.inside 5 lines=true:=by
  unfold a0.valid at il;cases gE:x.v.inside 5 lines with
  |true=>rfl
  |false=>rw [gE] at il;simp at il;split at il<;>omega
 have gE:=Ce J7;refine aR (alv (v:=v) (ws:=x.words) (aw.rd.new sm) ps ?_ (λab=>by rw [<-ps,aw.nil ab];rfl)) ?_
 ·rw [<-ps];exact aw.sU
 rintro r cK ⟨cB,cap,rfl,g_,G2,nK,TT⟩;refine ⟨_,_,_,_,_,_,_,_,_,_,_,rfl,ay.db g_,?_⟩;rintro aP dh cv kY;obtain ⟨e4,cg⟩:=b4 cv kY;clear kY;have Uq:=(sm.new g_).new cg;have jI:=h.new Uq;refine ⟨(ay.db g_).new cg,?_⟩;obtain ⟨inf,aD,aE,cr,gm⟩:=j5 (T:=d8) (z:=.agg #[.int .i64 0,.int .i64 0,.int .i64 0,.int .i64 0,.int .u64 0,.int .u64 0,.slice none 0 0,.int .u64 0,.int .i64 0]) (n:=9) (m:=88) (by kernel_rfl);have cV:=jI.own;rw [<-cr] at cV;obtain ⟨ap,bU,cR,fV,nP,eD,fC⟩:=cV.append (P:=prog) (t:=125) (ty:=125) Tryz.underlying125 aD aE (by rw [cr];rfl) (by omega)
  (s:=some ⟨aP,0,none⟩) (m:=1) (c:=1) (news:=a0.cells { v with Words:=cB,eg:=cap }) (by rw [cr];rfl) (jk e4 (by simp [a0.cells])) (a0.single _) (by omega) (by rw [gm];omega)
 rw [cr] at nP;refine ⟨ap,p.bN.length+1,bU,cR,fV,((ay.db g_).new cg).trans eD (λ_ _ h=>h),?_⟩;have jt:aF cR b p.cells Dj:=eD.an jI.an Tl;refine ⟨⟨_,jt.cell rfl⟩,jt.frozen,?_⟩;rintro e6 jn;have fe:ay (λk=>k=b) cR e6:=by rw [jn];exact iu _ _ _ _
 have mf:aF e6 b (p.cells.set 3 (.slice ap (p.bN.length+1) bU)) Dj:=by rw [jn];exact jt.setCell _
 clear jn;have qv:ap=p.e5\/∀ k,a7 ap k->w.heap.size<=k:=by
  rcases fC with fC | fC
  ·exact .inl fC
  ·refine .inr ?_;rintro k ⟨o,aq⟩;rw [fC] at aq;simp at aq;have:=Uq.size;omega
 have z6:ay (λk=>k=b\/a7 p.e5 k) w e6:=((ay.db Uq).trans eD (λk _ J=>.inr J)).trans fe (λk _ J=>.inl J);have abR:¬ a7 ap b:=by
  intro ab;rcases qv with he | he
  ·exact Tl (he▸ab)
  ·have:=he b ab;have:=h.an.lt;omega
 refine ⟨rfl,{ v with Words:=cB,eg:=cap },ap,bU,λM' uF GW=>?_,z6,qv⟩;refine ⟨?_,?_,?_,?_,h.bw,h.inc,h.node,by simp [gh.post];omega,h.sU,?_,?_,h.H5,GW⟩
 ·have e:(p.post { v with Words:=cB,eg:=cap } x ap bU).cells=p.cells.set 3 (.slice ap (p.bN.length+1) bU):=by simp only [gh.post,gh.cells,gp,l8,CZ];rfl
  rw [e];exact mf
 ·show bu e6 d8 9 ap (p.bN++[x]).length bU (gG (p.raw++[_])).flatten;rw [agr,gp];have:(gG [{ v with Words:=cB,eg:=cap }]).flatten=a0.cells { v with Words:=cB,eg:=cap }:=by simp [gG]
  rw [this];exact nP.aO fe λk J he=>abR (he▸J)
 ·refine (jI.rI.aO eD ?_).aO fe ?_
  ·rintro k J ab;rcases h.own.2 with ⟨he,_⟩ | ⟨g,cur,he,a',_⟩
   ·obtain ⟨o,aq⟩:=ab;rw [he] at aq;cases aq
   rcases h.rI.2 with ⟨D1,_⟩ | ⟨cU,SE,D1,J1,_⟩
   ·obtain ⟨o,aq⟩:=J;rw [D1] at aq;cases aq
   obtain ⟨o,aq⟩:=J;obtain ⟨gk,nO⟩:=ab;rw [D1] at aq;rw [he] at nO;simp at aq nO;have:=aF.pA (nO.1▸a') (aq.1▸J1);revert this;decide
  ·rintro k J he;rcases h.rI.2 with ⟨D1,_⟩ | ⟨cU,SE,D1,J1,_⟩
   ·obtain ⟨o,aq⟩:=J;rw [D1] at aq;cases aq
   obtain ⟨o,aq⟩:=J;rw [D1] at aq;simp at aq;have:=aF.pA (aq.1▸J1) (he▸h.an);revert this;decide
 ·show hp M' e6 (p.raw++[_]) (p.bN++[x]);have hold:hp M' e6 p.raw p.bN:=h.vs.aO (z6.mono λk _ J=>h.oT k (J.elim .inl λe=>.inr (.inl e))) λk aK hm=>by
   rcases uF k hm with hm | hm
   ·exact hm.2
   ·rcases qv with he | he
    ·exact h.oT k (.inr (.inl (he▸hm)))
    ·have:=he k hm;omega
  refine ⟨by simp [h.vs.1],λi bX k5 d_ qA=>?_⟩;rw [CY] at d_ qA;by_cases aK:i<p.raw.length
  ·rw [if_pos aK] at d_;rw [if_pos (h.vs.1▸aK)] at qA;exact hold.2 i bX k5 d_ qA
  ·rw [if_neg aK] at d_;rw [if_neg (h.vs.1▸aK)] at qA;have D4:i - p.raw.length=0:=by
    rcases Q1 (i - p.raw.length) with aN | aN
    ·exact aN
    ·rw [ug (by simp;omega)] at d_;cases d_
   rw [D4] at d_;rw [<-h.vs.1,D4] at qA;simp only [FB,iX] at d_ qA;subst d_ qA;have U7:∀ k,a7 cB k->bZ.heap.size<=k/\∃ cs,aF e6 k cs Dl:=by
    intro k J;refine ⟨nK k J,?_⟩;rcases G2.2 with ⟨he,_⟩ | ⟨g,cur,he,a',_⟩
    ·obtain ⟨o,aq⟩:=J;rw [he] at aq;cases aq
    ·obtain ⟨o,aq⟩:=J;rw [he] at aq;simp at aq;have aDQ:=nK g ⟨0,he⟩;have apL:=sm.size;refine ⟨cur,?_⟩;rw [<-aq.1];refine fe.an (eD.an (ai.an cg a') ?_) ?_
     ·intro ab;have:=UZ _ ab;omega
     ·intro ab;have:=h.an.lt;omega
   refine ⟨?_,?_,?_,?_,aw.wf,aw.new,aw.old,aw.key,aw.hd,G2.le,aw.sU⟩
   ·have he:=aw.eq;rw [he]
   ·refine ((G2.rd.new cg).aO eD ?_).aO fe ?_
    ·cases cB with
     |none=>exact .inr trivial
     |some a=>
      refine .inr λab=>?_
      rcases G2.2 with ⟨he,_⟩ | ⟨g,cur,he,a',_⟩
      ·cases he
      ·simp at he;subst he;have:=nK g ⟨0,rfl⟩;have:=UZ _ ab;have:=sm.size;simp at *;omega
    ·cases cB with
     |none=>exact .inr trivial
     |some a=>
      refine .inr λab=>?_
      rcases G2.2 with ⟨he,_⟩ | ⟨g,cur,he,a',_⟩
      ·cases he
      ·simp at he;subst he;have:=nK g ⟨0,rfl⟩;have:=h.an.lt;have:=sm.size;simp at ab <;> omega
   ·intro ab;exact aw.nil (TT.1 ab)
   ·cases cB with
    |none=>exact .inr trivial
    |some a=>
     refine .inr λhm=>?_
     rcases G2.2 with ⟨he,_⟩ | ⟨g,cur,he,a',_⟩
     ·cases he
     simp at he;subst he;obtain ⟨hQ,cs,dG⟩:=U7 g ⟨0,rfl⟩;have apL:=sm.size;rcases uF g hm with hm | hm
     ·omega
     ·rcases nP.2 with ⟨he,_⟩ | ⟨cU,SE,he,J1,_⟩
      ·obtain ⟨o,aq⟩:=hm;rw [he] at aq;cases aq
      ·obtain ⟨o,aq⟩:=hm;rw [he] at aq;simp at aq;have arn:aF e6 cU SE d8:=fe.an J1 (λab=>abR (by rw [he,<-ab];exact ⟨0,rfl⟩));have:=aF.pA (aq.1▸arn) dG;revert this;decide
 ·intro y az;simp only [gh.post,qT,zj] at az;rcases az with az | rfl
  ·exact h.w5 y az
  ·exact ⟨ah0 il,jb⟩
 ·have hex:=h.ex;show match p.bN++[x] with | []=>p.cu=0 | x::_=>p.cu<=x.v.pieces.length
  cases ar:p.bN with
  |nil=>rw [ar] at hex;simp only [xN];rw [hex];exact Md _
  |cons y ys=>rw [ar] at hex;exact hex
structure tT (M:bB) (w:av) (d:cL) (x:a_):Prop where
 code:d.Code=x.code
 len:d.ey=x.words.length
 rd:bW w d.Words (us x.words)
 nil:d.Words=none->x.words=[]
 off:x.words=[]\/kR M d.Words
 wf:∀ u ∈ x.words,dp u
 cap:d.ey<=d.eg
theorem tT.aO {M M':bB} {w w':av} {v:cL} {x:a_} (h:tT M w v x) (J:ay M w w') (c1:∀ k,k<w.heap.size->M' k->M k):tT M' w' v x:=by
 refine ⟨h.code,h.len,h.rd.aO J (h.off.imp (λe=>by rw [e];rfl) id),h.nil,?_,h.wf,h.cap⟩;rcases h.off with aq | aq
 ·exact .inl aq
 ·by_cases ao:x.words=[]
  ·exact .inl ao
  ·refine .inr ?_;cases bc:v.Words with
   |none=>trivial
   |some a=>rw [bc] at aq;have aA:=h.rd;rw [bc] at aA;intro hm;exact aq (c1 _ (aA.lt (by simpa [us] using ao)) hm)
theorem jX {e sz n cap:Nat} {xs:aH} (h:bu w e sz a n cap xs) {k:Nat} (J:a7 a k):∃ cs,aF w k cs e:=by
 rcases h.2 with ⟨he,_⟩ | ⟨g,cur,he,a',_⟩
 ·obtain ⟨o,aq⟩:=J;rw [he] at aq;cases aq
 ·obtain ⟨o,aq⟩:=J;rw [he] at aq;simp at aq;exact ⟨cur,aq.1▸a'⟩
def QK (M:bB) (b jN jx:Nat) (p:gh) (n:bt) (w:av) (r:bx) (w':av):Prop:=
 ∃ (d:cL) (p':gh),r=.tuple #[d.val,.bool (p.pure.step n).2.2.isSome]/\p'.pure=(p.pure.step n).1/\gY w' jN jx (p.pure.step n).2.1/\
  (∀ x,(p.pure.step n).2.2=some x->d.Code=x.code/\d.ey=x.words.length/\bW w' d.Words (us x.words)/\(d.Words=none->x.words=[])/\(∀ u ∈ x.words,dp u)/\d.ey<=d.eg/\p'.fw=none)/\
  (∀ k,a7 d.Words k->a7 p.fw k\/w.heap.size<=k)/\
  (∀ M':bB,IX M M' w (λk=>a7 p'.e5 k\/a7 p'.fw k)->(∀ k,p'.mut b k->M' k)->gy M' w' b p')/\
  ay (λk=>k=b\/a7 p.fw k\/k=jx) w w'/\(p'.e5=p.e5\/∀ k,a7 p'.e5 k->w.heap.size<=k)/\(p'.fw=p.fw\/∀ k,a7 p'.fw k->w.heap.size<=k)/\
  (∀ k,a7 d.Words k->∃ cs,aF w' k cs Dl)
theorem HU (h:aF w b d.cells o9):df w ⟨b,0,none⟩ 0 d.cells:=cD h (by simp [cL.cells])
theorem IP {ch:bh} {K:Int->ax->Nat->bB} (h:df w ch 0 d.cells) (J:K d.Code d.Words d.ey d.eg) :
  ∃ (Code:Int) (Words:ax) (ey:Nat) (eg:Nat),df w ch 0 [.int .i64 Code,.slice Words ey eg]/\K Code Words ey eg:=⟨_,_,_,_,h,J⟩
theorem akw {p:fx} {n:bt} (h:p.bN=[]):p.step n=(p,n,none):=by unfold fx.step;rw [h]
theorem ai' {p:fx} {n:bt} {x:bn} {xs:List bn} (h:p.bN=x::xs):p.step n =
  if p.refusal x n≠0 then (p.done,n,some ⟨p.refusal x n,[]⟩)
  else if p.cu+1<x.v.pieces.length then ({ p with cu:=p.cu+1,words:=p.words++(exec x (x.v.pieces.getD p.cu (0,0)) n).2 },(exec x (x.v.pieces.getD p.cu (0,0)) n).1,none)
   else (p.done,(exec x (x.v.pieces.getD p.cu (0,0)) n).1,some ⟨0,p.words++(exec x (x.v.pieces.getD p.cu (0,0)) n).2⟩):=by
 unfold fx.step;rw [h]
theorem agS {p:fx} {x:bn} {n:bt} (h:p.refusal x n=0):n.down=false/\x.v.valid 5 (n.words.length / 8:Nat)=0:=by
 unfold fx.refusal at h;split at h
 ·omega
 rename_i aC;split at h
 ·omega
 rename_i aw;exact ⟨by simpa using aC,by simpa using aw⟩
theorem Qo {v:a0} {a b:Int} (h:v.valid a b=0):1<=v.count/\v.inside a b=true:=by
 unfold a0.valid at h;split at h
 ·omega
 rename_i ab;split at h
 ·omega
 rename_i aD;exact ⟨by omega,by simpa using aD⟩
theorem akx {x:bn} {n:bt} (h:pc.2<=8) (af:1<=pc.2):(exec x pc n).2.length<=8:=by
 unfold exec;split
 ·simp [bt.read];omega
 split
 ·simp
 split
 ·simp
 split<;>simp
end
end Go.Proofs.YtmkljjbioomepaaGreat
