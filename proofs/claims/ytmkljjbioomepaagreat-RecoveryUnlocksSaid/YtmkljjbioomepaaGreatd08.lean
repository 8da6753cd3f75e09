import Derived.Test.YtmkljjbioomepaaGreatd04
import Derived.Test.YtmkljjbioomepaaGreatd07
set_option linter.all false
namespace Go.Proofs.YtmkljjbioomepaaGreat
open Go.Proofs.Tryz Go.bs
variable {M:a6} {a:an} {b aH fN fB:Nat} {d:bT} {pc:Int×Int} {w:ak}
section
structure aQ where
 kind:Int
 node:Int
 at_:Int
 n:Int
 old:Int
 new:Int
 words:a8
 key:Int
 ee:Int
def aQ.v (x:aQ):aG:=⟨x.kind,x.node,x.at_,x.n,x.old,x.new,none,x.words.length,0,x.key,x.ee⟩
structure aM where
 code:Int
 words:a8
structure cR where
 aW:Int
 inc:Int
 node:Int
 a3:List aQ
 bz:Nat
 words:a8
def cR.refusal (p:cR) (x:aQ) (n:aN):Int:=
 if n.down=true then 4 else if x.v.valid 5 (n.words.length / 8:Nat)≠0 then 2 else x.v.check p.inc (n.get (24+p.aW).toNat) (n.get 0) (n.get 1)
def exec (x:aQ) (pc:Int×Int) (n:aN):aN×a8:=
 if x.kind=1 then (n,n.read pc.1 pc.2)
 else if x.kind=2 then (n.write pc.1.toNat ((x.words.drop (pc.1 - x.at_).toNat).take pc.2.toNat),[])
 else if x.kind=3 then (n.fx x.at_ x.old x.new,[n.get x.at_.toNat])
 else if x.kind=4 then (n.add x.at_ x.new,[n.get x.at_.toNat])
 else (n,[])
def cR.hX (p:cR):Prop:=∀ x xs,p.a3=x::xs->p.bz<x.v.pieces.length
def cR.done (p:cR):cR:={ p with a3:=p.a3.tail,bz:=0,words:=[] }
def cR.step (p:cR) (n:aN):cR×aN×Option aM:=
 match p.a3 with
 | []=>(p,n,none)
 |x::_=>
  if p.refusal x n≠0 then (p.done,n,some ⟨p.refusal x n,[]⟩)
  else
   let r:=exec x (x.v.pieces.getD p.bz (0,0)) n
   if p.bz+1<x.v.pieces.length then ({ p with bz:=p.bz+1,words:=p.words++r.2 },r.1,none)
   else (p.done,r.1,some ⟨0,p.words++r.2⟩)
structure cL (M:a6) (w:ak) (v:aG) (x:aQ):Prop where
 eq:v={ x.v with Words:=v.Words,cJ:=v.cJ }
 rd:bk w v.Words (us x.words)
 nil:v.Words=none->x.words=[]
 off:x.words=[]\/gA M v.Words
 wf:∀ u ∈ x.words,cj u
 new:cj x.new
 old:cj x.old
 key:cj x.key
 ee:d9 x.ee
 cap:v.cQ<=v.cJ
 kV:x.words.length<=1000000
theorem cL.aA {M M':a6} {w w':ak} {v:aG} {x:aQ} (h:cL M w v x) (i:ao M w w') (g:∀ k,k<w.heap.size->M' k->M k):cL M' w' v x:=by
 refine ⟨h.eq,h.rd.aA i (h.off.imp (λe=>by rw [e];rfl) id),h.nil,?_,h.wf,h.new,h.old,h.key,h.ee,h.cap,h.kV⟩;rcases h.off with b | b
 ·exact .inl b
 ·by_cases f:x.words=[]
  ·exact .inl f
  ·refine .inr ?_;cases c:v.Words with
   |none=>trivial
   |some a=>rw [c] at b;have d:=h.rd;rw [c] at d;intro hm;exact b (g _ (d.lt (by simpa [us] using f)) hm)
theorem cL.count {M:a6} {w:ak} {v:aG} {x:aQ} (h:cL M w v x):v.count=x.v.count:=by rw [h.eq];rfl
theorem cL.valid {M:a6} {w:ak} {v:aG} {x:aQ} (h:cL M w v x) (a b:Int):v.valid a b=x.v.valid a b:=by rw [h.eq];rfl
theorem cL.check {M:a6} {w:ak} {v:aG} {x:aQ} (h:cL M w v x) (a b c d:Int):v.check a b c d=x.v.check a b c d:=by rw [h.eq];rfl
theorem cL.pieces {M:a6} {w:ak} {v:aG} {x:aQ} (h:cL M w v x):v.pieces=x.v.pieces:=by rw [h.eq];rfl
theorem cL.at_ {M:a6} {w:ak} {v:aG} {x:aQ} (h:cL M w v x):v.bZ=x.at_:=by rw [h.eq];rfl
theorem cL.kind {M:a6} {w:ak} {v:aG} {x:aQ} (h:cL M w v x):v.Kind=x.kind:=by rw [h.eq];rfl
structure dF where
 aW:Int
 inc:Int
 node:Int
 raw:List aG
 a3:List aQ
 c4:an
 fP:Nat
 bz:Nat
 words:a8
 c6:an
 eg:Nat
def dF.pure (p:dF):cR:=⟨p.aW,p.inc,p.node,p.a3,p.bz,p.words⟩
def dF.cells (p:dF):ax:=[.int .i64 p.aW,.int .i64 p.inc,.int .i64 p.node,.slice p.c4 p.a3.length p.fP,.int .i64 p.bz,.slice p.c6 p.words.length p.eg]
abbrev qw:TypeId:=139
abbrev qy:TypeId:=30
def et (M:a6) (w:ak) (raw:List aG) (xs:List aQ):Prop:=raw.length=xs.length/\∀ (i:Nat) (v:aG) (x:aQ),raw[i]?=some v->xs[i]?=some x->cL M w v x
theorem et.aA {M M':a6} {w w':ak} {raw:List aG} {xs:List aQ} (h:et M w raw xs) (b:ao M w w') (a:∀ k,k<w.heap.size->M' k->M k):et M' w' raw xs:=
 ⟨h.1,λi v x al c=>(h.2 i v x al c).aA b a⟩
theorem et.tail {v:aG} {raw:List aG} {x:aQ} {xs:List aQ} (h:et M w (v::raw) (x::xs)):et M w raw xs:=
 ⟨by simpa using h.1,λi v x al a=>h.2 (i+1) v x (by simpa using al) (by simpa using a)⟩
def dF.mut (b:Nat) (p:dF) (k:Nat):Prop:=k=b\/aL p.c4 k\/aL p.c6 k
structure dM (M:a6) (w:ak) (b:Nat) (p:dF):Prop where
 aj:av w b p.cells qw
 own:a1 w cF 9 p.c4 p.a3.length p.fP (dP p.raw).flatten
 ks:a1 w qy 1 p.c6 p.words.length p.eg (us p.words)
 vs:et M w p.raw p.a3
 aW:0<=p.aW/\p.aW<6
 inc:0<=p.inc/\p.inc<=59
 node:0<=p.node/\p.node<5
 len:p.a3.length<=1024
 kV:p.words.length<=8 * p.bz
 mX:∀ x ∈ p.a3,x.v.valid 5 256=0/\x.node=p.node
 ex:match p.a3 with
  | []=>p.bz=0
  |x::_=>p.bz<=x.v.pieces.length
 s':∀ u ∈ p.words,cj u
 iz:∀ k,p.mut b k->M k
theorem dM.aA {M M':a6} {w w':ak} {b:Nat} {p:dF} (h:dM M w b p) (a:ao M' w w') (d:∀ k,p.mut b k->¬ M' k) (e:∀ k,M' k->M k):dM M w' b p:=
 ⟨a.aj h.aj (d b (.inl rfl)),h.own.aA a λk c=>d k (.inr (.inl c)),h.ks.aA a λk c=>d k (.inr (.inr c)),h.vs.aA (a.mono λi _=>e i) λ_ _ h=>h,
  h.aW,h.inc,h.node,h.len,h.kV,h.mX,h.ex,h.s',h.iz⟩
theorem dM.new {w':ak} {p:dF} (h:dM M w b p) (c:ai w w'):dM M w' b p:=h.aA c (λ_ _ a=>a) (λ_ a=>a.elim)
theorem dM.mO {M':a6} {p:dF} (h:dM M w b p) (a:∀ k,k<w.heap.size->M' k->M k) (c:∀ k,p.mut b k->M' k):dM M' w b p:=
 ⟨h.aj,h.own,h.ks,h.vs.aA (ao.refl _ _) a,h.aW,h.inc,h.node,h.len,h.kV,h.mX,h.ex,h.s',c⟩
theorem ye {p:dF} (h:dM M w b p):bb 45 [.pointer (some ⟨b,0,none⟩)] w λv w'=>v=.int .i64 p.a3.length/\w'=w:=by refine bd Tryz.func45 ?_;rw [Ud];exact ⟨_,_,_,h.aj.cell rfl,rfl,rfl⟩
theorem KL {p:dF} (h:dM M w b p):bb 67 [.pointer (some ⟨b,0,none⟩)] w λv w'=>v=.int .i64 p.aW/\w'=w:=by refine bd Tryz.func67 ?_;rw [Up];exact ⟨_,h.aj.cell rfl,rfl,rfl⟩
theorem D9 {p:dF} (h:dM M w b p):bb 68 [.pointer (some ⟨b,0,none⟩)] w λv w'=>v=.int .i64 p.node/\w'=w:=by refine bd Tryz.func68 ?_;rw [US];exact ⟨_,h.aj.cell rfl,rfl,rfl⟩
theorem Pg {c i n:Int} (d:0<=c/\c<6) (e:0<=i/\i<=59) (f:0<=n/\n<5) :
  bb 80 [.int .i64 c,.int .i64 i,.int .i64 n] w λv w'=>v=.tuple #[.pointer (some ⟨w.heap.size,0,none⟩),.int .i64 0]/\(∀ M:a6,M w.heap.size->dM M w' w.heap.size ⟨c,i,n,[],[],none,0,0,[],none,0⟩)/\ai w w'/\w'.heap.size=w.heap.size+1:=by
 refine bd Tryz.func80 ?_;rw [WO];refine bc (λh=>by omega) (λ_=>bc (λh=>by omega) (λ_=>bc (λh=>by omega) (λ_=>bc (λh=>by omega) (λ_=>bc (λh=>by omega) (λ_=>bc (λh=>by omega) (λ_=>?_))))))
 rintro b1 w1 rfl rfl;refine ⟨rfl,λM b=>?_,hy _ _,by simp⟩;refine ⟨pA w [.int .i64 c,.int .i64 i,.int .i64 n,.slice none 0 0,.int .i64 0,.slice none 0 0] qw,a1.nil _ _ _,a1.nil _ _ _,⟨rfl,λi v x al=>by simp at al⟩,d,e,f,by simp,by simp,by simp,rfl,by simp,?_⟩;rintro k (rfl | ⟨o,a⟩ | ⟨o,a⟩)
 ·exact b
 ·cases a
 ·cases a
theorem IK (vs:List aG):∀ u ∈ (dP vs).flatten,single u=true:=by intro u hu;simp only [dP,o2,cZ] at hu;obtain ⟨r,⟨v,_,rfl⟩,hu⟩:=hu;exact v.single u hu
theorem Xl (vs:List aG):(dP vs).flatten.length=vs.length * 9:=by rw [mx (u2 vs)];simp [dP]
theorem IB {n c:Nat} {vs:List aG} (h:vs.length=n) (r:bk w a (dP vs).flatten) (s:n<=1000000) (l:a=none->n=0) :
  bb 137 [.slice a n c] w λv w'=>∃ e cap,v=.slice e n cap/\tA w w' cF 9 a e n cap (dP vs).flatten:=by
 refine bd Tryz.func137 ?_;rw [RU];obtain ⟨i,p,au,d,g⟩:=fV (T:=cF) (z:=.agg #[.int .i64 0,.int .i64 0,.int .i64 0,.int .i64 0,.int .u64 0,.int .u64 0,.slice none 0 0,.int .u64 0,.int .i64 0]) (n:=9) (m:=88) (by kernel_rfl);cases a with
 |none=>
  refine gB rfl ⟨none,0,by rw [l rfl],ao.refl _ _,?_,?_,by simp⟩
  ·rw [l rfl] at h ⊢;rw [fF h];exact a1.nil _ _ _
  ·rintro k ⟨o,q⟩;cases q
 |some a=>refine di rfl ?_;rintro b1 w1 rfl rfl;obtain ⟨e,b,w',f,j⟩:=yb (t:=125) (ty:=125) (n:=n) (c:=c) (w:=w) (a:=a) (xs:=(dP vs).flatten) Tryz.underlying125 p au (by rw [d];rfl) (by omega) (by rw [Xl,h,d]) r (IK vs) (by omega) (by rw [g];omega);exact ⟨e,n,b,w',f,e,b,rfl,by rw [d] at j;exact j⟩
theorem NB {v:aG} {ws:a8} (L:bk w v.Words (us ws)) (I:ws.length=v.cQ) (r:v.cQ<=1000000) (J:v.Words=none->v.cQ=0) :
  bb 134 [v.val] w λx w'=>∃ a cap,x=aG.val { v with Words:=a,cJ:=cap }/\ai w w'/\a1 w' qy 1 a v.cQ cap (us ws)/\(∀ k,aL a k->w.heap.size<=k)/\(a=none↔v.Words=none):=by
 refine bd Tryz.func134 ?_;refine Eq.mpr (Wb v.Kind v.Node v.bZ v.N v.Old v.ai v.Words v.cQ v.cJ v.Key v.cq w _) ?_;rintro b1 w1 s d aB F t e;obtain ⟨E,n⟩:=bl s d;obtain ⟨au,c⟩:=bl t e;have A:w1.heap.size=w.heap.size+1:=by rw [d];simp
 have M:F.heap.size=w.heap.size+2:=by rw [e];simp [A]
 have b:=ai.aj c E;have p:Go.bs.ai w F:=n.new c;clear d e E n c;refine ⟨_,_,_,b.cell rfl,?_⟩;refine aD (A5 (by rw [hO,I]) (L.new p) (pC ws) (by omega) J) ?_;rintro x O ⟨a,cap,rfl,h,K,u,H⟩;refine ⟨_,_,_,rfl,⟨_,(ai.aj h b).cell rfl⟩,(ai.aj h b).frozen,?_⟩;intro D f;have B:av D b1 (aG.cells { v with Words:=a,cJ:=cap }) cF:=by rw [f];exact (ai.aj h b).setCell _
 have g:=(ai.aj h au).Hd (b':=b1) (i:=6) (by omega) (.slice a v.cQ cap);rw [<-f] at g;have j:ao (λk=>k=b1) O D:=by rw [f];exact eX _ _ _ _
 refine jl (v:={ v with Words:=a,cJ:=cap }) (hf B) ⟨gq (vs:=aG.cells { v with Words:=a,cJ:=cap }) g (by simp [aG.cells]) (aG.single _),?_⟩;intro G q;have C:av G aB (aG.cells { v with Words:=a,cJ:=cap }) cF:=by rw [q];have:=g.cu (o:=0) (i:=0) (vs:=aG.cells { v with Words:=a,cJ:=cap });rw [px (by simp [aG.cells])] at this;exact this
 have l:ao (λk=>k=aB) D G:=by rw [q];exact h7 _ _ _ _ _
 refine jl (v:={ v with Words:=a,cJ:=cap }) (hf C) ⟨rfl,a,cap,rfl,?_,?_,λk z=>?_,H⟩
 ·exact ((p.new h).trans j (λi y he=>by omega)).trans l (λi y he=>by omega)
 ·refine (K.aA j ?_).aA l ?_
  ·intro k r he;have:=u k r;omega
  ·intro k r he;have:=u k r;omega
 ·have:=u k z;omega
theorem zC {n:aN} (h:ea w b aH n) (hu:n.down=false) (at_:Int) (l:0<=at_) (o:at_<100):bb 135 [.pointer (some ⟨b,0,none⟩),.int .i64 at_] w λv w'=>v=.int .u64 (n.get at_.toNat)/\ai w w':=by
 refine bd Tryz.func135 ?_;rw [WD];refine aD (v' h at_ 1) ?_;intro v w1 j;rcases j with ⟨c,rfl,rfl⟩ | ⟨c,a,cap,rfl,f,e,p⟩
 ·refine ⟨_,_,_,_,rfl,du (λ_=>⟨?_,ao.refl _ _⟩) (λh=>absurd h c)⟩;have:(n.words.length:Int)<=at_:=by
   unfold aN.e_ at c;split at c
   ·omega
   ·simp [hu] at c
  rw [aN.get,dq,iF (by omega)];rfl
 ·refine ⟨_,_,_,_,rfl,du (λh=>absurd rfl h) (λ_=>?_)⟩
  rcases e.2 with ⟨d,_⟩ | ⟨g,cur,d,_⟩
  ·cases d
  simp only [fg] at d;subst d;obtain ⟨b1,aB,k,_⟩:=aN.sj c;refine ej (by omega) (by simp) ⟨n.get at_.toNat,?_,rfl,f⟩;refine e.rd.cell (tr ?_);simp only [aN.read];rw [m4,if_pos (by simp),kv];simpa using aN.get_some (n:=n) (i:=at_.toNat) (by omega)
theorem KM {p:dF} {n:aN} {v:aG} {x:aQ} (h:dM M w b p) (z:ea w fN fB n) (al:cL M w v x) :
  bb 96 [.pointer (some ⟨b,0,none⟩),v.val,.pointer (some ⟨fN,0,none⟩)] w λr w'=>r=.int .i64 (p.pure.refusal x n)/\ai w w':=by
 refine bd Tryz.func96 ?_;refine Eq.mpr (TW b v.Kind v.Node v.bZ v.N v.Old v.ai v.Words v.cQ v.cJ v.Key v.cq fN w _) ?_;rintro b1 w1 C A;obtain ⟨P,j⟩:=bl C A;clear A;refine aD (FD (z.new j)) ?_;rintro r R ⟨rfl,rfl⟩;refine ⟨_,rfl,ev (λaq=>⟨?_,j⟩) (λaq=>?_)⟩
 ·have:n.down=true:=by simpa using aq
  simp [cR.refusal,this]
 have e:n.down=false:=by simpa using aq
 intro J F;have o:Go.bs.ai R J:=by rw [F];exact cK _
 have B:av J b1 v.cells cF:=ai.aj o P;have g:=j.new o;refine ⟨λu=>Go.bs.ai J u,ao.refl _ _,mQ (λu hu=>hf (ai.aj hu B)) ?_⟩;refine aD (yc (z.new g)) ?_;rintro r U ⟨rfl,rfl⟩;refine ⟨_,rfl,ao.refl _ _,?_⟩;refine aD (y4 _ v 5 _) ?_;rintro r V ⟨rfl,q⟩;have H:=ai.aj q B;have c:=g.new q;refine ⟨_,rfl,du (λa=>⟨?_,c⟩) (λa=>?_)⟩
 ·rw [al.valid] at a;rw [cR.refusal,if_neg (by simp [e]),if_pos a]
 have O:=h.aW;refine ⟨_,((h.new c).aj).cell rfl,?_⟩;dsimp only;rw [bH (x:=24+p.aW) (by omega) (by omega)];refine aD (zC (z.new c) e (24+p.aW) (by omega) (by omega)) ?_;rintro r S ⟨rfl,s⟩;refine ⟨_,rfl,?_⟩;intro L G;have t:Go.bs.ai S L:=by rw [G];exact cK _
 have d:=(c.new s).new t;have I:=ai.aj t (ai.aj s H);refine ⟨λu=>Go.bs.ai L u,ao.refl _ _,mQ (λu hu=>hf (ai.aj hu I)) ⟨_,λu hu=>((h.new (d.new hu)).aj).cell rfl,?_⟩⟩;refine aD (zC (z.new d) e 0 (by omega) (by omega)) ?_;rintro r W ⟨rfl,f⟩;refine ⟨_,rfl,f,?_⟩;refine aD (zC (z.new (d.new f)) e 1 (by omega) (by omega)) ?_;rintro r X ⟨rfl,y⟩;refine ⟨_,rfl,f.new y,?_⟩;have E:¬ v.valid 5 (n.words.length / 8:Nat)≠0:=by omega
 have k:v.inside 5 (n.words.length / 8:Nat)=true:=by
  unfold aG.valid at a;cases D:v.inside 5 (n.words.length / 8:Nat) with
  |true=>rfl
  |false=>rw [D] at a;simp at a;split at a<;>omega
 have T:=i0 k;have K:=h.inc;have i:=al.ee;refine aD (NA _ v p.inc _ _ _ (by omega) (by omega) (by omega) (by rw [al.eq];exact i.2)) ?_;rintro r Q ⟨rfl,l⟩;refine ⟨_,rfl,?_,((d.new f).new y).new l⟩;rw [al.valid] at a;rw [al.check];rw [cR.refusal,if_neg (by simp [e]),if_neg (λh=>h a)];rfl
def Lt (M:a6) (fN fB:Nat) (n:aN) (x:aQ) (pc:Int×Int) (w:ak) (r:a4) (w':ak):Prop:=
 ∃ a cap,r=.slice a (exec x pc n).2.length cap/\bk w' a (us (exec x pc n).2)/\(∀ k,aL a k->w.heap.size<=k)/\ea w' fN fB (exec x pc n).1/\ao (λk=>k=fB) w w'
theorem NC {n:aN} (h:ea w b aH n) (i c:Int):∀ u ∈ n.read i c,cj u:=by intro u hu;exact h.wf u (o3 (tq hu))
theorem ND {n:aN} (h:ea w b aH n) (x:aQ) (pc:Int×Int):∀ u ∈ (exec x pc n).2,cj u:=by
 intro u hu;unfold exec at hu;split at hu
 ·exact NC h _ _ u hu
 split at hu
 ·simp at hu
 split at hu
 ·simp at hu;subst hu;exact h.Ba _
 split at hu
 ·simp at hu;subst hu;exact h.Ba _
 ·simp at hu
theorem KN {n:aN} {v:aG} {x:aQ} (XD:ea w fN fB n) (t:n.down=false) (al:cL M w v x) (XE:x.words=[]\/gA (λk=>k=fB) v.Words)
  (XS:x.at_<=pc.1) (XT:1<=pc.2) (XU:pc.2<=8) (XV:pc.1+pc.2<=x.at_+x.v.count) (XQ:0<=x.at_) (XR:x.at_+x.v.count<=n.words.length) :
  bb 99 [v.val,.agg #[.int .i64 pc.1,.int .i64 pc.2],.pointer (some ⟨fN,0,none⟩)] w (Lt M fN fB n x pc w):=by
 have hlen:=XD.len;refine bd Tryz.func99 ?_;refine Eq.mpr (VF v.Kind v.Node v.bZ v.N v.Old v.ai v.Words v.cQ v.cJ v.Key v.cq pc.1 pc.2 fN w _) ?_;rintro b1 w1 X P aB XB Y Q;obtain ⟨XF,L⟩:=bl X P;obtain ⟨au,E⟩:=bl Y Q;have d:=ai.aj E XF;have e:Go.bs.ai w XB:=L.new E;have XL:w.heap.size<=XB.heap.size:=e.size;clear P Q XF L E;have G:=XD.new e;have I:=al.kind;have V:=al.at_;refine ⟨_,d.cell rfl,d' (λD=>?_) (λD=>d' (λf=>?_) (λf=>d' (λc=>?_) (λc=>d' (λb=>?_) (λb=>?_))))⟩
 ·
  rw [I] at D;have H:x.v.count=x.n:=by simp [aG.count,aQ.v,D]
  have g:n.e_ pc.1 pc.2=0:=by unfold aN.e_;rw [if_neg (by omega),if_neg (by simp [t])]
  refine ⟨_,au.cell rfl,_,au.cell rfl,?_⟩;refine aD (v' G pc.1 pc.2) ?_;intro r XW Xw;rcases Xw with ⟨Z,_⟩ | ⟨_,a,cap,rfl,c,XK,XC⟩
  ·exact absurd g Z
  have ex:exec x pc n=(n,n.read pc.1 pc.2):=by simp [exec,D]
  refine ⟨_,_,_,_,rfl,some a,cap,?_,?_,?_,?_,?_⟩
  ·rw [ex];simp only [aN.x3 g]
  ·rw [ex];exact XK.rd
  ·rintro k ⟨o,he⟩;simp at he;rw [he] at XC;exact lE XL XC
  ·rw [ex];exact G.new c
  ·exact ao.b9 (e.new c)
 ·
  rw [I] at D f;have H:x.v.count=x.words.length:=by simp [aG.count,aQ.v,f]
  have ex:exec x pc n=(n.write pc.1.toNat ((x.words.drop (pc.1 - x.at_).toNat).take pc.2.toNat),[]):=by simp [exec,f]
  refine ⟨_,au.cell rfl,_,d.cell rfl,?_⟩;rintro T R;have b:Go.bs.ai XB T:=by rw [R];exact cK _
  clear R;have y:=ai.aj b au;have S:=ai.aj b d;have s:=G.new b;have z:=e.new b;refine ⟨λu=>ao (λk=>k=fB) T u,ao.refl _ _,_,λu hu=>(hu.aj y (y.ne s.words (by decide))).cell rfl,_,_,_,λu hu=>(hu.aj S (S.ne s.words (by decide))).cell rfl,_,λu hu=>(hu.aj y (y.ne s.words (by decide))).cell rfl,?_⟩;have XG:IntKind.i64.wrap (pc.1 - v.bZ)=pc.1 - x.at_:=by rw [V,bH (by omega) (by omega)]
  have XH:IntKind.i64.wrap (pc.1 - x.at_+pc.2)=pc.1 - x.at_+pc.2:=bH (by omega) (by omega);dsimp only;rw [XG,XH];have XM:v.cQ=x.words.length:=by rw [al.eq];rfl
  have Xv:x.words≠[]:=by intro g;rw [g] at H;simp at H <;> omega
  have Xx:=al.rd.new z;have XA:v.cQ<=v.cJ:=al.cap;rcases Xx with Xw | ⟨sb,so,Xy,C⟩
  ·exact absurd (by simpa [us] using Xw) Xv
  rw [Xy];refine kM (by omega) (by omega) (by omega) (by omega) XA ?_;intro a XJ;rcases XJ with rfl | ⟨XN,_⟩
  ·have q:((x.words.drop (pc.1 - x.at_).toNat).take pc.2.toNat).length=(pc.1 - x.at_+pc.2).toNat - (pc.1 - x.at_).toNat:=by simp;omega
   have O:bk T (some ⟨sb,so+(pc.1 - x.at_).toNat * 1,none⟩) (us ((x.words.drop (pc.1 - x.at_).toNat).take pc.2.toNat)):=by rw [<-za,<-y3,Nat.mul_one];have:bk T (some ⟨sb,so,none⟩) (us x.words):=.inr ⟨sb,so,rfl,C⟩;exact (this.drop _).take _
   rw [<-q];refine aD (D8 s pc.1 O (λu hu=>al.wf u (o3 (tq hu))) (by simp)) ?_;rintro r XX ⟨rfl,J,K⟩;have g:n.e_ pc.1 ((x.words.drop (pc.1 - x.at_).toNat).take pc.2.toNat).length=0:=by unfold aN.e_;rw [if_neg (by rw [q];omega),if_neg (by simp [t])]
   rw [if_pos g] at J;refine ⟨_,rfl,K,none,0,?_,?_,?_,?_,?_⟩
   ·rw [ex];rfl
   ·rw [ex];exact bk.nil _ _
   ·rintro k ⟨o,he⟩;cases he
   ·rw [ex];exact J
   ·exact (ao.b9 z).trans K λi _ h=>h
  ·omega
 ·
  rw [I] at c;have H:x.v.count=1:=by simp [aG.count,aQ.v,c]
  have ex:exec x pc n=(n.fx x.at_ x.old x.new,[n.get x.at_.toNat]):=by simp [exec,c]
  have XI:v.Old=x.old:=by rw [al.eq];rfl
  have W:v.ai=x.new:=by rw [al.eq];rfl
  refine ⟨_,d.cell rfl,_,d.cell rfl,_,d.cell rfl,?_⟩;rw [V,XI,W];refine aD (QJ G x.at_ x.old x.new al.new.1 al.new.2) ?_;rintro r XO ⟨rfl,j,l⟩;have g:n.e_ x.at_ 1=0:=by unfold aN.e_;rw [if_neg (by omega),if_neg (by simp [t])]
  rw [if_pos g] at j;rw [if_pos g];refine ⟨_,_,rfl,?_⟩;intro U XP A F;obtain ⟨B,p⟩:=bl A F;have Xz:=l.size;refine ⟨some ⟨U,0,none⟩,1,?_,?_,?_,?_,?_⟩
  ·rw [ex];rfl
  ·rw [ex];exact fu B rfl
  ·rintro k ⟨o,he⟩;simp at he <;> omega
  ·rw [ex];exact j.new p
  ·exact ((ao.b9 e).trans l λi _ h=>h).new p
 ·
  rw [I] at b;have H:x.v.count=1:=by simp [aG.count,aQ.v,b]
  have ex:exec x pc n=(n.add x.at_ x.new,[n.get x.at_.toNat]):=by simp [exec,b]
  have W:v.ai=x.new:=by rw [al.eq];rfl
  refine ⟨_,d.cell rfl,_,d.cell rfl,?_⟩;rw [V,W];refine aD (QK G x.at_ x.new) ?_;rintro r XO ⟨rfl,j,l⟩;have g:n.e_ x.at_ 1=0:=by unfold aN.e_;rw [if_neg (by omega),if_neg (by simp [t])]
  rw [if_pos g] at j;rw [if_pos g];refine ⟨_,_,rfl,?_⟩;intro U XP A F;obtain ⟨B,p⟩:=bl A F;have Xz:=l.size;refine ⟨some ⟨U,0,none⟩,1,?_,?_,?_,?_,?_⟩
  ·rw [ex];rfl
  ·rw [ex];exact fu B rfl
  ·rintro k ⟨o,he⟩;simp at he <;> omega
  ·rw [ex];exact j.new p
  ·exact ((ao.b9 e).trans l λi _ h=>h).new p
 ·rw [I] at D f c b;have ex:exec x pc n=(n,[]):=by simp [exec,D,f,c,b]
  refine ⟨none,0,?_,?_,?_,?_,ao.b9 e⟩
  ·rw [ex];rfl
  ·rw [ex];exact bk.nil _ _
  ·rintro k ⟨o,he⟩;cases he
  ·rw [ex];exact G
def t_ (M M':a6) (w:ak) (a:a6):Prop:=∀ k,M' k->(k<w.heap.size/\M k)\/a k
theorem av.jm {cs a:ax} {T c:TypeId} (h:av w b cs T) (d:av w b a c):T=c:=(h.uniq d).2
def dF.done (p:dF) (c4:an) (fP:Nat):dF:={ p with raw:=p.raw.tail,a3:=p.a3.tail,c4:=c4,fP:=fP,bz:=0,words:=[],c6:=none,eg:=0 }
theorem JG (v:aG) (vs:List aG):(dP (v::vs)).flatten.drop 9=(dP vs).flatten:=by simp [dP,aG.cells]
theorem B2 {p:dF} (h:dM M w b p) (F:p.a3≠[]) :
  bb 97 [.pointer (some ⟨b,0,none⟩)] w λr w'=>r=.tuple #[]/\∃ c4 fP,(∀ M':a6,t_ M M' w (aL c4)->(∀ k,(p.done c4 fP).mut b k->M' k)->dM M' w' b (p.done c4 fP))/\ao (λk=>k=b) w w'/\(∀ k,aL c4 k->w.heap.size<=k):=by
 refine bd Tryz.func97 ?_;rw [Tv];obtain ⟨x,xs,d⟩:∃ x xs,p.a3=x::xs:=by
  cases G:p.a3 with
  |nil=>exact absurd G F
  |cons x xs=>exact ⟨x,xs,rfl⟩
 obtain ⟨v,vs,c⟩:∃ v vs,p.raw=v::vs:=by
  cases G:p.raw with
  |nil=>have:=h.vs.1;rw [G,d] at this;simp at this
  |cons v vs=>exact ⟨v,vs,rfl⟩
 have X:=h.len;have hlen:p.a3.length=vs.length+1:=by have:=h.vs.1;rw [c] at this;simpa using this.symm
 have hle:=h.own.le;have A:=h.aj;refine ⟨_,_,_,A.cell rfl,?_⟩;rcases h.own.2 with ⟨_,au,_⟩ | ⟨g,cur,u,V,S,P,Q,I⟩
 ·rw [hlen] at au;omega
 rw [u];refine kM (by omega) (by omega) (by omega) (by omega) hle ?_;intro a J;have H:bk w a (dP vs).flatten:=by
  rcases J with rfl | ⟨he,rfl⟩
  ·have q:=h.own.rd;rw [u] at q;have:=q.drop 9;rw [c,JG] at this;exact this
  ·have:vs=[]:=fF (by omega);rw [this];exact bk.nil _ _
 have L:((p.a3.length:Int).toNat - (1:Int).toNat)=vs.length:=by omega
 rw [L];refine aD (IB rfl H (by omega) (by intro O;rcases J with rfl | ⟨_,rfl⟩<;>cases O)) ?_;rintro r w1 ⟨f,cap,rfl,K,T,D,W⟩;have j:=ai.aj K A;refine ⟨_,_,_,rfl,⟨_,j.cell rfl⟩,j.frozen,?_⟩;rintro Z rfl;have l:=j.setCell (i:=3) (.slice f vs.length cap);refine ⟨⟨_,l.cell rfl⟩,l.frozen,?_⟩;rintro Xv rfl;have n:=l.setCell (i:=4) (.int .i64 0);refine ⟨⟨_,n.cell rfl⟩,n.frozen,?_⟩;rintro Xw rfl;have C:=n.setCell (i:=5) (.slice none 0 0);have s:ao (λk=>k=b) w (((w1.setCell ⟨b,3,none⟩ (.slice f vs.length cap)).setCell ⟨b,4,none⟩ (.int .i64 0)).setCell ⟨b,5,none⟩ (.slice none 0 0)):=
  (((ao.b9 (M:=λk=>k=b) K).setCell (.inl rfl) _).setCell (.inl rfl) _).setCell (.inl rfl) _
 have E:ao (λk=>k=b) w1 (((w1.setCell ⟨b,3,none⟩ (.slice f vs.length cap)).setCell ⟨b,4,none⟩ (.int .i64 0)).setCell ⟨b,5,none⟩ (.slice none 0 0)):=
  (((ao.refl (λk=>k=b) _).setCell (.inl rfl) _).setCell (.inl rfl) _).setCell (.inl rfl) _
 refine ⟨rfl,f,cap,λM' z o=>?_,s,D⟩;have t:p.a3.tail.length=vs.length:=by rw [d];rw [d] at hlen;simpa using hlen
 have N:=A.lt;refine ⟨?_,?_,a1.nil _ _ _,?_,h.aW,h.inc,h.node,?_,by simp [dF.done],?_,?_,by simp [dF.done],o⟩
 ·have e:(p.done f cap).cells=((p.cells.set 3 (.slice f vs.length cap)).set 4 (.int .i64 0)).set 5 (.slice none 0 0):=by simp only [dF.done,dF.cells,t];rfl
  rw [e];exact C
 ·show a1 _ cF 9 f p.a3.tail.length cap (dP p.raw.tail).flatten;rw [t,c];exact T.aA E λk B he=>by have:=D k B;omega
 ·show et M' _ p.raw.tail p.a3.tail;rw [c,d];have q:=h.vs;rw [c,d] at q;refine q.tail.aA (s.mono λk _ e=>h.iz k (.inl e)) λk R hm=>?_
  rcases z k hm with hm | hm
  ·exact hm.2
  ·have:=D k hm;omega
 ·show p.a3.tail.length<=1024;omega
 ·intro y U;exact h.mX y (rD U)
 ·show match p.a3.tail with | []=>(0:Nat)=0 | x::_=>0<=x.v.pieces.length
  cases Y:p.a3.tail with
  |nil=>rfl
  |cons y ys=>exact vt _
def dF.post (p:dF) (v:aG) (x:aQ) (c4:an) (fP:Nat):dF:={ p with raw:=p.raw++[v],a3:=p.a3++[x],c4:=c4,fP:=fP }
theorem HN (a b:List aG):(dP (a++b)).flatten=(dP a).flatten++(dP b).flatten:=by simp [dP]
theorem JH {v:aG} {a b:Int} (h:v.valid a b=0):v.valid 5 256=0:=by
 unfold aG.valid at *;split at h
 ·omega
 rename_i e;split at h
 ·omega
 rename_i f;split at h
 ·omega
 rename_i g;have c:v.inside a b=true:=by simpa using f
 have:=i0 c;have d:v.inside 5 256=true:=by unfold aG.inside;exact decide_eq_true (by omega)
 rw [if_neg e,if_neg (by simp [d]),if_neg g]
theorem NF {Yf:a6} {p:dF} {v:aG} {x:aQ} {lines:Int} (h:dM M w b p) (al:cL Yf w v x) (q:x.v.valid 5 lines=0) (V:x.node=p.node) (hlen:p.a3.length<1024) :
  bb 95 [.pointer (some ⟨b,0,none⟩),v.val,.int .i64 lines] w λr w'=>r=.int .i64 0/\∃ bj c4 fP,
   (∀ M':a6,t_ M M' w (aL c4)->(∀ k,(p.post bj x c4 fP).mut b k->M' k)->dM M' w' b (p.post bj x c4 fP))/\ao (λk=>k=b\/aL p.c4 k) w w'/\(c4=p.c4\/∀ k,aL c4 k->w.heap.size<=k):=by
 refine bd Tryz.func95 ?_;refine Eq.mpr (UU b v.Kind v.Node v.bZ v.N v.Old v.ai v.Words v.cQ v.cJ v.Key v.cq lines w _) ?_;rintro b1 w1 X0 XR;obtain ⟨Ye,X7⟩:=bl X0 XR;clear XR;refine jl (v:=v) (hf Ye) ?_;refine aD (y4 _ v 5 lines) ?_;rintro r Yj ⟨rfl,XN⟩;have X_:=ai.aj XN Ye;have XP:=X7.new XN;refine ⟨_,rfl,du (λf=>absurd (by rw [al.valid];exact q) f) (λ_=>?_)⟩
 intro XX XS;have XO:Go.bs.ai Yj XX:=by rw [XS];exact cK _
 have XV:av XX b1 v.cells cF:=ai.aj XO X_;have Xy:=XP.new XO;have XF:=h.new Xy;clear XS;refine ⟨λu=>Go.bs.ai XX u,ao.refl _ _,_,λu hu=>(ai.aj hu XV).cell rfl,_,λu hu=>((XF.new hu).aj).cell rfl,du (λf=>absurd (by rw [al.eq];exact V) f) (λ_=>?_)⟩
 refine ⟨_,_,_,XF.aj.cell rfl,bc (λf=>by omega) (λ_=>?_)⟩
 intro XY XT;have XC:Go.bs.ai XX XY:=by rw [XT];exact cK _
 have X':av XY b1 v.cells cF:=ai.aj XC XV;have l:=Xy.new XC;have X8:=XF.new XC;clear XT;have E:∀ k,aL p.c4 k->k<w.heap.size:=λk A=>h.own.lt A
 have O:¬ aL p.c4 b:=by
  intro f;rcases h.own.2 with ⟨he,_⟩ | ⟨g,cur,he,Xx,_⟩
  ·obtain ⟨o,d⟩:=f;rw [he] at d;cases d
  ·obtain ⟨o,d⟩:=f;rw [he] at d;simp at d;have:=av.jm (d.1▸Xx) h.aj;revert this;decide
 refine ⟨λu=>ao (aL p.c4) XY u,ao.refl _ _,_,_,_,λu hu=>(hu.aj X8.aj O).cell rfl,mQ (v:=v) (λu hu=>hf (hu.aj X' (λf=>by have:=E _ f;omega))) ?_⟩;have XI:x.words.length=v.cQ:=by rw [al.eq];rfl
 have XM:x.v.inside 5 lines=true:=by
  unfold aG.valid at q;cases XL:x.v.inside 5 lines with
  |true=>rfl
  |false=>rw [XL] at q;simp at q;split at q<;>omega
 have XL:=i0 XM;refine aD (NB (v:=v) (ws:=x.words) (al.rd.new l) XI ?_ (λf=>by rw [<-XI,al.nil f];rfl)) ?_
 ·rw [<-XI];exact al.kV
 rintro r Yl ⟨X,cap,rfl,Z,I,Y,X6⟩;refine ⟨_,_,_,_,_,_,_,_,_,_,_,rfl,ao.b9 Z,?_⟩;rintro aB Ym X1 XU;obtain ⟨Ya,U⟩:=bl X1 XU;clear XU;have W:=(l.new Z).new U;have XG:=h.new W;refine ⟨(ao.b9 Z).new U,?_⟩;obtain ⟨inf,Yi,au,Xv,X3⟩:=fV (T:=cF) (z:=.agg #[.int .i64 0,.int .i64 0,.int .i64 0,.int .i64 0,.int .u64 0,.int .u64 0,.slice none 0 0,.int .u64 0,.int .i64 0]) (n:=9) (m:=88) (by kernel_rfl);have Xz:=XG.own;rw [<-Xv] at Xz;obtain ⟨ap,j,Yb,XQ,D,G,K⟩:=Xz.append (P:=prog) (t:=125) (ty:=125) Tryz.underlying125 Yi au (by rw [Xv];rfl) (by omega)
  (s:=some ⟨aB,0,none⟩) (m:=1) (c:=1) (news:=aG.cells { v with Words:=X,cJ:=cap }) (by rw [Xv];rfl) (fu Ya (by simp [aG.cells])) (aG.single _) (by omega) (by rw [X3];omega)
 rw [Xv] at D;refine ⟨ap,p.a3.length+1,j,Yb,XQ,((ao.b9 Z).new U).trans G (λ_ _ h=>h),?_⟩;have XB:av Yb b p.cells qw:=G.aj XG.aj O;refine ⟨⟨_,XB.cell rfl⟩,XB.frozen,?_⟩;rintro XA XH;have H:ao (λk=>k=b) Yb XA:=by rw [XH];exact eX _ _ _ _
 have X2:av XA b (p.cells.set 3 (.slice ap (p.a3.length+1) j)) qw:=by rw [XH];exact XB.setCell _
 clear XH;have L:ap=p.c4\/∀ k,aL ap k->w.heap.size<=k:=by
  rcases K with K | K
  ·exact .inl K
  ·refine .inr ?_;rintro k ⟨o,d⟩;rw [K] at d;simp at d;have:=W.size;omega
 have R:ao (λk=>k=b\/aL p.c4 k) w XA:=((ao.b9 W).trans G (λk _ A=>.inr A)).trans H (λk _ A=>.inl A);have Xw:¬ aL ap b:=by
  intro f;rcases L with he | he
  ·exact O (he▸f)
  ·have:=he b f;have:=h.aj.lt;omega
 refine ⟨rfl,{ v with Words:=X,cJ:=cap },ap,j,λM' XJ XD=>?_,R,L⟩;refine ⟨?_,?_,?_,?_,h.aW,h.inc,h.node,by simp [dF.post];omega,h.kV,?_,?_,h.s',XD⟩
 ·have e:(p.post { v with Words:=X,cJ:=cap } x ap j).cells=p.cells.set 3 (.slice ap (p.a3.length+1) j):=by simp only [dF.post,dF.cells,dy,hh,qd];rfl
  rw [e];exact X2
 ·show a1 XA cF 9 ap (p.a3++[x]).length j (dP (p.raw++[_])).flatten;rw [HN,dy];have:(dP [{ v with Words:=X,cJ:=cap }]).flatten=aG.cells { v with Words:=X,cJ:=cap }:=by simp [dP]
  rw [this];exact D.aA H λk A he=>Xw (he▸A)
 ·refine (XG.ks.aA G ?_).aA H ?_
  ·rintro k A f;rcases h.own.2 with ⟨he,_⟩ | ⟨g,cur,he,Xx,_⟩
   ·obtain ⟨o,d⟩:=f;rw [he] at d;cases d
   rcases h.ks.2 with ⟨C,_⟩ | ⟨bW,J,C,Q,_⟩
   ·obtain ⟨o,d⟩:=A;rw [C] at d;cases d
   obtain ⟨o,d⟩:=A;obtain ⟨Yk,XE⟩:=f;rw [C] at d;rw [he] at XE;simp at d XE;have:=av.jm (XE.1▸Xx) (d.1▸Q);revert this;decide
  ·rintro k A he;rcases h.ks.2 with ⟨C,_⟩ | ⟨bW,J,C,Q,_⟩
   ·obtain ⟨o,d⟩:=A;rw [C] at d;cases d
   obtain ⟨o,d⟩:=A;rw [C] at d;simp at d;have:=av.jm (d.1▸Q) (he▸h.aj);revert this;decide
 ·show et M' XA (p.raw++[_]) (p.a3++[x]);have hold:et M' XA p.raw p.a3:=h.vs.aA (R.mono λk _ A=>h.iz k (A.elim .inl λe=>.inr (.inl e))) λk S hm=>by
   rcases XJ k hm with hm | hm
   ·exact hm.2
   ·rcases L with he | he
    ·exact h.iz k (.inr (.inl (he▸hm)))
    ·have:=he k hm;omega
  refine ⟨by simp [h.vs.1],λi bj gh B F=>?_⟩;rw [qb] at B F;by_cases S:i<p.raw.length
  ·rw [if_pos S] at B;rw [if_pos (h.vs.1▸S)] at F;exact hold.2 i bj gh B F
  ·rw [if_neg S] at B;rw [if_neg (h.vs.1▸S)] at F;have XK:i - p.raw.length=0:=by
    rcases vp (i - p.raw.length) with Yc | Yc
    ·exact Yc
    ·rw [iF (by simp;omega)] at B;cases B
   rw [XK] at B;rw [<-h.vs.1,XK] at F;simp only [rz,fg] at B F;subst B F;have X9:∀ k,aL X k->XY.heap.size<=k/\∃ cs,av XA k cs qy:=by
    intro k A;refine ⟨Y k A,?_⟩;rcases I.2 with ⟨he,_⟩ | ⟨g,cur,he,Xx,_⟩
    ·obtain ⟨o,d⟩:=A;rw [he] at d;cases d
    ·obtain ⟨o,d⟩:=A;rw [he] at d;simp at d;have Yh:=Y g ⟨0,he⟩;have XZ:=l.size;refine ⟨cur,?_⟩;rw [<-d.1];refine H.aj (G.aj (ai.aj U Xx) ?_) ?_
     ·intro f;have:=E _ f;omega
     ·intro f;have:=h.aj.lt;omega
   refine ⟨?_,?_,?_,?_,al.wf,al.new,al.old,al.key,al.ee,I.le,al.kV⟩
   ·have he:=al.eq;rw [he]
   ·refine ((I.rd.new U).aA G ?_).aA H ?_
    ·cases X with
     |none=>exact .inr trivial
     |some a=>
      refine .inr λf=>?_
      rcases I.2 with ⟨he,_⟩ | ⟨g,cur,he,Xx,_⟩
      ·cases he
      ·simp at he;subst he;have:=Y g ⟨0,rfl⟩;have:=E _ f;have:=l.size;simp at *;omega
    ·cases X with
     |none=>exact .inr trivial
     |some a=>
      refine .inr λf=>?_
      rcases I.2 with ⟨he,_⟩ | ⟨g,cur,he,Xx,_⟩
      ·cases he
      ·simp at he;subst he;have:=Y g ⟨0,rfl⟩;have:=h.aj.lt;have:=l.size;simp at f <;> omega
   ·intro f;exact al.nil (X6.1 f)
   ·cases X with
    |none=>exact .inr trivial
    |some a=>
     refine .inr λhm=>?_
     rcases I.2 with ⟨he,_⟩ | ⟨g,cur,he,Xx,_⟩
     ·cases he
     simp at he;subst he;obtain ⟨Yg,cs,X4⟩:=X9 g ⟨0,rfl⟩;have XZ:=l.size;rcases XJ g hm with hm | hm
     ·omega
     ·rcases D.2 with ⟨he,_⟩ | ⟨bW,J,he,Q,_⟩
      ·obtain ⟨o,d⟩:=hm;rw [he] at d;cases d
      ·obtain ⟨o,d⟩:=hm;rw [he] at d;simp at d;have X5:av XA bW J cF:=H.aj Q (λf=>Xw (by rw [he,<-f];exact ⟨0,rfl⟩));have:=av.jm (d.1▸X5) X4;revert this;decide
 ·intro y XW;simp only [dF.post,iq,n3] at XW;rcases XW with XW | rfl
  ·exact h.mX y XW
  ·exact ⟨JH q,V⟩
 ·have hex:=h.ex;show match p.a3++[x] with | []=>p.bz=0 | x::_=>p.bz<=x.v.pieces.length
  cases Yd:p.a3 with
  |nil=>rw [Yd] at hex;simp only [m2];rw [hex];exact vt _
  |cons y ys=>rw [Yd] at hex;exact hex
structure lu (M:a6) (w:ak) (d:bT) (x:aM):Prop where
 code:d.Code=x.code
 len:d.cQ=x.words.length
 rd:bk w d.Words (us x.words)
 nil:d.Words=none->x.words=[]
 off:x.words=[]\/gA M d.Words
 wf:∀ u ∈ x.words,cj u
 cap:d.cQ<=d.cJ
theorem lu.aA {M M':a6} {w w':ak} {v:bT} {x:aM} (h:lu M w v x) (i:ao M w w') (g:∀ k,k<w.heap.size->M' k->M k):lu M' w' v x:=by
 refine ⟨h.code,h.len,h.rd.aA i (h.off.imp (λe=>by rw [e];rfl) id),h.nil,?_,h.wf,h.cap⟩;rcases h.off with b | b
 ·exact .inl b
 ·by_cases f:x.words=[]
  ·exact .inl f
  ·refine .inr ?_;cases c:v.Words with
   |none=>trivial
   |some a=>rw [c] at b;have d:=h.rd;rw [c] at d;intro hm;exact b (g _ (d.lt (by simpa [us] using f)) hm)
theorem fT {e sz n cap:Nat} {xs:ax} (h:a1 w e sz a n cap xs) {k:Nat} (c:aL a k):∃ cs,av w k cs e:=by
 rcases h.2 with ⟨he,_⟩ | ⟨g,cur,he,d,_⟩
 ·obtain ⟨o,b⟩:=c;rw [he] at b;cases b
 ·obtain ⟨o,b⟩:=c;rw [he] at b;simp at b;exact ⟨cur,b.1▸d⟩
def yv (M:a6) (b fN fB:Nat) (p:dF) (n:aN) (w:ak) (r:a4) (w':ak):Prop:=
 ∃ (d:bT) (p':dF),r=.tuple #[d.val,.bool (p.pure.step n).2.2.isSome]/\p'.pure=(p.pure.step n).1/\ea w' fN fB (p.pure.step n).2.1/\
  (∀ x,(p.pure.step n).2.2=some x->d.Code=x.code/\d.cQ=x.words.length/\bk w' d.Words (us x.words)/\(d.Words=none->x.words=[])/\(∀ u ∈ x.words,cj u)/\d.cQ<=d.cJ/\p'.c6=none)/\
  (∀ k,aL d.Words k->aL p.c6 k\/w.heap.size<=k)/\
  (∀ M':a6,t_ M M' w (λk=>aL p'.c4 k\/aL p'.c6 k)->(∀ k,p'.mut b k->M' k)->dM M' w' b p')/\
  ao (λk=>k=b\/aL p.c6 k\/k=fB) w w'/\(p'.c4=p.c4\/∀ k,aL p'.c4 k->w.heap.size<=k)/\(p'.c6=p.c6\/∀ k,aL p'.c6 k->w.heap.size<=k)/\
  (∀ k,aL d.Words k->∃ cs,av w' k cs qy)
theorem sX (h:av w b d.cells jd):cf w ⟨b,0,none⟩ 0 d.cells:=bO h (by simp [bT.cells])
theorem tT {bx:aX} {K:Int->an->Nat->a6} (h:cf w bx 0 d.cells) (a:K d.Code d.Words d.cQ d.cJ) :
  ∃ (Code:Int) (Words:an) (cQ:Nat) (cJ:Nat),cf w bx 0 [.int .i64 Code,.slice Words cQ cJ]/\K Code Words cQ cJ:=⟨_,_,_,_,h,a⟩
theorem Lu {p:cR} {n:aN} (h:p.a3=[]):p.step n=(p,n,none):=by unfold cR.step;rw [h]
theorem KO {p:cR} {n:aN} {x:aQ} {xs:List aQ} (h:p.a3=x::xs):p.step n =
  if p.refusal x n≠0 then (p.done,n,some ⟨p.refusal x n,[]⟩)
  else if p.bz+1<x.v.pieces.length then ({ p with bz:=p.bz+1,words:=p.words++(exec x (x.v.pieces.getD p.bz (0,0)) n).2 },(exec x (x.v.pieces.getD p.bz (0,0)) n).1,none)
   else (p.done,(exec x (x.v.pieces.getD p.bz (0,0)) n).1,some ⟨0,p.words++(exec x (x.v.pieces.getD p.bz (0,0)) n).2⟩):=by
 unfold cR.step;rw [h]
theorem IL {p:cR} {x:aQ} {n:aN} (h:p.refusal x n=0):n.down=false/\x.v.valid 5 (n.words.length / 8:Nat)=0:=by
 unfold cR.refusal at h;split at h
 ·omega
 rename_i aq;split at h
 ·omega
 rename_i al;exact ⟨by simpa using aq,by simpa using al⟩
theorem x' {v:aG} {a b:Int} (h:v.valid a b=0):1<=v.count/\v.inside a b=true:=by
 unfold aG.valid at h;split at h
 ·omega
 rename_i d;split at h
 ·omega
 rename_i c;exact ⟨by omega,by simpa using c⟩
theorem Lv {x:aQ} {n:aN} (h:pc.2<=8) (a:1<=pc.2):(exec x pc n).2.length<=8:=by
 unfold exec;split
 ·simp [aN.read];omega
 split
 ·simp
 split
 ·simp
 split<;>simp
end
end Go.Proofs.YtmkljjbioomepaaGreat
