import Derived.Test.YtmkljjbioomepaaGreatc05
import Derived.Test.YtmkljjbioomepaaGreatc08
set_option linter.all false
namespace Go.Proofs.YtmkljjbioomepaaGreat
open Go.Proofs.Tryz Go.br
variable {M:a5} {a:al} {b aI fy fo:Nat} {d:bR} {pc:Int×Int} {w:ak}
section
structure aP where
 kind:Int
 node:Int
 at_:Int
 n:Int
 old:Int
 new:Int
 words:bb
 key:Int
 ee:Int
def aP.v (x:aP):aG:=⟨x.kind,x.node,x.at_,x.n,x.old,x.new,none,x.words.length,0,x.key,x.ee⟩
structure aL where
 code:Int
 words:bb
structure c4 where
 a3:Int
 inc:Int
 node:Int
 ba:List aP
 bD:Nat
 words:bb
def c4.refusal (p:c4) (x:aP) (n:a0):Int:=
 if n.down=true then 4 else if x.v.valid 5 (n.words.length / 8:Nat)≠0 then 2 else x.v.check p.inc (n.get (24+p.a3).toNat) (n.get 0) (n.get 1)
def exec (x:aP) (pc:Int×Int) (n:a0):a0×bb:=
 if x.kind=1 then (n,n.read pc.1 pc.2)
 else if x.kind=2 then (n.write pc.1.toNat ((x.words.drop (pc.1 - x.at_).toNat).take pc.2.toNat),[])
 else if x.kind=3 then (n.gh x.at_ x.old x.new,[n.get x.at_.toNat])
 else if x.kind=4 then (n.add x.at_ x.new,[n.get x.at_.toNat])
 else (n,[])
def c4.hL (p:c4):Prop:=∀ x xs,p.ba=x::xs->p.bD<x.v.pieces.length
def c4.done (p:c4):c4:={ p with ba:=p.ba.tail,bD:=0,words:=[] }
def c4.step (p:c4) (n:a0):c4×a0×Option aL:=
 match p.ba with
 | []=>(p,n,none)
 |x::_=>
  if p.refusal x n≠0 then (p.done,n,some ⟨p.refusal x n,[]⟩)
  else
   let r:=exec x (x.v.pieces.getD p.bD (0,0)) n
   if p.bD+1<x.v.pieces.length then ({ p with bD:=p.bD+1,words:=p.words++r.2 },r.1,none)
   else (p.done,r.1,some ⟨0,p.words++r.2⟩)
structure cE (M:a5) (w:ak) (v:aG) (x:aP):Prop where
 eq:v={ x.v with Words:=v.Words,cC:=v.cC }
 rd:bh w v.Words (us x.words)
 nil:v.Words=none->x.words=[]
 off:x.words=[]\/gd M v.Words
 wf:∀ u ∈ x.words,b8 u
 new:b8 x.new
 old:b8 x.old
 key:b8 x.key
 ee:ec x.ee
 cap:v.cI<=v.cC
 kI:x.words.length<=1000000
theorem cE.az {M M':a5} {w w':ak} {v:aG} {x:aP} (h:cE M w v x) (i:ao M w w') (g:∀ k,k<w.heap.size->M' k->M k):cE M' w' v x:=by
 refine ⟨h.eq,h.rd.az i (h.off.imp (λe=>by rw [e];rfl) id),h.nil,?_,h.wf,h.new,h.old,h.key,h.ee,h.cap,h.kI⟩;rcases h.off with b | b
 ·exact .inl b
 ·by_cases f:x.words=[]
  ·exact .inl f
  ·refine .inr ?_;cases c:v.Words with
   |none=>trivial
   |some a=>rw [c] at b;have d:=h.rd;rw [c] at d;intro hm;exact b (g _ (d.lt (by simpa [us] using f)) hm)
theorem cE.count {M:a5} {w:ak} {v:aG} {x:aP} (h:cE M w v x):v.count=x.v.count:=by rw [h.eq];rfl
theorem cE.valid {M:a5} {w:ak} {v:aG} {x:aP} (h:cE M w v x) (a b:Int):v.valid a b=x.v.valid a b:=by rw [h.eq];rfl
theorem cE.check {M:a5} {w:ak} {v:aG} {x:aP} (h:cE M w v x) (a b c d:Int):v.check a b c d=x.v.check a b c d:=by rw [h.eq];rfl
theorem cE.pieces {M:a5} {w:ak} {v:aG} {x:aP} (h:cE M w v x):v.pieces=x.v.pieces:=by rw [h.eq];rfl
theorem cE.at_ {M:a5} {w:ak} {v:aG} {x:aP} (h:cE M w v x):v.bW=x.at_:=by rw [h.eq];rfl
theorem cE.kind {M:a5} {w:ak} {v:aG} {x:aP} (h:cE M w v x):v.Kind=x.kind:=by rw [h.eq];rfl
structure dE where
 a3:Int
 inc:Int
 node:Int
 raw:List aG
 ba:List aP
 c1:al
 fA:Nat
 bD:Nat
 words:bb
 de:al
 eN:Nat
def dE.pure (p:dE):c4:=⟨p.a3,p.inc,p.node,p.ba,p.bD,p.words⟩
def dE.cells (p:dE):ax:=[.int .i64 p.a3,.int .i64 p.inc,.int .i64 p.node,.slice p.c1 p.ba.length p.fA,.int .i64 p.bD,.slice p.de p.words.length p.eN]
abbrev qm:TypeId:=139
abbrev qo:TypeId:=30
def en (M:a5) (w:ak) (raw:List aG) (xs:List aP):Prop:=raw.length=xs.length/\∀ (i:Nat) (v:aG) (x:aP),raw[i]?=some v->xs[i]?=some x->cE M w v x
theorem en.az {M M':a5} {w w':ak} {raw:List aG} {xs:List aP} (h:en M w raw xs) (b:ao M w w') (a:∀ k,k<w.heap.size->M' k->M k):en M' w' raw xs:=
 ⟨h.1,λi v x an c=>(h.2 i v x an c).az b a⟩
theorem en.tail {v:aG} {raw:List aG} {x:aP} {xs:List aP} (h:en M w (v::raw) (x::xs)):en M w raw xs:=
 ⟨by simpa using h.1,λi v x an a=>h.2 (i+1) v x (by simpa using an) (by simpa using a)⟩
def dE.mut (b:Nat) (p:dE) (k:Nat):Prop:=k=b\/aK p.c1 k\/aK p.de k
structure dM (M:a5) (w:ak) (b:Nat) (p:dE):Prop where
 aj:av w b p.cells qm
 own:a2 w cy 9 p.c1 p.ba.length p.fA (dP p.raw).flatten
 j7:a2 w qo 1 p.de p.words.length p.eN (us p.words)
 vs:en M w p.raw p.ba
 a3:0<=p.a3/\p.a3<6
 inc:0<=p.inc/\p.inc<=59
 node:0<=p.node/\p.node<5
 len:p.ba.length<=1024
 kI:p.words.length<=8 * p.bD
 mJ:∀ x ∈ p.ba,x.v.valid 5 256=0/\x.node=p.node
 ex:match p.ba with
  | []=>p.bD=0
  |x::_=>p.bD<=x.v.pieces.length
 sN:∀ u ∈ p.words,b8 u
 ia:∀ k,p.mut b k->M k
theorem dM.az {M M':a5} {w w':ak} {b:Nat} {p:dE} (h:dM M w b p) (a:ao M' w w') (d:∀ k,p.mut b k->¬ M' k) (e:∀ k,M' k->M k):dM M w' b p:=
 ⟨a.aj h.aj (d b (.inl rfl)),h.own.az a λk c=>d k (.inr (.inl c)),h.j7.az a λk c=>d k (.inr (.inr c)),h.vs.az (a.mono λi _=>e i) λ_ _ h=>h,
  h.a3,h.inc,h.node,h.len,h.kI,h.mJ,h.ex,h.sN,h.ia⟩
theorem dM.new {w':ak} {p:dE} (h:dM M w b p) (c:ai w w'):dM M w' b p:=h.az c (λ_ _ a=>a) (λ_ a=>a.elim)
theorem dM.mA {M':a5} {p:dE} (h:dM M w b p) (a:∀ k,k<w.heap.size->M' k->M k) (c:∀ k,p.mut b k->M' k):dM M' w b p:=
 ⟨h.aj,h.own,h.j7,h.vs.az (ao.refl _ _) a,h.a3,h.inc,h.node,h.len,h.kI,h.mJ,h.ex,h.sN,c⟩
theorem xA {p:dE} (h:dM M w b p):a_ 45 [.pointer (some ⟨b,0,none⟩)] w λv w'=>v=.int .i64 p.ba.length/\w'=w:=by refine bc Tryz.func45 ?_;rw [pp];exact ⟨_,_,_,h.aj.cell rfl,rfl,rfl⟩
theorem Ja {p:dE} (h:dM M w b p):a_ 67 [.pointer (some ⟨b,0,none⟩)] w λv w'=>v=.int .i64 p.a3/\w'=w:=by refine bc Tryz.func67 ?_;rw [R6];exact ⟨_,h.aj.cell rfl,rfl,rfl⟩
theorem C4 {p:dE} (h:dM M w b p):a_ 68 [.pointer (some ⟨b,0,none⟩)] w λv w'=>v=.int .i64 p.node/\w'=w:=by refine bc Tryz.func68 ?_;rw [SQ];exact ⟨_,h.aj.cell rfl,rfl,rfl⟩
theorem NS {c i n:Int} (d:0<=c/\c<6) (e:0<=i/\i<=59) (f:0<=n/\n<5) :
  a_ 80 [.int .i64 c,.int .i64 i,.int .i64 n] w λv w'=>v=.tuple #[.pointer (some ⟨w.heap.size,0,none⟩),.int .i64 0]/\(∀ M:a5,M w.heap.size->dM M w' w.heap.size ⟨c,i,n,[],[],none,0,0,[],none,0⟩)/\ai w w'/\w'.heap.size=w.heap.size+1:=by
 refine bc Tryz.func80 ?_;rw [US];refine a' (λh=>by omega) (λ_=>a' (λh=>by omega) (λ_=>a' (λh=>by omega) (λ_=>a' (λh=>by omega) (λ_=>a' (λh=>by omega) (λ_=>a' (λh=>by omega) (λ_=>?_))))))
 rintro b1 w1 rfl rfl;refine ⟨rfl,λM b=>?_,hk _ _,by simp⟩;refine ⟨pv w [.int .i64 c,.int .i64 i,.int .i64 n,.slice none 0 0,.int .i64 0,.slice none 0 0] qm,a2.nil _ _ _,a2.nil _ _ _,⟨rfl,λi v x an=>by simp at an⟩,d,e,f,by simp,by simp,by simp,rfl,by simp,?_⟩;rintro k (rfl | ⟨o,a⟩ | ⟨o,a⟩)
 ·exact b
 ·cases a
 ·cases a
theorem HF (vs:List aG):∀ u ∈ (dP vs).flatten,single u=true:=by intro u hu;simp only [dP,oO,cW] at hu;obtain ⟨r,⟨v,_,rfl⟩,hu⟩:=hu;exact v.single u hu
theorem Va (vs:List aG):(dP vs).flatten.length=vs.length * 9:=by rw [mf (uA vs)];simp [dP]
theorem Hs {n c:Nat} {vs:List aG} (h:vs.length=n) (r:bh w a (dP vs).flatten) (s:n<=1000000) (l:a=none->n=0) :
  a_ 137 [.slice a n c] w λv w'=>∃ e cap,v=.slice e n cap/\tc w w' cy 9 a e n cap (dP vs).flatten:=by
 refine bc Tryz.func137 ?_;rw [PS];obtain ⟨i,p,au,d,g⟩:=fL (T:=cy) (z:=.agg #[.int .i64 0,.int .i64 0,.int .i64 0,.int .i64 0,.int .u64 0,.int .u64 0,.slice none 0 0,.int .u64 0,.int .i64 0]) (n:=9) (m:=88) (by kernel_rfl);cases a with
 |none=>
  refine eB rfl ⟨none,0,by rw [l rfl],ao.refl _ _,?_,?_,by simp⟩
  ·rw [l rfl] at h ⊢;rw [fB h];exact a2.nil _ _ _
  ·rintro k ⟨o,q⟩;cases q
 |some a=>refine cR rfl ?_;rintro b1 w1 rfl rfl;obtain ⟨e,b,w',f,j⟩:=xv (t:=125) (ty:=125) (n:=n) (c:=c) (w:=w) (a:=a) (xs:=(dP vs).flatten) Tryz.underlying125 p au (by rw [d];rfl) (by omega) (by rw [Va,h,d]) r (HF vs) (by omega) (by rw [g];omega);exact ⟨e,n,b,w',f,e,b,rfl,by rw [d] at j;exact j⟩
theorem Mk {v:aG} {ws:bb} (L:bh w v.Words (us ws)) (I:ws.length=v.cI) (r:v.cI<=1000000) (J:v.Words=none->v.cI=0) :
  a_ 134 [v.val] w λx w'=>∃ a cap,x=aG.val { v with Words:=a,cC:=cap }/\ai w w'/\a2 w' qo 1 a v.cI cap (us ws)/\(∀ k,aK a k->w.heap.size<=k)/\(a=none↔v.Words=none):=by
 refine bc Tryz.func134 ?_;refine Eq.mpr (Ul v.Kind v.Node v.bW v.N v.Old v.ai v.Words v.cI v.cC v.Key v.ck w _) ?_;rintro b1 w1 s d aA F t e;obtain ⟨E,n⟩:=bl s d;obtain ⟨au,c⟩:=bl t e;have A:w1.heap.size=w.heap.size+1:=by rw [d];simp
 have M:F.heap.size=w.heap.size+2:=by rw [e];simp [A]
 have b:=ai.aj c E;have p:Go.br.ai w F:=n.new c;clear d e E n c;refine ⟨_,_,_,b.cell rfl,?_⟩;refine aC (Ai (by rw [hC,I]) (L.new p) (pr ws) (by omega) J) ?_;rintro x O ⟨a,cap,rfl,h,K,u,H⟩;refine ⟨_,_,_,rfl,⟨_,(ai.aj h b).cell rfl⟩,(ai.aj h b).frozen,?_⟩;intro D f;have B:av D b1 (aG.cells { v with Words:=a,cC:=cap }) cy:=by rw [f];exact (ai.aj h b).setCell _
 have g:=(ai.aj h au).Gl (b':=b1) (i:=6) (by omega) (.slice a v.cI cap);rw [<-f] at g;have j:ao (λk=>k=b1) O D:=by rw [f];exact eV _ _ _ _
 refine iT (v:={ v with Words:=a,cC:=cap }) (g2 B) ⟨f7 (vs:=aG.cells { v with Words:=a,cC:=cap }) g (by simp [aG.cells]) (aG.single _),?_⟩;intro G q;have C:av G aA (aG.cells { v with Words:=a,cC:=cap }) cy:=by rw [q];have:=g.ct (o:=0) (i:=0) (vs:=aG.cells { v with Words:=a,cC:=cap });rw [pn (by simp [aG.cells])] at this;exact this
 have l:ao (λk=>k=aA) D G:=by rw [q];exact hT _ _ _ _ _
 refine iT (v:={ v with Words:=a,cC:=cap }) (g2 C) ⟨rfl,a,cap,rfl,?_,?_,λk z=>?_,H⟩
 ·exact ((p.new h).trans j (λi y he=>by omega)).trans l (λi y he=>by omega)
 ·refine (K.az j ?_).az l ?_
  ·intro k r he;have:=u k r;omega
  ·intro k r he;have:=u k r;omega
 ·have:=u k z;omega
theorem yR {n:a0} (h:dY w b aI n) (hu:n.down=false) (at_:Int) (l:0<=at_) (o:at_<100):a_ 135 [.pointer (some ⟨b,0,none⟩),.int .i64 at_] w λv w'=>v=.int .u64 (n.get at_.toNat)/\ai w w':=by
 refine bc Tryz.func135 ?_;rw [UF];refine aC (vA h at_ 1) ?_;intro v w1 j;rcases j with ⟨c,rfl,rfl⟩ | ⟨c,a,cap,rfl,f,e,p⟩
 ·refine ⟨_,_,_,_,rfl,dw (λ_=>⟨?_,ao.refl _ _⟩) (λh=>absurd h c)⟩;have:(n.words.length:Int)<=at_:=by
   unfold a0.e3 at c;split at c
   ·omega
   ·simp [hu] at c
  rw [a0.get,dD,lp (by omega)];rfl
 ·refine ⟨_,_,_,_,rfl,dw (λh=>absurd rfl h) (λ_=>?_)⟩
  rcases e.2 with ⟨d,_⟩ | ⟨g,cur,d,_⟩
  ·cases d
  simp only [e8] at d;subst d;obtain ⟨b1,aA,k,_⟩:=a0.rS c;refine ed (by omega) (by simp) ⟨n.get at_.toNat,?_,rfl,f⟩;refine e.rd.cell (s_ ?_);simp only [a0.read];rw [oN,if_pos (by simp),lo];simpa using a0.get_some (n:=n) (i:=at_.toNat) (by omega)
theorem Jb {p:dE} {n:a0} {v:aG} {x:aP} (h:dM M w b p) (z:dY w fy fo n) (an:cE M w v x) :
  a_ 96 [.pointer (some ⟨b,0,none⟩),v.val,.pointer (some ⟨fy,0,none⟩)] w λr w'=>r=.int .i64 (p.pure.refusal x n)/\ai w w':=by
 refine bc Tryz.func96 ?_;refine Eq.mpr (Sa b v.Kind v.Node v.bW v.N v.Old v.ai v.Words v.cI v.cC v.Key v.ck fy w _) ?_;rintro b1 w1 C A;obtain ⟨P,j⟩:=bl C A;clear A;refine aC (EF (z.new j)) ?_;rintro r R ⟨rfl,rfl⟩;refine ⟨_,rfl,er (λar=>⟨?_,j⟩) (λar=>?_)⟩
 ·have:n.down=true:=by simpa using ar
  simp [c4.refusal,this]
 have e:n.down=false:=by simpa using ar
 intro J F;have o:Go.br.ai R J:=by rw [F];exact cD _
 have B:av J b1 v.cells cy:=ai.aj o P;have g:=j.new o;refine ⟨λu=>Go.br.ai J u,ao.refl _ _,mF (λu hu=>g2 (ai.aj hu B)) ?_⟩;refine aC (xy (z.new g)) ?_;rintro r U ⟨rfl,rfl⟩;refine ⟨_,rfl,ao.refl _ _,?_⟩;refine aC (yL _ v 5 _) ?_;rintro r V ⟨rfl,q⟩;have H:=ai.aj q B;have c:=g.new q;refine ⟨_,rfl,dw (λa=>⟨?_,c⟩) (λa=>?_)⟩
 ·rw [an.valid] at a;rw [c4.refusal,if_neg (by simp [e]),if_pos a]
 have O:=h.a3;refine ⟨_,((h.new c).aj).cell rfl,?_⟩;dsimp only;rw [bC (x:=24+p.a3) (by omega) (by omega)];refine aC (yR (z.new c) e (24+p.a3) (by omega) (by omega)) ?_;rintro r S ⟨rfl,s⟩;refine ⟨_,rfl,?_⟩;intro L G;have t:Go.br.ai S L:=by rw [G];exact cD _
 have d:=(c.new s).new t;have I:=ai.aj t (ai.aj s H);refine ⟨λu=>Go.br.ai L u,ao.refl _ _,mF (λu hu=>g2 (ai.aj hu I)) ⟨_,λu hu=>((h.new (d.new hu)).aj).cell rfl,?_⟩⟩;refine aC (yR (z.new d) e 0 (by omega) (by omega)) ?_;rintro r W ⟨rfl,f⟩;refine ⟨_,rfl,f,?_⟩;refine aC (yR (z.new (d.new f)) e 1 (by omega) (by omega)) ?_;rintro r X ⟨rfl,y⟩;refine ⟨_,rfl,f.new y,?_⟩;have E:¬ v.valid 5 (n.words.length / 8:Nat)≠0:=by omega
 have k:v.inside 5 (n.words.length / 8:Nat)=true:=by
  unfold aG.valid at a;cases D:v.inside 5 (n.words.length / 8:Nat) with
  |true=>rfl
  |false=>rw [D] at a;simp at a;split at a<;>omega
 have T:=pk k;have K:=h.inc;have i:=an.ee;refine aC (Mj _ v p.inc _ _ _ (by omega) (by omega) (by omega) (by rw [an.eq];exact i.2)) ?_;rintro r Q ⟨rfl,l⟩;refine ⟨_,rfl,?_,((d.new f).new y).new l⟩;rw [an.valid] at a;rw [an.check];rw [c4.refusal,if_neg (by simp [e]),if_neg (λh=>h a)];rfl
def Kq (M:a5) (fy fo:Nat) (n:a0) (x:aP) (pc:Int×Int) (w:ak) (r:a4) (w':ak):Prop:=
 ∃ a cap,r=.slice a (exec x pc n).2.length cap/\bh w' a (us (exec x pc n).2)/\(∀ k,aK a k->w.heap.size<=k)/\dY w' fy fo (exec x pc n).1/\ao (λk=>k=fo) w w'
theorem Ml {n:a0} (h:dY w b aI n) (i c:Int):∀ u ∈ n.read i c,b8 u:=by intro u hu;exact h.wf u (oP (s6 hu))
theorem Mm {n:a0} (h:dY w b aI n) (x:aP) (pc:Int×Int):∀ u ∈ (exec x pc n).2,b8 u:=by
 intro u hu;unfold exec at hu;split at hu
 ·exact Ml h _ _ u hu
 split at hu
 ·simp at hu
 split at hu
 ·simp at hu;subst hu;exact h.As _
 split at hu
 ·simp at hu;subst hu;exact h.As _
 ·simp at hu
theorem Jc {n:a0} {v:aG} {x:aP} (Vz:dY w fy fo n) (t:n.down=false) (an:cE M w v x) (VA:x.words=[]\/gd (λk=>k=fo) v.Words)
  (VO:x.at_<=pc.1) (VP:1<=pc.2) (VQ:pc.2<=8) (VR:pc.1+pc.2<=x.at_+x.v.count) (VM:0<=x.at_) (VN:x.at_+x.v.count<=n.words.length) :
  a_ 99 [v.val,.agg #[.int .i64 pc.1,.int .i64 pc.2],.pointer (some ⟨fy,0,none⟩)] w (Kq M fy fo n x pc w):=by
 have hlen:=Vz.len;refine bc Tryz.func99 ?_;refine Eq.mpr (TB v.Kind v.Node v.bW v.N v.Old v.ai v.Words v.cI v.cC v.Key v.ck pc.1 pc.2 fy w _) ?_;rintro b1 w1 X P aA Vx Y Q;obtain ⟨VB,L⟩:=bl X P;obtain ⟨au,E⟩:=bl Y Q;have d:=ai.aj E VB;have e:Go.br.ai w Vx:=L.new E;have VH:w.heap.size<=Vx.heap.size:=e.size;clear P Q VB L E;have G:=Vz.new e;have I:=an.kind;have V:=an.at_;refine ⟨_,d.cell rfl,dJ (λD=>?_) (λD=>dJ (λf=>?_) (λf=>dJ (λc=>?_) (λc=>dJ (λb=>?_) (λb=>?_))))⟩
 ·
  rw [I] at D;have H:x.v.count=x.n:=by simp [aG.count,aP.v,D]
  have g:n.e3 pc.1 pc.2=0:=by unfold a0.e3;rw [if_neg (by omega),if_neg (by simp [t])]
  refine ⟨_,au.cell rfl,_,au.cell rfl,?_⟩;refine aC (vA G pc.1 pc.2) ?_;intro r VS Vs;rcases Vs with ⟨Z,_⟩ | ⟨_,a,cap,rfl,c,VG,Vy⟩
  ·exact absurd g Z
  have ex:exec x pc n=(n,n.read pc.1 pc.2):=by simp [exec,D]
  refine ⟨_,_,_,_,rfl,some a,cap,?_,?_,?_,?_,?_⟩
  ·rw [ex];simp only [a0.xm g]
  ·rw [ex];exact VG.rd
  ·rintro k ⟨o,he⟩;simp at he;rw [he] at Vy;exact ll VH Vy
  ·rw [ex];exact G.new c
  ·exact ao.b3 (e.new c)
 ·
  rw [I] at D f;have H:x.v.count=x.words.length:=by simp [aG.count,aP.v,f]
  have ex:exec x pc n=(n.write pc.1.toNat ((x.words.drop (pc.1 - x.at_).toNat).take pc.2.toNat),[]):=by simp [exec,f]
  refine ⟨_,au.cell rfl,_,d.cell rfl,?_⟩;rintro T R;have b:Go.br.ai Vx T:=by rw [R];exact cD _
  clear R;have y:=ai.aj b au;have S:=ai.aj b d;have s:=G.new b;have z:=e.new b;refine ⟨λu=>ao (λk=>k=fo) T u,ao.refl _ _,_,λu hu=>(hu.aj y (y.ne s.words (by decide))).cell rfl,_,_,_,λu hu=>(hu.aj S (S.ne s.words (by decide))).cell rfl,_,λu hu=>(hu.aj y (y.ne s.words (by decide))).cell rfl,?_⟩;have VC:IntKind.i64.wrap (pc.1 - v.bW)=pc.1 - x.at_:=by rw [V,bC (by omega) (by omega)]
  have VD:IntKind.i64.wrap (pc.1 - x.at_+pc.2)=pc.1 - x.at_+pc.2:=bC (by omega) (by omega);dsimp only;rw [VC,VD];have VI:v.cI=x.words.length:=by rw [an.eq];rfl
  have Vr:x.words≠[]:=by intro g;rw [g] at H;simp at H <;> omega
  have Vt:=an.rd.new z;have Vw:v.cI<=v.cC:=an.cap;rcases Vt with Vs | ⟨sb,so,Vu,C⟩
  ·exact absurd (by simpa [us] using Vs) Vr
  rw [Vu];refine kt (by omega) (by omega) (by omega) (by omega) Vw ?_;intro a VF;rcases VF with rfl | ⟨VJ,_⟩
  ·have q:((x.words.drop (pc.1 - x.at_).toNat).take pc.2.toNat).length=(pc.1 - x.at_+pc.2).toNat - (pc.1 - x.at_).toNat:=by simp;omega
   have O:bh T (some ⟨sb,so+(pc.1 - x.at_).toNat * 1,none⟩) (us ((x.words.drop (pc.1 - x.at_).toNat).take pc.2.toNat)):=by rw [<-yJ,<-yK,Nat.mul_one];have:bh T (some ⟨sb,so,none⟩) (us x.words):=.inr ⟨sb,so,rfl,C⟩;exact (this.drop _).take _
   rw [<-q];refine aC (C3 s pc.1 O (λu hu=>an.wf u (oP (s6 hu))) (by simp)) ?_;rintro r VT ⟨rfl,J,K⟩;have g:n.e3 pc.1 ((x.words.drop (pc.1 - x.at_).toNat).take pc.2.toNat).length=0:=by unfold a0.e3;rw [if_neg (by rw [q];omega),if_neg (by simp [t])]
   rw [if_pos g] at J;refine ⟨_,rfl,K,none,0,?_,?_,?_,?_,?_⟩
   ·rw [ex];rfl
   ·rw [ex];exact bh.nil _ _
   ·rintro k ⟨o,he⟩;cases he
   ·rw [ex];exact J
   ·exact (ao.b3 z).trans K λi _ h=>h
  ·omega
 ·
  rw [I] at c;have H:x.v.count=1:=by simp [aG.count,aP.v,c]
  have ex:exec x pc n=(n.gh x.at_ x.old x.new,[n.get x.at_.toNat]):=by simp [exec,c]
  have VE:v.Old=x.old:=by rw [an.eq];rfl
  have W:v.ai=x.new:=by rw [an.eq];rfl
  refine ⟨_,d.cell rfl,_,d.cell rfl,_,d.cell rfl,?_⟩;rw [V,VE,W];refine aC (N3 G x.at_ x.old x.new an.new.1 an.new.2) ?_;rintro r VK ⟨rfl,j,l⟩;have g:n.e3 x.at_ 1=0:=by unfold a0.e3;rw [if_neg (by omega),if_neg (by simp [t])]
  rw [if_pos g] at j;rw [if_pos g];refine ⟨_,_,rfl,?_⟩;intro U VL A F;obtain ⟨B,p⟩:=bl A F;have Vv:=l.size;refine ⟨some ⟨U,0,none⟩,1,?_,?_,?_,?_,?_⟩
  ·rw [ex];rfl
  ·rw [ex];exact fk B rfl
  ·rintro k ⟨o,he⟩;simp at he <;> omega
  ·rw [ex];exact j.new p
  ·exact ((ao.b3 e).trans l λi _ h=>h).new p
 ·
  rw [I] at b;have H:x.v.count=1:=by simp [aG.count,aP.v,b]
  have ex:exec x pc n=(n.add x.at_ x.new,[n.get x.at_.toNat]):=by simp [exec,b]
  have W:v.ai=x.new:=by rw [an.eq];rfl
  refine ⟨_,d.cell rfl,_,d.cell rfl,?_⟩;rw [V,W];refine aC (N4 G x.at_ x.new) ?_;rintro r VK ⟨rfl,j,l⟩;have g:n.e3 x.at_ 1=0:=by unfold a0.e3;rw [if_neg (by omega),if_neg (by simp [t])]
  rw [if_pos g] at j;rw [if_pos g];refine ⟨_,_,rfl,?_⟩;intro U VL A F;obtain ⟨B,p⟩:=bl A F;have Vv:=l.size;refine ⟨some ⟨U,0,none⟩,1,?_,?_,?_,?_,?_⟩
  ·rw [ex];rfl
  ·rw [ex];exact fk B rfl
  ·rintro k ⟨o,he⟩;simp at he <;> omega
  ·rw [ex];exact j.new p
  ·exact ((ao.b3 e).trans l λi _ h=>h).new p
 ·rw [I] at D f c b;have ex:exec x pc n=(n,[]):=by simp [exec,D,f,c,b]
  refine ⟨none,0,?_,?_,?_,?_,ao.b3 e⟩
  ·rw [ex];rfl
  ·rw [ex];exact bh.nil _ _
  ·rintro k ⟨o,he⟩;cases he
  ·rw [ex];exact G
def tA (M M':a5) (w:ak) (a:a5):Prop:=∀ k,M' k->(k<w.heap.size/\M k)\/a k
theorem av.iV {cs a:ax} {T c:TypeId} (h:av w b cs T) (d:av w b a c):T=c:=(h.uniq d).2
def dE.done (p:dE) (c1:al) (fA:Nat):dE:={ p with raw:=p.raw.tail,ba:=p.ba.tail,c1:=c1,fA:=fA,bD:=0,words:=[],de:=none,eN:=0 }
theorem IU (v:aG) (vs:List aG):(dP (v::vs)).flatten.drop 9=(dP vs).flatten:=by simp [dP,aG.cells]
theorem A1 {p:dE} (h:dM M w b p) (F:p.ba≠[]) :
  a_ 97 [.pointer (some ⟨b,0,none⟩)] w λr w'=>r=.tuple #[]/\∃ c1 fA,(∀ M':a5,tA M M' w (aK c1)->(∀ k,(p.done c1 fA).mut b k->M' k)->dM M' w' b (p.done c1 fA))/\ao (λk=>k=b) w w'/\(∀ k,aK c1 k->w.heap.size<=k):=by
 refine bc Tryz.func97 ?_;rw [RR];obtain ⟨x,xs,d⟩:∃ x xs,p.ba=x::xs:=by
  cases G:p.ba with
  |nil=>exact absurd G F
  |cons x xs=>exact ⟨x,xs,rfl⟩
 obtain ⟨v,vs,c⟩:∃ v vs,p.raw=v::vs:=by
  cases G:p.raw with
  |nil=>have:=h.vs.1;rw [G,d] at this;simp at this
  |cons v vs=>exact ⟨v,vs,rfl⟩
 have X:=h.len;have hlen:p.ba.length=vs.length+1:=by have:=h.vs.1;rw [c] at this;simpa using this.symm
 have hle:=h.own.le;have A:=h.aj;refine ⟨_,_,_,A.cell rfl,?_⟩;rcases h.own.2 with ⟨_,au,_⟩ | ⟨g,cur,u,V,S,P,Q,I⟩
 ·rw [hlen] at au;omega
 rw [u];refine kt (by omega) (by omega) (by omega) (by omega) hle ?_;intro a J;have H:bh w a (dP vs).flatten:=by
  rcases J with rfl | ⟨he,rfl⟩
  ·have q:=h.own.rd;rw [u] at q;have:=q.drop 9;rw [c,IU] at this;exact this
  ·have:vs=[]:=fB (by omega);rw [this];exact bh.nil _ _
 have L:((p.ba.length:Int).toNat - (1:Int).toNat)=vs.length:=by omega
 rw [L];refine aC (Hs rfl H (by omega) (by intro O;rcases J with rfl | ⟨_,rfl⟩<;>cases O)) ?_;rintro r w1 ⟨f,cap,rfl,K,T,D,W⟩;have j:=ai.aj K A;refine ⟨_,_,_,rfl,⟨_,j.cell rfl⟩,j.frozen,?_⟩;rintro Z rfl;have l:=j.setCell (i:=3) (.slice f vs.length cap);refine ⟨⟨_,l.cell rfl⟩,l.frozen,?_⟩;rintro Vr rfl;have n:=l.setCell (i:=4) (.int .i64 0);refine ⟨⟨_,n.cell rfl⟩,n.frozen,?_⟩;rintro Vs rfl;have C:=n.setCell (i:=5) (.slice none 0 0);have s:ao (λk=>k=b) w (((w1.setCell ⟨b,3,none⟩ (.slice f vs.length cap)).setCell ⟨b,4,none⟩ (.int .i64 0)).setCell ⟨b,5,none⟩ (.slice none 0 0)):=
  (((ao.b3 (M:=λk=>k=b) K).setCell (.inl rfl) _).setCell (.inl rfl) _).setCell (.inl rfl) _
 have E:ao (λk=>k=b) w1 (((w1.setCell ⟨b,3,none⟩ (.slice f vs.length cap)).setCell ⟨b,4,none⟩ (.int .i64 0)).setCell ⟨b,5,none⟩ (.slice none 0 0)):=
  (((ao.refl (λk=>k=b) _).setCell (.inl rfl) _).setCell (.inl rfl) _).setCell (.inl rfl) _
 refine ⟨rfl,f,cap,λM' z o=>?_,s,D⟩;have t:p.ba.tail.length=vs.length:=by rw [d];rw [d] at hlen;simpa using hlen
 have N:=A.lt;refine ⟨?_,?_,a2.nil _ _ _,?_,h.a3,h.inc,h.node,?_,by simp [dE.done],?_,?_,by simp [dE.done],o⟩
 ·have e:(p.done f cap).cells=((p.cells.set 3 (.slice f vs.length cap)).set 4 (.int .i64 0)).set 5 (.slice none 0 0):=by simp only [dE.done,dE.cells,t];rfl
  rw [e];exact C
 ·show a2 _ cy 9 f p.ba.tail.length cap (dP p.raw.tail).flatten;rw [t,c];exact T.az E λk B he=>by have:=D k B;omega
 ·show en M' _ p.raw.tail p.ba.tail;rw [c,d];have q:=h.vs;rw [c,d] at q;refine q.tail.az (s.mono λk _ e=>h.ia k (.inl e)) λk R hm=>?_
  rcases z k hm with hm | hm
  ·exact hm.2
  ·have:=D k hm;omega
 ·show p.ba.tail.length<=1024;omega
 ·intro y U;exact h.mJ y (s5 U)
 ·show match p.ba.tail with | []=>(0:Nat)=0 | x::_=>0<=x.v.pieces.length
  cases Y:p.ba.tail with
  |nil=>rfl
  |cons y ys=>exact uU _
def dE.post (p:dE) (v:aG) (x:aP) (c1:al) (fA:Nat):dE:={ p with raw:=p.raw++[v],ba:=p.ba++[x],c1:=c1,fA:=fA }
theorem GZ (a b:List aG):(dP (a++b)).flatten=(dP a).flatten++(dP b).flatten:=by simp [dP]
theorem IV {v:aG} {a b:Int} (h:v.valid a b=0):v.valid 5 256=0:=by
 unfold aG.valid at *;split at h
 ·omega
 rename_i e;split at h
 ·omega
 rename_i f;split at h
 ·omega
 rename_i g;have c:v.inside a b=true:=by simpa using f
 have:=pk c;have d:v.inside 5 256=true:=by unfold aG.inside;exact decide_eq_true (by omega)
 rw [if_neg e,if_neg (by simp [d]),if_neg g]
theorem Mn {Wb:a5} {p:dE} {v:aG} {x:aP} {lines:Int} (h:dM M w b p) (an:cE Wb w v x) (q:x.v.valid 5 lines=0) (V:x.node=p.node) (hlen:p.ba.length<1024) :
  a_ 95 [.pointer (some ⟨b,0,none⟩),v.val,.int .i64 lines] w λr w'=>r=.int .i64 0/\∃ bj c1 fA,
   (∀ M':a5,tA M M' w (aK c1)->(∀ k,(p.post bj x c1 fA).mut b k->M' k)->dM M' w' b (p.post bj x c1 fA))/\ao (λk=>k=b\/aK p.c1 k) w w'/\(c1=p.c1\/∀ k,aK c1 k->w.heap.size<=k):=by
 refine bc Tryz.func95 ?_;refine Eq.mpr (SS b v.Kind v.Node v.bW v.N v.Old v.ai v.Words v.cI v.cC v.Key v.ck lines w _) ?_;rintro b1 w1 VW VN;obtain ⟨Wa,V3⟩:=bl VW VN;clear VN;refine iT (v:=v) (g2 Wa) ?_;refine aC (yL _ v 5 lines) ?_;rintro r Wf ⟨rfl,VJ⟩;have V6:=ai.aj VJ Wa;have VL:=V3.new VJ;refine ⟨_,rfl,dw (λf=>absurd (by rw [an.valid];exact q) f) (λ_=>?_)⟩
 intro VT VO;have VK:Go.br.ai Wf VT:=by rw [VO];exact cD _
 have VR:av VT b1 v.cells cy:=ai.aj VK V6;have Vu:=VL.new VK;have VB:=h.new Vu;clear VO;refine ⟨λu=>Go.br.ai VT u,ao.refl _ _,_,λu hu=>(ai.aj hu VR).cell rfl,_,λu hu=>((VB.new hu).aj).cell rfl,dw (λf=>absurd (by rw [an.eq];exact V) f) (λ_=>?_)⟩
 refine ⟨_,_,_,VB.aj.cell rfl,a' (λf=>by omega) (λ_=>?_)⟩
 intro VU VP;have Vy:Go.br.ai VT VU:=by rw [VP];exact cD _
 have V7:av VU b1 v.cells cy:=ai.aj Vy VR;have l:=Vu.new Vy;have V4:=VB.new Vy;clear VP;have E:∀ k,aK p.c1 k->k<w.heap.size:=λk A=>h.own.lt A
 have O:¬ aK p.c1 b:=by
  intro f;rcases h.own.2 with ⟨he,_⟩ | ⟨g,cur,he,Vt,_⟩
  ·obtain ⟨o,d⟩:=f;rw [he] at d;cases d
  ·obtain ⟨o,d⟩:=f;rw [he] at d;simp at d;have:=av.iV (d.1▸Vt) h.aj;revert this;decide
 refine ⟨λu=>ao (aK p.c1) VU u,ao.refl _ _,_,_,_,λu hu=>(hu.aj V4.aj O).cell rfl,mF (v:=v) (λu hu=>g2 (hu.aj V7 (λf=>by have:=E _ f;omega))) ?_⟩;have VE:x.words.length=v.cI:=by rw [an.eq];rfl
 have VI:x.v.inside 5 lines=true:=by
  unfold aG.valid at q;cases VH:x.v.inside 5 lines with
  |true=>rfl
  |false=>rw [VH] at q;simp at q;split at q<;>omega
 have VH:=pk VI;refine aC (Mk (v:=v) (ws:=x.words) (an.rd.new l) VE ?_ (λf=>by rw [<-VE,an.nil f];rfl)) ?_
 ·rw [<-VE];exact an.kI
 rintro r Wh ⟨X,cap,rfl,Z,I,Y,V2⟩;refine ⟨_,_,_,_,_,_,_,_,_,_,_,rfl,ao.b3 Z,?_⟩;rintro aA Wi VX VQ;obtain ⟨V8,U⟩:=bl VX VQ;clear VQ;have W:=(l.new Z).new U;have VC:=h.new W;refine ⟨(ao.b3 Z).new U,?_⟩;obtain ⟨inf,We,au,Vr,VZ⟩:=fL (T:=cy) (z:=.agg #[.int .i64 0,.int .i64 0,.int .i64 0,.int .i64 0,.int .u64 0,.int .u64 0,.slice none 0 0,.int .u64 0,.int .i64 0]) (n:=9) (m:=88) (by kernel_rfl);have Vv:=VC.own;rw [<-Vr] at Vv;obtain ⟨ap,j,V9,VM,D,G,K⟩:=Vv.append (P:=prog) (t:=125) (ty:=125) Tryz.underlying125 We au (by rw [Vr];rfl) (by omega)
  (s:=some ⟨aA,0,none⟩) (m:=1) (c:=1) (news:=aG.cells { v with Words:=X,cC:=cap }) (by rw [Vr];rfl) (fk V8 (by simp [aG.cells])) (aG.single _) (by omega) (by rw [VZ];omega)
 rw [Vr] at D;refine ⟨ap,p.ba.length+1,j,V9,VM,((ao.b3 Z).new U).trans G (λ_ _ h=>h),?_⟩;have Vx:av V9 b p.cells qm:=G.aj VC.aj O;refine ⟨⟨_,Vx.cell rfl⟩,Vx.frozen,?_⟩;rintro Vw VD;have H:ao (λk=>k=b) V9 Vw:=by rw [VD];exact eV _ _ _ _
 have VY:av Vw b (p.cells.set 3 (.slice ap (p.ba.length+1) j)) qm:=by rw [VD];exact Vx.setCell _
 clear VD;have L:ap=p.c1\/∀ k,aK ap k->w.heap.size<=k:=by
  rcases K with K | K
  ·exact .inl K
  ·refine .inr ?_;rintro k ⟨o,d⟩;rw [K] at d;simp at d;have:=W.size;omega
 have R:ao (λk=>k=b\/aK p.c1 k) w Vw:=((ao.b3 W).trans G (λk _ A=>.inr A)).trans H (λk _ A=>.inl A);have Vs:¬ aK ap b:=by
  intro f;rcases L with he | he
  ·exact O (he▸f)
  ·have:=he b f;have:=h.aj.lt;omega
 refine ⟨rfl,{ v with Words:=X,cC:=cap },ap,j,λM' VF Vz=>?_,R,L⟩;refine ⟨?_,?_,?_,?_,h.a3,h.inc,h.node,by simp [dE.post];omega,h.kI,?_,?_,h.sN,Vz⟩
 ·have e:(p.post { v with Words:=X,cC:=cap } x ap j).cells=p.cells.set 3 (.slice ap (p.ba.length+1) j):=by simp only [dE.post,dE.cells,dH,hh,p4];rfl
  rw [e];exact VY
 ·show a2 Vw cy 9 ap (p.ba++[x]).length j (dP (p.raw++[_])).flatten;rw [GZ,dH];have:(dP [{ v with Words:=X,cC:=cap }]).flatten=aG.cells { v with Words:=X,cC:=cap }:=by simp [dP]
  rw [this];exact D.az H λk A he=>Vs (he▸A)
 ·refine (VC.j7.az G ?_).az H ?_
  ·rintro k A f;rcases h.own.2 with ⟨he,_⟩ | ⟨g,cur,he,Vt,_⟩
   ·obtain ⟨o,d⟩:=f;rw [he] at d;cases d
   rcases h.j7.2 with ⟨C,_⟩ | ⟨bU,J,C,Q,_⟩
   ·obtain ⟨o,d⟩:=A;rw [C] at d;cases d
   obtain ⟨o,d⟩:=A;obtain ⟨Wg,VA⟩:=f;rw [C] at d;rw [he] at VA;simp at d VA;have:=av.iV (VA.1▸Vt) (d.1▸Q);revert this;decide
  ·rintro k A he;rcases h.j7.2 with ⟨C,_⟩ | ⟨bU,J,C,Q,_⟩
   ·obtain ⟨o,d⟩:=A;rw [C] at d;cases d
   obtain ⟨o,d⟩:=A;rw [C] at d;simp at d;have:=av.iV (d.1▸Q) (he▸h.aj);revert this;decide
 ·show en M' Vw (p.raw++[_]) (p.ba++[x]);have hold:en M' Vw p.raw p.ba:=h.vs.az (R.mono λk _ A=>h.ia k (A.elim .inl λe=>.inr (.inl e))) λk S hm=>by
   rcases VF k hm with hm | hm
   ·exact hm.2
   ·rcases L with he | he
    ·exact h.ia k (.inr (.inl (he▸hm)))
    ·have:=he k hm;omega
  refine ⟨by simp [h.vs.1],λi bj gm B F=>?_⟩;rw [p3] at B F;by_cases S:i<p.raw.length
  ·rw [if_pos S] at B;rw [if_pos (h.vs.1▸S)] at F;exact hold.2 i bj gm B F
  ·rw [if_neg S] at B;rw [if_neg (h.vs.1▸S)] at F;have VG:i - p.raw.length=0:=by
    rcases x4 (i - p.raw.length) with V_ | V_
    ·exact V_
    ·rw [lp (by simp;omega)] at B;cases B
   rw [VG] at B;rw [<-h.vs.1,VG] at F;simp only [rf,e8] at B F;subst B F;have V5:∀ k,aK X k->VU.heap.size<=k/\∃ cs,av Vw k cs qo:=by
    intro k A;refine ⟨Y k A,?_⟩;rcases I.2 with ⟨he,_⟩ | ⟨g,cur,he,Vt,_⟩
    ·obtain ⟨o,d⟩:=A;rw [he] at d;cases d
    ·obtain ⟨o,d⟩:=A;rw [he] at d;simp at d;have Wd:=Y g ⟨0,he⟩;have VV:=l.size;refine ⟨cur,?_⟩;rw [<-d.1];refine H.aj (G.aj (ai.aj U Vt) ?_) ?_
     ·intro f;have:=E _ f;omega
     ·intro f;have:=h.aj.lt;omega
   refine ⟨?_,?_,?_,?_,an.wf,an.new,an.old,an.key,an.ee,I.le,an.kI⟩
   ·have he:=an.eq;rw [he]
   ·refine ((I.rd.new U).az G ?_).az H ?_
    ·cases X with
     |none=>exact .inr trivial
     |some a=>
      refine .inr λf=>?_
      rcases I.2 with ⟨he,_⟩ | ⟨g,cur,he,Vt,_⟩
      ·cases he
      ·simp at he;subst he;have:=Y g ⟨0,rfl⟩;have:=E _ f;have:=l.size;simp at *;omega
    ·cases X with
     |none=>exact .inr trivial
     |some a=>
      refine .inr λf=>?_
      rcases I.2 with ⟨he,_⟩ | ⟨g,cur,he,Vt,_⟩
      ·cases he
      ·simp at he;subst he;have:=Y g ⟨0,rfl⟩;have:=h.aj.lt;have:=l.size;simp at f <;> omega
   ·intro f;exact an.nil (V2.1 f)
   ·cases X with
    |none=>exact .inr trivial
    |some a=>
     refine .inr λhm=>?_
     rcases I.2 with ⟨he,_⟩ | ⟨g,cur,he,Vt,_⟩
     ·cases he
     simp at he;subst he;obtain ⟨Wc,cs,V0⟩:=V5 g ⟨0,rfl⟩;have VV:=l.size;rcases VF g hm with hm | hm
     ·omega
     ·rcases D.2 with ⟨he,_⟩ | ⟨bU,J,he,Q,_⟩
      ·obtain ⟨o,d⟩:=hm;rw [he] at d;cases d
      ·obtain ⟨o,d⟩:=hm;rw [he] at d;simp at d;have V1:av Vw bU J cy:=H.aj Q (λf=>Vs (by rw [he,<-f];exact ⟨0,rfl⟩));have:=av.iV (d.1▸V1) V0;revert this;decide
 ·intro y VS;simp only [dE.post,jL,nR] at VS;rcases VS with VS | rfl
  ·exact h.mJ y VS
  ·exact ⟨IV q,V⟩
 ·have hex:=h.ex;show match p.ba++[x] with | []=>p.bD=0 | x::_=>p.bD<=x.v.pieces.length
  cases V':p.ba with
  |nil=>rw [V'] at hex;simp only [oQ];rw [hex];exact uU _
  |cons y ys=>rw [V'] at hex;exact hex
structure k1 (M:a5) (w:ak) (d:bR) (x:aL):Prop where
 code:d.Code=x.code
 len:d.cI=x.words.length
 rd:bh w d.Words (us x.words)
 nil:d.Words=none->x.words=[]
 off:x.words=[]\/gd M d.Words
 wf:∀ u ∈ x.words,b8 u
 cap:d.cI<=d.cC
theorem k1.az {M M':a5} {w w':ak} {v:bR} {x:aL} (h:k1 M w v x) (i:ao M w w') (g:∀ k,k<w.heap.size->M' k->M k):k1 M' w' v x:=by
 refine ⟨h.code,h.len,h.rd.az i (h.off.imp (λe=>by rw [e];rfl) id),h.nil,?_,h.wf,h.cap⟩;rcases h.off with b | b
 ·exact .inl b
 ·by_cases f:x.words=[]
  ·exact .inl f
  ·refine .inr ?_;cases c:v.Words with
   |none=>trivial
   |some a=>rw [c] at b;have d:=h.rd;rw [c] at d;intro hm;exact b (g _ (d.lt (by simpa [us] using f)) hm)
theorem fI {e sz n cap:Nat} {xs:ax} (h:a2 w e sz a n cap xs) {k:Nat} (c:aK a k):∃ cs,av w k cs e:=by
 rcases h.2 with ⟨he,_⟩ | ⟨g,cur,he,d,_⟩
 ·obtain ⟨o,b⟩:=c;rw [he] at b;cases b
 ·obtain ⟨o,b⟩:=c;rw [he] at b;simp at b;exact ⟨cur,b.1▸d⟩
def xR (M:a5) (b fy fo:Nat) (p:dE) (n:a0) (w:ak) (r:a4) (w':ak):Prop:=
 ∃ (d:bR) (p':dE),r=.tuple #[d.val,.bool (p.pure.step n).2.2.isSome]/\p'.pure=(p.pure.step n).1/\dY w' fy fo (p.pure.step n).2.1/\
  (∀ x,(p.pure.step n).2.2=some x->d.Code=x.code/\d.cI=x.words.length/\bh w' d.Words (us x.words)/\(d.Words=none->x.words=[])/\(∀ u ∈ x.words,b8 u)/\d.cI<=d.cC/\p'.de=none)/\
  (∀ k,aK d.Words k->aK p.de k\/w.heap.size<=k)/\
  (∀ M':a5,tA M M' w (λk=>aK p'.c1 k\/aK p'.de k)->(∀ k,p'.mut b k->M' k)->dM M' w' b p')/\
  ao (λk=>k=b\/aK p.de k\/k=fo) w w'/\(p'.c1=p.c1\/∀ k,aK p'.c1 k->w.heap.size<=k)/\(p'.de=p.de\/∀ k,aK p'.de k->w.heap.size<=k)/\
  (∀ k,aK d.Words k->∃ cs,av w' k cs qo)
theorem sB (h:av w b d.cells iM):b6 w ⟨b,0,none⟩ 0 d.cells:=bK h (by simp [bR.cells])
theorem tp {bw:aU} {K:Int->al->Nat->a5} (h:b6 w bw 0 d.cells) (a:K d.Code d.Words d.cI d.cC) :
  ∃ (Code:Int) (Words:al) (cI:Nat) (cC:Nat),b6 w bw 0 [.int .i64 Code,.slice Words cI cC]/\K Code Words cI cC:=⟨_,_,_,_,h,a⟩
theorem Kr {p:c4} {n:a0} (h:p.ba=[]):p.step n=(p,n,none):=by unfold c4.step;rw [h]
theorem Jd {p:c4} {n:a0} {x:aP} {xs:List aP} (h:p.ba=x::xs):p.step n =
  if p.refusal x n≠0 then (p.done,n,some ⟨p.refusal x n,[]⟩)
  else if p.bD+1<x.v.pieces.length then ({ p with bD:=p.bD+1,words:=p.words++(exec x (x.v.pieces.getD p.bD (0,0)) n).2 },(exec x (x.v.pieces.getD p.bD (0,0)) n).1,none)
   else (p.done,(exec x (x.v.pieces.getD p.bD (0,0)) n).1,some ⟨0,p.words++(exec x (x.v.pieces.getD p.bD (0,0)) n).2⟩):=by
 unfold c4.step;rw [h]
theorem HG {p:c4} {x:aP} {n:a0} (h:p.refusal x n=0):n.down=false/\x.v.valid 5 (n.words.length / 8:Nat)=0:=by
 unfold c4.refusal at h;split at h
 ·omega
 rename_i ar;split at h
 ·omega
 rename_i an;exact ⟨by simpa using ar,by simpa using an⟩
theorem xw {v:aG} {a b:Int} (h:v.valid a b=0):1<=v.count/\v.inside a b=true:=by
 unfold aG.valid at h;split at h
 ·omega
 rename_i d;split at h
 ·omega
 rename_i c;exact ⟨by omega,by simpa using c⟩
theorem Ks {x:aP} {n:a0} (h:pc.2<=8) (a:1<=pc.2):(exec x pc n).2.length<=8:=by
 unfold exec;split
 ·simp [a0.read];omega
 split
 ·simp
 split
 ·simp
 split<;>simp
end
end Go.Proofs.YtmkljjbioomepaaGreat
