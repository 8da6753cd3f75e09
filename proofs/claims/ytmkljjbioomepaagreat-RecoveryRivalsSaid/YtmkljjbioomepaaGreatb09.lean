import Derived.Test.YtmkljjbioomepaaGreatb05
import Derived.Test.YtmkljjbioomepaaGreatb08
set_option linter.all false
namespace Go.Proofs.YtmkljjbioomepaaGreat
open Go.Proofs.Tryz Go.bu
variable {M:a3} {a:an} {b aJ fF fr:Nat} {d:bO} {pc:Int×Int} {w:ak}
section
structure aW where
 kind:Int
 node:Int
 at_:Int
 n:Int
 old:Int
 new:Int
 words:bd
 key:Int
 ef:Int
def aW.v (x:aW):aG:=⟨x.kind,x.node,x.at_,x.n,x.old,x.new,none,x.words.length,0,x.key,x.ef⟩
structure aO where
 code:Int
 words:bd
structure dg where
 a1:Int
 inc:Int
 node:Int
 ba:List aW
 bF:Nat
 words:bd
def dg.refusal (p:dg) (x:aW) (n:aZ):Int:=
 if n.down=true then 4 else if x.v.valid 5 (n.words.length / 8:Nat)≠0 then 2 else x.v.check p.inc (n.get (24+p.a1).toNat) (n.get 0) (n.get 1)
def exec (x:aW) (pc:Int×Int) (n:aZ):aZ×bd:=
 if x.kind=1 then (n,n.read pc.1 pc.2)
 else if x.kind=2 then (n.write pc.1.toNat ((x.words.drop (pc.1 - x.at_).toNat).take pc.2.toNat),[])
 else if x.kind=3 then (n.gm x.at_ x.old x.new,[n.get x.at_.toNat])
 else if x.kind=4 then (n.add x.at_ x.new,[n.get x.at_.toNat])
 else (n,[])
def dg.hO (p:dg):Prop:=∀ x xs,p.ba=x::xs->p.bF<x.v.pieces.length
def dg.done (p:dg):dg:={ p with ba:=p.ba.tail,bF:=0,words:=[] }
def dg.step (p:dg) (n:aZ):dg×aZ×Option aO:=
 match p.ba with
 | []=>(p,n,none)
 |x::_=>
  if p.refusal x n≠0 then (p.done,n,some ⟨p.refusal x n,[]⟩)
  else
   let r:=exec x (x.v.pieces.getD p.bF (0,0)) n
   if p.bF+1<x.v.pieces.length then ({ p with bF:=p.bF+1,words:=p.words++r.2 },r.1,none)
   else (p.done,r.1,some ⟨0,p.words++r.2⟩)
structure cF (M:a3) (w:ak) (v:aG) (x:aW):Prop where
 eq:v={ x.v with Words:=v.Words,cD:=v.cD }
 rd:bh w v.Words (us x.words)
 nil:v.Words=none->x.words=[]
 off:x.words=[]\/gl M v.Words
 wf:∀ u ∈ x.words,ca u
 new:ca x.new
 old:ca x.old
 key:ca x.key
 ef:dN x.ef
 cap:v.cK<=v.cD
 kN:x.words.length<=1000000
theorem cF.az {M M':a3} {w w':ak} {v:aG} {x:aW} (h:cF M w v x) (i:ao M w w') (g:∀ k,k<w.heap.size->M' k->M k):cF M' w' v x:=by
 refine ⟨h.eq,h.rd.az i (h.off.imp (λe=>by rw [e];rfl) id),h.nil,?_,h.wf,h.new,h.old,h.key,h.ef,h.cap,h.kN⟩;rcases h.off with b | b
 ·exact .inl b
 ·by_cases f:x.words=[]
  ·exact .inl f
  ·refine .inr ?_;cases c:v.Words with
   |none=>trivial
   |some a=>rw [c] at b;have d:=h.rd;rw [c] at d;intro hm;exact b (g _ (d.lt (by simpa [us] using f)) hm)
theorem cF.count {M:a3} {w:ak} {v:aG} {x:aW} (h:cF M w v x):v.count=x.v.count:=by rw [h.eq];rfl
theorem cF.valid {M:a3} {w:ak} {v:aG} {x:aW} (h:cF M w v x) (a b:Int):v.valid a b=x.v.valid a b:=by rw [h.eq];rfl
theorem cF.check {M:a3} {w:ak} {v:aG} {x:aW} (h:cF M w v x) (a b c d:Int):v.check a b c d=x.v.check a b c d:=by rw [h.eq];rfl
theorem cF.pieces {M:a3} {w:ak} {v:aG} {x:aW} (h:cF M w v x):v.pieces=x.v.pieces:=by rw [h.eq];rfl
theorem cF.at_ {M:a3} {w:ak} {v:aG} {x:aW} (h:cF M w v x):v.bX=x.at_:=by rw [h.eq];rfl
theorem cF.kind {M:a3} {w:ak} {v:aG} {x:aW} (h:cF M w v x):v.Kind=x.kind:=by rw [h.eq];rfl
structure dG where
 a1:Int
 inc:Int
 node:Int
 raw:List aG
 ba:List aW
 c4:an
 fH:Nat
 bF:Nat
 words:bd
 df:an
 eN:Nat
def dG.pure (p:dG):dg:=⟨p.a1,p.inc,p.node,p.ba,p.bF,p.words⟩
def dG.cells (p:dG):ax:=[.int .i64 p.a1,.int .i64 p.inc,.int .i64 p.node,.slice p.c4 p.ba.length p.fH,.int .i64 p.bF,.slice p.df p.words.length p.eN]
abbrev qt:TypeId:=139
abbrev qv:TypeId:=30
def ep (M:a3) (w:ak) (raw:List aG) (xs:List aW):Prop:=raw.length=xs.length/\∀ (i:Nat) (v:aG) (x:aW),raw[i]?=some v->xs[i]?=some x->cF M w v x
theorem ep.az {M M':a3} {w w':ak} {raw:List aG} {xs:List aW} (h:ep M w raw xs) (b:ao M w w') (a:∀ k,k<w.heap.size->M' k->M k):ep M' w' raw xs:=
 ⟨h.1,λi v x al c=>(h.2 i v x al c).az b a⟩
theorem ep.tail {v:aG} {raw:List aG} {x:aW} {xs:List aW} (h:ep M w (v::raw) (x::xs)):ep M w raw xs:=
 ⟨by simpa using h.1,λi v x al a=>h.2 (i+1) v x (by simpa using al) (by simpa using a)⟩
def dG.mut (b:Nat) (p:dG) (k:Nat):Prop:=k=b\/aL p.c4 k\/aL p.df k
structure dK (M:a3) (w:ak) (b:Nat) (p:dG):Prop where
 aj:av w b p.cells qt
 own:a0 w cz 9 p.c4 p.ba.length p.fH (dP p.raw).flatten
 kg:a0 w qv 1 p.df p.words.length p.eN (us p.words)
 vs:ep M w p.raw p.ba
 a1:0<=p.a1/\p.a1<6
 inc:0<=p.inc/\p.inc<=59
 node:0<=p.node/\p.node<5
 len:p.ba.length<=1024
 kN:p.words.length<=8 * p.bF
 mO:∀ x ∈ p.ba,x.v.valid 5 256=0/\x.node=p.node
 ex:match p.ba with
  | []=>p.bF=0
  |x::_=>p.bF<=x.v.pieces.length
 s4:∀ u ∈ p.words,ca u
 iD:∀ k,p.mut b k->M k
theorem dK.az {M M':a3} {w w':ak} {b:Nat} {p:dG} (h:dK M w b p) (a:ao M' w w') (d:∀ k,p.mut b k->¬ M' k) (e:∀ k,M' k->M k):dK M w' b p:=
 ⟨a.aj h.aj (d b (.inl rfl)),h.own.az a λk c=>d k (.inr (.inl c)),h.kg.az a λk c=>d k (.inr (.inr c)),h.vs.az (a.mono λi _=>e i) λ_ _ h=>h,
  h.a1,h.inc,h.node,h.len,h.kN,h.mO,h.ex,h.s4,h.iD⟩
theorem dK.new {w':ak} {p:dG} (h:dK M w b p) (c:ai w w'):dK M w' b p:=h.az c (λ_ _ a=>a) (λ_ a=>a.elim)
theorem dK.mF {M':a3} {p:dG} (h:dK M w b p) (a:∀ k,k<w.heap.size->M' k->M k) (c:∀ k,p.mut b k->M' k):dK M' w b p:=
 ⟨h.aj,h.own,h.kg,h.vs.az (ao.refl _ _) a,h.a1,h.inc,h.node,h.len,h.kN,h.mO,h.ex,h.s4,c⟩
theorem xX {p:dG} (h:dK M w b p):a9 45 [.pointer (some ⟨b,0,none⟩)] w λv w'=>v=.int .i64 p.ba.length/\w'=w:=by refine bc Tryz.func45 ?_;rw [SH];exact ⟨_,_,_,h.aj.cell rfl,rfl,rfl⟩
theorem Jg {p:dG} (h:dK M w b p):a9 67 [.pointer (some ⟨b,0,none⟩)] w λv w'=>v=.int .i64 p.a1/\w'=w:=by refine bc Tryz.func67 ?_;rw [SQ];exact ⟨_,h.aj.cell rfl,rfl,rfl⟩
theorem Dp {p:dG} (h:dK M w b p):a9 68 [.pointer (some ⟨b,0,none⟩)] w λv w'=>v=.int .i64 p.node/\w'=w:=by refine bc Tryz.func68 ?_;rw [Ti];exact ⟨_,h.aj.cell rfl,rfl,rfl⟩
theorem NF {c i n:Int} (d:0<=c/\c<6) (e:0<=i/\i<=59) (f:0<=n/\n<5) :
  a9 80 [.int .i64 c,.int .i64 i,.int .i64 n] w λv w'=>v=.tuple #[.pointer (some ⟨w.heap.size,0,none⟩),.int .i64 0]/\(∀ M:a3,M w.heap.size->dK M w' w.heap.size ⟨c,i,n,[],[],none,0,0,[],none,0⟩)/\ai w w'/\w'.heap.size=w.heap.size+1:=by
 refine bc Tryz.func80 ?_;rw [Vg];refine a8 (λh=>by omega) (λ_=>a8 (λh=>by omega) (λ_=>a8 (λh=>by omega) (λ_=>a8 (λh=>by omega) (λ_=>a8 (λh=>by omega) (λ_=>a8 (λh=>by omega) (λ_=>?_))))))
 rintro b1 w1 rfl rfl;refine ⟨rfl,λM b=>?_,hk _ _,by simp⟩;refine ⟨px w [.int .i64 c,.int .i64 i,.int .i64 n,.slice none 0 0,.int .i64 0,.slice none 0 0] qt,a0.nil _ _ _,a0.nil _ _ _,⟨rfl,λi v x al=>by simp at al⟩,d,e,f,by simp,by simp,by simp,rfl,by simp,?_⟩;rintro k (rfl | ⟨o,a⟩ | ⟨o,a⟩)
 ·exact b
 ·cases a
 ·cases a
theorem HJ (vs:List aG):∀ u ∈ (dP vs).flatten,single u=true:=by intro u hu;simp only [dP,oW,cT] at hu;obtain ⟨r,⟨v,_,rfl⟩,hu⟩:=hu;exact v.single u hu
theorem VN (vs:List aG):(dP vs).flatten.length=vs.length * 9:=by rw [mj (uT vs)];simp [dP]
theorem HY {n c:Nat} {vs:List aG} (h:vs.length=n) (r:bh w a (dP vs).flatten) (s:n<=1000000) (l:a=none->n=0) :
  a9 137 [.slice a n c] w λv w'=>∃ e cap,v=.slice e n cap/\tp w w' cz 9 a e n cap (dP vs).flatten:=by
 refine bc Tryz.func137 ?_;rw [Qj];obtain ⟨i,p,au,d,g⟩:=fO (T:=cz) (z:=.agg #[.int .i64 0,.int .i64 0,.int .i64 0,.int .i64 0,.int .u64 0,.int .u64 0,.slice none 0 0,.int .u64 0,.int .i64 0]) (n:=9) (m:=88) (by kernel_rfl);cases a with
 |none=>
  refine ek rfl ⟨none,0,by rw [l rfl],ao.refl _ _,?_,?_,by simp⟩
  ·rw [l rfl] at h ⊢;rw [fI h];exact a0.nil _ _ _
  ·rintro k ⟨o,q⟩;cases q
 |some a=>refine cV rfl ?_;rintro b1 w1 rfl rfl;obtain ⟨e,b,w',f,j⟩:=xS (t:=125) (ty:=125) (n:=n) (c:=c) (w:=w) (a:=a) (xs:=(dP vs).flatten) Tryz.underlying125 p au (by rw [d];rfl) (by omega) (by rw [VN,h,d]) r (HJ vs) (by omega) (by rw [g];omega);exact ⟨e,n,b,w',f,e,b,rfl,by rw [d] at j;exact j⟩
theorem Mo {v:aG} {ws:bd} (L:bh w v.Words (us ws)) (I:ws.length=v.cK) (r:v.cK<=1000000) (J:v.Words=none->v.cK=0) :
  a9 134 [v.val] w λx w'=>∃ a cap,x=aG.val { v with Words:=a,cD:=cap }/\ai w w'/\a0 w' qv 1 a v.cK cap (us ws)/\(∀ k,aL a k->w.heap.size<=k)/\(a=none↔v.Words=none):=by
 refine bc Tryz.func134 ?_;refine Eq.mpr (UK v.Kind v.Node v.bX v.N v.Old v.ai v.Words v.cK v.cD v.Key v.cn w _) ?_;rintro b1 w1 s d aA F t e;obtain ⟨E,n⟩:=bl s d;obtain ⟨au,c⟩:=bl t e;have A:w1.heap.size=w.heap.size+1:=by rw [d];simp
 have M:F.heap.size=w.heap.size+2:=by rw [e];simp [A]
 have b:=ai.aj c E;have p:Go.bu.ai w F:=n.new c;clear d e E n c;refine ⟨_,_,_,b.cell rfl,?_⟩;refine aC (AG (by rw [hE,I]) (L.new p) (pz ws) (by omega) J) ?_;rintro x O ⟨a,cap,rfl,h,K,u,H⟩;refine ⟨_,_,_,rfl,⟨_,(ai.aj h b).cell rfl⟩,(ai.aj h b).frozen,?_⟩;intro D f;have B:av D b1 (aG.cells { v with Words:=a,cD:=cap }) cz:=by rw [f];exact (ai.aj h b).setCell _
 have g:=(ai.aj h au).GL (b':=b1) (i:=6) (by omega) (.slice a v.cK cap);rw [<-f] at g;have j:ao (λk=>k=b1) O D:=by rw [f];exact eY _ _ _ _
 refine iY (v:={ v with Words:=a,cD:=cap }) (g4 B) ⟨gg (vs:=aG.cells { v with Words:=a,cD:=cap }) g (by simp [aG.cells]) (aG.single _),?_⟩;intro G q;have C:av G aA (aG.cells { v with Words:=a,cD:=cap }) cz:=by rw [q];have:=g.cr (o:=0) (i:=0) (vs:=aG.cells { v with Words:=a,cD:=cap });rw [pt (by simp [aG.cells])] at this;exact this
 have l:ao (λk=>k=aA) D G:=by rw [q];exact h0 _ _ _ _ _
 refine iY (v:={ v with Words:=a,cD:=cap }) (g4 C) ⟨rfl,a,cap,rfl,?_,?_,λk z=>?_,H⟩
 ·exact ((p.new h).trans j (λi y he=>by omega)).trans l (λi y he=>by omega)
 ·refine (K.az j ?_).az l ?_
  ·intro k r he;have:=u k r;omega
  ·intro k r he;have:=u k r;omega
 ·have:=u k z;omega
theorem zi {n:aZ} (h:dZ w b aJ n) (hu:n.down=false) (at_:Int) (l:0<=at_) (o:at_<100):a9 135 [.pointer (some ⟨b,0,none⟩),.int .i64 at_] w λv w'=>v=.int .u64 (n.get at_.toNat)/\ai w w':=by
 refine bc Tryz.func135 ?_;rw [U3];refine aC (vN h at_ 1) ?_;intro v w1 j;rcases j with ⟨c,rfl,rfl⟩ | ⟨c,a,cap,rfl,f,e,p⟩
 ·refine ⟨_,_,_,_,rfl,dw (λ_=>⟨?_,ao.refl _ _⟩) (λh=>absurd h c)⟩;have:(n.words.length:Int)<=at_:=by
   unfold aZ.e_ at c;split at c
   ·omega
   ·simp [hu] at c
  rw [aZ.get,dF,lv (by omega)];rfl
 ·refine ⟨_,_,_,_,rfl,dw (λh=>absurd rfl h) (λ_=>?_)⟩
  rcases e.2 with ⟨d,_⟩ | ⟨g,cur,d,_⟩
  ·cases d
  simp only [fe] at d;subst d;obtain ⟨b1,aA,k,_⟩:=aZ.r9 c;refine ee (by omega) (by simp) ⟨n.get at_.toNat,?_,rfl,f⟩;refine e.rd.cell (tu ?_);simp only [aZ.read];rw [oV,if_pos (by simp),lu];simpa using aZ.get_some (n:=n) (i:=at_.toNat) (by omega)
theorem J6 {p:dG} {n:aZ} {v:aG} {x:aW} (h:dK M w b p) (z:dZ w fF fr n) (al:cF M w v x) :
  a9 96 [.pointer (some ⟨b,0,none⟩),v.val,.pointer (some ⟨fF,0,none⟩)] w λr w'=>r=.int .i64 (p.pure.refusal x n)/\ai w w':=by
 refine bc Tryz.func96 ?_;refine Eq.mpr (Sm b v.Kind v.Node v.bX v.N v.Old v.ai v.Words v.cK v.cD v.Key v.cn fF w _) ?_;rintro b1 w1 C A;obtain ⟨P,j⟩:=bl C A;clear A;refine aC (E5 (z.new j)) ?_;rintro r R ⟨rfl,rfl⟩;refine ⟨_,rfl,ev (λar=>⟨?_,j⟩) (λar=>?_)⟩
 ·have:n.down=true:=by simpa using ar
  simp [dg.refusal,this]
 have e:n.down=false:=by simpa using ar
 intro J F;have o:Go.bu.ai R J:=by rw [F];exact cE _
 have B:av J b1 v.cells cz:=ai.aj o P;have g:=j.new o;refine ⟨λu=>Go.bu.ai J u,ao.refl _ _,mG (λu hu=>g4 (ai.aj hu B)) ?_⟩;refine aC (xV (z.new g)) ?_;rintro r U ⟨rfl,rfl⟩;refine ⟨_,rfl,ao.refl _ _,?_⟩;refine aC (yT _ v 5 _) ?_;rintro r V ⟨rfl,q⟩;have H:=ai.aj q B;have c:=g.new q;refine ⟨_,rfl,dw (λa=>⟨?_,c⟩) (λa=>?_)⟩
 ·rw [al.valid] at a;rw [dg.refusal,if_neg (by simp [e]),if_pos a]
 have O:=h.a1;refine ⟨_,((h.new c).aj).cell rfl,?_⟩;dsimp only;rw [bC (x:=24+p.a1) (by omega) (by omega)];refine aC (zi (z.new c) e (24+p.a1) (by omega) (by omega)) ?_;rintro r S ⟨rfl,s⟩;refine ⟨_,rfl,?_⟩;intro L G;have t:Go.bu.ai S L:=by rw [G];exact cE _
 have d:=(c.new s).new t;have I:=ai.aj t (ai.aj s H);refine ⟨λu=>Go.bu.ai L u,ao.refl _ _,mG (λu hu=>g4 (ai.aj hu I)) ⟨_,λu hu=>((h.new (d.new hu)).aj).cell rfl,?_⟩⟩;refine aC (zi (z.new d) e 0 (by omega) (by omega)) ?_;rintro r W ⟨rfl,f⟩;refine ⟨_,rfl,f,?_⟩;refine aC (zi (z.new (d.new f)) e 1 (by omega) (by omega)) ?_;rintro r X ⟨rfl,y⟩;refine ⟨_,rfl,f.new y,?_⟩;have E:¬ v.valid 5 (n.words.length / 8:Nat)≠0:=by omega
 have k:v.inside 5 (n.words.length / 8:Nat)=true:=by
  unfold aG.valid at a;cases D:v.inside 5 (n.words.length / 8:Nat) with
  |true=>rfl
  |false=>rw [D] at a;simp at a;split at a<;>omega
 have T:=pr k;have K:=h.inc;have i:=al.ef;refine aC (Mn _ v p.inc _ _ _ (by omega) (by omega) (by omega) (by rw [al.eq];exact i.2)) ?_;rintro r Q ⟨rfl,l⟩;refine ⟨_,rfl,?_,((d.new f).new y).new l⟩;rw [al.valid] at a;rw [al.check];rw [dg.refusal,if_neg (by simp [e]),if_neg (λh=>h a)];rfl
def Lp (M:a3) (fF fr:Nat) (n:aZ) (x:aW) (pc:Int×Int) (w:ak) (r:a2) (w':ak):Prop:=
 ∃ a cap,r=.slice a (exec x pc n).2.length cap/\bh w' a (us (exec x pc n).2)/\(∀ k,aL a k->w.heap.size<=k)/\dZ w' fF fr (exec x pc n).1/\ao (λk=>k=fr) w w'
theorem Mp {n:aZ} (h:dZ w b aJ n) (i c:Int):∀ u ∈ n.read i c,ca u:=by intro u hu;exact h.wf u (oX (tn hu))
theorem Mq {n:aZ} (h:dZ w b aJ n) (x:aW) (pc:Int×Int):∀ u ∈ (exec x pc n).2,ca u:=by
 intro u hu;unfold exec at hu;split at hu
 ·exact Mp h _ _ u hu
 split at hu
 ·simp at hu
 split at hu
 ·simp at hu;subst hu;exact h.AM _
 split at hu
 ·simp at hu;subst hu;exact h.AM _
 ·simp at hu
theorem J7 {n:aZ} {v:aG} {x:aW} (V_:dZ w fF fr n) (t:n.down=false) (al:cF M w v x) (V':x.words=[]\/gl (λk=>k=fr) v.Words)
  (Wn:x.at_<=pc.1) (Wo:1<=pc.2) (Wp:pc.2<=8) (Wq:pc.1+pc.2<=x.at_+x.v.count) (Wl:0<=x.at_) (Wm:x.at_+x.v.count<=n.words.length) :
  a9 99 [v.val,.agg #[.int .i64 pc.1,.int .i64 pc.2],.pointer (some ⟨fF,0,none⟩)] w (Lp M fF fr n x pc w):=by
 have hlen:=V_.len;refine bc Tryz.func99 ?_;refine Eq.mpr (Ue v.Kind v.Node v.bX v.N v.Old v.ai v.Words v.cK v.cD v.Key v.cn pc.1 pc.2 fF w _) ?_;rintro b1 w1 X P aA V8 Y Q;obtain ⟨Wa,L⟩:=bl X P;obtain ⟨au,E⟩:=bl Y Q;have d:=ai.aj E Wa;have e:Go.bu.ai w V8:=L.new E;have Wg:w.heap.size<=V8.heap.size:=e.size;clear P Q Wa L E;have G:=V_.new e;have I:=al.kind;have V:=al.at_;refine ⟨_,d.cell rfl,dY (λD=>?_) (λD=>dY (λf=>?_) (λf=>dY (λc=>?_) (λc=>dY (λb=>?_) (λb=>?_))))⟩
 ·
  rw [I] at D;have H:x.v.count=x.n:=by simp [aG.count,aW.v,D]
  have g:n.e_ pc.1 pc.2=0:=by unfold aZ.e_;rw [if_neg (by omega),if_neg (by simp [t])]
  refine ⟨_,au.cell rfl,_,au.cell rfl,?_⟩;refine aC (vN G pc.1 pc.2) ?_;intro r Wr V3;rcases V3 with ⟨Z,_⟩ | ⟨_,a,cap,rfl,c,Wf,V9⟩
  ·exact absurd g Z
  have ex:exec x pc n=(n,n.read pc.1 pc.2):=by simp [exec,D]
  refine ⟨_,_,_,_,rfl,some a,cap,?_,?_,?_,?_,?_⟩
  ·rw [ex];simp only [aZ.xL g]
  ·rw [ex];exact Wf.rd
  ·rintro k ⟨o,he⟩;simp at he;rw [he] at V9;exact lq Wg V9
  ·rw [ex];exact G.new c
  ·exact ao.b4 (e.new c)
 ·
  rw [I] at D f;have H:x.v.count=x.words.length:=by simp [aG.count,aW.v,f]
  have ex:exec x pc n=(n.write pc.1.toNat ((x.words.drop (pc.1 - x.at_).toNat).take pc.2.toNat),[]):=by simp [exec,f]
  refine ⟨_,au.cell rfl,_,d.cell rfl,?_⟩;rintro T R;have b:Go.bu.ai V8 T:=by rw [R];exact cE _
  clear R;have y:=ai.aj b au;have S:=ai.aj b d;have s:=G.new b;have z:=e.new b;refine ⟨λu=>ao (λk=>k=fr) T u,ao.refl _ _,_,λu hu=>(hu.aj y (y.ne s.words (by decide))).cell rfl,_,_,_,λu hu=>(hu.aj S (S.ne s.words (by decide))).cell rfl,_,λu hu=>(hu.aj y (y.ne s.words (by decide))).cell rfl,?_⟩;have Wb:IntKind.i64.wrap (pc.1 - v.bX)=pc.1 - x.at_:=by rw [V,bC (by omega) (by omega)]
  have Wc:IntKind.i64.wrap (pc.1 - x.at_+pc.2)=pc.1 - x.at_+pc.2:=bC (by omega) (by omega);dsimp only;rw [Wb,Wc];have Wh:v.cK=x.words.length:=by rw [al.eq];rfl
  have V2:x.words≠[]:=by intro g;rw [g] at H;simp at H <;> omega
  have V4:=al.rd.new z;have V7:v.cK<=v.cD:=al.cap;rcases V4 with V3 | ⟨sb,so,V5,C⟩
  ·exact absurd (by simpa [us] using V3) V2
  rw [V5];refine kA (by omega) (by omega) (by omega) (by omega) V7 ?_;intro a We;rcases We with rfl | ⟨Wi,_⟩
  ·have q:((x.words.drop (pc.1 - x.at_).toNat).take pc.2.toNat).length=(pc.1 - x.at_+pc.2).toNat - (pc.1 - x.at_).toNat:=by simp;omega
   have O:bh T (some ⟨sb,so+(pc.1 - x.at_).toNat * 1,none⟩) (us ((x.words.drop (pc.1 - x.at_).toNat).take pc.2.toNat)):=by rw [<-yR,<-yS,Nat.mul_one];have:bh T (some ⟨sb,so,none⟩) (us x.words):=.inr ⟨sb,so,rfl,C⟩;exact (this.drop _).take _
   rw [<-q];refine aC (Dn s pc.1 O (λu hu=>al.wf u (oX (tn hu))) (by simp)) ?_;rintro r Ws ⟨rfl,J,K⟩;have g:n.e_ pc.1 ((x.words.drop (pc.1 - x.at_).toNat).take pc.2.toNat).length=0:=by unfold aZ.e_;rw [if_neg (by rw [q];omega),if_neg (by simp [t])]
   rw [if_pos g] at J;refine ⟨_,rfl,K,none,0,?_,?_,?_,?_,?_⟩
   ·rw [ex];rfl
   ·rw [ex];exact bh.nil _ _
   ·rintro k ⟨o,he⟩;cases he
   ·rw [ex];exact J
   ·exact (ao.b4 z).trans K λi _ h=>h
  ·omega
 ·
  rw [I] at c;have H:x.v.count=1:=by simp [aG.count,aW.v,c]
  have ex:exec x pc n=(n.gm x.at_ x.old x.new,[n.get x.at_.toNat]):=by simp [exec,c]
  have Wd:v.Old=x.old:=by rw [al.eq];rfl
  have W:v.ai=x.new:=by rw [al.eq];rfl
  refine ⟨_,d.cell rfl,_,d.cell rfl,_,d.cell rfl,?_⟩;rw [V,Wd,W];refine aC (PB G x.at_ x.old x.new al.new.1 al.new.2) ?_;rintro r Wj ⟨rfl,j,l⟩;have g:n.e_ x.at_ 1=0:=by unfold aZ.e_;rw [if_neg (by omega),if_neg (by simp [t])]
  rw [if_pos g] at j;rw [if_pos g];refine ⟨_,_,rfl,?_⟩;intro U Wk A F;obtain ⟨B,p⟩:=bl A F;have V6:=l.size;refine ⟨some ⟨U,0,none⟩,1,?_,?_,?_,?_,?_⟩
  ·rw [ex];rfl
  ·rw [ex];exact fm B rfl
  ·rintro k ⟨o,he⟩;simp at he <;> omega
  ·rw [ex];exact j.new p
  ·exact ((ao.b4 e).trans l λi _ h=>h).new p
 ·
  rw [I] at b;have H:x.v.count=1:=by simp [aG.count,aW.v,b]
  have ex:exec x pc n=(n.add x.at_ x.new,[n.get x.at_.toNat]):=by simp [exec,b]
  have W:v.ai=x.new:=by rw [al.eq];rfl
  refine ⟨_,d.cell rfl,_,d.cell rfl,?_⟩;rw [V,W];refine aC (PC G x.at_ x.new) ?_;rintro r Wj ⟨rfl,j,l⟩;have g:n.e_ x.at_ 1=0:=by unfold aZ.e_;rw [if_neg (by omega),if_neg (by simp [t])]
  rw [if_pos g] at j;rw [if_pos g];refine ⟨_,_,rfl,?_⟩;intro U Wk A F;obtain ⟨B,p⟩:=bl A F;have V6:=l.size;refine ⟨some ⟨U,0,none⟩,1,?_,?_,?_,?_,?_⟩
  ·rw [ex];rfl
  ·rw [ex];exact fm B rfl
  ·rintro k ⟨o,he⟩;simp at he <;> omega
  ·rw [ex];exact j.new p
  ·exact ((ao.b4 e).trans l λi _ h=>h).new p
 ·rw [I] at D f c b;have ex:exec x pc n=(n,[]):=by simp [exec,D,f,c,b]
  refine ⟨none,0,?_,?_,?_,?_,ao.b4 e⟩
  ·rw [ex];rfl
  ·rw [ex];exact bh.nil _ _
  ·rintro k ⟨o,he⟩;cases he
  ·rw [ex];exact G
def tS (M M':a3) (w:ak) (a:a3):Prop:=∀ k,M' k->(k<w.heap.size/\M k)\/a k
theorem av.i_ {cs a:ax} {T c:TypeId} (h:av w b cs T) (d:av w b a c):T=c:=(h.uniq d).2
def dG.done (p:dG) (c4:an) (fH:Nat):dG:={ p with raw:=p.raw.tail,ba:=p.ba.tail,c4:=c4,fH:=fH,bF:=0,words:=[],df:=none,eN:=0 }
theorem IV (v:aG) (vs:List aG):(dP (v::vs)).flatten.drop 9=(dP vs).flatten:=by simp [dP,aG.cells]
theorem Bw {p:dG} (h:dK M w b p) (F:p.ba≠[]) :
  a9 97 [.pointer (some ⟨b,0,none⟩)] w λr w'=>r=.tuple #[]/\∃ c4 fH,(∀ M':a3,tS M M' w (aL c4)->(∀ k,(p.done c4 fH).mut b k->M' k)->dK M' w' b (p.done c4 fH))/\ao (λk=>k=b) w w'/\(∀ k,aL c4 k->w.heap.size<=k):=by
 refine bc Tryz.func97 ?_;rw [RU];obtain ⟨x,xs,d⟩:∃ x xs,p.ba=x::xs:=by
  cases G:p.ba with
  |nil=>exact absurd G F
  |cons x xs=>exact ⟨x,xs,rfl⟩
 obtain ⟨v,vs,c⟩:∃ v vs,p.raw=v::vs:=by
  cases G:p.raw with
  |nil=>have:=h.vs.1;rw [G,d] at this;simp at this
  |cons v vs=>exact ⟨v,vs,rfl⟩
 have X:=h.len;have hlen:p.ba.length=vs.length+1:=by have:=h.vs.1;rw [c] at this;simpa using this.symm
 have hle:=h.own.le;have A:=h.aj;refine ⟨_,_,_,A.cell rfl,?_⟩;rcases h.own.2 with ⟨_,au,_⟩ | ⟨g,cur,u,V,S,P,Q,I⟩
 ·rw [hlen] at au;omega
 rw [u];refine kA (by omega) (by omega) (by omega) (by omega) hle ?_;intro a J;have H:bh w a (dP vs).flatten:=by
  rcases J with rfl | ⟨he,rfl⟩
  ·have q:=h.own.rd;rw [u] at q;have:=q.drop 9;rw [c,IV] at this;exact this
  ·have:vs=[]:=fI (by omega);rw [this];exact bh.nil _ _
 have L:((p.ba.length:Int).toNat - (1:Int).toNat)=vs.length:=by omega
 rw [L];refine aC (HY rfl H (by omega) (by intro O;rcases J with rfl | ⟨_,rfl⟩<;>cases O)) ?_;rintro r w1 ⟨f,cap,rfl,K,T,D,W⟩;have j:=ai.aj K A;refine ⟨_,_,_,rfl,⟨_,j.cell rfl⟩,j.frozen,?_⟩;rintro Z rfl;have l:=j.setCell (i:=3) (.slice f vs.length cap);refine ⟨⟨_,l.cell rfl⟩,l.frozen,?_⟩;rintro V2 rfl;have n:=l.setCell (i:=4) (.int .i64 0);refine ⟨⟨_,n.cell rfl⟩,n.frozen,?_⟩;rintro V3 rfl;have C:=n.setCell (i:=5) (.slice none 0 0);have s:ao (λk=>k=b) w (((w1.setCell ⟨b,3,none⟩ (.slice f vs.length cap)).setCell ⟨b,4,none⟩ (.int .i64 0)).setCell ⟨b,5,none⟩ (.slice none 0 0)):=
  (((ao.b4 (M:=λk=>k=b) K).setCell (.inl rfl) _).setCell (.inl rfl) _).setCell (.inl rfl) _
 have E:ao (λk=>k=b) w1 (((w1.setCell ⟨b,3,none⟩ (.slice f vs.length cap)).setCell ⟨b,4,none⟩ (.int .i64 0)).setCell ⟨b,5,none⟩ (.slice none 0 0)):=
  (((ao.refl (λk=>k=b) _).setCell (.inl rfl) _).setCell (.inl rfl) _).setCell (.inl rfl) _
 refine ⟨rfl,f,cap,λM' z o=>?_,s,D⟩;have t:p.ba.tail.length=vs.length:=by rw [d];rw [d] at hlen;simpa using hlen
 have N:=A.lt;refine ⟨?_,?_,a0.nil _ _ _,?_,h.a1,h.inc,h.node,?_,by simp [dG.done],?_,?_,by simp [dG.done],o⟩
 ·have e:(p.done f cap).cells=((p.cells.set 3 (.slice f vs.length cap)).set 4 (.int .i64 0)).set 5 (.slice none 0 0):=by simp only [dG.done,dG.cells,t];rfl
  rw [e];exact C
 ·show a0 _ cz 9 f p.ba.tail.length cap (dP p.raw.tail).flatten;rw [t,c];exact T.az E λk B he=>by have:=D k B;omega
 ·show ep M' _ p.raw.tail p.ba.tail;rw [c,d];have q:=h.vs;rw [c,d] at q;refine q.tail.az (s.mono λk _ e=>h.iD k (.inl e)) λk R hm=>?_
  rcases z k hm with hm | hm
  ·exact hm.2
  ·have:=D k hm;omega
 ·show p.ba.tail.length<=1024;omega
 ·intro y U;exact h.mO y (tm U)
 ·show match p.ba.tail with | []=>(0:Nat)=0 | x::_=>0<=x.v.pieces.length
  cases Y:p.ba.tail with
  |nil=>rfl
  |cons y ys=>exact vc _
def dG.post (p:dG) (v:aG) (x:aW) (c4:an) (fH:Nat):dG:={ p with raw:=p.raw++[v],ba:=p.ba++[x],c4:=c4,fH:=fH }
theorem Hm (a b:List aG):(dP (a++b)).flatten=(dP a).flatten++(dP b).flatten:=by simp [dP]
theorem IW {v:aG} {a b:Int} (h:v.valid a b=0):v.valid 5 256=0:=by
 unfold aG.valid at *;split at h
 ·omega
 rename_i e;split at h
 ·omega
 rename_i f;split at h
 ·omega
 rename_i g;have c:v.inside a b=true:=by simpa using f
 have:=pr c;have d:v.inside 5 256=true:=by unfold aG.inside;exact decide_eq_true (by omega)
 rw [if_neg e,if_neg (by simp [d]),if_neg g]
theorem Mr {WM:a3} {p:dG} {v:aG} {x:aW} {lines:Int} (h:dK M w b p) (al:cF WM w v x) (q:x.v.valid 5 lines=0) (V:x.node=p.node) (hlen:p.ba.length<1024) :
  a9 95 [.pointer (some ⟨b,0,none⟩),v.val,.int .i64 lines] w λr w'=>r=.int .i64 0/\∃ bj c4 fH,
   (∀ M':a3,tS M M' w (aL c4)->(∀ k,(p.post bj x c4 fH).mut b k->M' k)->dK M' w' b (p.post bj x c4 fH))/\ao (λk=>k=b\/aL p.c4 k) w w'/\(c4=p.c4\/∀ k,aL c4 k->w.heap.size<=k):=by
 refine bc Tryz.func95 ?_;refine Eq.mpr (Tk b v.Kind v.Node v.bX v.N v.Old v.ai v.Words v.cK v.cD v.Key v.cn lines w _) ?_;rintro b1 w1 Wv Wm;obtain ⟨WL,WC⟩:=bl Wv Wm;clear Wm;refine iY (v:=v) (g4 WL) ?_;refine aC (yT _ v 5 lines) ?_;rintro r WQ ⟨rfl,Wi⟩;have WF:=ai.aj Wi WL;have Wk:=WC.new Wi;refine ⟨_,rfl,dw (λf=>absurd (by rw [al.valid];exact q) f) (λ_=>?_)⟩
 intro Ws Wn;have Wj:Go.bu.ai WQ Ws:=by rw [Wn];exact cE _
 have Wq:av Ws b1 v.cells cz:=ai.aj Wj WF;have V5:=Wk.new Wj;have Wa:=h.new V5;clear Wn;refine ⟨λu=>Go.bu.ai Ws u,ao.refl _ _,_,λu hu=>(ai.aj hu Wq).cell rfl,_,λu hu=>((Wa.new hu).aj).cell rfl,dw (λf=>absurd (by rw [al.eq];exact V) f) (λ_=>?_)⟩
 refine ⟨_,_,_,Wa.aj.cell rfl,a8 (λf=>by omega) (λ_=>?_)⟩
 intro Wt Wo;have V9:Go.bu.ai Ws Wt:=by rw [Wo];exact cE _
 have WG:av Wt b1 v.cells cz:=ai.aj V9 Wq;have l:=V5.new V9;have WD:=Wa.new V9;clear Wo;have E:∀ k,aL p.c4 k->k<w.heap.size:=λk A=>h.own.lt A
 have O:¬ aL p.c4 b:=by
  intro f;rcases h.own.2 with ⟨he,_⟩ | ⟨g,cur,he,V4,_⟩
  ·obtain ⟨o,d⟩:=f;rw [he] at d;cases d
  ·obtain ⟨o,d⟩:=f;rw [he] at d;simp at d;have:=av.i_ (d.1▸V4) h.aj;revert this;decide
 refine ⟨λu=>ao (aL p.c4) Wt u,ao.refl _ _,_,_,_,λu hu=>(hu.aj WD.aj O).cell rfl,mG (v:=v) (λu hu=>g4 (hu.aj WG (λf=>by have:=E _ f;omega))) ?_⟩;have Wd:x.words.length=v.cK:=by rw [al.eq];rfl
 have Wh:x.v.inside 5 lines=true:=by
  unfold aG.valid at q;cases Wg:x.v.inside 5 lines with
  |true=>rfl
  |false=>rw [Wg] at q;simp at q;split at q<;>omega
 have Wg:=pr Wh;refine aC (Mo (v:=v) (ws:=x.words) (al.rd.new l) Wd ?_ (λf=>by rw [<-Wd,al.nil f];rfl)) ?_
 ·rw [<-Wd];exact al.kN
 rintro r WS ⟨X,cap,rfl,Z,I,Y,WB⟩;refine ⟨_,_,_,_,_,_,_,_,_,_,_,rfl,ao.b4 Z,?_⟩;rintro aA WT Ww Wp;obtain ⟨WH,U⟩:=bl Ww Wp;clear Wp;have W:=(l.new Z).new U;have Wb:=h.new W;refine ⟨(ao.b4 Z).new U,?_⟩;obtain ⟨inf,WP,au,V2,Wy⟩:=fO (T:=cz) (z:=.agg #[.int .i64 0,.int .i64 0,.int .i64 0,.int .i64 0,.int .u64 0,.int .u64 0,.slice none 0 0,.int .u64 0,.int .i64 0]) (n:=9) (m:=88) (by kernel_rfl);have V6:=Wb.own;rw [<-V2] at V6;obtain ⟨ap,j,WI,Wl,D,G,K⟩:=V6.append (P:=prog) (t:=125) (ty:=125) Tryz.underlying125 WP au (by rw [V2];rfl) (by omega)
  (s:=some ⟨aA,0,none⟩) (m:=1) (c:=1) (news:=aG.cells { v with Words:=X,cD:=cap }) (by rw [V2];rfl) (fm WH (by simp [aG.cells])) (aG.single _) (by omega) (by rw [Wy];omega)
 rw [V2] at D;refine ⟨ap,p.ba.length+1,j,WI,Wl,((ao.b4 Z).new U).trans G (λ_ _ h=>h),?_⟩;have V8:av WI b p.cells qt:=G.aj Wb.aj O;refine ⟨⟨_,V8.cell rfl⟩,V8.frozen,?_⟩;rintro V7 Wc;have H:ao (λk=>k=b) WI V7:=by rw [Wc];exact eY _ _ _ _
 have Wx:av V7 b (p.cells.set 3 (.slice ap (p.ba.length+1) j)) qt:=by rw [Wc];exact V8.setCell _
 clear Wc;have L:ap=p.c4\/∀ k,aL ap k->w.heap.size<=k:=by
  rcases K with K | K
  ·exact .inl K
  ·refine .inr ?_;rintro k ⟨o,d⟩;rw [K] at d;simp at d;have:=W.size;omega
 have R:ao (λk=>k=b\/aL p.c4 k) w V7:=((ao.b4 W).trans G (λk _ A=>.inr A)).trans H (λk _ A=>.inl A);have V3:¬ aL ap b:=by
  intro f;rcases L with he | he
  ·exact O (he▸f)
  ·have:=he b f;have:=h.aj.lt;omega
 refine ⟨rfl,{ v with Words:=X,cD:=cap },ap,j,λM' We V_=>?_,R,L⟩;refine ⟨?_,?_,?_,?_,h.a1,h.inc,h.node,by simp [dG.post];omega,h.kN,?_,?_,h.s4,V_⟩
 ·have e:(p.post { v with Words:=X,cD:=cap } x ap j).cells=p.cells.set 3 (.slice ap (p.ba.length+1) j):=by simp only [dG.post,dG.cells,dI,g7,p8];rfl
  rw [e];exact Wx
 ·show a0 V7 cz 9 ap (p.ba++[x]).length j (dP (p.raw++[_])).flatten;rw [Hm,dI];have:(dP [{ v with Words:=X,cD:=cap }]).flatten=aG.cells { v with Words:=X,cD:=cap }:=by simp [dP]
  rw [this];exact D.az H λk A he=>V3 (he▸A)
 ·refine (Wb.kg.az G ?_).az H ?_
  ·rintro k A f;rcases h.own.2 with ⟨he,_⟩ | ⟨g,cur,he,V4,_⟩
   ·obtain ⟨o,d⟩:=f;rw [he] at d;cases d
   rcases h.kg.2 with ⟨C,_⟩ | ⟨bV,J,C,Q,_⟩
   ·obtain ⟨o,d⟩:=A;rw [C] at d;cases d
   obtain ⟨o,d⟩:=A;obtain ⟨WR,V'⟩:=f;rw [C] at d;rw [he] at V';simp at d V';have:=av.i_ (V'.1▸V4) (d.1▸Q);revert this;decide
  ·rintro k A he;rcases h.kg.2 with ⟨C,_⟩ | ⟨bV,J,C,Q,_⟩
   ·obtain ⟨o,d⟩:=A;rw [C] at d;cases d
   obtain ⟨o,d⟩:=A;rw [C] at d;simp at d;have:=av.i_ (d.1▸Q) (he▸h.aj);revert this;decide
 ·show ep M' V7 (p.raw++[_]) (p.ba++[x]);have hold:ep M' V7 p.raw p.ba:=h.vs.az (R.mono λk _ A=>h.iD k (A.elim .inl λe=>.inr (.inl e))) λk S hm=>by
   rcases We k hm with hm | hm
   ·exact hm.2
   ·rcases L with he | he
    ·exact h.iD k (.inr (.inl (he▸hm)))
    ·have:=he k hm;omega
  refine ⟨by simp [h.vs.1],λi bj fT B F=>?_⟩;rw [p7] at B F;by_cases S:i<p.raw.length
  ·rw [if_pos S] at B;rw [if_pos (h.vs.1▸S)] at F;exact hold.2 i bj fT B F
  ·rw [if_neg S] at B;rw [if_neg (h.vs.1▸S)] at F;have Wf:i - p.raw.length=0:=by
    rcases yn (i - p.raw.length) with WJ | WJ
    ·exact WJ
    ·rw [lv (by simp;omega)] at B;cases B
   rw [Wf] at B;rw [<-h.vs.1,Wf] at F;simp only [rp,fe] at B F;subst B F;have WE:∀ k,aL X k->Wt.heap.size<=k/\∃ cs,av V7 k cs qv:=by
    intro k A;refine ⟨Y k A,?_⟩;rcases I.2 with ⟨he,_⟩ | ⟨g,cur,he,V4,_⟩
    ·obtain ⟨o,d⟩:=A;rw [he] at d;cases d
    ·obtain ⟨o,d⟩:=A;rw [he] at d;simp at d;have WO:=Y g ⟨0,he⟩;have Wu:=l.size;refine ⟨cur,?_⟩;rw [<-d.1];refine H.aj (G.aj (ai.aj U V4) ?_) ?_
     ·intro f;have:=E _ f;omega
     ·intro f;have:=h.aj.lt;omega
   refine ⟨?_,?_,?_,?_,al.wf,al.new,al.old,al.key,al.ef,I.le,al.kN⟩
   ·have he:=al.eq;rw [he]
   ·refine ((I.rd.new U).az G ?_).az H ?_
    ·cases X with
     |none=>exact .inr trivial
     |some a=>
      refine .inr λf=>?_
      rcases I.2 with ⟨he,_⟩ | ⟨g,cur,he,V4,_⟩
      ·cases he
      ·simp at he;subst he;have:=Y g ⟨0,rfl⟩;have:=E _ f;have:=l.size;simp at *;omega
    ·cases X with
     |none=>exact .inr trivial
     |some a=>
      refine .inr λf=>?_
      rcases I.2 with ⟨he,_⟩ | ⟨g,cur,he,V4,_⟩
      ·cases he
      ·simp at he;subst he;have:=Y g ⟨0,rfl⟩;have:=h.aj.lt;have:=l.size;simp at f <;> omega
   ·intro f;exact al.nil (WB.1 f)
   ·cases X with
    |none=>exact .inr trivial
    |some a=>
     refine .inr λhm=>?_
     rcases I.2 with ⟨he,_⟩ | ⟨g,cur,he,V4,_⟩
     ·cases he
     simp at he;subst he;obtain ⟨WN,cs,Wz⟩:=WE g ⟨0,rfl⟩;have Wu:=l.size;rcases We g hm with hm | hm
     ·omega
     ·rcases D.2 with ⟨he,_⟩ | ⟨bV,J,he,Q,_⟩
      ·obtain ⟨o,d⟩:=hm;rw [he] at d;cases d
      ·obtain ⟨o,d⟩:=hm;rw [he] at d;simp at d;have WA:av V7 bV J cz:=H.aj Q (λf=>V3 (by rw [he,<-f];exact ⟨0,rfl⟩));have:=av.i_ (d.1▸WA) Wz;revert this;decide
 ·intro y Wr;simp only [dG.post,jT,n1] at Wr;rcases Wr with Wr | rfl
  ·exact h.mO y Wr
  ·exact ⟨IW q,V⟩
 ·have hex:=h.ex;show match p.ba++[x] with | []=>p.bF=0 | x::_=>p.bF<=x.v.pieces.length
  cases WK:p.ba with
  |nil=>rw [WK] at hex;simp only [mX];rw [hex];exact vc _
  |cons y ys=>rw [WK] at hex;exact hex
structure lf (M:a3) (w:ak) (d:bO) (x:aO):Prop where
 code:d.Code=x.code
 len:d.cK=x.words.length
 rd:bh w d.Words (us x.words)
 nil:d.Words=none->x.words=[]
 off:x.words=[]\/gl M d.Words
 wf:∀ u ∈ x.words,ca u
 cap:d.cK<=d.cD
theorem lf.az {M M':a3} {w w':ak} {v:bO} {x:aO} (h:lf M w v x) (i:ao M w w') (g:∀ k,k<w.heap.size->M' k->M k):lf M' w' v x:=by
 refine ⟨h.code,h.len,h.rd.az i (h.off.imp (λe=>by rw [e];rfl) id),h.nil,?_,h.wf,h.cap⟩;rcases h.off with b | b
 ·exact .inl b
 ·by_cases f:x.words=[]
  ·exact .inl f
  ·refine .inr ?_;cases c:v.Words with
   |none=>trivial
   |some a=>rw [c] at b;have d:=h.rd;rw [c] at d;intro hm;exact b (g _ (d.lt (by simpa [us] using f)) hm)
theorem fM {e sz n cap:Nat} {xs:ax} (h:a0 w e sz a n cap xs) {k:Nat} (c:aL a k):∃ cs,av w k cs e:=by
 rcases h.2 with ⟨he,_⟩ | ⟨g,cur,he,d,_⟩
 ·obtain ⟨o,b⟩:=c;rw [he] at b;cases b
 ·obtain ⟨o,b⟩:=c;rw [he] at b;simp at b;exact ⟨cur,b.1▸d⟩
def yc (M:a3) (b fF fr:Nat) (p:dG) (n:aZ) (w:ak) (r:a2) (w':ak):Prop:=
 ∃ (d:bO) (p':dG),r=.tuple #[d.val,.bool (p.pure.step n).2.2.isSome]/\p'.pure=(p.pure.step n).1/\dZ w' fF fr (p.pure.step n).2.1/\
  (∀ x,(p.pure.step n).2.2=some x->d.Code=x.code/\d.cK=x.words.length/\bh w' d.Words (us x.words)/\(d.Words=none->x.words=[])/\(∀ u ∈ x.words,ca u)/\d.cK<=d.cD/\p'.df=none)/\
  (∀ k,aL d.Words k->aL p.df k\/w.heap.size<=k)/\
  (∀ M':a3,tS M M' w (λk=>aL p'.c4 k\/aL p'.df k)->(∀ k,p'.mut b k->M' k)->dK M' w' b p')/\
  ao (λk=>k=b\/aL p.df k\/k=fr) w w'/\(p'.c4=p.c4\/∀ k,aL p'.c4 k->w.heap.size<=k)/\(p'.df=p.df\/∀ k,aL p'.df k->w.heap.size<=k)/\
  (∀ k,aL d.Words k->∃ cs,av w' k cs qv)
theorem sQ (h:av w b d.cells iR):b6 w ⟨b,0,none⟩ 0 d.cells:=bJ h (by simp [bO.cells])
theorem tN {bx:aS} {K:Int->an->Nat->a3} (h:b6 w bx 0 d.cells) (a:K d.Code d.Words d.cK d.cD) :
  ∃ (Code:Int) (Words:an) (cK:Nat) (cD:Nat),b6 w bx 0 [.int .i64 Code,.slice Words cK cD]/\K Code Words cK cD:=⟨_,_,_,_,h,a⟩
theorem Lq {p:dg} {n:aZ} (h:p.ba=[]):p.step n=(p,n,none):=by unfold dg.step;rw [h]
theorem J8 {p:dg} {n:aZ} {x:aW} {xs:List aW} (h:p.ba=x::xs):p.step n =
  if p.refusal x n≠0 then (p.done,n,some ⟨p.refusal x n,[]⟩)
  else if p.bF+1<x.v.pieces.length then ({ p with bF:=p.bF+1,words:=p.words++(exec x (x.v.pieces.getD p.bF (0,0)) n).2 },(exec x (x.v.pieces.getD p.bF (0,0)) n).1,none)
   else (p.done,(exec x (x.v.pieces.getD p.bF (0,0)) n).1,some ⟨0,p.words++(exec x (x.v.pieces.getD p.bF (0,0)) n).2⟩):=by
 unfold dg.step;rw [h]
theorem HK {p:dg} {x:aW} {n:aZ} (h:p.refusal x n=0):n.down=false/\x.v.valid 5 (n.words.length / 8:Nat)=0:=by
 unfold dg.refusal at h;split at h
 ·omega
 rename_i ar;split at h
 ·omega
 rename_i al;exact ⟨by simpa using ar,by simpa using al⟩
theorem xT {v:aG} {a b:Int} (h:v.valid a b=0):1<=v.count/\v.inside a b=true:=by
 unfold aG.valid at h;split at h
 ·omega
 rename_i d;split at h
 ·omega
 rename_i c;exact ⟨by omega,by simpa using c⟩
theorem Lr {x:aW} {n:aZ} (h:pc.2<=8) (a:1<=pc.2):(exec x pc n).2.length<=8:=by
 unfold exec;split
 ·simp [aZ.read];omega
 split
 ·simp
 split
 ·simp
 split<;>simp
end
end Go.Proofs.YtmkljjbioomepaaGreat
