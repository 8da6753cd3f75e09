import Derived.Test.YtmkljjbioomepaaGreatf04
import Derived.Test.YtmkljjbioomepaaGreatf05
set_option linter.all false
set_option maxHeartbeats 4000000
set_option maxRecDepth 100000
namespace Go.Proofs.YtmkljjbioomepaaGreat
open Go.Proofs.Tryz Go.bd
variable {M:a6}{a:an}{b aQ fM fC:Nat}{pc:Int×Int}{w:aj}
section
structure bE where
 kind:Int
 node:Int
 at_:Int
 n:Int
 old:Int
 new:Int
 words:ba
 key:Int
 eS:Int
abbrev bu:=List bE
def bE.v (x:bE):aI:=⟨x.kind,x.node,x.at_,x.n,x.old,x.new,none,x.words.length,0,x.key,x.eS⟩
structure cW where
 code:Int
 words:ba
abbrev cw:=List cW
abbrev bn:=List cw
structure db where
 a3:Int
 inc:Int
 node:Int
 bj:bu
 b0:Nat
 words:ba
def db.refusal (p:db)(x:bE)(n:aO):Int:=
 if n.down=true then 4 else if x.v.valid 5 (n.words.length / 8:Nat)≠0 then 2 else x.v.check p.inc (n.get (24+p.a3).toNat) (n.get 0) (n.get 1)
def exec (x:bE)(pc:Int×Int)(n:aO):aO×ba:=
 if x.kind=1 then(n,n.read pc.1 pc.2)
 else if x.kind=2 then(n.write pc.1.toNat ((x.words.drop (pc.1-x.at_).toNat).take pc.2.toNat),[])
 else if x.kind=3 then(n.gz x.at_ x.old x.new,[n.get x.at_.toNat])
 else if x.kind=4 then(n.add x.at_ x.new,[n.get x.at_.toNat])
 else(n,[])
def db.hL (p:db):Prop:=∀ x xs,p.bj=x::xs->p.b0<x.v.pieces.length
def db.done (p:db):db:={p with bj:=p.bj.tail,b0:=0,words:=[]}
def db.step (p:db)(n:aO):db×aO×Option cW:=
 match p.bj with
 | []=>(p,n,none)
 |x::_=>
  if p.refusal x n≠0 then(p.done,n,some ⟨p.refusal x n,[]⟩)
  else
   let r:=exec x (x.v.pieces.getD p.b0 (0,0)) n
   if p.b0+1<x.v.pieces.length then({p with b0:=p.b0+1,words:=p.words++r.2},r.1,none)
   else(p.done,r.1,some ⟨0,p.words++r.2⟩)
structure cQ (M:a6)(w:aj)(v:aI)(x:bE):Prop where
 eq:v={x.v with Words:=v.Words,c0:=v.c0}
 rd:bh w v.Words (us x.words)
 nil:v.Words=none->x.words=[]
 off:x.words=[]\/gn M v.Words
 wf:∀ u ∈ x.words,ch u
 new:ch x.new
 old:ch x.old
 key:ch x.key
 eS:eb x.eS
 cap:v.dd<=v.c0
 kM:x.words.length<=1000000
theorem cQ.aC {M M':a6}{w w':aj}{v:aI}{x:bE}(h:cQ M w v x)(g:ao M w w')(f:∀ k,k<w.heap.size->M' k->M k):cQ M' w' v x:=by
 refine⟨h.eq,h.rd.aC g (h.off.imp (λe=>by rw[e];rfl) id),h.nil,?_,h.wf,h.new,h.old,h.key,h.eS,h.cap,h.kM⟩;rcases h.off with b | b
 ·grind
 ·by_cases i:x.words=[]
  ·grind
  ·refine .inr ?_;cases c:v.Words with
   |none=>trivial
   |some a=>rw[c]at b;have d:=h.rd;rw[c]at d;intro hm;exact b (f _ (d.lt (by simpa[us]using i)) hm)
theorem cQ.count {M:a6}{w:aj}{v:aI}{x:bE}(h:cQ M w v x):v.count=x.v.count:=by rw[h.eq];rfl
theorem cQ.valid {M:a6}{w:aj}{v:aI}{x:bE}(h:cQ M w v x)(a b:Int):v.valid a b=x.v.valid a b:=by rw[h.eq];rfl
theorem cQ.check {M:a6}{w:aj}{v:aI}{x:bE}(h:cQ M w v x)(a b c d:Int):v.check a b c d=x.v.check a b c d:=by rw[h.eq];rfl
theorem cQ.pieces {M:a6}{w:aj}{v:aI}{x:bE}(h:cQ M w v x):v.pieces=x.v.pieces:=by rw[h.eq];rfl
theorem cQ.at_ {M:a6}{w:aj}{v:aI}{x:bE}(h:cQ M w v x):v.cI=x.at_:=by rw[h.eq];rfl
theorem cQ.kind {M:a6}{w:aj}{v:aI}{x:bE}(h:cQ M w v x):v.Kind=x.kind:=by rw[h.eq];rfl
structure dz where
 a3:Int
 inc:Int
 node:Int
 raw:List aI
 bj:bu
 dg:an
 fF:Nat
 b0:Nat
 words:ba
 gV:an
 oX:Nat
def dz.pure (p:dz):db:=⟨p.a3,p.inc,p.node,p.bj,p.b0,p.words⟩
def dz.cells (p:dz):au:=[.int .i64 p.a3,.int .i64 p.inc,.int .i64 p.node,.slice p.dg p.bj.length p.fF,.int .i64 p.b0,.slice p.gV p.words.length p.oX]
abbrev qG:bU:=139
abbrev qI:bU:=30
def er (M:a6)(w:aj)(raw:List aI)(xs:bu):Prop:=raw.length=xs.length/\∀ (i:Nat) (v:aI) (x:bE),raw[i]?=some v->xs[i]?=some x->cQ M w v x
theorem er.aC {M M':a6}{w w':aj}{raw:List aI}{xs:bu}(h:er M w raw xs)(b:ao M w w')(a:∀ k,k<w.heap.size->M' k->M k):er M' w' raw xs:=
 ⟨h.1,λi v x ar c=>(h.2 i v x ar c).aC b a⟩
theorem er.tail {v:aI}{raw:List aI}{x:bE}{xs:bu}(h:er M w (v::raw) (x::xs)):er M w raw xs:=
 ⟨by simpa using h.1,λi v x ar a=>h.2 (i+1) v x (by grind) (by grind)⟩
def dz.mut (b:Nat)(p:dz)(k:Nat):Prop:=k=b\/aP p.dg k\/aP p.gV k
structure dK (M:a6)(w:aj)(b:Nat)(p:dz):Prop where
 ak:aq w b p.cells qG
 own:aZ w cK 9 p.dg p.bj.length p.fF (dQ p.raw).flatten
 kN:aZ w qI 1 p.gV p.words.length p.oX (us p.words)
 vs:er M w p.raw p.bj
 a3:0<=p.a3/\p.a3<6
 inc:0<=p.inc/\p.inc<=59
 node:0<=p.node/\p.node<5
 len:p.bj.length<=1024
 kM:p.words.length<=8*p.b0
 mT:∀ x ∈ p.bj,x.v.valid 5 256=0/\x.node=p.node
 ex:match p.bj with
  | []=>p.b0=0
  |x::_=>p.b0<=x.v.pieces.length
 tr:∀ u ∈ p.words,ch u
 iE:∀ k,p.mut b k->M k
theorem dK.aC {M M':a6}{w w':aj}{b:Nat}{p:dz}(h:dK M w b p)(a:ao M' w w')(d:∀ k,p.mut b k->¬ M' k)(e:∀ k,M' k->M k):dK M w' b p:=
 ⟨a.ak h.ak (d b (.inl rfl)),h.own.aC a λk c=>d k (.inr (.inl c)),h.kN.aC a λk c=>d k (.inr (.inr c)),h.vs.aC (a.mono λi _=>e i) λ_ _ h=>h,
  h.a3,h.inc,h.node,h.len,h.kM,h.mT,h.ex,h.tr,h.iE⟩
theorem dK.new {w':aj}{p:dz}(h:dK M w b p)(c:ai w w'):dK M w' b p:=h.aC c (λ_ _ a=>a) (λ_ a=>a.elim)
theorem dK.mP {M':a6}{p:dz}(h:dK M w b p)(a:∀ k,k<w.heap.size->M' k->M k)(c:∀ k,p.mut b k->M' k):dK M' w b p:=
 ⟨h.ak,h.own,h.kN,h.vs.aC (ao.refl _ _) a,h.a3,h.inc,h.node,h.len,h.kM,h.mT,h.ex,h.tr,c⟩
theorem zd {p:dz}(h:dK M w b p):a9 45 [.pointer (some ⟨b,0,none⟩)] w λv w'=>v=.int .i64 p.bj.length/\w'=w:=by refine a' Tryz.func45 ?_;rw[Xq];exact⟨_,_,_,h.ak.cell rfl,rfl,rfl⟩
theorem MD {p:dz}(h:dK M w b p):a9 67 [.pointer (some ⟨b,0,none⟩)] w λv w'=>v=.int .i64 p.a3/\w'=w:=by refine a' Tryz.func67 ?_;rw[XY];exact⟨_,h.ak.cell rfl,rfl,rfl⟩
theorem E6 {p:dz}(h:dK M w b p):a9 68 [.pointer (some ⟨b,0,none⟩)] w λv w'=>v=.int .i64 p.node/\w'=w:=by refine a' Tryz.func68 ?_;rw[YE];exact⟨_,h.ak.cell rfl,rfl,rfl⟩
theorem RU {c i n:Int}(d:0<=c/\c<6)(e:0<=i/\i<=59)(f:0<=n/\n<5) :
  a9 80 [.int .i64 c,.int .i64 i,.int .i64 n] w λv w'=>v=.tuple #[.pointer (some ⟨w.heap.size,0,none⟩),.int .i64 0]/\(∀ M:a6,M w.heap.size->dK M w' w.heap.size ⟨c,i,n,[],[],none,0,0,[],none,0⟩)/\ai w w'/\w'.heap.size=w.heap.size+1:=by
 refine a' Tryz.func80 ?_;rw[J9];refine a5 (λh=>by omega) (λ_=>a5 (λh=>by omega) (λ_=>a5 (λh=>by omega) (λ_=>a5 (λh=>by omega) (λ_=>a5 (λh=>by omega) (λ_=>a5 (λh=>by omega) (λ_=>?_))))))
 rintro b1 w1 rfl rfl;refine⟨rfl,λM b=>?_,hn _ _,by simp⟩;refine⟨pR w [.int .i64 c,.int .i64 i,.int .i64 n,.slice none 0 0,.int .i64 0,.slice none 0 0] qG,aZ.nil _ _ _,aZ.nil _ _ _,⟨rfl,λi v x ar=>by grind⟩,d,e,f,by simp,by simp,by simp,rfl,by simp,?_⟩;rintro k (rfl | ⟨o,a⟩ | ⟨o,a⟩)
 ·exact b
 ·cases a
 grind
theorem La (vs:List aI):∀ u ∈ (dQ vs).flatten,single u=true:=by intro u hu;simp only[dQ,rJ,dD]at hu;obtain⟨r,⟨v,_,rfl⟩,hu⟩:=hu;exact v.single u hu
theorem Ky (vs:List aI):(dQ vs).flatten.length=vs.length*9:=by rw[lT (vK vs)];simp[dQ]
theorem KF {n c:Nat}{vs:List aI}(e:vs.length=n)(p:bh w a (dQ vs).flatten)(q:n<=1000000)(j:a=none->n=0) :
  a9 137 [.slice a n c] w λv w'=>∃ bS cap,v=.slice bS n cap/\ug w w' cK 9 a bS n cap (dQ vs).flatten:=by
 refine a' Tryz.func137 ?_;rw[Uw];obtain⟨i,h,ax,b,g⟩:=ft (T:=cK) (z:=.agg #[.int .i64 0,.int .i64 0,.int .i64 0,.int .i64 0,.int .u64 0,.int .u64 0,.slice none 0 0,.int .u64 0,.int .i64 0]) (n:=9) (m:=88) (by kernel_rfl);cases a with
 |none=>
  refine fq rfl ⟨none,0,by grind,ao.refl _ _,?_,?_,by simp⟩
  ·rw[j rfl]at e ⊢;rw[hh e];exact aZ.nil _ _ _
  ·rintro k ⟨o,l⟩;cases l
 |some a=>
  refine dm rfl ?_;rintro b1 w1 rfl rfl;obtain⟨bS,d,w',f,r⟩:=y9 (t:=125) (ty:=125) (n:=n) (c:=c) (w:=w) (a:=a) (xs:=(dQ vs).flatten) Tryz.underlying125 h ax (by rw[b];rfl) (by omega) (by grind[Ky]) p (La vs) (by omega) (by grind)
  grind
theorem PH {v:aI}{ws:ba}(H:bh w v.Words (us ws))(E:ws.length=v.dd)(L:v.dd<=1000000)(F:v.Words=none->v.dd=0) :
  a9 134 [v.val] w λx w'=>∃ bS cap,x=aI.val {v with Words:=bS,c0:=cap}/\ai w w'/\aZ w' qI 1 bS v.dd cap (us ws)/\(∀ k,aP bS k->w.heap.size<=k)/\(bS=none↔v.Words=none):=by
 refine a' Tryz.func134 ?_;refine Eq.mpr (ZZ v.Kind v.Node v.cI v.N v.Old v.ai v.Words v.dd v.c0 v.Key v.cB w _) ?_;rintro b1 w1 q l az A r n;obtain⟨z,h⟩:=bo q l;obtain⟨ax,b⟩:=bo r n;have I:w1.heap.size=w.heap.size+1:=by simp_all
 have J:A.heap.size=w.heap.size+2:=by simp_all
 have a:=ai.ak b z;have j:Go.bd.ai w A:=h.new b;clear l n z h b;refine⟨_,_,_,a.cell rfl,?_⟩;refine aE (Cf (by rw[ht,E]) (H.new j) (oJ ws) (by omega) F) ?_;rintro x K ⟨bS,cap,rfl,e,G,M,C⟩;refine⟨_,_,_,rfl,⟨_,(ai.ak e a).cell rfl⟩,(ai.ak e a).frozen,?_⟩;intro y c;have t:aq y b1 (aI.cells {v with Words:=bS,c0:=cap}) cK:=by rw[c];exact(ai.ak e a).setCell _
 have d:=(ai.ak e ax).II (b':=b1) (i:=6) (by omega) (.slice bS v.dd cap);rw[<-c]at d;have f:ao (λk=>k=b1) K y:=by rw[c];exact eY _ _ _ _
 refine i' (v:={v with Words:=bS,c0:=cap}) (g8 t) ⟨fU (vs:=aI.cells {v with Words:=bS,c0:=cap}) d (by simp[aI.cells]) (aI.single _),?_⟩;intro B p;have u:aq B az (aI.cells {v with Words:=bS,c0:=cap}) cK:=by rw[p];have:=d.cv (o:=0) (i:=0) (vs:=aI.cells {v with Words:=bS,c0:=cap});rw[oG (by simp[aI.cells])]at this;exact this
 have g:ao (λk=>k=az) y B:=by rw[p];exact hD _ _ _ _ _
 refine i' (v:={v with Words:=bS,c0:=cap}) (g8 u) ⟨rfl,bS,cap,rfl,?_,?_,λk D=>?_,C⟩
 ·exact((j.new e).trans f (λi s he=>by omega)).trans g (λi s he=>by omega)
 ·refine(G.aC f ?_).aC g ?_
  ·grind
  grind
 grind
theorem AI {n:aO}(h:d9 w b aQ n)(hu:n.down=false)(at_:Int)(k:0<=at_)(l:at_<100):a9 135 [.pointer (some ⟨b,0,none⟩),.int .i64 at_] w λv w'=>v=.int .u64 (n.get at_.toNat)/\ai w w':=by
 refine a' Tryz.func135 ?_;rw[JG];refine aE (uh h at_ 1) ?_;intro v w1 i;rcases i with⟨d,rfl,rfl⟩ | ⟨d,a,cap,rfl,f,e,o⟩
 ·refine⟨_,_,_,_,rfl,dw (λ_=>⟨?_,ao.refl _ _⟩) (λh=>b_ h d)⟩
  grind[aO.e0,aO.get,List.getElem?_eq_none]
 ·refine⟨_,_,_,_,rfl,dw (λh=>b_ rfl h) (λ_=>?_)⟩
  rcases e.2 with⟨c,_⟩ | ⟨g,cur,c,_⟩
  ·cases c
  simp only[hA]at c;subst c;obtain⟨b1,az,j,_⟩:=aO.sB d;refine dM (by omega) (by simp) ⟨n.get at_.toNat,?_,rfl,f⟩;refine e.rd.cell (ue ?_);simp only[aO.read];rw[List.getElem?_take,bm (by simp),vU]
  grind[aO.get_some]
theorem ME {p:dz}{n:aO}{v:aI}{x:bE}(h:dK M w b p)(z:d9 w fM fC n)(ar:cQ M w v x) :
  a9 96 [.pointer (some ⟨b,0,none⟩),v.val,.pointer (some ⟨fM,0,none⟩)] w λr w'=>r=.int .i64 (p.pure.refusal x n)/\ai w w':=by
 refine a' Tryz.func96 ?_;refine Eq.mpr (Xr b v.Kind v.Node v.cI v.N v.Old v.ai v.Words v.dd v.c0 v.Key v.cB fM w _) ?_;rintro b1 w1 C A;obtain⟨P,i⟩:=bo C A;clear A;refine aE (GU (z.new i)) ?_;rintro r R ⟨rfl,rfl⟩;refine⟨_,rfl,eu (λO=>⟨?_,i⟩) (λO=>?_)⟩
 ·grind[db.refusal]
 have j:n.down=false:=by grind
 intro I E;have o:Go.bd.ai R I:=by rw[E];exact cC _
 have B:aq I b1 v.cells cK:=ai.ak o P;have f:=i.new o;refine⟨λu=>Go.bd.ai I u,ao.refl _ _,mV (λu hu=>g8 (ai.ak hu B)) ?_⟩;refine aE (zb (z.new f)) ?_;rintro r U ⟨rfl,rfl⟩;refine⟨_,rfl,ao.refl _ _,?_⟩;refine aE (AA _ v 5 _) ?_;rintro r V ⟨rfl,q⟩;have G:=ai.ak q B;have c:=f.new q;refine⟨_,rfl,dw (λa=>⟨?_,c⟩) (λa=>?_)⟩
 ·rw[ar.valid]at a;rw[db.refusal,aW (by grind),bm a]
 have L:=h.a3;refine⟨_,((h.new c).ak).cell rfl,?_⟩;dsimp only;rw[bq (x:=24+p.a3) (by omega) (by omega)];refine aE (AI (z.new c) j (24+p.a3) (by omega) (by omega)) ?_;rintro r S ⟨rfl,s⟩;refine⟨_,rfl,?_⟩;intro K F;have t:Go.bd.ai S K:=by rw[F];exact cC _
 have d:=(c.new s).new t;have H:=ai.ak t (ai.ak s G);refine⟨λu=>Go.bd.ai K u,ao.refl _ _,mV (λu hu=>g8 (ai.ak hu H)) ⟨_,λu hu=>((h.new (d.new hu)).ak).cell rfl,?_⟩⟩;refine aE (AI (z.new d) j 0 (by omega) (by omega)) ?_;rintro r W ⟨rfl,e⟩;refine⟨_,rfl,e,?_⟩;refine aE (AI (z.new (d.new e)) j 1 (by omega) (by omega)) ?_;rintro r X ⟨rfl,y⟩;refine⟨_,rfl,e.new y,?_⟩;have D:¬ v.valid 5 (n.words.length / 8:Nat)≠0:=by omega
 have k:v.inside 5 (n.words.length / 8:Nat)=true:=by
  grind[aI.valid]
 have T:=pI k;have J:=h.inc;have g:=ar.eS;refine aE (PG _ v p.inc _ _ _ (by omega) (by omega) (by omega) (by rw[ar.eq];exact g.2)) ?_;rintro r Q ⟨rfl,l⟩;refine⟨_,rfl,?_,((d.new e).new y).new l⟩;rw[ar.valid]at a;rw[ar.check];rw[db.refusal,aW (by grind),aW (λh=>h a)];rfl
def OE (M:a6)(fM fC:Nat)(n:aO)(x:bE)(pc:Int×Int)(w:aj)(r:bl)(w':aj):Prop:=
 ∃ a cap,r=.slice a (exec x pc n).2.length cap/\bh w' a (us (exec x pc n).2)/\(∀ k,aP a k->w.heap.size<=k)/\d9 w' fM fC (exec x pc n).1/\ao (λk=>k=fC) w w'
theorem PI {n:aO}(h:d9 w b aQ n)(i c:Int):∀ u ∈ n.read i c,ch u:=by intro u hu;exact h.wf u (qb (v3 hu))
theorem PJ {n:aO}(h:d9 w b aQ n)(x:bE)(pc:Int×Int):∀ u ∈ (exec x pc n).2,ch u:=by
 intro u hu;unfold exec at hu;split at hu
 ·grind[PI]
 split at hu
 ·grind
 split at hu
 ·simp at hu;subst hu;exact h.I6 _
 split at hu
 ·simp at hu;subst hu;exact h.I6 _
 grind
theorem MF {n:aO}{v:aI}{x:bE}(ah:d9 w fM fC n)(aW:n.down=false)(ar:cQ M w v x)(aq:x.words=[]\/gn (λk=>k=fC) v.Words)
  (br:x.at_<=pc.1) (bs:1<=pc.2) (bx:pc.2<=8) (bD:pc.1+pc.2<=x.at_+x.v.count) (a7:0<=x.at_) (a8:x.at_+x.v.count<=n.words.length) :
  a9 99 [v.val,.agg #[.int .i64 pc.1,.int .i64 pc.2],.pointer (some ⟨fM,0,none⟩)] w (OE M fM fC n x pc w):=by
 have hlen:=ah.len;refine a' Tryz.func99 ?_;refine Eq.mpr (Zm v.Kind v.Node v.cI v.N v.Old v.ai v.Words v.dd v.c0 v.Key v.cB pc.1 pc.2 fM w _) ?_;rintro b1 w1 W J az ag X K;obtain⟨aB,H⟩:=bo W J;obtain⟨ax,C⟩:=bo X K;have c:=ai.ak C aB;have d:Go.bd.ai w ag:=H.new C;have bk:w.heap.size<=ag.heap.size:=d.size;clear J K aB H C;have F:=ah.new d;have E:=ar.kind;have S:=ar.at_;refine⟨_,c.cell rfl,dJ (λP=>?_) (λP=>dJ (λA=>?_) (λA=>dJ (λe=>?_) (λe=>dJ (λb=>?_) (λb=>?_))))⟩
 ·
  rw[E]at P;have T:x.v.count=x.n:=by grind[aI.count,bE.v]
  have q:n.e0 pc.1 pc.2=0:=by
   unfold aO.e0
   grind
  refine⟨_,ax.cell rfl,_,ax.cell rfl,?_⟩;refine aE (uh F pc.1 pc.2) ?_;intro r bG Z;rcases Z with⟨aT,_⟩ | ⟨_,a,cap,rfl,e,aV,bb⟩
  ·grind
  have ex:exec x pc n=(n,n.read pc.1 pc.2):=by grind[exec]
  refine⟨_,_,_,_,rfl,some a,cap,?_,?_,?_,?_,?_⟩
  ·grind[aO.vB]
  ·rw[ex];exact aV.rd
  ·rintro k ⟨o,he⟩
   grind
  ·rw[ex];exact F.new e
  ·exact ao.b7 (d.new e)
 ·
  rw[E]at P A;have T:x.v.count=x.words.length:=by grind[aI.count,bE.v]
  have ex:exec x pc n=(n.write pc.1.toNat ((x.words.drop (pc.1-x.at_).toNat).take pc.2.toNat),[]):=by grind[exec]
  refine⟨_,ax.cell rfl,_,c.cell rfl,?_⟩;rintro Q L;have b:Go.bd.ai ag Q:=by rw[L];exact cC _
  clear L;have p:=ai.ak b ax;have O:=ai.ak b c;have l:=F.new b;have s:=d.new b;refine⟨λu=>ao (λk=>k=fC) Q u,ao.refl _ _,_,λu hu=>(hu.ak p (p.ne l.words (by decide))).cell rfl,_,_,_,λu hu=>(hu.ak O (O.ne l.words (by decide))).cell rfl,_,λu hu=>(hu.ak p (p.ne l.words (by decide))).cell rfl,?_⟩;have aL:IntKind.i64.wrap (pc.1-v.cI)=pc.1-x.at_:=by rw[S,bq (by omega) (by omega)]
  have aM:IntKind.i64.wrap (pc.1-x.at_+pc.2)=pc.1-x.at_+pc.2:=bq (by omega) (by omega);dsimp only;rw[aL,aM];have aZ:v.dd=x.words.length:=by rw[ar.eq];rfl
  have Y:x.words≠[]:=by grind
  have ab:=ar.rd.new s;have af:v.dd<=v.c0:=ar.cap;rcases ab with Z | ⟨sb,so,ad,z⟩
  ·exact b_ (by simpa[us]using Z) Y
  rw[ad];refine jq (by omega) (by omega) (by omega) (by omega) af ?_;intro a aR;rcases aR with rfl | ⟨a1,_⟩
  ·have B:((x.words.drop (pc.1 - x.at_).toNat).take pc.2.toNat).length=(pc.1 - x.at_+pc.2).toNat - (pc.1 - x.at_).toNat:=by
    grind
   have I:bh Q (some ⟨sb,so+(pc.1-x.at_).toNat*1,none⟩) (us ((x.words.drop (pc.1-x.at_).toNat).take pc.2.toNat)):=by rw[<-Ay,<-Az,Nat.mul_one];have:bh Q (some ⟨sb,so,none⟩) (us x.words):=.inr ⟨sb,so,rfl,z⟩;exact(this.drop _).take _
   rw[<-B];refine aE (E5 l pc.1 I (λu hu=>ar.wf u (qb (v3 hu))) (by simp)) ?_;rintro r bH ⟨rfl,V,G⟩;have q:n.e0 pc.1 ((x.words.drop (pc.1-x.at_).toNat).take pc.2.toNat).length=0:=by
    unfold aO.e0
    grind
   rw[bm q]at V;refine⟨_,rfl,G,none,0,?_,?_,?_,?_,?_⟩
   ·grind
   ·rw[ex];exact bh.nil _ _
   ·rintro k ⟨o,he⟩;cases he
   ·grind
   ·exact(ao.b7 s).trans G λi _ h=>h
  ·omega
 ·
  rw[E]at e;have T:x.v.count=1:=by grind[aI.count,bE.v]
  have ex:exec x pc n=(n.gz x.at_ x.old x.new,[n.get x.at_.toNat]):=by grind[exec]
  have aP:v.Old=x.old:=by rw[ar.eq];rfl
  have U:v.ai=x.new:=by rw[ar.eq];rfl
  refine⟨_,c.cell rfl,_,c.cell rfl,_,c.cell rfl,?_⟩;rw[S,aP,U];refine aE (Th F x.at_ x.old x.new ar.new.1 ar.new.2) ?_;rintro r a4 ⟨rfl,f,g⟩;have q:n.e0 x.at_ 1=0:=by
   unfold aO.e0
   grind
  rw[bm q]at f;rw[bm q];refine⟨_,_,rfl,?_⟩;intro R a5 t D;obtain⟨y,j⟩:=bo t D;have ae:=g.size;refine⟨some ⟨R,0,none⟩,1,?_,?_,?_,?_,?_⟩
  ·grind
  ·rw[ex];exact e6 y rfl
  ·rintro k ⟨o,he⟩;grind
  ·rw[ex];exact f.new j
  ·exact((ao.b7 d).trans g λi _ h=>h).new j
 ·
  rw[E]at b;have T:x.v.count=1:=by grind[aI.count,bE.v]
  have ex:exec x pc n=(n.add x.at_ x.new,[n.get x.at_.toNat]):=by grind[exec]
  have U:v.ai=x.new:=by rw[ar.eq];rfl
  refine⟨_,c.cell rfl,_,c.cell rfl,?_⟩;rw[S,U];refine aE (Ti F x.at_ x.new) ?_;rintro r a4 ⟨rfl,f,g⟩;have q:n.e0 x.at_ 1=0:=by
   unfold aO.e0
   grind
  rw[bm q]at f;rw[bm q];refine⟨_,_,rfl,?_⟩;intro R a5 t D;obtain⟨y,j⟩:=bo t D;have ae:=g.size;refine⟨some ⟨R,0,none⟩,1,?_,?_,?_,?_,?_⟩
  ·grind
  ·rw[ex];exact e6 y rfl
  ·rintro k ⟨o,he⟩;grind
  ·rw[ex];exact f.new j
  ·exact((ao.b7 d).trans g λi _ h=>h).new j
 ·rw[E]at P A e b;have ex:exec x pc n=(n,[]):=by grind[exec]
  refine⟨none,0,?_,?_,?_,?_,ao.b7 d⟩
  ·grind
  ·rw[ex];exact bh.nil _ _
  ·rintro k ⟨o,he⟩;cases he
  grind
def uG (M M':a6)(w:aj)(a:a6):Prop:=∀ k,M' k->(k<w.heap.size/\M k)\/a k
theorem aq.jR {cs a:au}{T c:bU}(h:aq w b cs T)(d:aq w b a c):T=c:=(h.uniq d).2
def dz.done (p:dz)(dg:an)(fF:Nat):dz:={p with raw:=p.raw.tail,bj:=p.bj.tail,dg:=dg,fF:=fF,b0:=0,words:=[],gV:=none,oX:=0}
theorem Mg (v:aI)(vs:List aI):(dQ (v::vs)).flatten.drop 9=(dQ vs).flatten:=by simp[dQ,aI.cells]
theorem CX {p:dz}(h:dK M w b p)(P:p.bj≠[]) :
  a9 97 [.pointer (some ⟨b,0,none⟩)] w λr w'=>r=.tuple #[]/\∃ dg fF,(∀ M':a6,uG M M' w (aP dg)->(∀ k,(p.done dg fF).mut b k->M' k)->dK M' w' b (p.done dg fF))/\ao (λk=>k=b) w w'/\(∀ k,aP dg k->w.heap.size<=k):=by
 refine a' Tryz.func97 ?_;rw[XF];obtain⟨x,xs,t⟩:∃ x xs,p.bj=x::xs:=by
  cases R:p.bj with
  |nil=>grind
  |cons x xs=>grind
 obtain⟨v,vs,l⟩:∃ v vs,p.raw=v::vs:=by
  cases R:p.raw with
  |nil=>have:=h.vs.1;grind
  |cons v vs=>grind
 have V:=h.len;have hlen:p.bj.length=vs.length+1:=by have:=h.vs.1;grind
 have hle:=h.own.le;have z:=h.ak;refine⟨_,_,_,z.cell rfl,?_⟩;rcases h.own.2 with⟨_,ax,_⟩ | ⟨g,cur,s,T,O,J,K,C⟩
 ·grind
 rw[s];refine jq (by omega) (by omega) (by omega) (by omega) hle ?_;intro a F;have B:bh w a (dQ vs).flatten:=by
  rcases F with rfl | ⟨he,rfl⟩
  ·have n:=h.own.rd;rw[s]at n;have:=n.drop 9
   grind[Mg]
  ·have:vs=[]:=hh (by omega);rw[this];exact bh.nil _ _
 have E:((p.bj.length:Int).toNat-(1:Int).toNat)=vs.length:=by omega
 rw[E];refine aE (KF rfl B (by omega) (by grind)) ?_;rintro r w1 ⟨bS,cap,rfl,D,Q,L,U⟩;have c:=ai.ak D z;refine⟨_,_,_,rfl,⟨_,c.cell rfl⟩,c.frozen,?_⟩;rintro W rfl;have d:=c.setCell (i:=3) (.slice bS vs.length cap);refine⟨⟨_,d.cell rfl⟩,d.frozen,?_⟩;rintro X rfl;have f:=d.setCell (i:=4) (.int .i64 0);refine⟨⟨_,f.cell rfl⟩,f.frozen,?_⟩;rintro Y rfl;have H:=f.setCell (i:=5) (.slice none 0 0);have o:ao (λk=>k=b) w (((w1.setCell ⟨b,3,none⟩ (.slice bS vs.length cap)).setCell ⟨b,4,none⟩ (.int .i64 0)).setCell ⟨b,5,none⟩ (.slice none 0 0)):=
  (((ao.b7 (M:=λk=>k=b) D).setCell (.inl rfl) _).setCell (.inl rfl) _).setCell (.inl rfl) _
 have A:ao (λk=>k=b) w1 (((w1.setCell ⟨b,3,none⟩ (.slice bS vs.length cap)).setCell ⟨b,4,none⟩ (.int .i64 0)).setCell ⟨b,5,none⟩ (.slice none 0 0)):=
  (((ao.refl (λk=>k=b) _).setCell (.inl rfl) _).setCell (.inl rfl) _).setCell (.inl rfl) _
 refine⟨rfl,bS,cap,λM' u j=>?_,o,L⟩;have q:p.bj.tail.length=vs.length:=by grind
 have I:=z.lt;refine⟨?_,?_,aZ.nil _ _ _,?_,h.a3,h.inc,h.node,?_,by simp[dz.done],?_,?_,by simp[dz.done],j⟩
 ·have e:(p.done bS cap).cells=((p.cells.set 3 (.slice bS vs.length cap)).set 4 (.int .i64 0)).set 5 (.slice none 0 0):=by simp only[dz.done,dz.cells,q];rfl
  grind
 ·show aZ _ cK 9 bS p.bj.tail.length cap (dQ p.raw.tail).flatten;rw[q,l];exact Q.aC A λk G he=>by grind
 ·show er M' _ p.raw.tail p.bj.tail;rw[l,t];have n:=h.vs;rw[l,t]at n;refine n.tail.aC (o.mono λk _ e=>h.iE k (.inl e)) λk N hm=>?_
  rcases u k hm with hm | hm
  ·grind
  grind
 ·show p.bj.tail.length<=1024;omega
 ·intro y S;exact h.mT y (tJ S)
 ·show match p.bj.tail with | []=>(0:Nat)=0 | x::_=>0<=x.v.pieces.length
  grind
def dz.post (p:dz)(v:aI)(x:bE)(dg:an)(fF:Nat):dz:={p with raw:=p.raw++[v],bj:=p.bj++[x],dg:=dg,fF:=fF}
theorem CE (a b:List aI):(dQ (a++b)).flatten=(dQ a).flatten++(dQ b).flatten:=by simp[dQ]
theorem Mh {v:aI}{a b:Int}(h:v.valid a b=0):v.valid 5 256=0:=by
 unfold aI.valid at *;split at h
 ·omega
 rename_i e;split at h
 ·omega
 rename_i f;split at h
 ·omega
 rename_i g;have c:v.inside a b=true:=by grind
 have:=pI c;have d:v.inside 5 256=true:=by
  grind[aI.inside,decide_eq_true]
 grind
theorem PK {ca:a6}{p:dz}{v:aI}{x:bE}{lines:Int}(h:dK M w b p)(ar:cQ ca w v x)(bk:x.v.valid 5 lines=0)(L:x.node=p.node)(hlen:p.bj.length<1024) :
  a9 95 [.pointer (some ⟨b,0,none⟩),v.val,.int .i64 lines] w λr w'=>r=.int .i64 0/\∃ bH dg fF,
   (∀ M':a6,uG M M' w (aP dg)->(∀ k,(p.post bH x dg fF).mut b k->M' k)->dK M' w' b (p.post bH x dg fF))/\ao (λk=>k=b\/aP p.dg k) w w'/\(dg=p.dg\/∀ k,aP dg k->w.heap.size<=k):=by
 refine a' Tryz.func95 ?_;refine Eq.mpr (YG b v.Kind v.Node v.cI v.N v.Old v.ai v.Words v.dd v.c0 v.Key v.cB lines w _) ?_;rintro b1 w1 bO bq;obtain⟨b9,bV⟩:=bo bO bq;clear bq;refine i' (v:=v) (g8 b9) ?_;refine aE (AA _ v 5 lines) ?_;rintro r cr ⟨rfl,a7⟩;have bY:=ai.ak a7 b9;have bb:=bV.new a7;refine⟨_,rfl,dw (λd=>b_ (by rw[ar.valid];grind) d) (λ_=>?_)⟩
 intro bJ br;have a8:Go.bd.ai cr bJ:=by rw[br];exact cC _
 have bD:aq bJ b1 v.cells cK:=ai.ak a8 bY;have Z:=bb.new a8;have aB:=h.new Z;clear br;refine⟨λu=>Go.bd.ai bJ u,ao.refl _ _,_,λu hu=>(ai.ak hu bD).cell rfl,_,λu hu=>((aB.new hu).ak).cell rfl,dw (λd=>b_ (by rw[ar.eq];exact L) d) (λ_=>?_)⟩
 refine⟨_,_,_,aB.ak.cell rfl,a5 (λd=>by omega) (λ_=>?_)⟩
 intro bK bs;have ag:Go.bd.ai bJ bK:=by rw[bs];exact cC _
 have b4:aq bK b1 v.cells cK:=ai.ak ag bD;have j:=Z.new ag;have bW:=aB.new ag;clear bs;have aM:∀ k,aP p.dg k->k<w.heap.size:=λk l=>h.own.lt l
 have Y:¬ aP p.dg b:=by
  intro d;rcases h.own.2 with⟨he,_⟩ | ⟨g,cur,he,af,_⟩
  ·obtain⟨o,f⟩:=d;grind
  ·obtain⟨o,f⟩:=d;rw[he]at f;simp at f;have:=aq.jR (f.1▸af) h.ak
   grind
 refine⟨λu=>ao (aP p.dg) bK u,ao.refl _ _,_,_,_,λu hu=>(hu.ak bW.ak Y).cell rfl,mV (v:=v) (λu hu=>g8 (hu.ak b4 (λd=>by grind))) ?_⟩;have aT:x.words.length=v.dd:=by rw[ar.eq];rfl
 have a4:x.v.inside 5 lines=true:=by
  grind[aI.valid]
 have cm:=pI a4;refine aE (PH (v:=v) (ws:=x.words) (ar.rd.new j) aT ?_ (λd=>by rw[<-aT,ar.nil d];rfl)) ?_
 ·rw[<-aT];exact ar.kM
 rintro r cv ⟨bS,cap,rfl,V,F,S,bR⟩;refine⟨_,_,_,_,_,_,_,_,_,_,_,rfl,ao.b7 V,?_⟩;rintro az cx bQ bx;obtain⟨b5,K⟩:=bo bQ bx;clear bx;have O:=(j.new V).new K;have aL:=h.new O;refine⟨(ao.b7 V).new K,?_⟩;obtain⟨inf,cl,ax,W,cd⟩:=ft (T:=cK) (z:=.agg #[.int .i64 0,.int .i64 0,.int .i64 0,.int .i64 0,.int .u64 0,.int .u64 0,.slice none 0 0,.int .u64 0,.int .i64 0]) (n:=9) (m:=88) (by kernel_rfl);have ab:=aL.own;rw[<-W]at ab;obtain⟨ap,C,b6,bh,q,D,Q⟩:=ab.append (P:=prog) (t:=125) (ty:=125) Tryz.underlying125 cl ax (by rw[W];rfl) (by omega)
  (s:=some ⟨az,0,none⟩) (m:=1) (c:=1) (news:=aI.cells {v with Words:=bS,c0:=cap}) (by rw[W];rfl) (e6 b5 (by simp[aI.cells])) (aI.single _) (by omega) (by grind)
 rw[W]at q;refine⟨ap,p.bj.length+1,C,b6,bh,((ao.b7 V).new K).trans D (λ_ _ h=>h),?_⟩;have ae:aq b6 b p.cells qG:=D.ak aL.ak Y;refine⟨⟨_,ae.cell rfl⟩,ae.frozen,?_⟩;rintro ad aR;have E:ao (λk=>k=b) b6 ad:=by rw[aR];exact eY _ _ _ _
 have cb:aq ad b (p.cells.set 3 (.slice ap (p.bj.length+1) C)) qG:=by rw[aR];exact ae.setCell _
 clear aR;have H:ap=p.dg\/∀ k,aP ap k->w.heap.size<=k:=by
  rcases Q with Q | Q
  ·grind
  ·refine .inr ?_;rintro k ⟨o,f⟩;rw[Q]at f;simp at f;have:=O.size;omega
 have I:ao (λk=>k=b\/aP p.dg k) w ad:=((ao.b7 O).trans D (λk _ l=>.inr l)).trans E (λk _ l=>.inl l);have X:¬ aP ap b:=by
  intro d;rcases H with he | he
  ·grind
  ·have:=he b d;have:=h.ak.lt;omega
 refine⟨rfl,{v with Words:=bS,c0:=cap},ap,C,λM' aV ah=>?_,I,H⟩;refine⟨?_,?_,?_,?_,h.a3,h.inc,h.node,by grind[dz.post],h.kM,?_,?_,h.tr,ah⟩
 ·grind[dz.post,dz.cells,List.length_append,List.length_cons,List.length_nil]
 ·show aZ ad cK 9 ap (p.bj++[x]).length C (dQ (p.raw++[_])).flatten;rw[CE,hi];have:(dQ [{v with Words:=bS,c0:=cap}]).flatten=aI.cells {v with Words:=bS,c0:=cap}:=by simp[dQ]
  rw[this];exact q.aC E λk l he=>X (he▸l)
 ·refine(aL.kN.aC D ?_).aC E ?_
  ·rintro k l d;rcases h.own.2 with⟨he,_⟩ | ⟨g,cur,he,af,_⟩
   ·obtain⟨o,f⟩:=d;grind
   rcases h.kN.2 with⟨R,_⟩ | ⟨bL,G,R,U,_⟩
   ·obtain⟨o,f⟩:=l;grind
   obtain⟨o,f⟩:=l;obtain⟨cu,cq⟩:=d
   grind[aq.jR]
  ·rintro k l he;rcases h.kN.2 with⟨R,_⟩ | ⟨bL,G,R,U,_⟩
   ·obtain⟨o,f⟩:=l;grind
   obtain⟨o,f⟩:=l;rw[R]at f;simp at f;have:=aq.jR (f.1▸U) (he▸h.ak)
   grind
 ·show er M' ad (p.raw++[_]) (p.bj++[x]);have hold:er M' ad p.raw p.bj:=h.vs.aC (I.mono λk _ l=>h.iE k (l.elim .inl λe=>.inr (.inl e))) λk J hm=>by
   rcases aV k hm with hm | hm
   ·grind
   ·rcases H with he | he
    ·exact h.iE k (.inr (.inl (he▸hm)))
    grind
  refine⟨by simp[h.vs.1],λi bH fh A B=>?_⟩;rw[rF]at A B;by_cases J:i<p.raw.length
  ·rw[bm J]at A;rw[bm (h.vs.1▸J)]at B;exact hold.2 i bH fh A B
  ·rw [aW J] at A;rw [aW (h.vs.1▸J)] at B;have a1:i - p.raw.length=0:=by
    grind
   rw[a1]at A;rw[<-h.vs.1,a1]at B;simp only[Jp,hA]at A B;subst A B;have bX:∀ k,aP bS k->bK.heap.size<=k/\∃ cs,aq ad k cs qI:=by
    intro k l;refine⟨S k l,?_⟩;rcases F.2 with⟨he,_⟩ | ⟨g,cur,he,af,_⟩
    ·obtain⟨o,f⟩:=l;grind
    ·obtain⟨o,f⟩:=l;rw[he]at f;simp at f;have ck:=S g ⟨0,he⟩;have bN:=j.size;refine⟨cur,?_⟩;rw[<-f.1];refine E.ak (D.ak (ai.ak K af) ?_) ?_
     ·grind
     ·intro d;have:=h.ak.lt;omega
   refine⟨?_,?_,?_,?_,ar.wf,ar.new,ar.old,ar.key,ar.eS,F.le,ar.kM⟩
   ·have he:=ar.eq;rw[he]
   ·refine((F.rd.new K).aC D ?_).aC E ?_
    ·cases bS with
     |none=>exact .inr trivial
     |some a=>
      refine .inr λd=>?_
      rcases F.2 with⟨he,_⟩ | ⟨g,cur,he,af,_⟩
      ·cases he
      ·simp at he;subst he;have:=S g ⟨0,rfl⟩;have:=aM _ d;have:=j.size
       grind
    ·cases bS with
     |none=>exact .inr trivial
     |some a=>
      refine .inr λd=>?_
      rcases F.2 with⟨he,_⟩ | ⟨g,cur,he,af,_⟩
      ·cases he
      ·simp at he;subst he;have:=S g ⟨0,rfl⟩;have:=h.ak.lt;have:=j.size
       grind
   ·intro d;exact ar.nil (bR.1 d)
   ·cases bS with
    |none=>exact .inr trivial
    |some a=>
     refine .inr λhm=>?_
     rcases F.2 with⟨he,_⟩ | ⟨g,cur,he,af,_⟩
     ·cases he
     simp at he;subst he;obtain⟨cj,cs,cf⟩:=bX g ⟨0,rfl⟩;have bN:=j.size;rcases aV g hm with hm | hm
     ·omega
     ·rcases q.2 with⟨he,_⟩ | ⟨bL,G,he,U,_⟩
      ·grind
      ·obtain⟨o,f⟩:=hm;rw[he]at f;simp at f;have ch:aq ad bL G cK:=E.ak U (λd=>X (by rw[he,<-d];exact⟨0,rfl⟩))
       grind[aq.jR]
 ·intro y bG;simp only[dz.post,kh,rK]at bG;rcases bG with bG | rfl
  ·exact h.mT y bG
  ·exact⟨Mh bk,L⟩
 ·have hex:=h.ex;show match p.bj++[x]with | []=>p.b0=0 | x::_=>p.b0<=x.v.pieces.length
  grind
structure lv (M:a6)(w:aj)(d:bR)(x:cW):Prop where
 code:d.Code=x.code
 len:d.dd=x.words.length
 rd:bh w d.Words (us x.words)
 nil:d.Words=none->x.words=[]
 off:x.words=[]\/gn M d.Words
 wf:∀ u ∈ x.words,ch u
 cap:d.dd<=d.c0
theorem lv.aC {M M':a6}{w w':aj}{v:bR}{x:cW}(h:lv M w v x)(g:ao M w w')(f:∀ k,k<w.heap.size->M' k->M k):lv M' w' v x:=by
 refine⟨h.code,h.len,h.rd.aC g (h.off.imp (λe=>by rw[e];rfl) id),h.nil,?_,h.wf,h.cap⟩;rcases h.off with b | b
 ·grind
 ·by_cases i:x.words=[]
  ·grind
  ·refine .inr ?_;cases c:v.Words with
   |none=>trivial
   |some a=>rw[c]at b;have d:=h.rd;rw[c]at d;intro hm;exact b (f _ (d.lt (by simpa[us]using i)) hm)
theorem gj {e sz n cap:Nat}{xs:au}(h:aZ w e sz a n cap xs){k:Nat}(b:aP a k):∃ cs,aq w k cs e:=by
 rcases h.2 with⟨he,_⟩ | ⟨g,cur,he,d,_⟩
 ·obtain⟨o,c⟩:=b;grind
 ·obtain⟨o,c⟩:=b
  grind
def wg (M:a6)(b fM fC:Nat)(p:dz)(n:aO)(w:aj)(r:bl)(w':aj):Prop:=
 ∃ (d:bR) (p':dz),r=.tuple #[d.val,.bool (p.pure.step n).2.2.isSome]/\p'.pure=(p.pure.step n).1/\d9 w' fM fC (p.pure.step n).2.1/\
  (∀ x,(p.pure.step n).2.2=some x->d.Code=x.code/\d.dd=x.words.length/\bh w' d.Words (us x.words)/\(d.Words=none->x.words=[])/\(∀ u ∈ x.words,ch u)/\d.dd<=d.c0/\p'.gV=none)/\
  (∀ k,aP d.Words k->aP p.gV k\/w.heap.size<=k)/\
  (∀ M':a6,uG M M' w (λk=>aP p'.dg k\/aP p'.gV k)->(∀ k,p'.mut b k->M' k)->dK M' w' b p')/\
  ao (λk=>k=b\/aP p.gV k\/k=fC) w w'/\(p'.dg=p.dg\/∀ k,aP p'.dg k->w.heap.size<=k)/\(p'.gV=p.gV\/∀ k,aP p'.gV k->w.heap.size<=k)/\
  (∀ k,aP d.Words k->∃ cs,aq w' k cs qI)
theorem tw {d:bR}(h:aq w b d.cells iT):b6 w ⟨b,0,none⟩ 0 d.cells:=bJ h (by grind)
theorem uu {b:aw}{d:bR}{K:Int->an->Nat->a6}(h:b6 w b 0 d.cells)(c:K d.Code d.Words d.dd d.c0) :
  ∃ (Code:Int) (Words:an) (a:Nat) (c0:Nat),b6 w b 0 [.int .i64 Code,.slice Words a c0]/\K Code Words a c0:=⟨_,_,_,_,h,c⟩
theorem OF {p:db}{n:aO}(h:p.bj=[]):p.step n=(p,n,none):=by grind[db.step]
theorem MG {p:db}{n:aO}{x:bE}{xs:bu}(h:p.bj=x::xs):p.step n =
  if p.refusal x n≠0 then(p.done,n,some ⟨p.refusal x n,[]⟩)
  else if p.b0+1<x.v.pieces.length then({p with b0:=p.b0+1,words:=p.words++(exec x (x.v.pieces.getD p.b0 (0,0)) n).2},(exec x (x.v.pieces.getD p.b0 (0,0)) n).1,none)
   else(p.done,(exec x (x.v.pieces.getD p.b0 (0,0)) n).1,some ⟨0,p.words++(exec x (x.v.pieces.getD p.b0 (0,0)) n).2⟩):=by
 grind[db.step]
theorem KU {p:db}{x:bE}{n:aO}(h:p.refusal x n=0):n.down=false/\x.v.valid 5 (n.words.length / 8:Nat)=0:=by
 grind[db.refusal]
theorem y_ {v:aI}{a b:Int}(h:v.valid a b=0):1<=v.count/\v.inside a b=true:=by
 grind[aI.valid]
theorem OG {x:bE}{n:aO}(h:pc.2<=8)(a:1<=pc.2):(exec x pc n).2.length<=8:=by
 grind[exec,aO.read]
end
section
theorem E7 {p:dz}{n:aO}(h:dK M w b p)(R:d9 w fM fC n)(fp:M fC)(fo:M fM)(fI:¬ aP p.gV fC)(fy:p.pure.hL) :
  a9 70 [.pointer (some ⟨b,0,none⟩),.pointer (some ⟨fM,0,none⟩)] w (wg M b fM fC p n w):=by
 refine a' Tryz.func70 ?_;rw[YF];rintro b1 w1 dG dm;obtain⟨b9,bH⟩:=bo dG dm;have fz:w1.heap.size=w.heap.size+1:=by simp_all
 clear dm;have cf:=h.new bH;have e6:=R.new bH;have e':=h.ak.lt;have fq:=R.node.lt;have eF:=R.words.lt;have eQ:∀ k,aP p.gV k->k<w.heap.size:=λk f=>h.kN.lt f
 have dk:∀ k,aP p.dg k->k<w.heap.size:=λk f=>h.own.lt f
 refine⟨_,_,_,cf.ak.cell rfl,dJ (λhe=>?_) (λhe=>?_)⟩
 ·have d_:p.bj=[]:=hh (by omega);have q:p.pure.step n=(p.pure,n,none):=OF d_;refine⟨fU (vs:=bR.cells ⟨0,none,0,0⟩) b9 (by simp[bR.cells]) (bR.single _),?_⟩;intro fX ef;obtain⟨dI,cb⟩:=oV (vs:=bR.cells ⟨0,none,0,0⟩) b9 (by simp[bR.cells]) bH (by omega) ef;refine uu (d:=⟨0,none,0,0⟩) (tw dI) ⟨rfl,⟨0,none,0,0⟩,p,?_,?_,?_,?_,?_,?_,ao.b7 cb,.inl rfl,.inl rfl,?_⟩
  ·rw[q];rfl
  ·rw[q]
  ·rw[q];exact R.new cb
  ·grind
  ·rintro k ⟨o,A⟩;cases A
  ·intro M' S H;refine(h.new cb).mP (λk _ f=>?_) H;rcases S k f with f | f | f
   ·grind
   ·exact h.iE k (.inr (.inl f))
   ·exact h.iE k (.inr (.inr f))
  ·rintro k ⟨o,A⟩;cases A
 obtain⟨x,xs,dt⟩:∃ x xs,p.bj=x::xs:=by
  cases fu:p.bj with
  |nil=>grind
  |cons x xs=>grind
 obtain⟨v,vs,eb⟩:∃ v vs,p.raw=v::vs:=by
  cases fu:p.raw with
  |nil=>have:=h.vs.1;grind
  |cons v vs=>grind
 have ar:cQ M w v x:=h.vs.2 0 v x (by grind) (by grind);have q:=MG (p:=p.pure) (n:=n) dt;refine⟨_,_,_,cf.ak.cell rfl,?_⟩;obtain⟨fP,fV,ea,fc,fe⟩:=cf.own.rd.row (vK p.raw) (by omega) (i:=0) (r:=v.cells) (by rw[eb];rfl);rw[ea];refine dM (by omega) (by omega) ?_;refine i' (v:=v) (by grind) ?_;rintro az fJ dH dn;obtain⟨cr,dS⟩:=bo dH dn;have dZ:fJ.heap.size=w.heap.size+2:=by simp_all
 clear dn;refine⟨fU (vs:=aI.cells v) cr (by simp[aI.cells]) (aI.single v),?_⟩;intro eW cm;have fD:eW.heap.size=w.heap.size+2:=by rw[cm,zH,dZ]
 obtain⟨dq,c9⟩:=oV (vs:=aI.cells v) cr (by simp[aI.cells]) dS (by omega) cm;clear cm cr;have Z:Go.bd.ai w eW:=bH.new c9;have dN:=ai.ak c9 b9;refine i' (v:=v) (g8 dq) ?_;refine aE (ME (h.new Z) (R.new Z) (ar.aC (ao.b7 Z) λ_ _ h=>h)) ?_;rintro r ep ⟨rfl,bG⟩;have a8:=Z.new bG;have cL:=ai.ak bG dN;have dr:=ai.ak bG dq;have fE:=bG.size;have bO:b1≠b:=by omega
 have bW:∀ k,p.mut b k->k<w.heap.size:=λk f=>by
  rcases f with rfl | f | f
  ·grind
  ·grind
  grind
 have eE:dK (λk=>(k<w.heap.size/\M k)\/k=b1) ep b p:=by
  refine(h.mP (λk c5 f=>?_) (λk f=>.inl ⟨bW k f,h.iE k f⟩)).new a8
  grind
 have ev:az≠b:=by omega
 refine⟨_,rfl,dw (λdT=>?_) (λax=>?_)⟩
 ·
  rw[bm dT]at q;refine aE (CX eE (by grind)) ?_;rintro r fK ⟨rfl,dg,fF,U,cY,cP⟩;have cM:=cY.ak cL bO;refine⟨rfl,fU (vs:=bR.cells ⟨p.pure.refusal x n,none,0,0⟩) cM (by simp[bR.cells]) (bR.single _),?_⟩;intro eu cq;have dP:aq eu b1 (bR.cells ⟨p.pure.refusal x n,none,0,0⟩) iT:=by rw[cq];have:=cM.cv (o:=0) (i:=0) (vs:=bR.cells ⟨p.pure.refusal x n,none,0,0⟩);rw[oG (by simp[bR.cells])]at this;exact this
  have cZ:ao (λk=>k=b1) fK eu:=by rw[cq];exact hD _ _ _ _ _
  clear cq;have G:ao (λk=>k=b) w eu:=((ao.b7 a8).trans cY λ_ _ h=>h).trans cZ λk f he=>by omega
  refine uu (d:=⟨p.pure.refusal x n,none,0,0⟩) (tw dP) ⟨rfl,⟨p.pure.refusal x n,none,0,0⟩,p.done dg fF,?_,?_,?_,?_,?_,?_,G.mono (λk _ e=>.inl e),.inr ?_,?_,?_⟩
  ·rw[q];rfl
  ·rw[q];rfl
  ·rw[q];refine R.aC G (λe=>?_) (λe=>?_)
   ·have:=aq.jR R.node (e▸h.ak);grind
   ·have:=aq.jR R.words (e▸h.ak);grind
  ·rw[q];intro y dv;simp only[hA]at dv;subst dv;exact⟨rfl,rfl,bh.nil _ _,λ_=>rfl,by simp,by simp,rfl⟩
  ·rintro k ⟨o,A⟩;cases A
  ·intro M' S H;have cj:=U (λk=>M' k\/k=b1) (λk f=>?_) (λk f=>.inl (H k f))
   ·refine(cj.aC cZ (λk f he=>?_) (λk he=>.inr he)).mP (λk _ f=>.inl f) H;rcases f with f | f | ⟨o,A⟩
    ·omega
    ·have:=cP k f;omega
    ·cases A
   ·rcases f with f | f
    ·rcases S k f with aM | aM | ⟨o,A⟩
     ·grind
     ·exact .inr aM
     ·cases A
    grind
  ·intro k f;have:=cP k f;omega
  ·right;rintro k ⟨o,A⟩;cases A
  ·rintro k ⟨o,A⟩;cases A
 ·
  rw[aW (λaB=>aB ax)]at q;obtain⟨d8,ee⟩:=KU ax;obtain⟨ew,cX⟩:=y_ ee;have dR:=pI cX;have dU:=R.len;have fm:x.v.hb=(x.at_+x.v.count-1) / 8:=rfl;have e8:x.v.cI=x.at_:=rfl;have cN:x.at_+x.v.count<=n.words.length:=by
   grind
  have df:=fy x xs dt;have bk:x.v.pieces[p.b0]?=some (x.v.pieces.getD p.b0 (0,0)):=by
   have:p.b0<x.v.pieces.length:=df
   grind
  have dX:x.v.pieces.length<=1024:=by have:=yQ x.v.count.toNat x.v.cI x.v.count;have fQ:=dR.2.2.2.2.2.2.2.2.1;show(hC _ _ _).length<=1024;omega
  have Q:=B_ x.v.count.toNat x.v.cI x.v.count (by omega) _ (cu bk);have dV:p.pure.b0=p.b0:=rfl;rw[dV]at q;generalize eH:x.v.pieces.getD p.b0 (0,0)=pc at bk Q q;refine i' (v:=v) (g8 dr) ?_;refine aE (Oz _ v (by rw[ar.at_];omega) (by rw[ar.at_];omega) (by rw[ar.count];grind) (by rw[ar.count];omega)) ?_;rintro r fL ⟨a2,eR,rfl,b4,c1,dW⟩;rw[ar.pieces]at b4;refine⟨_,_,_,rfl,?_⟩;intro dE dp;have ca:Go.bd.ai fL dE:=by rw[dp];exact cC _
  clear dp;have ab:=(a8.new c1).new ca;have Y:=c1.new ca;have fH:=Y.size;have ch:=eE.new Y;have dF:=R.new ab;have dQ:=ai.ak Y cL;have eh:=ai.ak Y dr;have ck:=b4.new ca;have ag:b≠fC:=by intro e;have:=aq.jR R.words (e▸h.ak);grind
  have ah:¬ aP p.gV b:=by intro aB;obtain⟨cs,K⟩:=gj h.kN aB;have:=aq.jR K h.ak;grind
  obtain⟨ek,eV,da,_,fx⟩:=ck.row (My _) (by omega) (Mz bk);have fv:ep.heap.size<=ek:=by
   have:=dW ek (by rw[da];exact⟨eV,rfl⟩)
   grind
  have eJ:∀ u,ao (λk=>k=fC\/aP p.gV k) dE u->b6 u ⟨ek,eV+p.b0*2,none⟩ 0 [.int .i64 pc.1,.int .i64 pc.2]:=by
   intro u hu;refine jk λj fW fT=>jG hu ?_ ?_
   ·grind
   grind
  refine⟨λu=>ao (λk=>k=fC\/aP p.gV k) dE u,ao.refl _ _,_,_,_,λu hu=>(hu.ak ch.ak (λaB=>aB.elim ag ah)).cell rfl,
   mV (v:=v) (λu hu=>g8 (hu.ak eh (λaB=>aB.elim (λe=>by omega) (λe=>by grind)))) ⟨_,λu hu=>(hu.ak ch.ak (λaB=>aB.elim ag ah)).cell rfl,?_⟩⟩
  rw[da];have eB:p.b0<x.v.pieces.length:=df;refine dM (by omega) (by rw[ar.pieces];omega) ⟨pc.1,pc.2,λu hu=>by grind,?_⟩;have d':cQ M dE v x:=ar.aC (ao.b7 ab) λ_ _ h=>h
  have cd:x.words=[]\/gn (λk=>k=fC) v.Words:=by
   rcases ar.off with A | A
   ·grind
   ·refine .inr ?_;cases eT:v.Words with
    |none=>trivial
    |some a=>rw[eT]at A;intro aB;exact A (by grind)
  refine aE (MF dF d8 d' cd (by grind) Q.2.1 Q.2.2.1 (by grind) (by omega) cN) ?_;rintro r dy ⟨e0,cA,rfl,bQ,ff,bK,L⟩;have cO:=PJ R x pc;have b_:=OG (x:=x) (n:=n) Q.2.2.1 Q.2.1;generalize aA:exec x pc n=E at bQ bK q cO b_;have eK:=L.size;refine⟨_,_,_,rfl,L.mono (λk _ e=>.inl e),?_⟩;have bb:dK (λk=>(k<w.heap.size/\M k)\/k=b1) dy b p:=by
   refine ch.aC L (λk f he=>?_) (λk he=>.inl ⟨by omega,by grind⟩);rcases f with f | f | f
   ·grind
   ·obtain⟨cs,K⟩:=gj h.own f;have:=aq.jR K (he▸R.words);grind
   grind
  have eg:=h.kM;obtain⟨inf,fl,ei,cl,fa⟩:=ft (T:=qI) (z:=.int .u64 0) (n:=1) (m:=8) (by kernel_rfl);have bX:=bb.kN;rw[<-cl]at bX;obtain⟨ap,l,cx,dh,I,aR,b5⟩:=bX.append (P:=prog) (t:=94) (ty:=94) Tryz.underlying94 fl ei (by rw[cl];rfl) (by omega)
   (s:=e0) (m:=E.2.length) (c:=cA) (news:=us E.2) (by grind[ht]) bQ (oJ _) (by omega) (by grind)
  rw[cl,zV]at I;refine⟨ap,p.words.length+E.2.length,l,cx,dh,(L.mono (λk _ e=>.inl e)).trans aR (λk _ f=>.inr f),?_⟩;have af:aq cx b p.cells qG:=aR.ak bb.ak ah;refine⟨⟨_,af.cell rfl⟩,af.frozen,?_⟩;intro cy br;have aT:ao (λk=>k=b) cx cy:=by rw[br];exact eY _ _ _ _
  have V:aq cy b (p.cells.set 5 (.slice ap (p.words.length+E.2.length) l)) qG:=by rw[br];exact af.setCell _
  clear br;refine⟨_,V.cell rfl,⟨_,V.cell rfl⟩,V.frozen,?_⟩;intro C ad;have aV:ao (λk=>k=b) cy C:=by rw[ad];exact eY _ _ _ _
  have e3:IntKind.i64.wrap ((p.b0:Int)+1)=((p.b0+1:Nat):Int):=by rw[bq (by omega) (by omega)];rfl
  rw[e3]at ad;have bN:aq C b ((p.cells.set 5 (.slice ap (p.words.length+E.2.length) l)).set 4 (.int .i64 (p.b0+1:Nat))) qG:=by rw[ad];exact V.setCell _
  clear ad;have cD:ap=p.gV\/∀ k,aP ap k->ep.heap.size<=k:=by
   rcases b5 with b5 | b5
   ·grind
   ·refine .inr ?_;rintro k ⟨o,A⟩
    grind
  have D:ao (λk=>k=b\/aP p.gV k) dy C:=((aR.mono λk _ f=>.inr f).trans aT λk _ f=>.inl f).trans aV λk _ f=>.inl f
  have F:ao (λk=>k=b\/aP p.gV k\/k=fC) dE C:=(L.mono λk _ f=>.inr (.inr f)).trans D λk _ f=>f.elim .inl λe=>.inr (.inl e)
  have bL:d9 C fM fC E.1:=by
   refine bK.aC D ?_ ?_
   ·rintro(e | e)
    ·have:=aq.jR R.node (e▸h.ak);grind
    ·obtain⟨cs,K⟩:=gj h.kN e;have:=aq.jR K R.node;grind
   grind
  have W:aq C b1 _ iT:=F.ak dQ (by grind);have bY:dK (λk=>((k<w.heap.size/\M k)\/k=b1)\/aP ap k) C b {p with b0:=p.b0+1,words:=p.words++E.2,gV:=ap,oX:=l}:=by
   have a7:∀ k,p.mut b k->k<w.heap.size/\M k:=λk f=>⟨bW k f,h.iE k f⟩
   have ec:∀ k,aP p.dg k->¬ (k=b\/aP p.gV k):=by
    rintro k f (e | e)
    ·obtain⟨cs,K⟩:=gj h.own f;have:=aq.jR K (e▸h.ak);grind
    ·obtain⟨cs,K⟩:=gj h.own f;obtain⟨eZ,ez⟩:=gj h.kN e
     grind[aq.jR]
   have B:∀ k,aP ap k->k≠b:=by
    grind
   refine⟨?_,bb.own.aC D ec,?_,?_,h.a3,h.inc,h.node,h.len,?_,h.mT,?_,?_,?_⟩
   ·grind[dz.cells,List.length_append]
   ·show aZ C qI 1 ap (p.words++E.2).length l (us (p.words++E.2));rw[hi];exact(I.aC aT B).aC aV B
   ·show er _ C p.raw p.bj;refine h.vs.aC ((ao.b7 ab).trans (M:=M) F ?_) ?_
    ·rintro k _ (e | e | e)
     ·exact h.iE k (.inl e)
     ·exact h.iE k (.inr (.inr e))
     grind
    ·rintro k c5 ((f | f) | f)
     ·grind
     ·omega
     ·rcases cD with e | e
      ·exact h.iE k (.inr (.inr (e▸f)))
      grind
   ·grind
   ·grind
   ·intro u hu;rcases kh.1 hu with hu | hu
    ·exact h.tr u hu
    grind
   ·rintro k (e | e | e)
    ·exact .inl (.inl (a7 k (.inl e)))
    ·exact .inl (.inl (a7 k (.inr (.inl e))))
    grind
  have eL:=F.size;have ae:∀ k,aP ap k->k≠b1:=by
   grind
  have B:∀ k,aP ap k->k≠b:=by
   grind
  have a4:ao (λk=>k=b\/aP p.gV k\/k=fC) w C:=(ao.b7 ab).trans F λ_ _ h=>h
  refine⟨_,bN.cell rfl,?_⟩;rw[ar.pieces];refine a5 (λc5=>?_) (λfg=>?_)
  ·
   have c6:p.b0+1<x.v.pieces.length:=by omega
   rw[bm c6]at q;refine⟨fU (vs:=bR.cells ⟨0,none,0,0⟩) W (by simp[bR.cells]) (bR.single _),?_⟩;intro dA bs;have cG:aq dA b1 (bR.cells ⟨0,none,0,0⟩) iT:=by rw[bs];have:=W.cv (o:=0) (i:=0) (vs:=bR.cells ⟨0,none,0,0⟩);rw[oG (by simp[bR.cells])]at this;exact this
   have a1:ao (λk=>k=b1) C dA:=by rw[bs];exact hD _ _ _ _ _
   clear bs;refine uu (d:=⟨0,none,0,0⟩) (tw cG) ⟨rfl,⟨0,none,0,0⟩,{p with b0:=p.b0+1,words:=p.words++E.2,gV:=ap,oX:=l},?_,?_,?_,?_,?_,?_,?_,.inl rfl,?_,?_⟩
   ·rw[q];rfl
   ·rw[q];rfl
   ·rw[q];refine bL.aC a1 (λe=>?_) (λe=>?_)
    ·omega
    ·omega
   ·grind
   ·rintro k ⟨o,A⟩;cases A
   ·intro M' S H;refine(bY.aC a1 (λk f he=>?_) (λk he=>.inl (.inr he))).mP (λk _ f=>?_) H
    ·rcases f with f | f | f
     ·omega
     ·grind
     grind
    ·rcases S k f with f | f | f
     ·grind
     ·exact .inl (.inl ⟨dk k f,h.iE k (.inr (.inl f))⟩)
     grind
   ·exact a4.trans a1 λk f e=>by omega
   ·grind
   ·rintro k ⟨o,A⟩;cases A
  ·
   have cS:¬ p.b0+1<x.v.pieces.length:=by omega
   rw[aW cS]at q;refine⟨_,_,_,bN.cell rfl,fU (vs:=bR.cells ⟨0,ap,p.words.length+E.2.length,l⟩) W (by simp[bR.cells]) (bR.single _),?_⟩;intro dD bx;have cH:aq dD b1 (bR.cells ⟨0,ap,p.words.length+E.2.length,l⟩) iT:=by rw[bx];have:=W.cv (o:=0) (i:=0) (vs:=bR.cells ⟨0,ap,p.words.length+E.2.length,l⟩);rw[oG (by simp[bR.cells])]at this;exact this
   have N:ao (λk=>k=b1) C dD:=by rw[bx];exact hD _ _ _ _ _
   clear bx;have eN:=N.size;have c_:=bY.aC N (λk f he=>by
    rcases f with f | f | f
    ·omega
    ·grind
    grind) (λk he=>.inl (.inr he))
   refine aE (CX c_ (by grind)) ?_;rintro r eo ⟨rfl,dg,fF,U,O,bV⟩;have eP:=O.size;have aL:=O.ak cH bO;refine⟨rfl,uu (d:=⟨0,ap,p.words.length+E.2.length,l⟩) (tw aL) ⟨fU (vs:=bR.cells ⟨0,ap,p.words.length+E.2.length,l⟩) aL (by grind) (bR.single _),?_⟩⟩;intro bJ bD;have cK:aq bJ b1 (bR.cells ⟨0,ap,p.words.length+E.2.length,l⟩) iT:=by rw[bD];have:=aL.cv (o:=0) (i:=0) (vs:=bR.cells ⟨0,ap,p.words.length+E.2.length,l⟩);rw[oG (by grind)]at this;exact this
   have X:ao (λk=>k=b1) eo bJ:=by rw[bD];exact hD _ _ _ _ _
   clear bD;have J:aZ bJ qI 1 ap (p.words.length+E.2.length) l (us (p.words++E.2)):=
    (((((I.aC aT B).aC aV B).aC N ae).aC O B).aC X ae)
   have G:ao (λk=>k=b\/aP p.gV k\/k=fC) w bJ:=
    ((a4.trans N λk f e=>by omega).trans O λk _ e=>.inl e).trans X λk f e=>by omega
   refine uu (d:=⟨0,ap,p.words.length+E.2.length,l⟩) (tw cK) ⟨rfl,⟨0,ap,p.words.length+E.2.length,l⟩,dz.done {p with b0:=p.b0+1,words:=p.words++E.2,gV:=ap,oX:=l} dg fF,?_,?_,?_,?_,?_,?_,G,.inr ?_,.inr ?_,?_⟩
   ·rw[q];rfl
   ·rw[q];rfl
   ·rw[q];refine((bL.aC N (λe=>by omega) (λe=>by omega)).aC O (λe=>?_) (λe=>ag e.symm)).aC X (λe=>by omega) (λe=>by omega);have:=aq.jR R.node (e▸h.ak);grind
   ·rw[q];intro y dv;simp only[hA]at dv;subst dv;refine⟨rfl,by simp[dz.pure],J.rd,?_,?_,J.le,rfl⟩
    ·intro aB;rcases J.2 with⟨_,e5,_⟩ | ⟨g,cur,e5,_⟩
     ·grind[List.eq_nil_of_length_eq_zero,dz.pure]
     grind
    ·intro u hu;rcases kh.1 hu with hu | hu
     ·exact h.tr u hu
     grind
   ·grind
   ·intro M' S H;have cj:=U (λk=>M' k\/k=b1) (λk f=>?_) (λk f=>.inl (H k f))
    ·refine(cj.aC X (λk f he=>?_) (λk he=>.inr he)).mP (λk _ f=>.inl f) H;rcases f with f | f | ⟨o,A⟩
     ·omega
     ·have:=bV k f;omega
     ·cases A
    ·rcases f with f | f
     ·rcases S k f with aM | aM | ⟨o,A⟩
      ·grind
      ·exact .inr aM
      ·cases A
     grind
   ·intro k f;have:=bV k f;omega
   ·rintro k ⟨o,A⟩;cases A
   grind[gj]
end
end Go.Proofs.YtmkljjbioomepaaGreat
