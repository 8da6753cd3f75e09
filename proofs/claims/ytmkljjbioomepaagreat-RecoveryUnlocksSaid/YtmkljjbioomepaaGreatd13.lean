import Derived.Test.YtmkljjbioomepaaGreatd12
import Derived.Test.YtmkljjbioomepaaGreatd04
set_option linter.all false
set_option maxHeartbeats 4000000
set_option maxRecDepth 100000
namespace Go.Proofs.YtmkljjbioomepaaGreat
open Go.Proofs.Tryz Go.bs
variable {A:a6} {X:bR} {a inc p v x:Int} {c:cn} {aJ i k n:Nat} {u w w':ak} {aw:Nat->Tag}
section
theorem sY (h:aL none k):False:=by obtain ⟨o,a⟩:=h;cases a
def sL (i:Nat) (inc:Int) (j:Nat):cA:=⟨⟨i,inc,j,[],0,[]⟩,[]⟩
def jP (n i:Nat) (inc:Int):List cA:=(List.range n).map (sL i inc)
def iT (pb i:Nat) (inc:Int) (j:Nat):dk:=⟨pb,⟨i,inc,j,[],[],none,0,0,[],none,0⟩,[],none,0⟩
theorem Ju (pb i:Nat) (inc:Int) (j:Nat):(iT pb i inc j).pure=sL i inc j:=rfl
def aE.connect (F:aE) (i:Nat) (C:bh) (inc:Int):aE:=F.dO i { C with alive:=true,inc:=inc,az:=jP F.nodes.length i inc }
theorem IT (a b:List dk):(hc (a++b)).flatten=(hc a).flatten++(hc b).flatten:=by simp [hc]
open Classical in
theorem b6.Rp (h:b6 A aw w aJ X) {pb:Nat} (n:X.aR[i]?=some c) {la:an} {lc:Nat}
  (q:ao (λk=>aw k=.az i\/aw k=.aR) w w') (K:w.heap.size<=pb) (C:∀ k,aL la k->aw k=.az i\/w.heap.size<=k) (D:¬ aL la pb)
  (s:∀ M:a6,M pb->dM M w' pb (iT pb i inc c.az.length).p) (r:a1 w' lP 2 la (c.az++[iT pb i inc c.az.length]).length lc (hc (c.az++[iT pb i inc c.az.length])).flatten)
  (f:av w' X.aY (fL (X.aR.set i { c with az:=c.az++[iT pb i inc c.az.length],la:=la,lc:=lc })).flatten j8) :
  ∃ A' χ',Next A A' aw χ' w w'/\b6 A' χ' w' aJ { X with aR:=X.aR.set i { c with az:=c.az++[iT pb i inc c.az.length],la:=la,lc:=lc } }:=by
 let χ':Nat->Tag:=λk=>if k=pb then .lane i c.az.length else if aL la k then .az i else aw k
 have t1:χ' pb=.lane i c.az.length:=if_pos rfl;have t2:∀ k,aL la k->χ' k=.az i:=λk q=>by show (if k=pb then Tag.lane i c.az.length else if aL la k then .az i else aw k)=_;rw [if_neg (λe:k=pb=>D (e▸q)),if_pos q]
 have t3:∀ k,k≠pb->¬ aL la k->χ' k=aw k:=λk F G=>by show (if k=pb then Tag.lane i c.az.length else if aL la k then .az i else aw k)=_;rw [if_neg F,if_neg G]
 have z:∀ k,k<w.heap.size->χ' k=aw k:=by
  intro k d;by_cases f:aL la k
  ·rcases C k f with e | e
   ·rw [t2 k f,e]
   ·omega
  ·exact t3 k (by omega) f
 have E:∀ k,k<w.heap.size->χ' k≠.cx->aw k≠.cx:=λk d n=>by rw [z k d] at n;exact n
 obtain ⟨m,_⟩:=h.move (T:=λt=>t=.az i\/t=.aR) (χ':=χ') q (by simp) E (λk d _ _=>z k d);have g:=h.aW i c n;have y:=s (gC A aw χ' w) (.inl (by rw [t1];simp));have N:∀ k,χ' k≠.cx->k<w'.heap.size:=λk n=>by
  by_cases u:k=pb
  ·rw [u];exact y.aj.lt
  ·by_cases f:aL la k
   ·exact r.lt f
   ·rw [t3 k u f] at n;exact gi (h.jV n) q.size
 have L:pp (gC A aw χ' w) χ' w' i { c with az:=c.az++[iT pb i inc c.az.length],la:=la,lc:=lc }:=by
  refine ⟨r,t2,λj l J=>?_,g.none,λb f=>av.cU m (g.batch b f).1 (g.batch b f).2 (by simp) (by simp),g.ds.aA m.sA m.old⟩;have a:(c.az++[iT pb i inc c.az.length])[j]?=some l:=J;rw [qb] at a;split at a
  ·exact (g.lane j l a).cU m (by simp) (by simp)
  ·rename_i O;rw [List.getElem?_singleton] at a;split at a
   ·rename_i I;have B:j=c.az.length:=by omega
    simp only [fg] at a;subst a;subst B;refine ⟨y,?_,a1.nil _ _ _,λk ⟨o,x⟩=>by cases x⟩;rintro k (q | ⟨o,x⟩ | ⟨o,x⟩)
    ·rw [q];exact t1
    ·cases x
    ·cases x
   ·cases a
 obtain ⟨aU,H⟩:=h.q_ (χ':=χ') n (q.mono λk _ e=>e.elim (λe=>.inr (by rw [e];rfl)) .inl) E (λk d _ _=>z k d) N (by rw [sK];exact f) (by rw [z _ h.cls.lt];exact h.fk) L;exact ⟨_,_,aU,H⟩
theorem b6.setRow (h:b6 A aw w aJ X) {c':cn} (a:X.aR[i]?=some c) (f:ao (λk=>aw k=.aR) w w') (n:av w' X.aY (fL (X.aR.set i c')).flatten j8)
  (b:∀ A' w',pp A' aw w' i c->pp A' aw w' i c'):∃ A',Next A A' aw aw w w'/\b6 A' aw w' aJ { X with aR:=X.aR.set i c' }:=by
 obtain ⟨m,_⟩:=h.move (χ':=aw) (T:=λt=>t=.aR) f (by simp) (λ_ _ h=>h) (λ_ _ _ _=>rfl);have d:=(h.aW i c a).cU m (λt j e=>by rw [e] at j;exact j);obtain ⟨g,l⟩:=h.q_ (χ':=aw) (c':=c') a (f.mono λk _ e=>.inl e) (λ_ _ h=>h) (λ_ _ _ _=>rfl) (λk a=>gi (h.jV a) f.size) (by rw [sK];exact n) h.fk (b _ _ d);exact ⟨_,g,l⟩
theorem Kt (h:b6 A aw w aJ X) (Yo:X.nodes.length<=5) (XQ:X.aR[i]?=some c) (Yh:X.aR.length<=6) (XE:0<=inc/\inc<=59) :
  bb 53 [ptr aJ,.int .i64 i,.int .i64 inc] w λv w'=>v=.tuple #[]/\dR A aw w aJ (X.pure.connect i c.pure inc) w' λ_=>True:=by
 refine bd Tryz.func53 ?_;rw [ptr,Uu];have XU:=b3 XQ;refine ⟨_,_,_,h.ck.cell (i:=2) rfl,ej (by omega) (by omega) ?_⟩;rw [fD];refine ⟨⟨_,h.iy (k:=0) XQ rfl⟩,h.cls.frozen,?_⟩;intro w1 XL;obtain ⟨a,L⟩:=lh (k:=0) (c':={ c with alive:=true }) h.cls XQ (by omega) (v:=.bool true) (by simp [cn.cells]);have D:w1=w.setCell ⟨X.aY,0+i * 7+0,none⟩ (.bool true):=XL;rw [<-D] at a;have XV:ao (λz=>z=X.aY) w w1:=by rw [D];exact eX _ _ _ _
 clear XL D;refine ⟨⟨_,lv (k:=1) a L rfl⟩,a.frozen,?_⟩;intro Yb Xv;obtain ⟨b,N⟩:=lh (k:=1) (c':={ c with alive:=true,inc:=inc }) a L (by omega) (v:=.int .i64 inc) (by simp [cn.cells]);rw [<-Xv] at b;have XW:ao (λz=>z=X.aY) w1 Yb:=by rw [Xv];exact eX _ _ _ _
 clear Xv;refine ⟨⟨_,lv (k:=2) b N rfl⟩,b.frozen,?_⟩;intro Yc Xw;obtain ⟨d,X9⟩:=lh (k:=2) (c':={ c with alive:=true,inc:=inc,az:=[],la:=none,lc:=0 }) b N (by omega) (v:=.slice none 0 0) (by simp [cn.cells]);rw [<-Xw] at d;have XX:ao (λz=>z=X.aY) Yb Yc:=by rw [Xw];exact eX _ _ _ _
 clear Xw;rw [jv,jv] at d;have XF:ao (λz=>aw z=.aR) w Yc:=((XV.trans XW λ_ _ h=>h).trans XX λ_ _ h=>h).mono λz _ e=>by rw [e];exact h.fk
 obtain ⟨Ye,X5,Xz⟩:=h.setRow (c':={ c with alive:=true,inc:=inc,az:=[],la:=none,lc:=0 }) XQ XF d (λA' w' H=>⟨a1.nil _ _ _,(λk X'=>(sY X').elim),(λj l Yj=>by simp at Yj),H.none,H.batch,H.ds⟩);refine ⟨_,_,_,Xz.ck.cell (i:=1) rfl,?_⟩;show cG _ _ (uz i inc ⟨X.aY,0+i * 7,none⟩ X.nodes.length 0 _) _ _;refine c8 mix (λm env u=>∃ (k:Nat) (Ya:ax) (A':a6) (χ':Nat->Tag) (ls:List dk) (la:an) (lc:Nat),k<=X.nodes.length/\m=X.nodes.length - k/\env=uz i inc ⟨X.aY,0+i * 7,none⟩ X.nodes.length k Ya/\
   Next A A' aw χ' w u/\b6 A' χ' u aJ { X with aR:=X.aR.set i { c with alive:=true,inc:=inc,az:=ls,la:=la,lc:=lc } }/\ls.length=k/\ls.map dk.pure=jP k i inc) X.nodes.length
  ⟨0,_,Ye,aw,[],none,0,by omega,by omega,rfl,X5,Xz,rfl,rfl⟩ ?_
 rintro m env u ⟨k,Ya,A',χ',ls,la,lc,X',rfl,rfl,aU,Xy,F,XI⟩;rw [Sn];refine bc (λXZ=>?_) (λXZ=>?_)
 ·have Yi:k<X.nodes.length:=by omega
  have q:(X.aR.set i { c with alive:=true,inc:=inc,az:=ls,la:=la,lc:=lc })[i]?=some { c with alive:=true,inc:=inc,az:=ls,la:=la,lc:=lc }:=by simp [XU]
  refine aD (Pg (w:=u) (c:=i) (i:=inc) (n:=k) (by omega) XE (by omega)) ?_;rintro v Yd ⟨rfl,Z,XJ,Yk⟩;have XA:=Xy.new XJ;refine ⟨_,_,rfl,_,_,_,XA.iy (k:=2) q rfl,?_⟩;rintro Yg XN XS Xx;obtain ⟨X3,V⟩:=bl XS Xx;have Yl:XN.heap.size=Yd.heap.size+1:=by rw [Xx];simp
  clear Xx;have R:=XA.new V;have x:=R.aW i _ q;obtain ⟨Ym,X2,X4,J,XT⟩:=fV (T:=105) (z:=.agg #[.pointer none,.slice none 0 0]) (n:=2) (m:=32) (by kernel_rfl);have W:a1 XN lP Ym.size la ls.length lc (hc ls).flatten:=by rw [J];exact x.own
  obtain ⟨ap,dr,XO,XK,C,XH,XC⟩:=W.append (P:=prog) (t:=99) (ty:=99) Tryz.underlying99 X2 X4 (by rw [J];rfl) (by omega)
   (s:=some ⟨Yg,0,none⟩) (m:=1) (c:=1) (news:=(iT u.heap.size i inc k).cells) (by rw [J];rfl) (fu X3 (by simp [dk.cells,iT])) (by simp [dk.cells,single]) (by omega) (by rw [XT];omega)
  rw [J] at C;have O:ao (λz=>χ' z=.az i) XN XO:=XH.mono λz _ au=>x.tag z au
  have f:av XO X.aY (fL (X.aR.set i { c with alive:=true,inc:=inc,az:=ls,la:=la,lc:=lc })).flatten j8:=O.aj R.cls (by have:=R.fk;rw [show χ' X.aY=.aR from this];simp);refine ⟨ap,_,dr,XO,XK,⟨_,lv (k:=2) f q rfl⟩,f.frozen,?_⟩;intro XP XM;obtain ⟨g,X_⟩:=lh (k:=2) (c':={ c with alive:=true,inc:=inc,az:=ls++[iT u.heap.size i inc ls.length],la:=ap,lc:=dr }) f q (by omega) (v:=.slice ap (ls.length+1) dr) (by simp [cn.cells]);have E:XP=XO.setCell ⟨X.aY,0+i * 7+2,none⟩ (.slice ap (ls.length+1) dr):=XM;rw [<-E] at g;have U:ao (λz=>z=X.aY) XO XP:=by rw [E];exact eX _ _ _ _
  clear XM E;have B:ai u XN:=XJ.new V;have r:χ' X.aY=.aR:=Xy.fk;have XG:ao (λz=>χ' z=.az i\/χ' z=.aR) u XP:=((ao.b9 B).trans O λz _ e=>.inl e).trans U λz _ e=>.inr (by rw [e];exact r)
  have Q:∀ z,aL la z->z<u.heap.size:=λz au=>(Xy.aW i _ q).own.lt au
  have K:∀ z,aL ap z->χ' z=.az i\/XN.heap.size<=z:=by
   intro z au;rcases XC with e | e
   ·exact .inl (x.tag z (e▸au))
   ·obtain ⟨o,G⟩:=au;rw [e] at G;simp at G;exact .inr (by omega)
  have X8:X.aY<u.heap.size:=Xy.cls.lt;have XD:¬ aL ap u.heap.size:=λS=>by
   rcases XC with e | e
   ·have:=Q _ (e▸S);omega
   ·obtain ⟨o,G⟩:=S;rw [e] at G;simp at G<;>omega
  have I:∀ M:a6,M u.heap.size->dM M XP u.heap.size (iT u.heap.size i inc ls.length).p:=by
   intro M X7;have X0:dM (λk=>M k\/aL la k\/k=X.aY) Yd u.heap.size (iT u.heap.size i inc ls.length).p:=by have:=Z (λk=>M k\/aL la k\/k=X.aY) (.inl X7);rw [F];exact this
   have y:∀ z,(iT u.heap.size i inc ls.length).p.mut u.heap.size z->z=u.heap.size:=by
    rintro z (au | ⟨o,G⟩ | ⟨o,G⟩)
    ·exact au
    ·cases G
    ·cases G
   have X1:=((X0.new V).aA XH (λz au S=>by rw [y z au] at S;have:=Q _ S;omega) (λz S=>.inr (.inl S))).aA U (λz au e=>by have:=y z au;omega) (λz e=>.inr (.inr e));exact X1.mO (λz _ au=>.inl au) (λz au=>by rw [y z au];exact X7)
  have Y:a1 XP lP 2 ap (ls++[iT u.heap.size i inc ls.length]).length dr (hc (ls++[iT u.heap.size i inc ls.length])).flatten:=by
   rw [IT,dy];have e:(hc [iT u.heap.size i inc ls.length]).flatten=(iT u.heap.size i inc k).cells:=by rw [F];rfl
   rw [e];refine C.aA U λz au e=>?_
   rcases K z au with XR | XR
   ·rw [e,r] at XR;cases XR
   ·have:=B.size;omega
  rw [jv] at g;obtain ⟨Yf,Yn,X6,XB⟩:=Xy.Rp (pb:=u.heap.size) (inc:=inc) (la:=ap) (lc:=dr) q XG (cY _) (λz au=>(K z au).imp id λe=>by have:=B.size;omega) XD I Y (by rw [jv];exact g);rw [jv] at XB;rw [show IntKind.i64.wrap ((k:Int)+1)=((k+1:Nat):Int) by rw [bH (by omega) (by omega)];rfl];refine ⟨X.nodes.length - (k+1),by omega,k+1,_,Yf,Yn,ls++[iT u.heap.size i inc ls.length],ap,dr,by omega,rfl,rfl,aU.trans X6,XB,by simp [F],?_⟩;rw [jn,XI,F];simp [jP,ku,Ju]
 ·have XY:k=X.nodes.length:=by omega
  subst XY;refine ⟨rfl,A',χ',_,aU,Xy,?_,trivial⟩;refine (bR.x8 X i _).trans ?_;simp [aE.connect,cn.pure,XI,bR.pure]
open Classical in
theorem b6.addNode (h:b6 A aw w aJ X) {y:hF} {na:an} {nc:Nat}
  (g:ao (λk=>aw k=.nodes\/aw k=.ck) w w') (p:ea w' y.b y.aH y.n) (I:w.heap.size<=y.b) (J:w.heap.size<=y.aH) (B:∀ k,aL na k->aw k=.nodes\/w.heap.size<=k) (j:¬ aL na y.b) (l:¬ aL na y.aH)
  (f:a1 w' z5 1 na (X.nodes++[y]).length nc ((X.nodes++[y]).map λx=>ptr x.b)) (K:av w' aJ (X.cells.set 1 (.slice na (X.nodes++[y]).length nc)) lO) :
  ∃ A' χ',Next A A' aw χ' w w'/\b6 A' χ' w' aJ { X with nodes:=X.nodes++[y],na:=na,nc:=nc }:=by
 have s:=p.ne;let χ':Nat->Tag:=λk=>if k=y.b then .node X.nodes.length else if k=y.aH then .word X.nodes.length else if aL na k then .nodes else aw k
 have t1:χ' y.b=.node X.nodes.length:=if_pos rfl;have D:χ' y.aH=.word X.nodes.length:=by show (if y.aH=y.b then Tag.node X.nodes.length else if y.aH=y.aH then .word X.nodes.length else if aL na y.aH then .nodes else aw y.aH)=_;rw [if_neg (λe=>s e.symm),if_pos rfl]
 have t2:∀ k,aL na k->χ' k=.nodes:=λk g=>by show (if k=y.b then Tag.node X.nodes.length else if k=y.aH then .word X.nodes.length else if aL na k then .nodes else aw k)=_;rw [if_neg (λe:k=y.b=>j (e▸g)),if_neg (λe:k=y.aH=>l (e▸g)),if_pos g]
 have t3:∀ k,k≠y.b->k≠y.aH->¬ aL na k->χ' k=aw k:=λk o r H=>by show (if k=y.b then Tag.node X.nodes.length else if k=y.aH then .word X.nodes.length else if aL na k then .nodes else aw k)=_;rw [if_neg o,if_neg r,if_neg H]
 have C:∀ k,k<w.heap.size->χ' k=aw k:=by
  intro k d;by_cases i:aL na k
  ·rcases B k i with e | e
   ·rw [t2 k i,e]
   ·omega
  ·exact t3 k (by omega) (by omega) i
 have L:∀ k,k<w.heap.size->χ' k≠.cx->aw k≠.cx:=λk d c=>by rw [C k d] at c;exact c
 obtain ⟨m,aU⟩:=h.move (T:=λt=>t=.nodes\/t=.ck) (χ':=χ') g (by simp) L (λk d _ _=>C k d);have f3:=a1.cU m h.gb h.ki (by simp) (by simp);have f4:=av.cU m h.cls h.fk (by simp) (by simp);refine ⟨_,χ',aU,m.mo,λk c=>?_,?_,?_,f,t2,λq z au=>?_,f4.1,f4.2,λq z au=>(h.aW q z au).cU m λt o r=>?_,f3.1,f3.2,λx G=>dM.cU m (h.eC x G).1 (h.eC x G).2 (by simp) (by simp),h.nodup⟩
 ·rcases c with c | c
  ·by_cases E:k=y.b
   ·rw [E];exact p.node.lt
   ·by_cases F:k=y.aH
    ·rw [F];exact p.words.lt
    ·by_cases i:aL na k
     ·exact f.lt i
     ·rw [t3 k E F i] at c;exact gi (h.jV c) g.size
  ·exact gi c.1 g.size
 ·simpa [bR.cells] using K
 ·rw [C _ h.ck.lt];exact h.gT
 ·have a:(X.nodes++[y])[q]?=some z:=au;rw [qb] at a;split at a
  ·exact (h.node q z a).cU m (by simp) (by simp)
  ·rename_i N;rw [List.getElem?_singleton] at a;split at a
   ·rename_i M;have u:q=X.nodes.length:=by omega
    simp only [fg] at a;subst a;subst u;exact ⟨p,t1,D⟩
   ·cases a
 ·rcases r with e | e<;>(rw [e] at o;cases o)
def mZ:cn:=⟨false,0,[],none,0,none,[],[],0,0,0⟩
def sZ (lines:Nat):aN:=⟨List.replicate (8 * lines) 0,false⟩
def hl (n i:Nat):bh:=⟨true,1,jP n i 1,none,0,0,0⟩
def aE.init (n c lines:Nat):aE:=⟨lines,List.replicate n (sZ lines),(List.range c).map (hl n),[]⟩
theorem Ku (n:Nat):jE n [.bool false,.int .i64 0,.slice none 0 0,.slice none 0 0,.int .i64 0,.int .i64 0,.int .i64 0]=(fL (List.replicate n mZ)).flatten:=by
 induction n with
 |zero=>rfl
 |succ n a=>rw [rq,fL,gj,hg,<-fL,<-a];rfl
theorem LB {c:Nat} (a:k<c):((List.range k).map (hl n)++List.replicate (c - k) mZ.pure).set k (hl n k)=(List.range (k+1)).map (hl n)++List.replicate (c - (k+1)) mZ.pure:=by obtain ⟨d,rfl⟩:∃ d,c=k+1+d:=⟨c - (k+1),by omega⟩;rw [show k+1+d - k=d+1 by omega,show k+1+d - (k+1)=d by omega,rq,BB _ _ (by simp)];simp [ku]
open Classical in
theorem OM {c lines:Nat} (YB:1<=n/\n<=5) (XQ:1<=c/\c<=6) (Yi:1<=lines/\lines<=256):bb 46 [.int .i64 n,.int .i64 c,.int .i64 lines] w λv w'=>
  ∃ aJ A aw X,v=.tuple #[ptr aJ,.int .i64 0]/\b6 A aw w' aJ X/\ai w w'/\(∀ k,A k->w.heap.size<=k)/\X.pure=aE.init n c lines:=by
 refine bd Tryz.func46 ?_;rw [IA];refine bc (λh=>by omega) (λ_=>bc (λh=>by omega) (λ_=>bc (λh=>by omega) (λ_=>bc (λh=>by omega) (λ_=>bc (λh=>by omega) (λ_=>bc (λh=>by omega) (λ_=>?_))))))
 refine ⟨by omega,by omega,by omega,by omega,?_⟩;rintro aY w1 X2 L;rw [fD,Ku] at L;obtain ⟨XY,X_⟩:=bl X2 L;have Yr:w1.heap.size=w.heap.size+1:=by rw [L];simp
 clear L;rintro aJ XO X5 Z;obtain ⟨XZ,XH⟩:=bl X5 Z;have Ys:XO.heap.size=w1.heap.size+1:=by rw [Z];simp
 clear Z;let D:bR:=⟨lines,[],none,0,aY,List.replicate c mZ,[],none,0⟩;let G:Nat->Tag:=λk=>if k=aJ then .ck else if k=aY then .aR else .cx
 have t1:G aJ=.ck:=if_pos rfl;have t2:G aY=.aR:=by show (if aY=aJ then Tag.ck else if aY=aY then .aR else .cx)=_;rw [if_neg (by omega),if_pos rfl]
 have t3:∀ k,G k≠.cx->k=aJ\/k=aY:=by
  intro k E;by_cases XU:k=aJ
  ·exact .inl XU
  ·by_cases XV:k=aY
   ·exact .inr XV
   ·exact absurd (show (if k=aJ then Tag.ck else if k=aY then .aR else .cx)=_ by rw [if_neg XU,if_neg XV]) E
 have Xy:b6 (λk=>G k≠.cx) G XO aJ D:=by
  refine ⟨λ_ h=>h,λk E=>?_,?_,t1,a1.nil _ _ _,(λk E=>(sY E).elim),(λi x Yb=>by simp [D] at Yb),?_,t2,λi x Yb=>?_,a1.nil _ _ _,(λk E=>(sY E).elim),(λp Yo=>by simp [D] at Yo),by simp [D]⟩
  ·rcases t3 k E with e | e<;>omega
  ·simpa [bR.cells,D] using XZ
  ·have:=ai.aj XH XY;simpa [D] using this
  ·have C:(List.replicate c mZ)[i]?=some x:=Yb;rw [BJ] at C;split at C
   ·simp only [fg] at C;subst C;exact ⟨a1.nil _ _ _,(λk E=>(sY E).elim),(λj l Yi=>by simp [mZ] at Yi),λ_=>⟨rfl,rfl⟩,(λb XC=>by simp [mZ] at XC),⟨rfl,λ_ _ _ XQ=>by simp [mZ] at XQ⟩⟩
   ·cases C
 refine c8 mix (λm env u=>∃ (k:Nat) (XN:ax) (A':a6) (χ':Nat->Tag) (bp:List hF) (na:an) (nc:Nat),k<=n/\m=n - k/\env=xM lines ⟨aJ,0,none⟩ n k XN/\
   Next (λk=>G k≠.cx) A' G χ' XO u/\b6 A' χ' u aJ { D with nodes:=bp,na:=na,nc:=nc }/\bp.length=k/\bp.map hF.n=List.replicate k (sZ lines)) n
  ⟨0,_,_,G,[],none,0,by omega,by omega,rfl,Xy.refl (ao.refl _ _),Xy,rfl,rfl⟩ ?_
 rintro m env u ⟨k,XN,A',χ',bp,na,nc,E,rfl,rfl,aU,O,X9,XG⟩;rw [Vm];refine bc (λg=>?_) (λg=>?_)
 ·refine aD (Lr (w:=u) (lines:=lines) (by omega) (by omega)) ?_;rintro v Yw ⟨rfl,q,XI,Yt⟩;rw [fD] at q;have XA:=O.new XI;refine ⟨_,_,rfl,du (λh=>absurd rfl h) (λ_=>⟨_,_,_,XA.ck.cell (i:=1) rfl,?_⟩)⟩;rintro Yn Xx X0 Xv;obtain ⟨Yc,W⟩:=bl X0 Xv;have Yu:Xx.heap.size=Yw.heap.size+1:=by rw [Xv];simp
  clear Xv;have H:=XA.new W;obtain ⟨Yv,Ya,Yd,K,X1⟩:=fV (T:=92) (z:=.pointer none) (n:=1) (m:=8) (by kernel_rfl);have Y:a1 Xx z5 Yv.size na bp.length nc (bp.map λx=>ptr x.b):=by rw [K];exact H.nodes
  obtain ⟨ap,dr,XR,XM,B,XF,XB⟩:=Y.append (P:=prog) (t:=107) (ty:=107) Tryz.underlying107 Ya Yd (by rw [K];rfl) (by omega)
   (s:=some ⟨Yn,0,none⟩) (m:=1) (c:=1) (news:=[ptr (u.heap.size+1)]) (by rw [K];rfl) (fu Yc (by simp [ptr])) (by simp [ptr,single]) (by omega) (by rw [X1];omega)
  rw [K] at B;have r:∀ z,aL na z->χ' z=.nodes:=H.jY;have S:ao (λz=>χ' z=.nodes) Xx XR:=XF.mono λz _ au=>r z au
  have a:=S.aj H.ck (by rw [H.gT];simp);refine ⟨ap,_,dr,XR,XM,⟨_,a.cell (i:=1) rfl⟩,a.frozen,?_⟩;intro XS Xw;have V:ao (λz=>z=aJ) XR XS:=by rw [Xw];exact eX _ _ _ _
  have d:=a.setCell (i:=1) (.slice ap (bp.length+1) dr);have U:XS=XR.setCell ⟨aJ,1,none⟩ (.slice ap (bp.length+1) dr):=Xw;rw [<-U] at d;clear Xw U;have XJ:ai u Xx:=XI.new W;have XE:ao (λz=>χ' z=.nodes\/χ' z=.ck) u XS:=((ao.b9 XJ).trans S λz _ e=>.inl e).trans V λz _ e=>.inr (by rw [e];exact O.gT)
  have f:∀ z,aL na z->z<u.heap.size:=λz au=>O.nodes.lt au
  have Yh:aJ<u.heap.size:=O.ck.lt;have R:∀ z,aL ap z->χ' z=.nodes\/Xx.heap.size<=z:=by
   intro z au;rcases XB with e | e
   ·exact .inl (r z (e▸au))
   ·obtain ⟨o,XK⟩:=au;rw [e] at XK;simp at XK;exact .inr (by omega)
  have Q:∀ z,u.heap.size<=z->z<Xx.heap.size->¬ aL ap z:=by
   intro z XU XV au;rcases XB with e | e
   ·have:=f z (e▸au);omega
   ·obtain ⟨o,XK⟩:=au;rw [e] at XK;simp at XK<;>omega
  have I:ea XS (u.heap.size+1) u.heap.size ⟨List.replicate (8 * lines) 0,false⟩:=((q.new W).aA XF (λXC=>by have:=f _ XC;omega) (λXC=>by have:=f _ XC;omega)).aA V (by omega) (by omega);obtain ⟨Yl,Yz,Yf,XX⟩:=O.addNode (y:=⟨u.heap.size+1,u.heap.size,sZ lines⟩) (na:=ap) (nc:=dr) XE I (by show u.heap.size<=u.heap.size+1;omega) (cY _) (λz au=>(R z au).imp id λe=>by omega) (Q _ (by show u.heap.size<=u.heap.size+1;omega) (by show u.heap.size+1<_;omega)) (Q _ (cY _) (by show u.heap.size<_;omega))
   (by
    have:=B.aA V (λz au e=>by
     rcases R z au with XT | XT
     ·have X6:χ' aJ=.ck:=O.gT;rw [e,X6] at XT;cases XT
     ·omega)
    simpa using this) (by simpa [bR.cells] using d)
  rw [show IntKind.i64.wrap ((k:Int)+1)=((k+1:Nat):Int) by rw [bH (by omega) (by omega)];rfl];refine ⟨n - (k+1),by omega,k+1,_,Yl,Yz,bp++[⟨u.heap.size+1,u.heap.size,sZ lines⟩],ap,dr,by omega,rfl,rfl,aU.trans Yf,XX,by simp [X9],?_⟩;rw [jn,XG,List.replicate_succ'];rfl
 ·have X8:k=n:=by omega
  subst X8;rw [We];refine ⟨_,_,_,O.ck.cell (i:=2) rfl,?_⟩;have X3:({ D with nodes:=bp,na:=na,nc:=nc }:bR).aR.length=c:=by simp [D]
  rw [X3];refine c8 mix (λm env z=>∃ (i:Nat) (XN:ax) (A':a6) (χ':Nat->Tag) (Yg:bR),i<=c/\m=c - i/\env=xN ⟨aJ,0,none⟩ c i XN/\
    Next (λk=>G k≠.cx) A' G χ' XO z/\b6 A' χ' z aJ Yg/\Yg.pure=⟨lines,List.replicate k (sZ lines),(List.range i).map (hl k)++List.replicate (c - i) mZ.pure,[]⟩) c
   ⟨0,_,_,χ',_,by omega,by omega,rfl,aU,O,by simp [bR.pure,D,XG]⟩ ?_
  rintro m env z ⟨i,XN,Yj,Yx,N,YA,rfl,rfl,M,Xz,J⟩;rw [Vn];refine bc (λg=>?_) (λg=>?_)
  ·have XL:N.aR.map cn.pure=(List.range i).map (hl k)++List.replicate (c - i) mZ.pure:=congrArg aE.aR J;have Yq:N.nodes.length=k:=by have:=congrArg (λF=>F.nodes.length) J;simpa [bR.pure] using this
   have Yp:N.aR.length=c:=by have:=congrArg List.length XL;simp at this <;> omega
   obtain ⟨XP,XD⟩:∃ XP,N.aR[i]?=some XP:=⟨N.aR[i],by simp [show i<N.aR.length by omega]⟩;have X4:XP.pure=mZ.pure:=by
    have:(N.aR.map cn.pure)[i]?=some XP.pure:=by simp [XD]
    rw [XL,h4 (by simp)] at this;simp only [fZ,lJ,m3,BJ] at this;rw [if_pos (by omega)] at this;simpa using this.symm
   refine aD (Kt Xz (by omega) XD (by omega) (inc:=1) (by omega)) ?_;rintro v Xx ⟨rfl,Yk,Yy,Ym,Ye,XW,X',_⟩;refine ⟨rfl,?_⟩;rw [show IntKind.i64.wrap ((i:Int)+1)=((i+1:Nat):Int) by rw [bH (by omega) (by omega)];rfl];refine ⟨c - (i+1),by omega,i+1,_,Yk,Yy,Ym,by omega,rfl,rfl,M.trans Ye,XW,?_⟩;rw [X',X4,J];simp only [aE.connect,aE.dO,fD,yP];rw [<-LB (by omega)];rfl
  ·have X7:i=c:=by omega
   subst X7;rw [Wf];refine ⟨aJ,Yj,Yx,N,rfl,Xz,?_,λz au=>?_,?_⟩
   ·refine (X_.new XH).trans M.aA λz au XQ=>?_
    rcases t3 z XQ with e | e<;>omega
   ·rcases (M.iff z).1 au with au | au
    ·by_cases g:z<XO.heap.size
     ·rcases t3 z (M.grow z g au) with e | e<;>omega
     ·omega
    ·exact absurd au.2.2 au.2.1
   ·rw [J];simp [aE.init]
end
section
def oy (p a v:Int):Int:=p * 4503599627370496+a * 1099511627776+v
theorem NJ (e:0<=p/\p<4096) (d:0<=a/\a<4096) (al:0<=v/\v<1099511627776):ju .u64 (ju .u64 (ix .u64 p 52) (ix .u64 a 40)) v=oy p a v:=by
 obtain ⟨p,rfl⟩:=p8 e.1;obtain ⟨a,rfl⟩:=p8 d.1;obtain ⟨v,rfl⟩:=p8 al.1;have b:ix .u64 (p:Int) 52=((p * 2 ^ 52:Nat):Int):=by show IntKind.u64.wrap ((p:Int) * 2 ^ 52)=_;rw [j3 (by omega) (by omega)];simp
 have c:ix .u64 (a:Int) 40=((a * 2 ^ 40:Nat):Int):=by show IntKind.u64.wrap ((a:Int) * 2 ^ 40)=_;rw [j3 (by omega) (by omega)];simp
 rw [b,c,vg _ _ (by omega) (by omega),v_ _ _ 52 (by omega),show p * 2 ^ 52+a * 2 ^ 40=(p * 2 ^ 12+a) * 2 ^ 40 by omega,vg _ _ (by omega) (by omega),v_ _ _ 40 (by omega)];unfold oy;omega
theorem s0 (w:ak) (x a b:Int):bb 141 [.int .i64 x,.int .i64 a,.int .i64 b] w λv w'=>v=.bool (decide (a<=x/\x<=b))/\w'=w:=by
 refine bd Tryz.func141 ?_;rw [GI];refine bc (λh=>⟨?_,rfl⟩) (λh=>⟨?_,rfl⟩)
 ·have:a<=x:=h;simp [this]
 ·have:¬ a<=x:=h;simp [this]
theorem Br (w:ak) (x a b:Int):bb 143 [.int .u64 x,.int .u64 a,.int .u64 b] w λv w'=>v=.bool (decide (a<=x/\x<=b))/\w'=w:=by
 refine bd Tryz.func143 ?_;rw [Vi];refine bc (λh=>⟨?_,rfl⟩) (λh=>⟨?_,rfl⟩)
 ·have:a<=x:=h;simp [this]
 ·have:¬ a<=x:=h;simp [this]
theorem J3 (w:ak) (x:Int):bb 158 [.int .i64 x] w λv w'=>v=.bool (decide (0<=x/\x<=5))/\w'=w:=by refine bd Tryz.func158 ?_;rw [G6];refine aD (s0 _ _ _ _) ?_;rintro v w1 ⟨rfl,rfl⟩;exact ⟨_,rfl,rfl,rfl⟩
theorem ON (w:ak):bb 103 [.int .i64 0,.bool true] w λv w'=>v=.tuple #[.int .u64 1,.int .i64 0]/\w'=w:=by refine bd Tryz.func103 ?_;rw [HV];refine aD (s0 _ _ _ _) ?_;rintro v w1 ⟨rfl,rfl⟩;exact ⟨_,rfl,rfl,rfl⟩
theorem Kv (w:ak):bb 107 [.int .u64 1,.int .i64 0] w λv w'=>v=.tuple #[.int .u64 256,.int .i64 0]/\w'=w:=by refine bd Tryz.func107 ?_;rw [Xg];refine aD (Br _ _ _ _) ?_;rintro v w1 ⟨rfl,rfl⟩;refine ⟨_,rfl,di rfl ?_⟩;refine aD (s0 _ _ _ _) ?_;rintro v w1 ⟨rfl,rfl⟩;refine ⟨_,rfl,di rfl ⟨?_,rfl⟩⟩;rfl
def wX (p a v:Int):Int:=if p<4096/\a<4096/\v<1099511627776 then oy p a v else 0
theorem IU (w:ak) (f:0<=p) (d:0<=a) (al:0<=v):bb 104 [.int .u64 p,.int .u64 a,.int .u64 v] w λr w'=>∃ e,r=.tuple #[.int .u64 (wX p a v),.int .i64 e]/\w'=w:=by
 refine bd Tryz.func104 ?_;rw [WC];unfold wX;refine bc (λh=>⟨2,?_,rfl⟩) (λh=>bc (λb=>⟨2,?_,rfl⟩) (λb=>bc (λc=>⟨2,?_,rfl⟩) (λc=>⟨0,?_,rfl⟩)))
 ·rw [if_neg (by omega)]
 ·rw [if_neg (by omega)]
 ·rw [if_neg (by omega)]
 ·rw [if_pos (by omega),NJ (by omega) (by omega) (by omega)]
theorem yw (w:ak) (a b:Int):bb 142 [.int .i64 a,.int .i64 b] w λv w'=>∃ cB k,v=.func (.func 187) #[] #[ptr cB,ptr k]/\av w' cB [.int .i64 b] mj/\av w' k [.int .i64 a] mj/\ai w w':=by refine bd Tryz.func142 ?_;rw [WQ];rintro b1 w1 d g aB l e h;obtain ⟨i,f⟩:=bl d g;obtain ⟨j,c⟩:=bl e h;exact ⟨aB,b1,rfl,j,ai.aj c i,f.new c⟩
def m' (a b i:Int):Int:=if i<0\/b<=i then -1 else a * 8+i
theorem yh (w:ak) {cB c:Nat} {b:Int} (d:av w cB [.int .i64 b] mj) (e:av w c [.int .i64 a] mj) (g:0<=a/\a<=100000) (j:b<=100000) (i:Int):bb 187 [.int .i64 i,ptr cB,ptr c] w λv w'=>v=.int .i64 (m' a b i)/\w'=w:=by refine bd Tryz.func187 ?_;rw [ptr,ptr,Wc];unfold m';refine bc (λh=>⟨by rw [if_pos (by omega)],rfl⟩) (λh=>⟨b,d.cell rfl,bc (λf=>⟨by rw [if_pos (by omega)],rfl⟩) (λf=>⟨a,e.cell rfl,?_,rfl⟩)⟩);rw [if_neg (by omega),bH (x:=a * 8) (by omega) (by omega),bH (x:=a * 8+i) (by omega) (by omega)]
attribute [local irreducible] iA jk m0
theorem yx:iA prog 187=true:=by kernel_rfl
theorem I0 (w:ak) (i:Int):bb 105 [.int .i64 i] w λv w'=>v=.int .i64 (m' 1 16 i)/\ai w w':=by
 refine bd Tryz.func105 ?_;rw [VT];refine aD (yw _ _ _) ?_;rintro v w1 ⟨cB,d,rfl,a,b,e⟩;have c:=yx;refine ⟨_,rfl,?_⟩;have f:(#[]++#[.int .i64 i]++#[ptr cB,ptr d]:Array a4)=#[.int .i64 i,ptr cB,ptr d]:=by simp
 refine q4 c f ?_;refine aD (yh w1 a b (by omega) (by omega) i) ?_;rintro v g ⟨rfl,rfl⟩;exact ⟨_,rfl,rfl,e⟩
theorem OO (w:ak) (i:Int):bb 106 [.int .i64 i] w λv w'=>v=.int .i64 (m' 3 6 i)/\ai w w':=by
 refine bd Tryz.func106 ?_;rw [Hr];refine aD (yw _ _ _) ?_;rintro v w1 ⟨cB,d,rfl,a,b,e⟩;have c:=yx;refine ⟨_,rfl,?_⟩;have f:(#[]++#[.int .i64 i]++#[ptr cB,ptr d]:Array a4)=#[.int .i64 i,ptr cB,ptr d]:=by simp
 refine q4 c f ?_;refine aD (yh w1 a b (by omega) (by omega) i) ?_;rintro v g ⟨rfl,rfl⟩;exact ⟨_,rfl,rfl,e⟩
theorem rj (w:ak) {i:Int} (a:96<=i) (b:i<256):bb 108 [.int .i64 i] w λv w'=>v=.int .i64 (i * 8)/\w'=w:=by
 refine bd Tryz.func108 ?_;rw [Xh];refine bc (λh=>by omega) (λh=>bc (λh=>by omega) (λh=>⟨?_,rfl⟩))
 rw [bH (by omega) (by omega)]
theorem NK (w:ak) {i:Int} (a:1<=i) (b:i<=256):bb 102 [.int .i64 i] w λv w'=>v=.int .i64 (i * 8)/\w'=w:=by
 refine bd Tryz.func102 ?_;rw [W5];refine bc (λh=>by omega) (λh=>bc (λh=>by omega) (λh=>⟨?_,rfl⟩))
 rw [bH (by omega) (by omega)]
def tD:Nat->Int->Int->Int
 | 0,_,s=>s
 |n+1,i,s=>tD n (i+1) (ju .u64 s (ix .u64 7 (7 * i)))
def nG (n:Nat):Int:=tD n 0 549755813888
theorem K6 (w:ak) (c:1<=n) (d:n<=5):bb 100 [.int .i64 n] w λv w'=>v=.tuple #[.int .u64 (nG n),.int .i64 0]/\w'=w:=by
 refine bd Tryz.func100 ?_;rw [UV];refine bc (λh=>by omega) (λh=>bc (λh=>by omega) (λh=>?_))
 refine c8 mix (λm env u=>∃ (i:Nat) (s:Int) (a:ax),m=n - i/\i<=n/\env=w9 s n i a/\u=w/\tD (n - i) i s=nG n) n ⟨0,_,_,rfl,by omega,rfl,rfl,rfl⟩ ?_;rintro m env u ⟨i,s,a,rfl,e,rfl,rfl,al⟩;rw [SR];refine bc (λb=>?_) (λb=>?_)
 ·rw [bH (by omega) (by omega),j3 (by omega) (by omega),bH (by omega) (by omega)];refine ⟨by omega,n - (i+1),by omega,i+1,_,_,rfl,by omega,rfl,rfl,?_⟩;rw [show n - i=n - (i+1)+1 by omega,tD] at al;exact al
 ·rw [Ti];have:i=n:=by omega
  subst this;rw [m3,tD] at al;rw [al];exact ⟨rfl,rfl⟩
theorem Fc (a:n<=5):0<=nG n/\nG n<1099511627776:=by rcases n with _ | _ | _ | _ | _ | _ | n;all_goals first | decide | omega
end
section
theorem U5 {a:an} {l:a8} (h:bk u a (is l)) (d:l[i]?=some x) {z:Int} (au:z=i) (j:n=l.length) {K:aX->Prop}
  (f:∀ b o,(∀ y,ai u y->y.cell? ⟨b,o,none⟩=some (.int .i64 x))->K ⟨b,o,none⟩):bA a n z 1 K:=by
 subst au j;have g:=b3 d;have c:(is l)[i]?=some (.int .i64 x):=by simp [is,d]
 rcases h with he | ⟨b,o,rfl,e⟩
 ·rw [he] at c;cases c
 ·refine ej (by omega) (by omega) ?_;have:=f b (o+i) λy k=>(bk.new k (.inr ⟨b,o,rfl,e⟩)).cell c
  simpa using this
def iN (line lines:Int):Bool:=decide (98<=lines/\lines<=256/\96<=line/\line<lines)
theorem LC (w:ak) (line lines:Int):bb 169 [.int .i64 line,.int .i64 lines] w λv w'=>v=.bool (iN line lines)/\w'=w:=by
 refine bd Tryz.func169 ?_;rw [WS];have d:bb 207 [.int .i64 lines] w λv w'=>v=.bool (decide (98<=lines/\lines<=256))/\w'=w:=by
  refine bd Tryz.func207 ?_;rw [WE];refine bc (λh=>⟨?_,rfl⟩) (λh=>⟨?_,rfl⟩)
  ·have h:98<=lines:=h;congr 1;simp [h]
  ·have h:¬ 98<=lines:=h;congr 1;simp [h]
 refine aD d ?_;rintro v w1 ⟨rfl,rfl⟩;unfold iN;refine ⟨_,rfl,bc (λh=>bc (λc=>⟨?_,rfl⟩) (λc=>⟨?_,rfl⟩)) (λh=>⟨?_,rfl⟩)⟩
 ·have c:96<=line:=c;congr 1;simp [h.1,h.2,c]
 ·have c:¬ 96<=line:=c;congr 1;simp [c]
 ·congr 1;simp;intro a b;exact absurd ⟨a,b⟩ h
theorem NL {a:an} {cap:Nat} {L:a8} (j:a1 u 3 1 a n cap (is L)) (p:n<=1000000) {K:Nat->an->Nat->Nat->aF}
  (s:∀ b ap f h,b=u.heap.size->a1 h 3 1 ap (n+1) f (is (L++[x]))->ao (aL a) u h->(∀ k,aL ap k->aL a k\/u.heap.size<=k)->K b ap (n+1) f h) :
  ∀ b1 l,b1=u.heap.size->l=u.alloc (.cells #[.int .i64 x] 3)->∃ (ap:an) (d c:Nat),∃ h,(Builtin.append_ #[22,22] 22 #[(.slice a n cap),(.slice (some ⟨b1,0,none⟩) 1 1)]).run prog l=.ok (.slice ap d c) h/\K b1 ap d c h:=by
 obtain ⟨inf,r,au,g,q⟩:=fV (T:=3) (z:=.int .i64 0) (n:=1) (m:=8) (by kernel_rfl);rw [<-g] at j;refine oI (vs:=[.int .i64 x]) Tryz.underlying22 r au (by rw [g];rfl) (by omega) j (by rw [g];rfl) (by intro v al;simp at al;subst al;rfl) (by omega) (by omega) ?_;intro b ap f h o i;have e:is L++[Value.int .i64 x]=is (L++[x]):=by simp [is]
 rw [g,e] at i;exact s b ap f h o i
def hx (l:List Bool):ax:=l.map .bool
end
end Go.Proofs.YtmkljjbioomepaaGreat
