import Derived.Test.YtmkljjbioomepaaGreate13
import Derived.Test.YtmkljjbioomepaaGreate04
set_option linter.all false
set_option maxHeartbeats 4000000
set_option maxRecDepth 100000
namespace Go.Proofs.YtmkljjbioomepaaGreat
open Go.Proofs.Tryz Go.bn
variable {A:a2} {a inc p v x:Int} {c aM i k n:Nat} {u w w':al}
section
theorem rv (h:aL none k):False:=by obtain ⟨o,a⟩:=h;cases a
def q_ (i:Nat) (inc:Int) (j:Nat):cH:=⟨⟨i,inc,j,[],0,[]⟩,[]⟩
def h1 (n i:Nat) (inc:Int):List cH:=(List.range n).map (q_ i inc)
def h7 (pb i:Nat) (inc:Int) (j:Nat):cV:=⟨pb,⟨i,inc,j,[],[],none,0,0,[],none,0⟩,[],none,0⟩
theorem Fn (pb i:Nat) (inc:Int) (j:Nat):(h7 pb i inc j).pure=q_ i inc j:=rfl
def aB.connect (F:aB) (i:Nat) (C:bf) (inc:Int):aB:=F.fS i { C with alive:=true,inc:=inc,ay:=h1 F.nodes.length i inc }
theorem GM (a b:List cV):(gE (a++b)).flatten=(gE a).flatten++(gE b).flatten:=by simp [gE]
open Classical in
theorem bX.Ok {ar:Nat->Tag} {X:bl} (h:bX A ar w aM X) {pb:Nat} {c:bU} (n:X.aU[i]?=some c) {la:an} {lc:Nat}
  (q:ao (λk=>ar k=.ay i\/ar k=.aU) w w') (K:w.heap.size<=pb) (C:∀ k,aL la k->ar k=.ay i\/w.heap.size<=k) (D:¬ aL la pb)
  (s:∀ M:a2,M pb->dx M w' pb (h7 pb i inc c.ay.length).p) (r:aY w' k5 2 la (c.ay++[h7 pb i inc c.ay.length]).length lc (gE (c.ay++[h7 pb i inc c.ay.length])).flatten)
  (f:av w' X.aT (fj (X.aU.set i { c with ay:=c.ay++[h7 pb i inc c.ay.length],la:=la,lc:=lc })).flatten jz) :
  ∃ A' χ',Next A A' ar χ' w w'/\bX A' χ' w' aM { X with aU:=X.aU.set i { c with ay:=c.ay++[h7 pb i inc c.ay.length],la:=la,lc:=lc } }:=by
 let χ':Nat->Tag:=λk=>if k=pb then .lane i c.ay.length else if aL la k then .ay i else ar k
 have t1:χ' pb=.lane i c.ay.length:=if_pos rfl;have t2:∀ k,aL la k->χ' k=.ay i:=λk q=>by show (if k=pb then Tag.lane i c.ay.length else if aL la k then .ay i else ar k)=_;rw [if_neg (λe:k=pb=>D (e▸q)),if_pos q]
 have t3:∀ k,k≠pb->¬ aL la k->χ' k=ar k:=λk F G=>by show (if k=pb then Tag.lane i c.ay.length else if aL la k then .ay i else ar k)=_;rw [if_neg F,if_neg G]
 have z:∀ k,k<w.heap.size->χ' k=ar k:=by
  intro k d;by_cases f:aL la k
  ·rcases C k f with e | e
   ·rw [t2 k f,e]
   ·omega
  ·exact t3 k (by omega) f
 have E:∀ k,k<w.heap.size->χ' k≠.ck->ar k≠.ck:=λk d n=>by rw [z k d] at n;exact n
 obtain ⟨m,_⟩:=h.move (T:=λt=>t=.ay i\/t=.aU) (χ':=χ') q (by simp) E (λk d _ _=>z k d);have g:=h.aP i c n;have y:=s (fQ A ar χ' w) (.inl (by rw [t1];simp));have N:∀ k,χ' k≠.ck->k<w'.heap.size:=λk n=>by
  by_cases u:k=pb
  ·rw [u];exact y.ak.lt
  ·by_cases f:aL la k
   ·exact r.lt f
   ·rw [t3 k u f] at n;exact fF (h.jl n) q.size
 have L:kd (fQ A ar χ' w) χ' w' i { c with ay:=c.ay++[h7 pb i inc c.ay.length],la:=la,lc:=lc }:=by
  refine ⟨r,t2,λj l J=>?_,g.none,λb f=>av.cM m (g.batch b f).1 (g.batch b f).2 (by simp) (by simp),g.ds.ax m.qX m.old⟩;have a:(c.ay++[h7 pb i inc c.ay.length])[j]?=some l:=J;rw [o3] at a;split at a
  ·exact (g.lane j l a).cM m (by simp) (by simp)
  ·rename_i O;rw [List.getElem?_singleton] at a;split at a
   ·rename_i I;have B:j=c.ay.length:=by omega
    simp only [e7] at a;subst a;subst B;refine ⟨y,?_,aY.nil _ _ _,λk ⟨o,x⟩=>by cases x⟩;rintro k (q | ⟨o,x⟩ | ⟨o,x⟩)
    ·rw [q];exact t1
    ·cases x
    ·cases x
   ·cases a
 obtain ⟨aZ,H⟩:=h.pY (χ':=χ') n (q.mono λk _ e=>e.elim (λe=>.inr (by rw [e];rfl)) .inl) E (λk d _ _=>z k d) N (by rw [q9];exact f) (by rw [z _ h.cls.lt];exact h.eW) L;exact ⟨_,_,aZ,H⟩
theorem bX.setRow {ar:Nat->Tag} {X:bl} (h:bX A ar w aM X) {c c':bU} (a:X.aU[i]?=some c) (f:ao (λk=>ar k=.aU) w w') (n:av w' X.aT (fj (X.aU.set i c')).flatten jz)
  (b:∀ A' w',kd A' ar w' i c->kd A' ar w' i c'):∃ A',Next A A' ar ar w w'/\bX A' ar w' aM { X with aU:=X.aU.set i c' }:=by
 obtain ⟨m,_⟩:=h.move (χ':=ar) (T:=λt=>t=.aU) f (by simp) (λ_ _ h=>h) (λ_ _ _ _=>rfl);have d:=(h.aP i c a).cM m (λt j e=>by rw [e] at j;exact j);obtain ⟨g,l⟩:=h.pY (χ':=ar) (c':=c') a (f.mono λk _ e=>.inl e) (λ_ _ h=>h) (λ_ _ _ _=>rfl) (λk a=>fF (h.jl a) f.size) (by rw [q9];exact n) h.eW (b _ _ d);exact ⟨_,g,l⟩
theorem Iu {ar:Nat->Tag} {X:bl} (h:bX A ar w aM X) (Vb:X.nodes.length<=5) {c:bU} (UD:X.aU[i]?=some c) (U6:X.aU.length<=6) (Ur:0<=inc/\inc<=59) :
  ba 53 [ptr aM,.int .i64 i,.int .i64 inc] w λv w'=>v=.tuple #[]/\dD A ar w aM (X.pure.connect i c.pure inc) w' λ_=>True:=by
 refine bc Tryz.func53 ?_;rw [ptr,Q_];have UH:=cz UD;refine ⟨_,_,_,h.b9.cell (i:=2) rfl,dT (by omega) (by omega) ?_⟩;rw [fT];refine ⟨⟨_,h.hO (k:=0) UD rfl⟩,h.cls.frozen,?_⟩;intro w1 Uy;obtain ⟨a,L⟩:=kH (k:=0) (c':={ c with alive:=true }) h.cls UD (by omega) (v:=.bool true) (by simp [bU.cells]);have D:w1=w.setCell ⟨X.aT,0+i * 7+0,none⟩ (.bool true):=Uy;rw [<-D] at a;have UI:ao (λz=>z=X.aT) w w1:=by rw [D];exact eA _ _ _ _
 clear Uy D;refine ⟨⟨_,kL (k:=1) a L rfl⟩,a.frozen,?_⟩;intro U0 Ui;obtain ⟨b,N⟩:=kH (k:=1) (c':={ c with alive:=true,inc:=inc }) a L (by omega) (v:=.int .i64 inc) (by simp [bU.cells]);rw [<-Ui] at b;have UJ:ao (λz=>z=X.aT) w1 U0:=by rw [Ui];exact eA _ _ _ _
 clear Ui;refine ⟨⟨_,kL (k:=2) b N rfl⟩,b.frozen,?_⟩;intro U1 Uj;obtain ⟨d,UW⟩:=kH (k:=2) (c':={ c with alive:=true,inc:=inc,ay:=[],la:=none,lc:=0 }) b N (by omega) (v:=.slice none 0 0) (by simp [bU.cells]);rw [<-Uj] at d;have UK:ao (λz=>z=X.aT) U0 U1:=by rw [Uj];exact eA _ _ _ _
 clear Uj;rw [iJ,iJ] at d;have Us:ao (λz=>ar z=.aU) w U1:=((UI.trans UJ λ_ _ h=>h).trans UK λ_ _ h=>h).mono λz _ e=>by rw [e];exact h.eW
 obtain ⟨U3,US,Um⟩:=h.setRow (c':={ c with alive:=true,inc:=inc,ay:=[],la:=none,lc:=0 }) UD Us d (λA' w' H=>⟨aY.nil _ _ _,(λk UY=>(rv UY).elim),(λj l U8=>by simp at U8),H.none,H.batch,H.ds⟩);refine ⟨_,_,_,Um.b9.cell (i:=1) rfl,?_⟩;show cx _ _ (sN i inc ⟨X.aT,0+i * 7,none⟩ X.nodes.length 0 _) _ _;refine c1 mix (λm env u=>∃ (k:Nat) (UZ:aw) (A':a2) (χ':Nat->Tag) (ls:List cV) (la:an) (lc:Nat),k<=X.nodes.length/\m=X.nodes.length - k/\env=sN i inc ⟨X.aT,0+i * 7,none⟩ X.nodes.length k UZ/\
   Next A A' ar χ' w u/\bX A' χ' u aM { X with aU:=X.aU.set i { c with alive:=true,inc:=inc,ay:=ls,la:=la,lc:=lc } }/\ls.length=k/\ls.map cV.pure=h1 k i inc) X.nodes.length
  ⟨0,_,U3,ar,[],none,0,by omega,by omega,rfl,US,Um,rfl,rfl⟩ ?_
 rintro m env u ⟨k,UZ,A',χ',ls,la,lc,UY,rfl,rfl,aZ,Ul,F,Uv⟩;rw [Ph];refine a9 (λUM=>?_) (λUM=>?_)
 ·have U7:k<X.nodes.length:=by omega
  have q:(X.aU.set i { c with alive:=true,inc:=inc,ay:=ls,la:=la,lc:=lc })[i]?=some { c with alive:=true,inc:=inc,ay:=ls,la:=la,lc:=lc }:=by simp [UH]
  refine aD (L6 (w:=u) (c:=i) (i:=inc) (n:=k) (by omega) Ur (by omega)) ?_;rintro v U2 ⟨rfl,Z,Uw,U9⟩;have Un:=Ul.new Uw;refine ⟨_,_,rfl,_,_,_,Un.hO (k:=2) q rfl,?_⟩;rintro U5 UA UF Uk;obtain ⟨UQ,V⟩:=bk UF Uk;have U_:UA.heap.size=U2.heap.size+1:=by rw [Uk];simp
  clear Uk;have R:=Un.new V;have x:=R.aP i _ q;obtain ⟨U',UP,UR,J,UG⟩:=fp (T:=105) (z:=.agg #[.pointer none,.slice none 0 0]) (n:=2) (m:=32) (by kernel_rfl);have W:aY UA k5 U'.size la ls.length lc (gE ls).flatten:=by rw [J];exact x.own
  obtain ⟨ap,de,UB,Ux,C,Uu,Up⟩:=W.append (P:=prog) (t:=99) (ty:=99) Tryz.underlying99 UP UR (by rw [J];rfl) (by omega)
   (s:=some ⟨U5,0,none⟩) (m:=1) (c:=1) (news:=(h7 u.heap.size i inc k).cells) (by rw [J];rfl) (e9 UQ (by simp [cV.cells,h7])) (by simp [cV.cells,single]) (by omega) (by rw [UG];omega)
  rw [J] at C;have O:ao (λz=>χ' z=.ay i) UA UB:=Uu.mono λz _ au=>x.tag z au
  have f:av UB X.aT (fj (X.aU.set i { c with alive:=true,inc:=inc,ay:=ls,la:=la,lc:=lc })).flatten jz:=O.ak R.cls (by have:=R.eW;rw [show χ' X.aT=.aU from this];simp);refine ⟨ap,_,de,UB,Ux,⟨_,kL (k:=2) f q rfl⟩,f.frozen,?_⟩;intro UC Uz;obtain ⟨g,UX⟩:=kH (k:=2) (c':={ c with alive:=true,inc:=inc,ay:=ls++[h7 u.heap.size i inc ls.length],la:=ap,lc:=de }) f q (by omega) (v:=.slice ap (ls.length+1) de) (by simp [bU.cells]);have E:UC=UB.setCell ⟨X.aT,0+i * 7+2,none⟩ (.slice ap (ls.length+1) de):=Uz;rw [<-E] at g;have U:ao (λz=>z=X.aT) UB UC:=by rw [E];exact eA _ _ _ _
  clear Uz E;have B:ai u UA:=Uw.new V;have r:χ' X.aT=.aU:=Ul.eW;have Ut:ao (λz=>χ' z=.ay i\/χ' z=.aU) u UC:=((ao.bZ B).trans O λz _ e=>.inl e).trans U λz _ e=>.inr (by rw [e];exact r)
  have Q:∀ z,aL la z->z<u.heap.size:=λz au=>(Ul.aP i _ q).own.lt au
  have K:∀ z,aL ap z->χ' z=.ay i\/UA.heap.size<=z:=by
   intro z au;rcases Up with e | e
   ·exact .inl (x.tag z (e▸au))
   ·obtain ⟨o,G⟩:=au;rw [e] at G;simp at G;exact .inr (by omega)
  have UV:X.aT<u.heap.size:=Ul.cls.lt;have Uq:¬ aL ap u.heap.size:=λS=>by
   rcases Up with e | e
   ·have:=Q _ (e▸S);omega
   ·obtain ⟨o,G⟩:=S;rw [e] at G;simp at G<;>omega
  have I:∀ M:a2,M u.heap.size->dx M UC u.heap.size (h7 u.heap.size i inc ls.length).p:=by
   intro M UU;have UN:dx (λk=>M k\/aL la k\/k=X.aT) U2 u.heap.size (h7 u.heap.size i inc ls.length).p:=by have:=Z (λk=>M k\/aL la k\/k=X.aT) (.inl UU);rw [F];exact this
   have y:∀ z,(h7 u.heap.size i inc ls.length).p.mut u.heap.size z->z=u.heap.size:=by
    rintro z (au | ⟨o,G⟩ | ⟨o,G⟩)
    ·exact au
    ·cases G
    ·cases G
   have UO:=((UN.new V).ax Uu (λz au S=>by rw [y z au] at S;have:=Q _ S;omega) (λz S=>.inr (.inl S))).ax U (λz au e=>by have:=y z au;omega) (λz e=>.inr (.inr e));exact UO.l4 (λz _ au=>.inl au) (λz au=>by rw [y z au];exact UU)
  have Y:aY UC k5 2 ap (ls++[h7 u.heap.size i inc ls.length]).length de (gE (ls++[h7 u.heap.size i inc ls.length])).flatten:=by
   rw [GM,c8];have e:(gE [h7 u.heap.size i inc ls.length]).flatten=(h7 u.heap.size i inc k).cells:=by rw [F];rfl
   rw [e];refine C.ax U λz au e=>?_
   rcases K z au with UE | UE
   ·rw [e,r] at UE;cases UE
   ·have:=B.size;omega
  rw [iJ] at g;obtain ⟨U4,Va,UT,Uo⟩:=Ul.Ok (pb:=u.heap.size) (inc:=inc) (la:=ap) (lc:=de) q Ut (dd _) (λz au=>(K z au).imp id λe=>by have:=B.size;omega) Uq I Y (by rw [iJ];exact g);rw [iJ] at Uo;rw [show IntKind.i64.wrap ((k:Int)+1)=((k+1:Nat):Int) by rw [bA (by omega) (by omega)];rfl];refine ⟨X.nodes.length - (k+1),by omega,k+1,_,U4,Va,ls++[h7 u.heap.size i inc ls.length],ap,de,by omega,rfl,rfl,aZ.trans UT,Uo,by simp [F],?_⟩;rw [jx,Uv,F];simp [h1,k0,Fn]
 ·have UL:k=X.nodes.length:=by omega
  subst UL;refine ⟨rfl,A',χ',_,aZ,Ul,?_,trivial⟩;refine (bl.v' X i _).trans ?_;simp [aB.connect,bU.pure,Uv,bl.pure]
open Classical in
theorem bX.addNode {ar:Nat->Tag} {X:bl} (h:bX A ar w aM X) {y:iz} {na:an} {nc:Nat}
  (g:ao (λk=>ar k=.nodes\/ar k=.b9) w w') (p:dK w' y.b y.aK y.n) (I:w.heap.size<=y.b) (J:w.heap.size<=y.aK) (B:∀ k,aL na k->ar k=.nodes\/w.heap.size<=k) (j:¬ aL na y.b) (l:¬ aL na y.aK)
  (f:aY w' yn 1 na (X.nodes++[y]).length nc ((X.nodes++[y]).map λx=>ptr x.b)) (K:av w' aM (X.cells.set 1 (.slice na (X.nodes++[y]).length nc)) k4) :
  ∃ A' χ',Next A A' ar χ' w w'/\bX A' χ' w' aM { X with nodes:=X.nodes++[y],na:=na,nc:=nc }:=by
 have s:=p.ne;let χ':Nat->Tag:=λk=>if k=y.b then .node X.nodes.length else if k=y.aK then .word X.nodes.length else if aL na k then .nodes else ar k
 have t1:χ' y.b=.node X.nodes.length:=if_pos rfl;have D:χ' y.aK=.word X.nodes.length:=by show (if y.aK=y.b then Tag.node X.nodes.length else if y.aK=y.aK then .word X.nodes.length else if aL na y.aK then .nodes else ar y.aK)=_;rw [if_neg (λe=>s e.symm),if_pos rfl]
 have t2:∀ k,aL na k->χ' k=.nodes:=λk g=>by show (if k=y.b then Tag.node X.nodes.length else if k=y.aK then .word X.nodes.length else if aL na k then .nodes else ar k)=_;rw [if_neg (λe:k=y.b=>j (e▸g)),if_neg (λe:k=y.aK=>l (e▸g)),if_pos g]
 have t3:∀ k,k≠y.b->k≠y.aK->¬ aL na k->χ' k=ar k:=λk o r H=>by show (if k=y.b then Tag.node X.nodes.length else if k=y.aK then .word X.nodes.length else if aL na k then .nodes else ar k)=_;rw [if_neg o,if_neg r,if_neg H]
 have C:∀ k,k<w.heap.size->χ' k=ar k:=by
  intro k d;by_cases i:aL na k
  ·rcases B k i with e | e
   ·rw [t2 k i,e]
   ·omega
  ·exact t3 k (by omega) (by omega) i
 have L:∀ k,k<w.heap.size->χ' k≠.ck->ar k≠.ck:=λk d c=>by rw [C k d] at c;exact c
 obtain ⟨m,aZ⟩:=h.move (T:=λt=>t=.nodes\/t=.b9) (χ':=χ') g (by simp) L (λk d _ _=>C k d);have f3:=aY.cM m h.fD h.jK (by simp) (by simp);have f4:=av.cM m h.cls h.eW (by simp) (by simp);refine ⟨_,χ',aZ,m.lI,λk c=>?_,?_,?_,f,t2,λq z au=>?_,f4.1,f4.2,λq z au=>(h.aP q z au).cM m λt o r=>?_,f3.1,f3.2,λx G=>dx.cM m (h.ea x G).1 (h.ea x G).2 (by simp) (by simp),h.nodup⟩
 ·rcases c with c | c
  ·by_cases E:k=y.b
   ·rw [E];exact p.node.lt
   ·by_cases F:k=y.aK
    ·rw [F];exact p.words.lt
    ·by_cases i:aL na k
     ·exact f.lt i
     ·rw [t3 k E F i] at c;exact fF (h.jl c) g.size
  ·exact fF c.1 g.size
 ·simpa [bl.cells] using K
 ·rw [C _ h.b9.lt];exact h.gm
 ·have a:(X.nodes++[y])[q]?=some z:=au;rw [o3] at a;split at a
  ·exact (h.node q z a).cM m (by simp) (by simp)
  ·rename_i N;rw [List.getElem?_singleton] at a;split at a
   ·rename_i M;have u:q=X.nodes.length:=by omega
    simp only [e7] at a;subst a;subst u;exact ⟨p,t1,D⟩
   ·cases a
 ·rcases r with e | e<;>(rw [e] at o;cases o)
def ma:bU:=⟨false,0,[],none,0,none,[],[],0,0,0⟩
def ry (lines:Nat):aH:=⟨List.replicate (8 * lines) 0,false⟩
def jN (n i:Nat):bf:=⟨true,1,h1 n i 1,none,0,0,0⟩
def aB.init (n c lines:Nat):aB:=⟨lines,List.replicate n (ry lines),(List.range c).map (jN n),[]⟩
theorem Iv (n:Nat):iY n [.bool false,.int .i64 0,.slice none 0 0,.slice none 0 0,.int .i64 0,.int .i64 0,.int .i64 0]=(fj (List.replicate n ma)).flatten:=by
 induction n with
 |zero=>rfl
 |succ n a=>rw [o6,fj,g',hr,<-fj,<-a];rfl
theorem KG (a:k<c):((List.range k).map (jN n)++List.replicate (c - k) ma.pure).set k (jN n k)=(List.range (k+1)).map (jN n)++List.replicate (c - (k+1)) ma.pure:=by obtain ⟨d,rfl⟩:∃ d,c=k+1+d:=⟨c - (k+1),by omega⟩;rw [show k+1+d - k=d+1 by omega,show k+1+d - (k+1)=d by omega,o6,wO _ _ (by simp)];simp [k0]
open Classical in
theorem M5 {lines:Nat} (Vo:1<=n/\n<=5) (UD:1<=c/\c<=6) (U7:1<=lines/\lines<=256):ba 46 [.int .i64 n,.int .i64 c,.int .i64 lines] w λv w'=>
  ∃ aM A ar X,v=.tuple #[ptr aM,.int .i64 0]/\bX A ar w' aM X/\ai w w'/\(∀ k,A k->w.heap.size<=k)/\X.pure=aB.init n c lines:=by
 refine bc Tryz.func46 ?_;rw [AC];refine a9 (λh=>by omega) (λ_=>a9 (λh=>by omega) (λ_=>a9 (λh=>by omega) (λ_=>a9 (λh=>by omega) (λ_=>a9 (λh=>by omega) (λ_=>a9 (λh=>by omega) (λ_=>?_))))))
 refine ⟨by omega,by omega,by omega,by omega,?_⟩;rintro aT w1 UP L;rw [fT,Iv] at L;obtain ⟨UL,UX⟩:=bk UP L;have Ve:w1.heap.size=w.heap.size+1:=by rw [L];simp
 clear L;rintro aM UB US Z;obtain ⟨UM,Uu⟩:=bk US Z;have Vf:UB.heap.size=w1.heap.size+1:=by rw [Z];simp
 clear Z;let D:bl:=⟨lines,[],none,0,aT,List.replicate c ma,[],none,0⟩;let G:Nat->Tag:=λk=>if k=aM then .b9 else if k=aT then .aU else .ck
 have t1:G aM=.b9:=if_pos rfl;have t2:G aT=.aU:=by show (if aT=aM then Tag.b9 else if aT=aT then .aU else .ck)=_;rw [if_neg (by omega),if_pos rfl]
 have t3:∀ k,G k≠.ck->k=aM\/k=aT:=by
  intro k E;by_cases UH:k=aM
  ·exact .inl UH
  ·by_cases UI:k=aT
   ·exact .inr UI
   ·exact absurd (show (if k=aM then Tag.b9 else if k=aT then .aU else .ck)=_ by rw [if_neg UH,if_neg UI]) E
 have Ul:bX (λk=>G k≠.ck) G UB aM D:=by
  refine ⟨λ_ h=>h,λk E=>?_,?_,t1,aY.nil _ _ _,(λk E=>(rv E).elim),(λi x U0=>by simp [D] at U0),?_,t2,λi x U0=>?_,aY.nil _ _ _,(λk E=>(rv E).elim),(λp Vb=>by simp [D] at Vb),by simp [D]⟩
  ·rcases t3 k E with e | e<;>omega
  ·simpa [bl.cells,D] using UM
  ·have:=ai.ak Uu UL;simpa [D] using this
  ·have C:(List.replicate c ma)[i]?=some x:=U0;rw [zZ] at C;split at C
   ·simp only [e7] at C;subst C;exact ⟨aY.nil _ _ _,(λk E=>(rv E).elim),(λj l U7=>by simp [ma] at U7),λ_=>⟨rfl,rfl⟩,(λb Up=>by simp [ma] at Up),⟨rfl,λ_ _ _ UD=>by simp [ma] at UD⟩⟩
   ·cases C
 refine c1 mix (λm env u=>∃ (k:Nat) (UA:aw) (A':a2) (χ':Nat->Tag) (ns:List iz) (na:an) (nc:Nat),k<=n/\m=n - k/\env=vI lines ⟨aM,0,none⟩ n k UA/\
   Next (λk=>G k≠.ck) A' G χ' UB u/\bX A' χ' u aM { D with nodes:=ns,na:=na,nc:=nc }/\ns.length=k/\ns.map iz.n=List.replicate k (ry lines)) n
  ⟨0,_,_,G,[],none,0,by omega,by omega,rfl,Ul.refl (ao.refl _ _),Ul,rfl,rfl⟩ ?_
 rintro m env u ⟨k,UA,A',χ',ns,na,nc,E,rfl,rfl,aZ,O,UW,Ut⟩;rw [Ss];refine a9 (λg=>?_) (λg=>?_)
 ·refine aD (Kw (w:=u) (lines:=lines) (by omega) (by omega)) ?_;rintro v Vj ⟨rfl,q,Uv,Vg⟩;rw [fT] at q;have Un:=O.new Uv;refine ⟨_,_,rfl,dt (λh=>absurd rfl h) (λ_=>⟨_,_,_,Un.b9.cell (i:=1) rfl,?_⟩)⟩;rintro Va Uk UN Ui;obtain ⟨U1,W⟩:=bk UN Ui;have Vh:Uk.heap.size=Vj.heap.size+1:=by rw [Ui];simp
  clear Ui;have H:=Un.new W;obtain ⟨Vi,UZ,U2,K,UO⟩:=fp (T:=92) (z:=.pointer none) (n:=1) (m:=8) (by kernel_rfl);have Y:aY Uk yn Vi.size na ns.length nc (ns.map λx=>ptr x.b):=by rw [K];exact H.nodes
  obtain ⟨ap,de,UE,Uz,B,Us,Uo⟩:=Y.append (P:=prog) (t:=107) (ty:=107) Tryz.underlying107 UZ U2 (by rw [K];rfl) (by omega)
   (s:=some ⟨Va,0,none⟩) (m:=1) (c:=1) (news:=[ptr (u.heap.size+1)]) (by rw [K];rfl) (e9 U1 (by simp [ptr])) (by simp [ptr,single]) (by omega) (by rw [UO];omega)
  rw [K] at B;have r:∀ z,aL na z->χ' z=.nodes:=H.jq;have S:ao (λz=>χ' z=.nodes) Uk UE:=Us.mono λz _ au=>r z au
  have a:=S.ak H.b9 (by rw [H.gm];simp);refine ⟨ap,_,de,UE,Uz,⟨_,a.cell (i:=1) rfl⟩,a.frozen,?_⟩;intro UF Uj;have V:ao (λz=>z=aM) UE UF:=by rw [Uj];exact eA _ _ _ _
  have d:=a.setCell (i:=1) (.slice ap (ns.length+1) de);have U:UF=UE.setCell ⟨aM,1,none⟩ (.slice ap (ns.length+1) de):=Uj;rw [<-U] at d;clear Uj U;have Uw:ai u Uk:=Uv.new W;have Ur:ao (λz=>χ' z=.nodes\/χ' z=.b9) u UF:=((ao.bZ Uw).trans S λz _ e=>.inl e).trans V λz _ e=>.inr (by rw [e];exact O.gm)
  have f:∀ z,aL na z->z<u.heap.size:=λz au=>O.nodes.lt au
  have U6:aM<u.heap.size:=O.b9.lt;have R:∀ z,aL ap z->χ' z=.nodes\/Uk.heap.size<=z:=by
   intro z au;rcases Uo with e | e
   ·exact .inl (r z (e▸au))
   ·obtain ⟨o,Ux⟩:=au;rw [e] at Ux;simp at Ux;exact .inr (by omega)
  have Q:∀ z,u.heap.size<=z->z<Uk.heap.size->¬ aL ap z:=by
   intro z UH UI au;rcases Uo with e | e
   ·have:=f z (e▸au);omega
   ·obtain ⟨o,Ux⟩:=au;rw [e] at Ux;simp at Ux<;>omega
  have I:dK UF (u.heap.size+1) u.heap.size ⟨List.replicate (8 * lines) 0,false⟩:=((q.new W).ax Us (λUp=>by have:=f _ Up;omega) (λUp=>by have:=f _ Up;omega)).ax V (by omega) (by omega);obtain ⟨U_,Vm,U4,UK⟩:=O.addNode (y:=⟨u.heap.size+1,u.heap.size,ry lines⟩) (na:=ap) (nc:=de) Ur I (by show u.heap.size<=u.heap.size+1;omega) (dd _) (λz au=>(R z au).imp id λe=>by omega) (Q _ (by show u.heap.size<=u.heap.size+1;omega) (by show u.heap.size+1<_;omega)) (Q _ (dd _) (by show u.heap.size<_;omega))
   (by
    have:=B.ax V (λz au e=>by
     rcases R z au with UG | UG
     ·have UT:χ' aM=.b9:=O.gm;rw [e,UT] at UG;cases UG
     ·omega)
    simpa using this) (by simpa [bl.cells] using d)
  rw [show IntKind.i64.wrap ((k:Int)+1)=((k+1:Nat):Int) by rw [bA (by omega) (by omega)];rfl];refine ⟨n - (k+1),by omega,k+1,_,U_,Vm,ns++[⟨u.heap.size+1,u.heap.size,ry lines⟩],ap,de,by omega,rfl,rfl,aZ.trans U4,UK,by simp [UW],?_⟩;rw [jx,Ut,List.replicate_succ'];rfl
 ·have UV:k=n:=by omega
  subst UV;rw [S4];refine ⟨_,_,_,O.b9.cell (i:=2) rfl,?_⟩;have UQ:({ D with nodes:=ns,na:=na,nc:=nc }:bl).aU.length=c:=by simp [D]
  rw [UQ];refine c1 mix (λm env z=>∃ (i:Nat) (UA:aw) (A':a2) (χ':Nat->Tag) (U5:bl),i<=c/\m=c - i/\env=vJ ⟨aM,0,none⟩ c i UA/\
    Next (λk=>G k≠.ck) A' G χ' UB z/\bX A' χ' z aM U5/\U5.pure=⟨lines,List.replicate k (ry lines),(List.range i).map (jN k)++List.replicate (c - i) ma.pure,[]⟩) c
   ⟨0,_,_,χ',_,by omega,by omega,rfl,aZ,O,by simp [bl.pure,D,Ut]⟩ ?_
  rintro m env z ⟨i,UA,U8,Vk,N,Vn,rfl,rfl,M,Um,J⟩;rw [St];refine a9 (λg=>?_) (λg=>?_)
  ·have Uy:N.aU.map bU.pure=(List.range i).map (jN k)++List.replicate (c - i) ma.pure:=congrArg aB.aU J;have Vd:N.nodes.length=k:=by have:=congrArg (λF=>F.nodes.length) J;simpa [bl.pure] using this
   have Vc:N.aU.length=c:=by have:=congrArg List.length Uy;simp at this <;> omega
   obtain ⟨UC,Uq⟩:∃ UC,N.aU[i]?=some UC:=⟨N.aU[i],by simp [show i<N.aU.length by omega]⟩;have UR:UC.pure=ma.pure:=by
    have:(N.aU.map bU.pure)[i]?=some UC.pure:=by simp [Uq]
    rw [Uy,jv (by simp)] at this;simp only [fc,mj,m3,zZ] at this;rw [if_pos (by omega)] at this;simpa using this.symm
   refine aD (Iu Um (by omega) Uq (by omega) (inc:=1) (by omega)) ?_;rintro v Uk ⟨rfl,U9,Vl,U',U3,UJ,UY,_⟩;refine ⟨rfl,?_⟩;rw [show IntKind.i64.wrap ((i:Int)+1)=((i+1:Nat):Int) by rw [bA (by omega) (by omega)];rfl];refine ⟨c - (i+1),by omega,i+1,_,U9,Vl,U',by omega,rfl,rfl,M.trans U3,UJ,?_⟩;rw [UY,UR,J];simp only [aB.connect,aB.fS,fT,w2];rw [<-KG (by omega)];rfl
  ·have UU:i=c:=by omega
   subst UU;rw [Tm];refine ⟨aM,U8,Vk,N,rfl,Um,?_,λz au=>?_,?_⟩
   ·refine (UX.new Uu).trans M.ax λz au UD=>?_
    rcases t3 z UD with e | e<;>omega
   ·rcases (M.iff z).1 au with au | au
    ·by_cases g:z<UB.heap.size
     ·rcases t3 z (M.grow z g au) with e | e<;>omega
     ·omega
    ·exact absurd au.2.2 au.2.1
   ·rw [J];simp [aB.init]
end
section
def nA (p a v:Int):Int:=p * 4503599627370496+a * 1099511627776+v
theorem LW (e:0<=p/\p<4096) (d:0<=a/\a<4096) (aj:0<=v/\v<1099511627776):jh .u64 (jh .u64 (hN .u64 p 52) (hN .u64 a 40)) v=nA p a v:=by
 obtain ⟨p,rfl⟩:=m1 e.1;obtain ⟨a,rfl⟩:=m1 d.1;obtain ⟨v,rfl⟩:=m1 aj.1;have b:hN .u64 (p:Int) 52=((p * 2 ^ 52:Nat):Int):=by show IntKind.u64.wrap ((p:Int) * 2 ^ 52)=_;rw [jt (by omega) (by omega)];simp
 have c:hN .u64 (a:Int) 40=((a * 2 ^ 40:Nat):Int):=by show IntKind.u64.wrap ((a:Int) * 2 ^ 40)=_;rw [jt (by omega) (by omega)];simp
 rw [b,c,tz _ _ (by omega) (by omega),uC _ _ 52 (by omega),show p * 2 ^ 52+a * 2 ^ 40=(p * 2 ^ 12+a) * 2 ^ 40 by omega,tz _ _ (by omega) (by omega),uC _ _ 40 (by omega)];unfold nA;omega
theorem rz (w:al) (x a b:Int):ba 141 [.int .i64 x,.int .i64 a,.int .i64 b] w λv w'=>v=.bool (decide (a<=x/\x<=b))/\w'=w:=by
 refine bc Tryz.func141 ?_;rw [EC];refine a9 (λh=>⟨?_,rfl⟩) (λh=>⟨?_,rfl⟩)
 ·have:a<=x:=h;simp [this]
 ·have:¬ a<=x:=h;simp [this]
theorem zA (w:al) (x a b:Int):ba 143 [.int .u64 x,.int .u64 a,.int .u64 b] w λv w'=>v=.bool (decide (a<=x/\x<=b))/\w'=w:=by
 refine bc Tryz.func143 ?_;rw [Sj];refine a9 (λh=>⟨?_,rfl⟩) (λh=>⟨?_,rfl⟩)
 ·have:a<=x:=h;simp [this]
 ·have:¬ a<=x:=h;simp [this]
theorem Il (w:al) (x:Int):ba 158 [.int .i64 x] w λv w'=>v=.bool (decide (0<=x/\x<=5))/\w'=w:=by refine bc Tryz.func158 ?_;rw [EM];refine aD (rz _ _ _ _) ?_;rintro v w1 ⟨rfl,rfl⟩;exact ⟨_,rfl,rfl,rfl⟩
theorem M6 (w:al):ba 103 [.int .i64 0,.bool true] w λv w'=>v=.tuple #[.int .u64 1,.int .i64 0]/\w'=w:=by refine bc Tryz.func103 ?_;rw [F2];refine aD (rz _ _ _ _) ?_;rintro v w1 ⟨rfl,rfl⟩;exact ⟨_,rfl,rfl,rfl⟩
theorem Iw (w:al):ba 107 [.int .u64 1,.int .i64 0] w λv w'=>v=.tuple #[.int .u64 256,.int .i64 0]/\w'=w:=by refine bc Tryz.func107 ?_;rw [T0];refine aD (zA _ _ _ _) ?_;rintro v w1 ⟨rfl,rfl⟩;refine ⟨_,rfl,dw rfl ?_⟩;refine aD (rz _ _ _ _) ?_;rintro v w1 ⟨rfl,rfl⟩;refine ⟨_,rfl,dw rfl ⟨?_,rfl⟩⟩;rfl
def u4 (p a v:Int):Int:=if p<4096/\a<4096/\v<1099511627776 then nA p a v else 0
theorem GN (w:al) (f:0<=p) (d:0<=a) (aj:0<=v):ba 104 [.int .u64 p,.int .u64 a,.int .u64 v] w λr w'=>∃ e,r=.tuple #[.int .u64 (u4 p a v),.int .i64 e]/\w'=w:=by
 refine bc Tryz.func104 ?_;rw [Tg];unfold u4;refine a9 (λh=>⟨2,?_,rfl⟩) (λh=>a9 (λb=>⟨2,?_,rfl⟩) (λb=>a9 (λc=>⟨2,?_,rfl⟩) (λc=>⟨0,?_,rfl⟩)))
 ·rw [if_neg (by omega)]
 ·rw [if_neg (by omega)]
 ·rw [if_neg (by omega)]
 ·rw [if_pos (by omega),LW (by omega) (by omega) (by omega)]
theorem wE (w:al) (a b:Int):ba 142 [.int .i64 a,.int .i64 b] w λv w'=>∃ cg b8,v=.func (.func 187) #[] #[ptr cg,ptr b8]/\av w' cg [.int .i64 b] lF/\av w' b8 [.int .i64 a] lF/\ai w w':=by refine bc Tryz.func142 ?_;rw [Tv];rintro b1 w1 d g az k e h;obtain ⟨i,f⟩:=bk d g;obtain ⟨j,c⟩:=bk e h;exact ⟨az,b1,rfl,j,ai.ak c i,f.new c⟩
def m5 (a b i:Int):Int:=if i<0\/b<=i then -1 else a * 8+i
theorem wq (w:al) {cg b8:Nat} {b:Int} (c:av w cg [.int .i64 b] lF) (d:av w b8 [.int .i64 a] lF) (f:0<=a/\a<=100000) (g:b<=100000) (i:Int):ba 187 [.int .i64 i,ptr cg,ptr b8] w λv w'=>v=.int .i64 (m5 a b i)/\w'=w:=by refine bc Tryz.func187 ?_;rw [ptr,ptr,S2];unfold m5;refine a9 (λh=>⟨by rw [if_pos (by omega)],rfl⟩) (λh=>⟨b,c.cell rfl,a9 (λe=>⟨by rw [if_pos (by omega)],rfl⟩) (λe=>⟨a,d.cell rfl,?_,rfl⟩)⟩);rw [if_neg (by omega),bA (x:=a * 8) (by omega) (by omega),bA (x:=a * 8+i) (by omega) (by omega)]
attribute [local irreducible] hU ix mb
theorem wF:hU prog 187=true:=by kernel_rfl
theorem Hu (w:al) (i:Int):ba 105 [.int .i64 i] w λv w'=>v=.int .i64 (m5 1 16 i)/\ai w w':=by
 refine bc Tryz.func105 ?_;rw [S6];refine aD (wE _ _ _) ?_;rintro v w1 ⟨cg,b8,rfl,a,b,d⟩;have c:=wF;refine ⟨_,rfl,?_⟩;have e:(#[]++#[.int .i64 i]++#[ptr cg,ptr b8]:Array a0)=#[.int .i64 i,ptr cg,ptr b8]:=by simp
 refine pU c e ?_;refine aD (wq w1 a b (by omega) (by omega) i) ?_;rintro v f ⟨rfl,rfl⟩;exact ⟨_,rfl,rfl,d⟩
theorem M7 (w:al) (i:Int):ba 106 [.int .i64 i] w λv w'=>v=.int .i64 (m5 3 6 i)/\ai w w':=by
 refine bc Tryz.func106 ?_;rw [Fq];refine aD (wE _ _ _) ?_;rintro v w1 ⟨cg,b8,rfl,a,b,d⟩;have c:=wF;refine ⟨_,rfl,?_⟩;have e:(#[]++#[.int .i64 i]++#[ptr cg,ptr b8]:Array a0)=#[.int .i64 i,ptr cg,ptr b8]:=by simp
 refine pU c e ?_;refine aD (wq w1 a b (by omega) (by omega) i) ?_;rintro v f ⟨rfl,rfl⟩;exact ⟨_,rfl,rfl,d⟩
theorem p2 (w:al) {i:Int} (a:96<=i) (b:i<256):ba 108 [.int .i64 i] w λv w'=>v=.int .i64 (i * 8)/\w'=w:=by
 refine bc Tryz.func108 ?_;rw [T1];refine a9 (λh=>by omega) (λh=>a9 (λh=>by omega) (λh=>⟨?_,rfl⟩))
 rw [bA (by omega) (by omega)]
theorem LX (w:al) {i:Int} (a:1<=i) (b:i<=256):ba 102 [.int .i64 i] w λv w'=>v=.int .i64 (i * 8)/\w'=w:=by
 refine bc Tryz.func102 ?_;rw [TK];refine a9 (λh=>by omega) (λh=>a9 (λh=>by omega) (λh=>⟨?_,rfl⟩))
 rw [bA (by omega) (by omega)]
def r9:Nat->Int->Int->Int
 | 0,_,s=>s
 |n+1,i,s=>r9 n (i+1) (jh .u64 s (hN .u64 7 (7 * i)))
def mE (n:Nat):Int:=r9 n 0 549755813888
theorem JL (w:al) (c:1<=n) (d:n<=5):ba 100 [.int .i64 n] w λv w'=>v=.tuple #[.int .u64 (mE n),.int .i64 0]/\w'=w:=by
 refine bc Tryz.func100 ?_;rw [Sa];refine a9 (λh=>by omega) (λh=>a9 (λh=>by omega) (λh=>?_))
 refine c1 mix (λm env u=>∃ (i:Nat) (s:Int) (a:aw),m=n - i/\i<=n/\env=vg s n i a/\u=w/\r9 (n - i) i s=mE n) n ⟨0,_,_,rfl,by omega,rfl,rfl,rfl⟩ ?_;rintro m env u ⟨i,s,a,rfl,e,rfl,rfl,aj⟩;rw [PM];refine a9 (λb=>?_) (λb=>?_)
 ·rw [bA (by omega) (by omega),jt (by omega) (by omega),bA (by omega) (by omega)];refine ⟨by omega,n - (i+1),by omega,i+1,_,_,rfl,by omega,rfl,rfl,?_⟩;rw [show n - i=n - (i+1)+1 by omega,r9] at aj;exact aj
 ·rw [Qm];have:i=n:=by omega
  subst this;rw [m3,r9] at aj;rw [aj];exact ⟨rfl,rfl⟩
theorem Dm (a:n<=5):0<=mE n/\mE n<1099511627776:=by rcases n with _ | _ | _ | _ | _ | _ | n;all_goals first | decide | omega
end
section
theorem v3 {a:an} {l:a4} (h:bg u a (is l)) (d:l[i]?=some x) {z:Int} (au:z=i) (j:n=l.length) {K:aV->Prop}
  (f:∀ b o,(∀ y,ai u y->y.cell? ⟨b,o,none⟩=some (.int .i64 x))->K ⟨b,o,none⟩):bB a n z 1 K:=by
 subst au j;have g:=cz d;have c:(is l)[i]?=some (.int .i64 x):=by simp [is,d]
 rcases h with he | ⟨b,o,rfl,e⟩
 ·rw [he] at c;cases c
 ·refine dT (by omega) (by omega) ?_;have:=f b (o+i) λy k=>(bg.new k (.inr ⟨b,o,rfl,e⟩)).cell c
  simpa using this
def hh (line lines:Int):Bool:=decide (98<=lines/\lines<=256/\96<=line/\line<lines)
theorem KH (w:al) (line lines:Int):ba 169 [.int .i64 line,.int .i64 lines] w λv w'=>v=.bool (hh line lines)/\w'=w:=by
 refine bc Tryz.func169 ?_;rw [Tx];have d:ba 207 [.int .i64 lines] w λv w'=>v=.bool (decide (98<=lines/\lines<=256))/\w'=w:=by
  refine bc Tryz.func207 ?_;rw [Ti];refine a9 (λh=>⟨?_,rfl⟩) (λh=>⟨?_,rfl⟩)
  ·have h:98<=lines:=h;congr 1;simp [h]
  ·have h:¬ 98<=lines:=h;congr 1;simp [h]
 refine aD d ?_;rintro v w1 ⟨rfl,rfl⟩;unfold hh;refine ⟨_,rfl,a9 (λh=>a9 (λc=>⟨?_,rfl⟩) (λc=>⟨?_,rfl⟩)) (λh=>⟨?_,rfl⟩)⟩
 ·have c:96<=line:=c;congr 1;simp [h.1,h.2,c]
 ·have c:¬ 96<=line:=c;congr 1;simp [c]
 ·congr 1;simp;intro a b;exact absurd ⟨a,b⟩ h
theorem LY {a:an} {cap:Nat} {L:a4} (j:aY u 3 1 a n cap (is L)) (p:n<=1000000) {K:Nat->an->Nat->Nat->aE}
  (s:∀ b ap f h,b=u.heap.size->aY h 3 1 ap (n+1) f (is (L++[x]))->ao (aL a) u h->(∀ k,aL ap k->aL a k\/u.heap.size<=k)->K b ap (n+1) f h) :
  ∀ b1 l,b1=u.heap.size->l=u.alloc (.cells #[.int .i64 x] 3)->∃ (ap:an) (d c:Nat),∃ h,(Builtin.append_ #[22,22] 22 #[(.slice a n cap),(.slice (some ⟨b1,0,none⟩) 1 1)]).run prog l=.ok (.slice ap d c) h/\K b1 ap d c h:=by
 obtain ⟨inf,r,au,g,q⟩:=fp (T:=3) (z:=.int .i64 0) (n:=1) (m:=8) (by kernel_rfl);rw [<-g] at j;refine nI (vs:=[.int .i64 x]) Tryz.underlying22 r au (by rw [g];rfl) (by omega) j (by rw [g];rfl) (by intro v aj;simp at aj;subst aj;rfl) (by omega) (by omega) ?_;intro b ap f h o i;have e:is L++[Value.int .i64 x]=is (L++[x]):=by simp [is]
 rw [g,e] at i;exact s b ap f h o i
def gW (l:List Bool):aw:=l.map .bool
end
end Go.Proofs.YtmkljjbioomepaaGreat
