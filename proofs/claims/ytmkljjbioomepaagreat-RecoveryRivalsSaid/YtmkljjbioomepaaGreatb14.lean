import Derived.Test.YtmkljjbioomepaaGreatb13
import Derived.Test.YtmkljjbioomepaaGreatb04
set_option linter.all false
set_option maxHeartbeats 4000000
set_option maxRecDepth 100000
namespace Go.Proofs.YtmkljjbioomepaaGreat
open Go.Proofs.Tryz Go.bu
variable {A:a3} {X:bL} {a inc p v x:Int} {c:ck} {aI i k n:Nat} {u w w':ak} {aw:Nat->Tag}
section
theorem sR (h:aL none k):False:=by obtain ⟨o,a⟩:=h;cases a
def sD (i:Nat) (inc:Int) (j:Nat):cS:=⟨⟨i,inc,j,[],0,[]⟩,[]⟩
def kq (n i:Nat) (inc:Int):List cS:=(List.range n).map (sD i inc)
def iJ (pb i:Nat) (inc:Int) (j:Nat):dn:=⟨pb,⟨i,inc,j,[],[],none,0,0,[],none,0⟩,[],none,0⟩
theorem I2 (pb i:Nat) (inc:Int) (j:Nat):(iJ pb i inc j).pure=sD i inc j:=rfl
def aN.connect (F:aN) (i:Nat) (C:bU) (inc:Int):aN:=F.fs i { C with alive:=true,inc:=inc,aD:=kq F.nodes.length i inc }
theorem Ib (a b:List dn):(g1 (a++b)).flatten=(g1 a).flatten++(g1 b).flatten:=by simp [g1]
open Classical in
theorem b2.PN (h:b2 A aw w aI X) {pb:Nat} (n:X.aV[i]?=some c) {la:an} {lc:Nat}
  (q:ao (λk=>aw k=.aD i\/aw k=.aV) w w') (K:w.heap.size<=pb) (C:∀ k,aL la k->aw k=.aD i\/w.heap.size<=k) (D:¬ aL la pb)
  (s:∀ M:a3,M pb->dK M w' pb (iJ pb i inc c.aD.length).p) (r:a0 w' lE 2 la (c.aD++[iJ pb i inc c.aD.length]).length lc (g1 (c.aD++[iJ pb i inc c.aD.length])).flatten)
  (f:av w' X.aX (fC (X.aV.set i { c with aD:=c.aD++[iJ pb i inc c.aD.length],la:=la,lc:=lc })).flatten jY) :
  ∃ A' χ',Next A A' aw χ' w w'/\b2 A' χ' w' aI { X with aV:=X.aV.set i { c with aD:=c.aD++[iJ pb i inc c.aD.length],la:=la,lc:=lc } }:=by
 let χ':Nat->Tag:=λk=>if k=pb then .lane i c.aD.length else if aL la k then .aD i else aw k
 have t1:χ' pb=.lane i c.aD.length:=if_pos rfl;have t2:∀ k,aL la k->χ' k=.aD i:=λk q=>by show (if k=pb then Tag.lane i c.aD.length else if aL la k then .aD i else aw k)=_;rw [if_neg (λe:k=pb=>D (e▸q)),if_pos q]
 have t3:∀ k,k≠pb->¬ aL la k->χ' k=aw k:=λk F G=>by show (if k=pb then Tag.lane i c.aD.length else if aL la k then .aD i else aw k)=_;rw [if_neg F,if_neg G]
 have z:∀ k,k<w.heap.size->χ' k=aw k:=by
  intro k d;by_cases f:aL la k
  ·rcases C k f with e | e
   ·rw [t2 k f,e]
   ·omega
  ·exact t3 k (by omega) f
 have E:∀ k,k<w.heap.size->χ' k≠.cu->aw k≠.cu:=λk d n=>by rw [z k d] at n;exact n
 obtain ⟨m,_⟩:=h.move (T:=λt=>t=.aD i\/t=.aV) (χ':=χ') q (by simp) E (λk d _ _=>z k d);have g:=h.a1 i c n;have y:=s (gp A aw χ' w) (.inl (by rw [t1];simp));have N:∀ k,χ' k≠.cu->k<w'.heap.size:=λk n=>by
  by_cases u:k=pb
  ·rw [u];exact y.aj.lt
  ·by_cases f:aL la k
   ·exact r.lt f
   ·rw [t3 k u f] at n;exact f8 (h.jH n) q.size
 have L:kC (gp A aw χ' w) χ' w' i { c with aD:=c.aD++[iJ pb i inc c.aD.length],la:=la,lc:=lc }:=by
  refine ⟨r,t2,λj l J=>?_,g.none,λb f=>av.cM m (g.batch b f).1 (g.batch b f).2 (by simp) (by simp),g.ds.az m.sm m.old⟩;have a:(c.aD++[iJ pb i inc c.aD.length])[j]?=some l:=J;rw [p7] at a;split at a
  ·exact (g.lane j l a).cM m (by simp) (by simp)
  ·rename_i O;rw [List.getElem?_singleton] at a;split at a
   ·rename_i I;have B:j=c.aD.length:=by omega
    simp only [fe] at a;subst a;subst B;refine ⟨y,?_,a0.nil _ _ _,λk ⟨o,x⟩=>by cases x⟩;rintro k (q | ⟨o,x⟩ | ⟨o,x⟩)
    ·rw [q];exact t1
    ·cases x
    ·cases x
   ·cases a
 obtain ⟨aP,H⟩:=h.q5 (χ':=χ') n (q.mono λk _ e=>e.elim (λe=>.inr (by rw [e];rfl)) .inl) E (λk d _ _=>z k d) N (by rw [sC];exact f) (by rw [z _ h.cls.lt];exact h.fg) L;exact ⟨_,_,aP,H⟩
theorem b2.setRow (h:b2 A aw w aI X) {c':ck} (a:X.aV[i]?=some c) (f:ao (λk=>aw k=.aV) w w') (n:av w' X.aX (fC (X.aV.set i c')).flatten jY)
  (b:∀ A' w',kC A' aw w' i c->kC A' aw w' i c'):∃ A',Next A A' aw aw w w'/\b2 A' aw w' aI { X with aV:=X.aV.set i c' }:=by
 obtain ⟨m,_⟩:=h.move (χ':=aw) (T:=λt=>t=.aV) f (by simp) (λ_ _ h=>h) (λ_ _ _ _=>rfl);have d:=(h.a1 i c a).cM m (λt j e=>by rw [e] at j;exact j);obtain ⟨g,l⟩:=h.q5 (χ':=aw) (c':=c') a (f.mono λk _ e=>.inl e) (λ_ _ h=>h) (λ_ _ _ _=>rfl) (λk a=>f8 (h.jH a) f.size) (by rw [sC];exact n) h.fg (b _ _ d);exact ⟨_,g,l⟩
theorem Kd (h:b2 A aw w aI X) (WV:X.nodes.length<=5) (Wl:X.aV[i]?=some c) (WO:X.aV.length<=6) (V':0<=inc/\inc<=59) :
  a9 53 [ptr aI,.int .i64 i,.int .i64 inc] w λv w'=>v=.tuple #[]/\dT A aw w aI (X.pure.connect i c.pure inc) w' λ_=>True:=by
 refine bc Tryz.func53 ?_;rw [ptr,SV];have Wp:=cb Wl;refine ⟨_,_,_,h.cd.cell (i:=2) rfl,ee (by omega) (by omega) ?_⟩;rw [fU];refine ⟨⟨_,h.ih (k:=0) Wl rfl⟩,h.cls.frozen,?_⟩;intro w1 Wg;obtain ⟨a,L⟩:=k3 (k:=0) (c':={ c with alive:=true }) h.cls Wl (by omega) (v:=.bool true) (by simp [ck.cells]);have D:w1=w.setCell ⟨X.aX,0+i * 7+0,none⟩ (.bool true):=Wg;rw [<-D] at a;have Wq:ao (λz=>z=X.aX) w w1:=by rw [D];exact eY _ _ _ _
 clear Wg D;refine ⟨⟨_,lg (k:=1) a L rfl⟩,a.frozen,?_⟩;intro WI V2;obtain ⟨b,N⟩:=k3 (k:=1) (c':={ c with alive:=true,inc:=inc }) a L (by omega) (v:=.int .i64 inc) (by simp [ck.cells]);rw [<-V2] at b;have Wr:ao (λz=>z=X.aX) w1 WI:=by rw [V2];exact eY _ _ _ _
 clear V2;refine ⟨⟨_,lg (k:=2) b N rfl⟩,b.frozen,?_⟩;intro WJ V3;obtain ⟨d,WE⟩:=k3 (k:=2) (c':={ c with alive:=true,inc:=inc,aD:=[],la:=none,lc:=0 }) b N (by omega) (v:=.slice none 0 0) (by simp [ck.cells]);rw [<-V3] at d;have Ws:ao (λz=>z=X.aX) WI WJ:=by rw [V3];exact eY _ _ _ _
 clear V3;rw [jh,jh] at d;have Wa:ao (λz=>aw z=.aV) w WJ:=((Wq.trans Wr λ_ _ h=>h).trans Ws λ_ _ h=>h).mono λz _ e=>by rw [e];exact h.fg
 obtain ⟨WL,WA,V6⟩:=h.setRow (c':={ c with alive:=true,inc:=inc,aD:=[],la:=none,lc:=0 }) Wl Wa d (λA' w' H=>⟨a0.nil _ _ _,(λk WG=>(sR WG).elim),(λj l WQ=>by simp at WQ),H.none,H.batch,H.ds⟩);refine ⟨_,_,_,V6.cd.cell (i:=1) rfl,?_⟩;show cv _ _ (um i inc ⟨X.aX,0+i * 7,none⟩ X.nodes.length 0 _) _ _;refine c2 mix (λm env u=>∃ (k:Nat) (WH:ax) (A':a3) (χ':Nat->Tag) (ls:List dn) (la:an) (lc:Nat),k<=X.nodes.length/\m=X.nodes.length - k/\env=um i inc ⟨X.aX,0+i * 7,none⟩ X.nodes.length k WH/\
   Next A A' aw χ' w u/\b2 A' χ' u aI { X with aV:=X.aV.set i { c with alive:=true,inc:=inc,aD:=ls,la:=la,lc:=lc } }/\ls.length=k/\ls.map dn.pure=kq k i inc) X.nodes.length
  ⟨0,_,WL,aw,[],none,0,by omega,by omega,rfl,WA,V6,rfl,rfl⟩ ?_
 rintro m env u ⟨k,WH,A',χ',ls,la,lc,WG,rfl,rfl,aP,V5,F,Wd⟩;rw [QH];refine a8 (λWu=>?_) (λWu=>?_)
 ·have WP:k<X.nodes.length:=by omega
  have q:(X.aV.set i { c with alive:=true,inc:=inc,aD:=ls,la:=la,lc:=lc })[i]?=some { c with alive:=true,inc:=inc,aD:=ls,la:=la,lc:=lc }:=by simp [Wp]
  refine aC (NF (w:=u) (c:=i) (i:=inc) (n:=k) (by omega) V' (by omega)) ?_;rintro v WK ⟨rfl,Z,We,WR⟩;have V7:=V5.new We;refine ⟨_,_,rfl,_,_,_,V7.ih (k:=2) q rfl,?_⟩;rintro WN Wi Wn V4;obtain ⟨Wy,V⟩:=bl Wn V4;have WS:Wi.heap.size=WK.heap.size+1:=by rw [V4];simp
  clear V4;have R:=V7.new V;have x:=R.a1 i _ q;obtain ⟨WT,Wx,Wz,J,Wo⟩:=fO (T:=105) (z:=.agg #[.pointer none,.slice none 0 0]) (n:=2) (m:=32) (by kernel_rfl);have W:a0 Wi lE WT.size la ls.length lc (g1 ls).flatten:=by rw [J];exact x.own
  obtain ⟨ap,du,Wj,Wf,C,Wc,V9⟩:=W.append (P:=prog) (t:=99) (ty:=99) Tryz.underlying99 Wx Wz (by rw [J];rfl) (by omega)
   (s:=some ⟨WN,0,none⟩) (m:=1) (c:=1) (news:=(iJ u.heap.size i inc k).cells) (by rw [J];rfl) (fm Wy (by simp [dn.cells,iJ])) (by simp [dn.cells,single]) (by omega) (by rw [Wo];omega)
  rw [J] at C;have O:ao (λz=>χ' z=.aD i) Wi Wj:=Wc.mono λz _ au=>x.tag z au
  have f:av Wj X.aX (fC (X.aV.set i { c with alive:=true,inc:=inc,aD:=ls,la:=la,lc:=lc })).flatten jY:=O.aj R.cls (by have:=R.fg;rw [show χ' X.aX=.aV from this];simp);refine ⟨ap,_,du,Wj,Wf,⟨_,lg (k:=2) f q rfl⟩,f.frozen,?_⟩;intro Wk Wh;obtain ⟨g,WF⟩:=k3 (k:=2) (c':={ c with alive:=true,inc:=inc,aD:=ls++[iJ u.heap.size i inc ls.length],la:=ap,lc:=du }) f q (by omega) (v:=.slice ap (ls.length+1) du) (by simp [ck.cells]);have E:Wk=Wj.setCell ⟨X.aX,0+i * 7+2,none⟩ (.slice ap (ls.length+1) du):=Wh;rw [<-E] at g;have U:ao (λz=>z=X.aX) Wj Wk:=by rw [E];exact eY _ _ _ _
  clear Wh E;have B:ai u Wi:=We.new V;have r:χ' X.aX=.aV:=V5.fg;have Wb:ao (λz=>χ' z=.aD i\/χ' z=.aV) u Wk:=((ao.b4 B).trans O λz _ e=>.inl e).trans U λz _ e=>.inr (by rw [e];exact r)
  have Q:∀ z,aL la z->z<u.heap.size:=λz au=>(V5.a1 i _ q).own.lt au
  have K:∀ z,aL ap z->χ' z=.aD i\/Wi.heap.size<=z:=by
   intro z au;rcases V9 with e | e
   ·exact .inl (x.tag z (e▸au))
   ·obtain ⟨o,G⟩:=au;rw [e] at G;simp at G;exact .inr (by omega)
  have WD:X.aX<u.heap.size:=V5.cls.lt;have V_:¬ aL ap u.heap.size:=λS=>by
   rcases V9 with e | e
   ·have:=Q _ (e▸S);omega
   ·obtain ⟨o,G⟩:=S;rw [e] at G;simp at G<;>omega
  have I:∀ M:a3,M u.heap.size->dK M Wk u.heap.size (iJ u.heap.size i inc ls.length).p:=by
   intro M WC;have Wv:dK (λk=>M k\/aL la k\/k=X.aX) WK u.heap.size (iJ u.heap.size i inc ls.length).p:=by have:=Z (λk=>M k\/aL la k\/k=X.aX) (.inl WC);rw [F];exact this
   have y:∀ z,(iJ u.heap.size i inc ls.length).p.mut u.heap.size z->z=u.heap.size:=by
    rintro z (au | ⟨o,G⟩ | ⟨o,G⟩)
    ·exact au
    ·cases G
    ·cases G
   have Ww:=((Wv.new V).az Wc (λz au S=>by rw [y z au] at S;have:=Q _ S;omega) (λz S=>.inr (.inl S))).az U (λz au e=>by have:=y z au;omega) (λz e=>.inr (.inr e));exact Ww.mF (λz _ au=>.inl au) (λz au=>by rw [y z au];exact WC)
  have Y:a0 Wk lE 2 ap (ls++[iJ u.heap.size i inc ls.length]).length du (g1 (ls++[iJ u.heap.size i inc ls.length])).flatten:=by
   rw [Ib,dI];have e:(g1 [iJ u.heap.size i inc ls.length]).flatten=(iJ u.heap.size i inc k).cells:=by rw [F];rfl
   rw [e];refine C.az U λz au e=>?_
   rcases K z au with Wm | Wm
   ·rw [e,r] at Wm;cases Wm
   ·have:=B.size;omega
  rw [jh] at g;obtain ⟨WM,WU,WB,V8⟩:=V5.PN (pb:=u.heap.size) (inc:=inc) (la:=ap) (lc:=du) q Wb (cQ _) (λz au=>(K z au).imp id λe=>by have:=B.size;omega) V_ I Y (by rw [jh];exact g);rw [jh] at V8;rw [show IntKind.i64.wrap ((k:Int)+1)=((k+1:Nat):Int) by rw [bC (by omega) (by omega)];rfl];refine ⟨X.nodes.length - (k+1),by omega,k+1,_,WM,WU,ls++[iJ u.heap.size i inc ls.length],ap,du,by omega,rfl,rfl,aP.trans WB,V8,by simp [F],?_⟩;rw [ja,Wd,F];simp [kq,ki,I2]
 ·have Wt:k=X.nodes.length:=by omega
  subst Wt;refine ⟨rfl,A',χ',_,aP,V5,?_,trivial⟩;refine (bL.xQ X i _).trans ?_;simp [aN.connect,ck.pure,Wd,bL.pure]
open Classical in
theorem b2.addNode (h:b2 A aw w aI X) {y:g'} {na:an} {nc:Nat}
  (g:ao (λk=>aw k=.nodes\/aw k=.cd) w w') (p:dZ w' y.b y.aJ y.n) (I:w.heap.size<=y.b) (J:w.heap.size<=y.aJ) (B:∀ k,aL na k->aw k=.nodes\/w.heap.size<=k) (j:¬ aL na y.b) (l:¬ aL na y.aJ)
  (f:a0 w' zN 1 na (X.nodes++[y]).length nc ((X.nodes++[y]).map λx=>ptr x.b)) (K:av w' aI (X.cells.set 1 (.slice na (X.nodes++[y]).length nc)) lD) :
  ∃ A' χ',Next A A' aw χ' w w'/\b2 A' χ' w' aI { X with nodes:=X.nodes++[y],na:=na,nc:=nc }:=by
 have s:=p.ne;let χ':Nat->Tag:=λk=>if k=y.b then .node X.nodes.length else if k=y.aJ then .word X.nodes.length else if aL na k then .nodes else aw k
 have t1:χ' y.b=.node X.nodes.length:=if_pos rfl;have D:χ' y.aJ=.word X.nodes.length:=by show (if y.aJ=y.b then Tag.node X.nodes.length else if y.aJ=y.aJ then .word X.nodes.length else if aL na y.aJ then .nodes else aw y.aJ)=_;rw [if_neg (λe=>s e.symm),if_pos rfl]
 have t2:∀ k,aL na k->χ' k=.nodes:=λk g=>by show (if k=y.b then Tag.node X.nodes.length else if k=y.aJ then .word X.nodes.length else if aL na k then .nodes else aw k)=_;rw [if_neg (λe:k=y.b=>j (e▸g)),if_neg (λe:k=y.aJ=>l (e▸g)),if_pos g]
 have t3:∀ k,k≠y.b->k≠y.aJ->¬ aL na k->χ' k=aw k:=λk o r H=>by show (if k=y.b then Tag.node X.nodes.length else if k=y.aJ then .word X.nodes.length else if aL na k then .nodes else aw k)=_;rw [if_neg o,if_neg r,if_neg H]
 have C:∀ k,k<w.heap.size->χ' k=aw k:=by
  intro k d;by_cases i:aL na k
  ·rcases B k i with e | e
   ·rw [t2 k i,e]
   ·omega
  ·exact t3 k (by omega) (by omega) i
 have L:∀ k,k<w.heap.size->χ' k≠.cu->aw k≠.cu:=λk d c=>by rw [C k d] at c;exact c
 obtain ⟨m,aP⟩:=h.move (T:=λt=>t=.nodes\/t=.cd) (χ':=χ') g (by simp) L (λk d _ _=>C k d);have f3:=a0.cM m h.fZ h.j_ (by simp) (by simp);have f4:=av.cM m h.cls h.fg (by simp) (by simp);refine ⟨_,χ',aP,m.ma,λk c=>?_,?_,?_,f,t2,λq z au=>?_,f4.1,f4.2,λq z au=>(h.a1 q z au).cM m λt o r=>?_,f3.1,f3.2,λx G=>dK.cM m (h.ez x G).1 (h.ez x G).2 (by simp) (by simp),h.nodup⟩
 ·rcases c with c | c
  ·by_cases E:k=y.b
   ·rw [E];exact p.node.lt
   ·by_cases F:k=y.aJ
    ·rw [F];exact p.words.lt
    ·by_cases i:aL na k
     ·exact f.lt i
     ·rw [t3 k E F i] at c;exact f8 (h.jH c) g.size
  ·exact f8 c.1 g.size
 ·simpa [bL.cells] using K
 ·rw [C _ h.cd.lt];exact h.gH
 ·have a:(X.nodes++[y])[q]?=some z:=au;rw [p7] at a;split at a
  ·exact (h.node q z a).cM m (by simp) (by simp)
  ·rename_i N;rw [List.getElem?_singleton] at a;split at a
   ·rename_i M;have u:q=X.nodes.length:=by omega
    simp only [fe] at a;subst a;subst u;exact ⟨p,t1,D⟩
   ·cases a
 ·rcases r with e | e<;>(rw [e] at o;cases o)
def mS:ck:=⟨false,0,[],none,0,none,[],[],0,0,0⟩
def sS (lines:Nat):aZ:=⟨List.replicate (8 * lines) 0,false⟩
def hH (n i:Nat):bU:=⟨true,1,kq n i 1,none,0,0,0⟩
def aN.init (n c lines:Nat):aN:=⟨lines,List.replicate n (sS lines),(List.range c).map (hH n),[]⟩
theorem Ke (n:Nat):jt n [.bool false,.int .i64 0,.slice none 0 0,.slice none 0 0,.int .i64 0,.int .i64 0,.int .i64 0]=(fC (List.replicate n mS)).flatten:=by
 induction n with
 |zero=>rfl
 |succ n a=>rw [rj,fC,f9,gV,<-fC,<-a];rfl
theorem Lx {c:Nat} (a:k<c):((List.range k).map (hH n)++List.replicate (c - k) mS.pure).set k (hH n k)=(List.range (k+1)).map (hH n)++List.replicate (c - (k+1)) mS.pure:=by obtain ⟨d,rfl⟩:∃ d,c=k+1+d:=⟨c - (k+1),by omega⟩;rw [show k+1+d - k=d+1 by omega,show k+1+d - (k+1)=d by omega,rj,Bc _ _ (by simp)];simp [ki]
open Classical in
theorem NK {c lines:Nat} (W8:1<=n/\n<=5) (Wl:1<=c/\c<=6) (WP:1<=lines/\lines<=256):a9 46 [.int .i64 n,.int .i64 c,.int .i64 lines] w λv w'=>
  ∃ aI A aw X,v=.tuple #[ptr aI,.int .i64 0]/\b2 A aw w' aI X/\ai w w'/\(∀ k,A k->w.heap.size<=k)/\X.pure=aN.init n c lines:=by
 refine bc Tryz.func46 ?_;rw [HX];refine a8 (λh=>by omega) (λ_=>a8 (λh=>by omega) (λ_=>a8 (λh=>by omega) (λ_=>a8 (λh=>by omega) (λ_=>a8 (λh=>by omega) (λ_=>a8 (λh=>by omega) (λ_=>?_))))))
 refine ⟨by omega,by omega,by omega,by omega,?_⟩;rintro aX w1 Wx L;rw [fU,Ke] at L;obtain ⟨Wt,WF⟩:=bl Wx L;have WY:w1.heap.size=w.heap.size+1:=by rw [L];simp
 clear L;rintro aI Wj WA Z;obtain ⟨Wu,Wc⟩:=bl WA Z;have WZ:Wj.heap.size=w1.heap.size+1:=by rw [Z];simp
 clear Z;let D:bL:=⟨lines,[],none,0,aX,List.replicate c mS,[],none,0⟩;let G:Nat->Tag:=λk=>if k=aI then .cd else if k=aX then .aV else .cu
 have t1:G aI=.cd:=if_pos rfl;have t2:G aX=.aV:=by show (if aX=aI then Tag.cd else if aX=aX then .aV else .cu)=_;rw [if_neg (by omega),if_pos rfl]
 have t3:∀ k,G k≠.cu->k=aI\/k=aX:=by
  intro k E;by_cases Wp:k=aI
  ·exact .inl Wp
  ·by_cases Wq:k=aX
   ·exact .inr Wq
   ·exact absurd (show (if k=aI then Tag.cd else if k=aX then .aV else .cu)=_ by rw [if_neg Wp,if_neg Wq]) E
 have V5:b2 (λk=>G k≠.cu) G Wj aI D:=by
  refine ⟨λ_ h=>h,λk E=>?_,?_,t1,a0.nil _ _ _,(λk E=>(sR E).elim),(λi x WI=>by simp [D] at WI),?_,t2,λi x WI=>?_,a0.nil _ _ _,(λk E=>(sR E).elim),(λp WV=>by simp [D] at WV),by simp [D]⟩
  ·rcases t3 k E with e | e<;>omega
  ·simpa [bL.cells,D] using Wu
  ·have:=ai.aj Wc Wt;simpa [D] using this
  ·have C:(List.replicate c mS)[i]?=some x:=WI;rw [Bj] at C;split at C
   ·simp only [fe] at C;subst C;exact ⟨a0.nil _ _ _,(λk E=>(sR E).elim),(λj l WP=>by simp [mS] at WP),λ_=>⟨rfl,rfl⟩,(λb V9=>by simp [mS] at V9),⟨rfl,λ_ _ _ Wl=>by simp [mS] at Wl⟩⟩
   ·cases C
 refine c2 mix (λm env u=>∃ (k:Nat) (Wi:ax) (A':a3) (χ':Nat->Tag) (bB:List g') (na:an) (nc:Nat),k<=n/\m=n - k/\env=xp lines ⟨aI,0,none⟩ n k Wi/\
   Next (λk=>G k≠.cu) A' G χ' Wj u/\b2 A' χ' u aI { D with nodes:=bB,na:=na,nc:=nc }/\bB.length=k/\bB.map g'.n=List.replicate k (sS lines)) n
  ⟨0,_,_,G,[],none,0,by omega,by omega,rfl,V5.refl (ao.refl _ _),V5,rfl,rfl⟩ ?_
 rintro m env u ⟨k,Wi,A',χ',bB,na,nc,E,rfl,rfl,aP,O,WE,Wb⟩;rw [TX];refine a8 (λg=>?_) (λg=>?_)
 ·refine aC (Ln (w:=u) (lines:=lines) (by omega) (by omega)) ?_;rintro v W3 ⟨rfl,q,Wd,W0⟩;rw [fU] at q;have V7:=O.new Wd;refine ⟨_,_,rfl,dw (λh=>absurd rfl h) (λ_=>⟨_,_,_,V7.cd.cell (i:=1) rfl,?_⟩)⟩;rintro WU V4 Wv V2;obtain ⟨WJ,W⟩:=bl Wv V2;have W1:V4.heap.size=W3.heap.size+1:=by rw [V2];simp
  clear V2;have H:=V7.new W;obtain ⟨W2,WH,WK,K,Ww⟩:=fO (T:=92) (z:=.pointer none) (n:=1) (m:=8) (by kernel_rfl);have Y:a0 V4 zN W2.size na bB.length nc (bB.map λx=>ptr x.b):=by rw [K];exact H.nodes
  obtain ⟨ap,du,Wm,Wh,B,Wa,V8⟩:=Y.append (P:=prog) (t:=107) (ty:=107) Tryz.underlying107 WH WK (by rw [K];rfl) (by omega)
   (s:=some ⟨WU,0,none⟩) (m:=1) (c:=1) (news:=[ptr (u.heap.size+1)]) (by rw [K];rfl) (fm WJ (by simp [ptr])) (by simp [ptr,single]) (by omega) (by rw [Ww];omega)
  rw [K] at B;have r:∀ z,aL na z->χ' z=.nodes:=H.jJ;have S:ao (λz=>χ' z=.nodes) V4 Wm:=Wa.mono λz _ au=>r z au
  have a:=S.aj H.cd (by rw [H.gH];simp);refine ⟨ap,_,du,Wm,Wh,⟨_,a.cell (i:=1) rfl⟩,a.frozen,?_⟩;intro Wn V3;have V:ao (λz=>z=aI) Wm Wn:=by rw [V3];exact eY _ _ _ _
  have d:=a.setCell (i:=1) (.slice ap (bB.length+1) du);have U:Wn=Wm.setCell ⟨aI,1,none⟩ (.slice ap (bB.length+1) du):=V3;rw [<-U] at d;clear V3 U;have We:ai u V4:=Wd.new W;have V':ao (λz=>χ' z=.nodes\/χ' z=.cd) u Wn:=((ao.b4 We).trans S λz _ e=>.inl e).trans V λz _ e=>.inr (by rw [e];exact O.gH)
  have f:∀ z,aL na z->z<u.heap.size:=λz au=>O.nodes.lt au
  have WO:aI<u.heap.size:=O.cd.lt;have R:∀ z,aL ap z->χ' z=.nodes\/V4.heap.size<=z:=by
   intro z au;rcases V8 with e | e
   ·exact .inl (r z (e▸au))
   ·obtain ⟨o,Wf⟩:=au;rw [e] at Wf;simp at Wf;exact .inr (by omega)
  have Q:∀ z,u.heap.size<=z->z<V4.heap.size->¬ aL ap z:=by
   intro z Wp Wq au;rcases V8 with e | e
   ·have:=f z (e▸au);omega
   ·obtain ⟨o,Wf⟩:=au;rw [e] at Wf;simp at Wf<;>omega
  have I:dZ Wn (u.heap.size+1) u.heap.size ⟨List.replicate (8 * lines) 0,false⟩:=((q.new W).az Wa (λV9=>by have:=f _ V9;omega) (λV9=>by have:=f _ V9;omega)).az V (by omega) (by omega);obtain ⟨WS,W6,WM,Ws⟩:=O.addNode (y:=⟨u.heap.size+1,u.heap.size,sS lines⟩) (na:=ap) (nc:=du) V' I (by show u.heap.size<=u.heap.size+1;omega) (cQ _) (λz au=>(R z au).imp id λe=>by omega) (Q _ (by show u.heap.size<=u.heap.size+1;omega) (by show u.heap.size+1<_;omega)) (Q _ (cQ _) (by show u.heap.size<_;omega))
   (by
    have:=B.az V (λz au e=>by
     rcases R z au with Wo | Wo
     ·have WB:χ' aI=.cd:=O.gH;rw [e,WB] at Wo;cases Wo
     ·omega)
    simpa using this) (by simpa [bL.cells] using d)
  rw [show IntKind.i64.wrap ((k:Int)+1)=((k+1:Nat):Int) by rw [bC (by omega) (by omega)];rfl];refine ⟨n - (k+1),by omega,k+1,_,WS,W6,bB++[⟨u.heap.size+1,u.heap.size,sS lines⟩],ap,du,by omega,rfl,rfl,aP.trans WM,Ws,by simp [WE],?_⟩;rw [ja,Wb,List.replicate_succ'];rfl
 ·have WD:k=n:=by omega
  subst WD;rw [UN];refine ⟨_,_,_,O.cd.cell (i:=2) rfl,?_⟩;have Wy:({ D with nodes:=bB,na:=na,nc:=nc }:bL).aV.length=c:=by simp [D]
  rw [Wy];refine c2 mix (λm env z=>∃ (i:Nat) (Wi:ax) (A':a3) (χ':Nat->Tag) (WN:bL),i<=c/\m=c - i/\env=xq ⟨aI,0,none⟩ c i Wi/\
    Next (λk=>G k≠.cu) A' G χ' Wj z/\b2 A' χ' z aI WN/\WN.pure=⟨lines,List.replicate k (sS lines),(List.range i).map (hH k)++List.replicate (c - i) mS.pure,[]⟩) c
   ⟨0,_,_,χ',_,by omega,by omega,rfl,aP,O,by simp [bL.pure,D,Wb]⟩ ?_
  rintro m env z ⟨i,Wi,WQ,W4,N,W7,rfl,rfl,M,V6,J⟩;rw [TY];refine a8 (λg=>?_) (λg=>?_)
  ·have Wg:N.aV.map ck.pure=(List.range i).map (hH k)++List.replicate (c - i) mS.pure:=congrArg aN.aV J;have WX:N.nodes.length=k:=by have:=congrArg (λF=>F.nodes.length) J;simpa [bL.pure] using this
   have WW:N.aV.length=c:=by have:=congrArg List.length Wg;simp at this <;> omega
   obtain ⟨Wk,V_⟩:∃ Wk,N.aV[i]?=some Wk:=⟨N.aV[i],by simp [show i<N.aV.length by omega]⟩;have Wz:Wk.pure=mS.pure:=by
    have:(N.aV.map ck.pure)[i]?=some Wk.pure:=by simp [V_]
    rw [Wg,hV (by simp)] at this;simp only [ft,ly,mV,Bj] at this;rw [if_pos (by omega)] at this;simpa using this.symm
   refine aC (Kd V6 (by omega) V_ (by omega) (inc:=1) (by omega)) ?_;rintro v V4 ⟨rfl,WR,W5,WT,WL,Wr,WG,_⟩;refine ⟨rfl,?_⟩;rw [show IntKind.i64.wrap ((i:Int)+1)=((i+1:Nat):Int) by rw [bC (by omega) (by omega)];rfl];refine ⟨c - (i+1),by omega,i+1,_,WR,W5,WT,by omega,rfl,rfl,M.trans WL,Wr,?_⟩;rw [WG,Wz,J];simp only [aN.connect,aN.fs,fU,yy];rw [<-Lx (by omega)];rfl
  ·have WC:i=c:=by omega
   subst WC;rw [UO];refine ⟨aI,WQ,W4,N,rfl,V6,?_,λz au=>?_,?_⟩
   ·refine (WF.new Wc).trans M.az λz au Wl=>?_
    rcases t3 z Wl with e | e<;>omega
   ·rcases (M.iff z).1 au with au | au
    ·by_cases g:z<Wj.heap.size
     ·rcases t3 z (M.grow z g au) with e | e<;>omega
     ·omega
    ·exact absurd au.2.2 au.2.1
   ·rw [J];simp [aN.init]
end
section
def ou (p a v:Int):Int:=p * 4503599627370496+a * 1099511627776+v
theorem Mv (e:0<=p/\p<4096) (d:0<=a/\a<4096) (al:0<=v/\v<1099511627776):jg .u64 (jg .u64 (ie .u64 p 52) (ie .u64 a 40)) v=ou p a v:=by
 obtain ⟨p,rfl⟩:=p3 e.1;obtain ⟨a,rfl⟩:=p3 d.1;obtain ⟨v,rfl⟩:=p3 al.1;have b:ie .u64 (p:Int) 52=((p * 2 ^ 52:Nat):Int):=by show IntKind.u64.wrap ((p:Int) * 2 ^ 52)=_;rw [jO (by omega) (by omega)];simp
 have c:ie .u64 (a:Int) 40=((a * 2 ^ 40:Nat):Int):=by show IntKind.u64.wrap ((a:Int) * 2 ^ 40)=_;rw [jO (by omega) (by omega)];simp
 rw [b,c,u5 _ _ (by omega) (by omega),vM _ _ 52 (by omega),show p * 2 ^ 52+a * 2 ^ 40=(p * 2 ^ 12+a) * 2 ^ 40 by omega,u5 _ _ (by omega) (by omega),vM _ _ 40 (by omega)];unfold ou;omega
theorem sT (w:ak) (x a b:Int):a9 141 [.int .i64 x,.int .i64 a,.int .i64 b] w λv w'=>v=.bool (decide (a<=x/\x<=b))/\w'=w:=by
 refine bc Tryz.func141 ?_;rw [Gd];refine a8 (λh=>⟨?_,rfl⟩) (λh=>⟨?_,rfl⟩)
 ·have:a<=x:=h;simp [this]
 ·have:¬ a<=x:=h;simp [this]
theorem A0 (w:ak) (x a b:Int):a9 143 [.int .u64 x,.int .u64 a,.int .u64 b] w λv w'=>v=.bool (decide (a<=x/\x<=b))/\w'=w:=by
 refine bc Tryz.func143 ?_;rw [TT];refine a8 (λh=>⟨?_,rfl⟩) (λh=>⟨?_,rfl⟩)
 ·have:a<=x:=h;simp [this]
 ·have:¬ a<=x:=h;simp [this]
theorem I3 (w:ak) (x:Int):a9 158 [.int .i64 x] w λv w'=>v=.bool (decide (0<=x/\x<=5))/\w'=w:=by refine bc Tryz.func158 ?_;rw [GC];refine aC (sT _ _ _ _) ?_;rintro v w1 ⟨rfl,rfl⟩;exact ⟨_,rfl,rfl,rfl⟩
theorem NL (w:ak):a9 103 [.int .i64 0,.bool true] w λv w'=>v=.tuple #[.int .u64 1,.int .i64 0]/\w'=w:=by refine bc Tryz.func103 ?_;rw [Ho];refine aC (sT _ _ _ _) ?_;rintro v w1 ⟨rfl,rfl⟩;exact ⟨_,rfl,rfl,rfl⟩
theorem Kf (w:ak):a9 107 [.int .u64 1,.int .i64 0] w λv w'=>v=.tuple #[.int .u64 256,.int .i64 0]/\w'=w:=by refine bc Tryz.func107 ?_;rw [VI];refine aC (A0 _ _ _ _) ?_;rintro v w1 ⟨rfl,rfl⟩;refine ⟨_,rfl,cV rfl ?_⟩;refine aC (sT _ _ _ _) ?_;rintro v w1 ⟨rfl,rfl⟩;refine ⟨_,rfl,cV rfl ⟨?_,rfl⟩⟩;rfl
def wF (p a v:Int):Int:=if p<4096/\a<4096/\v<1099511627776 then ou p a v else 0
theorem Ic (w:ak) (f:0<=p) (d:0<=a) (al:0<=v):a9 104 [.int .u64 p,.int .u64 a,.int .u64 v] w λr w'=>∃ e,r=.tuple #[.int .u64 (wF p a v),.int .i64 e]/\w'=w:=by
 refine bc Tryz.func104 ?_;rw [U2];unfold wF;refine a8 (λh=>⟨2,?_,rfl⟩) (λh=>a8 (λb=>⟨2,?_,rfl⟩) (λb=>a8 (λc=>⟨2,?_,rfl⟩) (λc=>⟨0,?_,rfl⟩)))
 ·rw [if_neg (by omega)]
 ·rw [if_neg (by omega)]
 ·rw [if_neg (by omega)]
 ·rw [if_pos (by omega),Mv (by omega) (by omega) (by omega)]
theorem hR (w:ak) (a b:Int):a9 142 [.int .i64 a,.int .i64 b] w λv w'=>∃ cA k,v=.func (.func 187) #[] #[ptr cA,ptr k]/\av w' cA [.int .i64 b] l7/\av w' k [.int .i64 a] l7/\ai w w':=by refine bc Tryz.func142 ?_;rw [Vi];rintro b1 w1 d g aA l e h;obtain ⟨i,f⟩:=bl d g;obtain ⟨j,c⟩:=bl e h;exact ⟨aA,b1,rfl,j,ai.aj c i,f.new c⟩
def nS (a b i:Int):Int:=if i<0\/b<=i then -1 else a * 8+i
theorem x0 (w:ak) {cA c:Nat} {b:Int} (d:av w cA [.int .i64 b] l7) (e:av w c [.int .i64 a] l7) (g:0<=a/\a<=100000) (j:b<=100000) (i:Int):a9 187 [.int .i64 i,ptr cA,ptr c] w λv w'=>v=.int .i64 (nS a b i)/\w'=w:=by refine bc Tryz.func187 ?_;rw [ptr,ptr,UL];unfold nS;refine a8 (λh=>⟨by rw [if_pos (by omega)],rfl⟩) (λh=>⟨b,d.cell rfl,a8 (λf=>⟨by rw [if_pos (by omega)],rfl⟩) (λf=>⟨a,e.cell rfl,?_,rfl⟩)⟩);rw [if_neg (by omega),bC (x:=a * 8) (by omega) (by omega),bC (x:=a * 8+i) (by omega) (by omega)]
attribute [local irreducible] ij iX mT
theorem yd:ij prog 187=true:=by kernel_rfl
theorem Iv (w:ak) (i:Int):a9 105 [.int .i64 i] w λv w'=>v=.int .i64 (nS 1 16 i)/\ai w w':=by
 refine bc Tryz.func105 ?_;rw [Ur];refine aC (hR _ _ _) ?_;rintro v w1 ⟨cA,d,rfl,a,b,e⟩;have c:=yd;refine ⟨_,rfl,?_⟩;have f:(#[]++#[.int .i64 i]++#[ptr cA,ptr d]:Array a2)=#[.int .i64 i,ptr cA,ptr d]:=by simp
 refine q2 c f ?_;refine aC (x0 w1 a b (by omega) (by omega) i) ?_;rintro v g ⟨rfl,rfl⟩;exact ⟨_,rfl,rfl,e⟩
theorem NM (w:ak) (i:Int):a9 106 [.int .i64 i] w λv w'=>v=.int .i64 (nS 3 6 i)/\ai w w':=by
 refine bc Tryz.func106 ?_;rw [GZ];refine aC (hR _ _ _) ?_;rintro v w1 ⟨cA,d,rfl,a,b,e⟩;have c:=yd;refine ⟨_,rfl,?_⟩;have f:(#[]++#[.int .i64 i]++#[ptr cA,ptr d]:Array a2)=#[.int .i64 i,ptr cA,ptr d]:=by simp
 refine q2 c f ?_;refine aC (x0 w1 a b (by omega) (by omega) i) ?_;rintro v g ⟨rfl,rfl⟩;exact ⟨_,rfl,rfl,e⟩
theorem ra (w:ak) {i:Int} (a:96<=i) (b:i<256):a9 108 [.int .i64 i] w λv w'=>v=.int .i64 (i * 8)/\w'=w:=by
 refine bc Tryz.func108 ?_;rw [VJ];refine a8 (λh=>by omega) (λh=>a8 (λh=>by omega) (λh=>⟨?_,rfl⟩))
 rw [bC (by omega) (by omega)]
theorem Mw (w:ak) {i:Int} (a:1<=i) (b:i<=256):a9 102 [.int .i64 i] w λv w'=>v=.int .i64 (i * 8)/\w'=w:=by
 refine bc Tryz.func102 ?_;rw [Vv];refine a8 (λh=>by omega) (λh=>a8 (λh=>by omega) (λh=>⟨?_,rfl⟩))
 rw [bC (by omega) (by omega)]
def tC:Nat->Int->Int->Int
 | 0,_,s=>s
 |n+1,i,s=>tC n (i+1) (jg .u64 s (ie .u64 7 (7 * i)))
def nt (n:Nat):Int:=tC n 0 549755813888
theorem Kz (w:ak) (c:1<=n) (d:n<=5):a9 100 [.int .i64 n] w λv w'=>v=.tuple #[.int .u64 (nt n),.int .i64 0]/\w'=w:=by
 refine bc Tryz.func100 ?_;rw [Tl];refine a8 (λh=>by omega) (λh=>a8 (λh=>by omega) (λh=>?_))
 refine c2 mix (λm env u=>∃ (i:Nat) (s:Int) (a:ax),m=n - i/\i<=n/\env=wP s n i a/\u=w/\tC (n - i) i s=nt n) n ⟨0,_,_,rfl,by omega,rfl,rfl,rfl⟩ ?_;rintro m env u ⟨i,s,a,rfl,e,rfl,rfl,al⟩;rw [Q_];refine a8 (λb=>?_) (λb=>?_)
 ·rw [bC (by omega) (by omega),jO (by omega) (by omega),bC (by omega) (by omega)];refine ⟨by omega,n - (i+1),by omega,i+1,_,_,rfl,by omega,rfl,rfl,?_⟩;rw [show n - i=n - (i+1)+1 by omega,tC] at al;exact al
 ·rw [RG];have:i=n:=by omega
  subst this;rw [mV,tC] at al;rw [al];exact ⟨rfl,rfl⟩
theorem EI (a:n<=5):0<=nt n/\nt n<1099511627776:=by rcases n with _ | _ | _ | _ | _ | _ | n;all_goals first | decide | omega
end
section
theorem Az {a:an} {l:bd} (h:bh u a (is l)) (d:l[i]?=some x) {z:Int} (au:z=i) (j:n=l.length) {K:aS->Prop}
  (f:∀ b o,(∀ y,ai u y->y.cell? ⟨b,o,none⟩=some (.int .i64 x))->K ⟨b,o,none⟩):bm a n z 1 K:=by
 subst au j;have g:=cb d;have c:(is l)[i]?=some (.int .i64 x):=by simp [is,d]
 rcases h with he | ⟨b,o,rfl,e⟩
 ·rw [he] at c;cases c
 ·refine ee (by omega) (by omega) ?_;have:=f b (o+i) λy k=>(bh.new k (.inr ⟨b,o,rfl,e⟩)).cell c
  simpa using this
def iB (line lines:Int):Bool:=decide (98<=lines/\lines<=256/\96<=line/\line<lines)
theorem Ly (w:ak) (line lines:Int):a9 169 [.int .i64 line,.int .i64 lines] w λv w'=>v=.bool (iB line lines)/\w'=w:=by
 refine bc Tryz.func169 ?_;rw [Vk];have d:a9 207 [.int .i64 lines] w λv w'=>v=.bool (decide (98<=lines/\lines<=256))/\w'=w:=by
  refine bc Tryz.func207 ?_;rw [U4];refine a8 (λh=>⟨?_,rfl⟩) (λh=>⟨?_,rfl⟩)
  ·have h:98<=lines:=h;congr 1;simp [h]
  ·have h:¬ 98<=lines:=h;congr 1;simp [h]
 refine aC d ?_;rintro v w1 ⟨rfl,rfl⟩;unfold iB;refine ⟨_,rfl,a8 (λh=>a8 (λc=>⟨?_,rfl⟩) (λc=>⟨?_,rfl⟩)) (λh=>⟨?_,rfl⟩)⟩
 ·have c:96<=line:=c;congr 1;simp [h.1,h.2,c]
 ·have c:¬ 96<=line:=c;congr 1;simp [c]
 ·congr 1;simp;intro a b;exact absurd ⟨a,b⟩ h
theorem Mx {a:an} {cap:Nat} {L:bd} (j:a0 u 3 1 a n cap (is L)) (p:n<=1000000) {K:Nat->an->Nat->Nat->aE}
  (s:∀ b ap f h,b=u.heap.size->a0 h 3 1 ap (n+1) f (is (L++[x]))->ao (aL a) u h->(∀ k,aL ap k->aL a k\/u.heap.size<=k)->K b ap (n+1) f h) :
  ∀ b1 l,b1=u.heap.size->l=u.alloc (.cells #[.int .i64 x] 3)->∃ (ap:an) (d c:Nat),∃ h,(Builtin.append_ #[22,22] 22 #[(.slice a n cap),(.slice (some ⟨b1,0,none⟩) 1 1)]).run prog l=.ok (.slice ap d c) h/\K b1 ap d c h:=by
 obtain ⟨inf,r,au,g,q⟩:=fO (T:=3) (z:=.int .i64 0) (n:=1) (m:=8) (by kernel_rfl);rw [<-g] at j;refine oD (vs:=[.int .i64 x]) Tryz.underlying22 r au (by rw [g];rfl) (by omega) j (by rw [g];rfl) (by intro v al;simp at al;subst al;rfl) (by omega) (by omega) ?_;intro b ap f h o i;have e:is L++[Value.int .i64 x]=is (L++[x]):=by simp [is]
 rw [g,e] at i;exact s b ap f h o i
def hj (l:List Bool):ax:=l.map .bool
end
end Go.Proofs.YtmkljjbioomepaaGreat
