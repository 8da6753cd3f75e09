import Derived.Test.YtmkljjbioomepaaGreatc13
import Derived.Test.YtmkljjbioomepaaGreatc04
set_option linter.all false
set_option maxHeartbeats 4000000
set_option maxRecDepth 100000
namespace Go.Proofs.YtmkljjbioomepaaGreat
open Go.Proofs.Tryz Go.br
variable {A:a5} {X:bQ} {a inc p v x:Int} {c:cd} {aN i k n:Nat} {u w w':ak} {aw:Nat->Tag}
section
theorem sC (h:aK none k):False:=by obtain ⟨o,a⟩:=h;cases a
def sg (i:Nat) (inc:Int) (j:Nat):cP:=⟨⟨i,inc,j,[],0,[]⟩,[]⟩
def kj (n i:Nat) (inc:Int):List cP:=(List.range n).map (sg i inc)
def iC (pb i:Nat) (inc:Int) (j:Nat):dk:=⟨pb,⟨i,inc,j,[],[],none,0,0,[],none,0⟩,[],none,0⟩
theorem I0 (pb i:Nat) (inc:Int) (j:Nat):(iC pb i inc j).pure=sg i inc j:=rfl
def aM.connect (F:aM) (i:Nat) (C:bP) (inc:Int):aM:=F.fp i { C with alive:=true,inc:=inc,aD:=kj F.nodes.length i inc }
theorem Hw (a b:List dk):(gY (a++b)).flatten=(gY a).flatten++(gY b).flatten:=by simp [gY]
open Classical in
theorem bZ.Pl (h:bZ A aw w aN X) {pb:Nat} (n:X.aX[i]?=some c) {la:al} {lc:Nat}
  (q:ao (λk=>aw k=.aD i\/aw k=.aX) w w') (K:w.heap.size<=pb) (C:∀ k,aK la k->aw k=.aD i\/w.heap.size<=k) (D:¬ aK la pb)
  (s:∀ M:a5,M pb->dM M w' pb (iC pb i inc c.aD.length).p) (r:a2 w' lz 2 la (c.aD++[iC pb i inc c.aD.length]).length lc (gY (c.aD++[iC pb i inc c.aD.length])).flatten)
  (f:av w' X.aY (fv (X.aX.set i { c with aD:=c.aD++[iC pb i inc c.aD.length],la:=la,lc:=lc })).flatten jN) :
  ∃ A' χ',Next A A' aw χ' w w'/\bZ A' χ' w' aN { X with aX:=X.aX.set i { c with aD:=c.aD++[iC pb i inc c.aD.length],la:=la,lc:=lc } }:=by
 let χ':Nat->Tag:=λk=>if k=pb then .lane i c.aD.length else if aK la k then .aD i else aw k
 have t1:χ' pb=.lane i c.aD.length:=if_pos rfl;have t2:∀ k,aK la k->χ' k=.aD i:=λk q=>by show (if k=pb then Tag.lane i c.aD.length else if aK la k then .aD i else aw k)=_;rw [if_neg (λe:k=pb=>D (e▸q)),if_pos q]
 have t3:∀ k,k≠pb->¬ aK la k->χ' k=aw k:=λk F G=>by show (if k=pb then Tag.lane i c.aD.length else if aK la k then .aD i else aw k)=_;rw [if_neg F,if_neg G]
 have z:∀ k,k<w.heap.size->χ' k=aw k:=by
  intro k d;by_cases f:aK la k
  ·rcases C k f with e | e
   ·rw [t2 k f,e]
   ·omega
  ·exact t3 k (by omega) f
 have E:∀ k,k<w.heap.size->χ' k≠.cr->aw k≠.cr:=λk d n=>by rw [z k d] at n;exact n
 obtain ⟨m,_⟩:=h.move (T:=λt=>t=.aD i\/t=.aX) (χ':=χ') q (by simp) E (λk d _ _=>z k d);have g:=h.a3 i c n;have y:=s (gi A aw χ' w) (.inl (by rw [t1];simp));have N:∀ k,χ' k≠.cr->k<w'.heap.size:=λk n=>by
  by_cases u:k=pb
  ·rw [u];exact y.aj.lt
  ·by_cases f:aK la k
   ·exact r.lt f
   ·rw [t3 k u f] at n;exact fX (h.jB n) q.size
 have L:kq (gi A aw χ' w) χ' w' i { c with aD:=c.aD++[iC pb i inc c.aD.length],la:=la,lc:=lc }:=by
  refine ⟨r,t2,λj l J=>?_,g.none,λb f=>av.cK m (g.batch b f).1 (g.batch b f).2 (by simp) (by simp),g.ds.az m.r4 m.old⟩;have a:(c.aD++[iC pb i inc c.aD.length])[j]?=some l:=J;rw [p3] at a;split at a
  ·exact (g.lane j l a).cK m (by simp) (by simp)
  ·rename_i O;rw [List.getElem?_singleton] at a;split at a
   ·rename_i I;have B:j=c.aD.length:=by omega
    simp only [e8] at a;subst a;subst B;refine ⟨y,?_,a2.nil _ _ _,λk ⟨o,x⟩=>by cases x⟩;rintro k (q | ⟨o,x⟩ | ⟨o,x⟩)
    ·rw [q];exact t1
    ·cases x
    ·cases x
   ·cases a
 obtain ⟨aQ,H⟩:=h.qY (χ':=χ') n (q.mono λk _ e=>e.elim (λe=>.inr (by rw [e];rfl)) .inl) E (λk d _ _=>z k d) N (by rw [r_];exact f) (by rw [z _ h.cls.lt];exact h.fb) L;exact ⟨_,_,aQ,H⟩
theorem bZ.setRow (h:bZ A aw w aN X) {c':cd} (a:X.aX[i]?=some c) (f:ao (λk=>aw k=.aX) w w') (n:av w' X.aY (fv (X.aX.set i c')).flatten jN)
  (b:∀ A' w',kq A' aw w' i c->kq A' aw w' i c'):∃ A',Next A A' aw aw w w'/\bZ A' aw w' aN { X with aX:=X.aX.set i c' }:=by
 obtain ⟨m,_⟩:=h.move (χ':=aw) (T:=λt=>t=.aX) f (by simp) (λ_ _ h=>h) (λ_ _ _ _=>rfl);have d:=(h.a3 i c a).cK m (λt j e=>by rw [e] at j;exact j);obtain ⟨g,l⟩:=h.qY (χ':=aw) (c':=c') a (f.mono λk _ e=>.inl e) (λ_ _ h=>h) (λ_ _ _ _=>rfl) (λk a=>fX (h.jB a) f.size) (by rw [r_];exact n) h.fb (b _ _ d);exact ⟨_,g,l⟩
theorem I5 (h:bZ A aw w aN X) (Wk:X.nodes.length<=5) (VM:X.aX[i]?=some c) (Wd:X.aX.length<=6) (VA:0<=inc/\inc<=59) :
  a_ 53 [ptr aN,.int .i64 i,.int .i64 inc] w λv w'=>v=.tuple #[]/\d8 A aw w aN (X.pure.connect i c.pure inc) w' λ_=>True:=by
 refine bc Tryz.func53 ?_;rw [ptr,R'];have VQ:=ch VM;refine ⟨_,_,_,h.cl.cell (i:=2) rfl,ed (by omega) (by omega) ?_⟩;rw [fY];refine ⟨⟨_,h.h' (k:=0) VM rfl⟩,h.cls.frozen,?_⟩;intro w1 VH;obtain ⟨a,L⟩:=kX (k:=0) (c':={ c with alive:=true }) h.cls VM (by omega) (v:=.bool true) (by simp [cd.cells]);have D:w1=w.setCell ⟨X.aY,0+i * 7+0,none⟩ (.bool true):=VH;rw [<-D] at a;have VR:ao (λz=>z=X.aY) w w1:=by rw [D];exact eV _ _ _ _
 clear VH D;refine ⟨⟨_,k7 (k:=1) a L rfl⟩,a.frozen,?_⟩;intro V9 Vr;obtain ⟨b,N⟩:=kX (k:=1) (c':={ c with alive:=true,inc:=inc }) a L (by omega) (v:=.int .i64 inc) (by simp [cd.cells]);rw [<-Vr] at b;have VS:ao (λz=>z=X.aY) w1 V9:=by rw [Vr];exact eV _ _ _ _
 clear Vr;refine ⟨⟨_,k7 (k:=2) b N rfl⟩,b.frozen,?_⟩;intro V_ Vs;obtain ⟨d,V5⟩:=kX (k:=2) (c':={ c with alive:=true,inc:=inc,aD:=[],la:=none,lc:=0 }) b N (by omega) (v:=.slice none 0 0) (by simp [cd.cells]);rw [<-Vs] at d;have VT:ao (λz=>z=X.aY) V9 V_:=by rw [Vs];exact eV _ _ _ _
 clear Vs;rw [jf,jf] at d;have VB:ao (λz=>aw z=.aX) w V_:=((VR.trans VS λ_ _ h=>h).trans VT λ_ _ h=>h).mono λz _ e=>by rw [e];exact h.fb
 obtain ⟨Wa,V1,Vv⟩:=h.setRow (c':={ c with alive:=true,inc:=inc,aD:=[],la:=none,lc:=0 }) VM VB d (λA' w' H=>⟨a2.nil _ _ _,(λk V7=>(sC V7).elim),(λj l Wf=>by simp at Wf),H.none,H.batch,H.ds⟩);refine ⟨_,_,_,Vv.cl.cell (i:=1) rfl,?_⟩;show cu _ _ (tV i inc ⟨X.aY,0+i * 7,none⟩ X.nodes.length 0 _) _ _;refine c2 mix (λm env u=>∃ (k:Nat) (V8:ax) (A':a5) (χ':Nat->Tag) (ls:List dk) (la:al) (lc:Nat),k<=X.nodes.length/\m=X.nodes.length - k/\env=tV i inc ⟨X.aY,0+i * 7,none⟩ X.nodes.length k V8/\
   Next A A' aw χ' w u/\bZ A' χ' u aN { X with aX:=X.aX.set i { c with alive:=true,inc:=inc,aD:=ls,la:=la,lc:=lc } }/\ls.length=k/\ls.map dk.pure=kj k i inc) X.nodes.length
  ⟨0,_,Wa,aw,[],none,0,by omega,by omega,rfl,V1,Vv,rfl,rfl⟩ ?_
 rintro m env u ⟨k,V8,A',χ',ls,la,lc,V7,rfl,rfl,aQ,Vu,F,VE⟩;rw [Qz];refine a' (λVV=>?_) (λVV=>?_)
 ·have We:k<X.nodes.length:=by omega
  have q:(X.aX.set i { c with alive:=true,inc:=inc,aD:=ls,la:=la,lc:=lc })[i]?=some { c with alive:=true,inc:=inc,aD:=ls,la:=la,lc:=lc }:=by simp [VQ]
  refine aC (NS (w:=u) (c:=i) (i:=inc) (n:=k) (by omega) VA (by omega)) ?_;rintro v V' ⟨rfl,Z,VF,Wg⟩;have Vw:=Vu.new VF;refine ⟨_,_,rfl,_,_,_,Vw.h' (k:=2) q rfl,?_⟩;rintro Wc VJ VO Vt;obtain ⟨VZ,V⟩:=bl VO Vt;have Wh:VJ.heap.size=V'.heap.size+1:=by rw [Vt];simp
  clear Vt;have R:=Vw.new V;have x:=R.a3 i _ q;obtain ⟨Wi,VY,V0,J,VP⟩:=fL (T:=105) (z:=.agg #[.pointer none,.slice none 0 0]) (n:=2) (m:=32) (by kernel_rfl);have W:a2 VJ lz Wi.size la ls.length lc (gY ls).flatten:=by rw [J];exact x.own
  obtain ⟨ap,dt,VK,VG,C,VD,Vy⟩:=W.append (P:=prog) (t:=99) (ty:=99) Tryz.underlying99 VY V0 (by rw [J];rfl) (by omega)
   (s:=some ⟨Wc,0,none⟩) (m:=1) (c:=1) (news:=(iC u.heap.size i inc k).cells) (by rw [J];rfl) (fk VZ (by simp [dk.cells,iC])) (by simp [dk.cells,single]) (by omega) (by rw [VP];omega)
  rw [J] at C;have O:ao (λz=>χ' z=.aD i) VJ VK:=VD.mono λz _ au=>x.tag z au
  have f:av VK X.aY (fv (X.aX.set i { c with alive:=true,inc:=inc,aD:=ls,la:=la,lc:=lc })).flatten jN:=O.aj R.cls (by have:=R.fb;rw [show χ' X.aY=.aX from this];simp);refine ⟨ap,_,dt,VK,VG,⟨_,k7 (k:=2) f q rfl⟩,f.frozen,?_⟩;intro VL VI;obtain ⟨g,V6⟩:=kX (k:=2) (c':={ c with alive:=true,inc:=inc,aD:=ls++[iC u.heap.size i inc ls.length],la:=ap,lc:=dt }) f q (by omega) (v:=.slice ap (ls.length+1) dt) (by simp [cd.cells]);have E:VL=VK.setCell ⟨X.aY,0+i * 7+2,none⟩ (.slice ap (ls.length+1) dt):=VI;rw [<-E] at g;have U:ao (λz=>z=X.aY) VK VL:=by rw [E];exact eV _ _ _ _
  clear VI E;have B:ai u VJ:=VF.new V;have r:χ' X.aY=.aX:=Vu.fb;have VC:ao (λz=>χ' z=.aD i\/χ' z=.aX) u VL:=((ao.b3 B).trans O λz _ e=>.inl e).trans U λz _ e=>.inr (by rw [e];exact r)
  have Q:∀ z,aK la z->z<u.heap.size:=λz au=>(Vu.a3 i _ q).own.lt au
  have K:∀ z,aK ap z->χ' z=.aD i\/VJ.heap.size<=z:=by
   intro z au;rcases Vy with e | e
   ·exact .inl (x.tag z (e▸au))
   ·obtain ⟨o,G⟩:=au;rw [e] at G;simp at G;exact .inr (by omega)
  have V4:X.aY<u.heap.size:=Vu.cls.lt;have Vz:¬ aK ap u.heap.size:=λS=>by
   rcases Vy with e | e
   ·have:=Q _ (e▸S);omega
   ·obtain ⟨o,G⟩:=S;rw [e] at G;simp at G<;>omega
  have I:∀ M:a5,M u.heap.size->dM M VL u.heap.size (iC u.heap.size i inc ls.length).p:=by
   intro M V3;have VW:dM (λk=>M k\/aK la k\/k=X.aY) V' u.heap.size (iC u.heap.size i inc ls.length).p:=by have:=Z (λk=>M k\/aK la k\/k=X.aY) (.inl V3);rw [F];exact this
   have y:∀ z,(iC u.heap.size i inc ls.length).p.mut u.heap.size z->z=u.heap.size:=by
    rintro z (au | ⟨o,G⟩ | ⟨o,G⟩)
    ·exact au
    ·cases G
    ·cases G
   have VX:=((VW.new V).az VD (λz au S=>by rw [y z au] at S;have:=Q _ S;omega) (λz S=>.inr (.inl S))).az U (λz au e=>by have:=y z au;omega) (λz e=>.inr (.inr e));exact VX.mA (λz _ au=>.inl au) (λz au=>by rw [y z au];exact V3)
  have Y:a2 VL lz 2 ap (ls++[iC u.heap.size i inc ls.length]).length dt (gY (ls++[iC u.heap.size i inc ls.length])).flatten:=by
   rw [Hw,dH];have e:(gY [iC u.heap.size i inc ls.length]).flatten=(iC u.heap.size i inc k).cells:=by rw [F];rfl
   rw [e];refine C.az U λz au e=>?_
   rcases K z au with VN | VN
   ·rw [e,r] at VN;cases VN
   ·have:=B.size;omega
  rw [jf] at g;obtain ⟨Wb,Wj,V2,Vx⟩:=Vu.Pl (pb:=u.heap.size) (inc:=inc) (la:=ap) (lc:=dt) q VC (cO _) (λz au=>(K z au).imp id λe=>by have:=B.size;omega) Vz I Y (by rw [jf];exact g);rw [jf] at Vx;rw [show IntKind.i64.wrap ((k:Int)+1)=((k+1:Nat):Int) by rw [bC (by omega) (by omega)];rfl];refine ⟨X.nodes.length - (k+1),by omega,k+1,_,Wb,Wj,ls++[iC u.heap.size i inc ls.length],ap,dt,by omega,rfl,rfl,aQ.trans V2,Vx,by simp [F],?_⟩;rw [iX,VE,F];simp [kj,j9,I0]
 ·have VU:k=X.nodes.length:=by omega
  subst VU;refine ⟨rfl,A',χ',_,aQ,Vu,?_,trivial⟩;refine (bQ.xt X i _).trans ?_;simp [aM.connect,cd.pure,VE,bQ.pure]
open Classical in
theorem bZ.addNode (h:bZ A aw w aN X) {y:g_} {na:al} {nc:Nat}
  (g:ao (λk=>aw k=.nodes\/aw k=.cl) w w') (p:dY w' y.b y.aI y.n) (I:w.heap.size<=y.b) (J:w.heap.size<=y.aI) (B:∀ k,aK na k->aw k=.nodes\/w.heap.size<=k) (j:¬ aK na y.b) (l:¬ aK na y.aI)
  (f:a2 w' zo 1 na (X.nodes++[y]).length nc ((X.nodes++[y]).map λx=>ptr x.b)) (K:av w' aN (X.cells.set 1 (.slice na (X.nodes++[y]).length nc)) ly) :
  ∃ A' χ',Next A A' aw χ' w w'/\bZ A' χ' w' aN { X with nodes:=X.nodes++[y],na:=na,nc:=nc }:=by
 have s:=p.ne;let χ':Nat->Tag:=λk=>if k=y.b then .node X.nodes.length else if k=y.aI then .word X.nodes.length else if aK na k then .nodes else aw k
 have t1:χ' y.b=.node X.nodes.length:=if_pos rfl;have D:χ' y.aI=.word X.nodes.length:=by show (if y.aI=y.b then Tag.node X.nodes.length else if y.aI=y.aI then .word X.nodes.length else if aK na y.aI then .nodes else aw y.aI)=_;rw [if_neg (λe=>s e.symm),if_pos rfl]
 have t2:∀ k,aK na k->χ' k=.nodes:=λk g=>by show (if k=y.b then Tag.node X.nodes.length else if k=y.aI then .word X.nodes.length else if aK na k then .nodes else aw k)=_;rw [if_neg (λe:k=y.b=>j (e▸g)),if_neg (λe:k=y.aI=>l (e▸g)),if_pos g]
 have t3:∀ k,k≠y.b->k≠y.aI->¬ aK na k->χ' k=aw k:=λk o r H=>by show (if k=y.b then Tag.node X.nodes.length else if k=y.aI then .word X.nodes.length else if aK na k then .nodes else aw k)=_;rw [if_neg o,if_neg r,if_neg H]
 have C:∀ k,k<w.heap.size->χ' k=aw k:=by
  intro k d;by_cases i:aK na k
  ·rcases B k i with e | e
   ·rw [t2 k i,e]
   ·omega
  ·exact t3 k (by omega) (by omega) i
 have L:∀ k,k<w.heap.size->χ' k≠.cr->aw k≠.cr:=λk d c=>by rw [C k d] at c;exact c
 obtain ⟨m,aQ⟩:=h.move (T:=λt=>t=.nodes\/t=.cl) (χ':=χ') g (by simp) L (λk d _ _=>C k d);have f3:=a2.cK m h.fU h.jZ (by simp) (by simp);have f4:=av.cK m h.cls h.fb (by simp) (by simp);refine ⟨_,χ',aQ,m.l9,λk c=>?_,?_,?_,f,t2,λq z au=>?_,f4.1,f4.2,λq z au=>(h.a3 q z au).cK m λt o r=>?_,f3.1,f3.2,λx G=>dM.cK m (h.eC x G).1 (h.eC x G).2 (by simp) (by simp),h.nodup⟩
 ·rcases c with c | c
  ·by_cases E:k=y.b
   ·rw [E];exact p.node.lt
   ·by_cases F:k=y.aI
    ·rw [F];exact p.words.lt
    ·by_cases i:aK na k
     ·exact f.lt i
     ·rw [t3 k E F i] at c;exact fX (h.jB c) g.size
  ·exact fX c.1 g.size
 ·simpa [bQ.cells] using K
 ·rw [C _ h.cl.lt];exact h.gG
 ·have a:(X.nodes++[y])[q]?=some z:=au;rw [p3] at a;split at a
  ·exact (h.node q z a).cK m (by simp) (by simp)
  ·rename_i N;rw [List.getElem?_singleton] at a;split at a
   ·rename_i M;have u:q=X.nodes.length:=by omega
    simp only [e8] at a;subst a;subst u;exact ⟨p,t1,D⟩
   ·cases a
 ·rcases r with e | e<;>(rw [e] at o;cases o)
def mN:cd:=⟨false,0,[],none,0,none,[],[],0,0,0⟩
def sD (lines:Nat):a0:=⟨List.replicate (8 * lines) 0,false⟩
def hF (n i:Nat):bP:=⟨true,1,kj n i 1,none,0,0,0⟩
def aM.init (n c lines:Nat):aM:=⟨lines,List.replicate n (sD lines),(List.range c).map (hF n),[]⟩
theorem I6 (n:Nat):jr n [.bool false,.int .i64 0,.slice none 0 0,.slice none 0 0,.int .i64 0,.int .i64 0,.int .i64 0]=(fv (List.replicate n mN)).flatten:=by
 induction n with
 |zero=>rfl
 |succ n a=>rw [q',fv,gA,gR,<-fv,<-a];rfl
theorem J6 {c:Nat} (a:k<c):((List.range k).map (hF n)++List.replicate (c - k) mN.pure).set k (hF n k)=(List.range (k+1)).map (hF n)++List.replicate (c - (k+1)) mN.pure:=by obtain ⟨d,rfl⟩:∃ d,c=k+1+d:=⟨c - (k+1),by omega⟩;rw [show k+1+d - k=d+1 by omega,show k+1+d - (k+1)=d by omega,q',AO _ _ (by simp)];simp [j9]
open Classical in
theorem NX {c lines:Nat} (Wx:1<=n/\n<=5) (VM:1<=c/\c<=6) (We:1<=lines/\lines<=256):a_ 46 [.int .i64 n,.int .i64 c,.int .i64 lines] w λv w'=>
  ∃ aN A aw X,v=.tuple #[ptr aN,.int .i64 0]/\bZ A aw w' aN X/\ai w w'/\(∀ k,A k->w.heap.size<=k)/\X.pure=aM.init n c lines:=by
 refine bc Tryz.func46 ?_;rw [Hr];refine a' (λh=>by omega) (λ_=>a' (λh=>by omega) (λ_=>a' (λh=>by omega) (λ_=>a' (λh=>by omega) (λ_=>a' (λh=>by omega) (λ_=>a' (λh=>by omega) (λ_=>?_))))))
 refine ⟨by omega,by omega,by omega,by omega,?_⟩;rintro aY w1 VY L;rw [fY,I6] at L;obtain ⟨VU,V6⟩:=bl VY L;have Wn:w1.heap.size=w.heap.size+1:=by rw [L];simp
 clear L;rintro aN VK V1 Z;obtain ⟨VV,VD⟩:=bl V1 Z;have Wo:VK.heap.size=w1.heap.size+1:=by rw [Z];simp
 clear Z;let D:bQ:=⟨lines,[],none,0,aY,List.replicate c mN,[],none,0⟩;let G:Nat->Tag:=λk=>if k=aN then .cl else if k=aY then .aX else .cr
 have t1:G aN=.cl:=if_pos rfl;have t2:G aY=.aX:=by show (if aY=aN then Tag.cl else if aY=aY then .aX else .cr)=_;rw [if_neg (by omega),if_pos rfl]
 have t3:∀ k,G k≠.cr->k=aN\/k=aY:=by
  intro k E;by_cases VQ:k=aN
  ·exact .inl VQ
  ·by_cases VR:k=aY
   ·exact .inr VR
   ·exact absurd (show (if k=aN then Tag.cl else if k=aY then .aX else .cr)=_ by rw [if_neg VQ,if_neg VR]) E
 have Vu:bZ (λk=>G k≠.cr) G VK aN D:=by
  refine ⟨λ_ h=>h,λk E=>?_,?_,t1,a2.nil _ _ _,(λk E=>(sC E).elim),(λi x V9=>by simp [D] at V9),?_,t2,λi x V9=>?_,a2.nil _ _ _,(λk E=>(sC E).elim),(λp Wk=>by simp [D] at Wk),by simp [D]⟩
  ·rcases t3 k E with e | e<;>omega
  ·simpa [bQ.cells,D] using VV
  ·have:=ai.aj VD VU;simpa [D] using this
  ·have C:(List.replicate c mN)[i]?=some x:=V9;rw [AV] at C;split at C
   ·simp only [e8] at C;subst C;exact ⟨a2.nil _ _ _,(λk E=>(sC E).elim),(λj l We=>by simp [mN] at We),λ_=>⟨rfl,rfl⟩,(λb Vy=>by simp [mN] at Vy),⟨rfl,λ_ _ _ VM=>by simp [mN] at VM⟩⟩
   ·cases C
 refine c2 mix (λm env u=>∃ (k:Nat) (VJ:ax) (A':a5) (χ':Nat->Tag) (bz:List g_) (na:al) (nc:Nat),k<=n/\m=n - k/\env=w7 lines ⟨aN,0,none⟩ n k VJ/\
   Next (λk=>G k≠.cr) A' G χ' VK u/\bZ A' χ' u aN { D with nodes:=bz,na:=na,nc:=nc }/\bz.length=k/\bz.map g_.n=List.replicate k (sD lines)) n
  ⟨0,_,_,G,[],none,0,by omega,by omega,rfl,Vu.refl (ao.refl _ _),Vu,rfl,rfl⟩ ?_
 rintro m env u ⟨k,VJ,A',χ',bz,na,nc,E,rfl,rfl,aQ,O,V5,VC⟩;rw [Ti];refine a' (λg=>?_) (λg=>?_)
 ·refine aC (Km (w:=u) (lines:=lines) (by omega) (by omega)) ?_;rintro v Ws ⟨rfl,q,VE,Wp⟩;rw [fY] at q;have Vw:=O.new VE;refine ⟨_,_,rfl,dw (λh=>absurd rfl h) (λ_=>⟨_,_,_,Vw.cl.cell (i:=1) rfl,?_⟩)⟩;rintro Wj Vt VW Vr;obtain ⟨V_,W⟩:=bl VW Vr;have Wq:Vt.heap.size=Ws.heap.size+1:=by rw [Vr];simp
  clear Vr;have H:=Vw.new W;obtain ⟨Wr,V8,V',K,VX⟩:=fL (T:=92) (z:=.pointer none) (n:=1) (m:=8) (by kernel_rfl);have Y:a2 Vt zo Wr.size na bz.length nc (bz.map λx=>ptr x.b):=by rw [K];exact H.nodes
  obtain ⟨ap,dt,VN,VI,B,VB,Vx⟩:=Y.append (P:=prog) (t:=107) (ty:=107) Tryz.underlying107 V8 V' (by rw [K];rfl) (by omega)
   (s:=some ⟨Wj,0,none⟩) (m:=1) (c:=1) (news:=[ptr (u.heap.size+1)]) (by rw [K];rfl) (fk V_ (by simp [ptr])) (by simp [ptr,single]) (by omega) (by rw [VX];omega)
  rw [K] at B;have r:∀ z,aK na z->χ' z=.nodes:=H.jD;have S:ao (λz=>χ' z=.nodes) Vt VN:=VB.mono λz _ au=>r z au
  have a:=S.aj H.cl (by rw [H.gG];simp);refine ⟨ap,_,dt,VN,VI,⟨_,a.cell (i:=1) rfl⟩,a.frozen,?_⟩;intro VO Vs;have V:ao (λz=>z=aN) VN VO:=by rw [Vs];exact eV _ _ _ _
  have d:=a.setCell (i:=1) (.slice ap (bz.length+1) dt);have U:VO=VN.setCell ⟨aN,1,none⟩ (.slice ap (bz.length+1) dt):=Vs;rw [<-U] at d;clear Vs U;have VF:ai u Vt:=VE.new W;have VA:ao (λz=>χ' z=.nodes\/χ' z=.cl) u VO:=((ao.b3 VF).trans S λz _ e=>.inl e).trans V λz _ e=>.inr (by rw [e];exact O.gG)
  have f:∀ z,aK na z->z<u.heap.size:=λz au=>O.nodes.lt au
  have Wd:aN<u.heap.size:=O.cl.lt;have R:∀ z,aK ap z->χ' z=.nodes\/Vt.heap.size<=z:=by
   intro z au;rcases Vx with e | e
   ·exact .inl (r z (e▸au))
   ·obtain ⟨o,VG⟩:=au;rw [e] at VG;simp at VG;exact .inr (by omega)
  have Q:∀ z,u.heap.size<=z->z<Vt.heap.size->¬ aK ap z:=by
   intro z VQ VR au;rcases Vx with e | e
   ·have:=f z (e▸au);omega
   ·obtain ⟨o,VG⟩:=au;rw [e] at VG;simp at VG<;>omega
  have I:dY VO (u.heap.size+1) u.heap.size ⟨List.replicate (8 * lines) 0,false⟩:=((q.new W).az VB (λVy=>by have:=f _ Vy;omega) (λVy=>by have:=f _ Vy;omega)).az V (by omega) (by omega);obtain ⟨Wh,Wv,Wb,VT⟩:=O.addNode (y:=⟨u.heap.size+1,u.heap.size,sD lines⟩) (na:=ap) (nc:=dt) VA I (by show u.heap.size<=u.heap.size+1;omega) (cO _) (λz au=>(R z au).imp id λe=>by omega) (Q _ (by show u.heap.size<=u.heap.size+1;omega) (by show u.heap.size+1<_;omega)) (Q _ (cO _) (by show u.heap.size<_;omega))
   (by
    have:=B.az V (λz au e=>by
     rcases R z au with VP | VP
     ·have V2:χ' aN=.cl:=O.gG;rw [e,V2] at VP;cases VP
     ·omega)
    simpa using this) (by simpa [bQ.cells] using d)
  rw [show IntKind.i64.wrap ((k:Int)+1)=((k+1:Nat):Int) by rw [bC (by omega) (by omega)];rfl];refine ⟨n - (k+1),by omega,k+1,_,Wh,Wv,bz++[⟨u.heap.size+1,u.heap.size,sD lines⟩],ap,dt,by omega,rfl,rfl,aQ.trans Wb,VT,by simp [V5],?_⟩;rw [iX,VC,List.replicate_succ'];rfl
 ·have V4:k=n:=by omega
  subst V4;rw [Uo];refine ⟨_,_,_,O.cl.cell (i:=2) rfl,?_⟩;have VZ:({ D with nodes:=bz,na:=na,nc:=nc }:bQ).aX.length=c:=by simp [D]
  rw [VZ];refine c2 mix (λm env z=>∃ (i:Nat) (VJ:ax) (A':a5) (χ':Nat->Tag) (Wc:bQ),i<=c/\m=c - i/\env=w8 ⟨aN,0,none⟩ c i VJ/\
    Next (λk=>G k≠.cr) A' G χ' VK z/\bZ A' χ' z aN Wc/\Wc.pure=⟨lines,List.replicate k (sD lines),(List.range i).map (hF k)++List.replicate (c - i) mN.pure,[]⟩) c
   ⟨0,_,_,χ',_,by omega,by omega,rfl,aQ,O,by simp [bQ.pure,D,VC]⟩ ?_
  rintro m env z ⟨i,VJ,Wf,Wt,N,Ww,rfl,rfl,M,Vv,J⟩;rw [Tj];refine a' (λg=>?_) (λg=>?_)
  ·have VH:N.aX.map cd.pure=(List.range i).map (hF k)++List.replicate (c - i) mN.pure:=congrArg aM.aX J;have Wm:N.nodes.length=k:=by have:=congrArg (λF=>F.nodes.length) J;simpa [bQ.pure] using this
   have Wl:N.aX.length=c:=by have:=congrArg List.length VH;simp at this <;> omega
   obtain ⟨VL,Vz⟩:∃ VL,N.aX[i]?=some VL:=⟨N.aX[i],by simp [show i<N.aX.length by omega]⟩;have V0:VL.pure=mN.pure:=by
    have:(N.aX.map cd.pure)[i]?=some VL.pure:=by simp [Vz]
    rw [VH,hQ (by simp)] at this;simp only [fC,lr,mU,AV] at this;rw [if_pos (by omega)] at this;simpa using this.symm
   refine aC (I5 Vv (by omega) Vz (by omega) (inc:=1) (by omega)) ?_;rintro v Vt ⟨rfl,Wg,Wu,Wi,Wa,VS,V7,_⟩;refine ⟨rfl,?_⟩;rw [show IntKind.i64.wrap ((i:Int)+1)=((i+1:Nat):Int) by rw [bC (by omega) (by omega)];rfl];refine ⟨c - (i+1),by omega,i+1,_,Wg,Wu,Wi,by omega,rfl,rfl,M.trans Wa,VS,?_⟩;rw [V7,V0,J];simp only [aM.connect,aM.fp,fY,yc];rw [<-J6 (by omega)];rfl
  ·have V3:i=c:=by omega
   subst V3;rw [Up];refine ⟨aN,Wf,Wt,N,rfl,Vv,?_,λz au=>?_,?_⟩
   ·refine (V6.new VD).trans M.az λz au VM=>?_
    rcases t3 z VM with e | e<;>omega
   ·rcases (M.iff z).1 au with au | au
    ·by_cases g:z<VK.heap.size
     ·rcases t3 z (M.grow z g au) with e | e<;>omega
     ·omega
    ·exact absurd au.2.2 au.2.1
   ·rw [J];simp [aM.init]
end
section
def od (p a v:Int):Int:=p * 4503599627370496+a * 1099511627776+v
theorem Mr (e:0<=p/\p<4096) (d:0<=a/\a<4096) (an:0<=v/\v<1099511627776):je .u64 (je .u64 (h_ .u64 p 52) (h_ .u64 a 40)) v=od p a v:=by
 obtain ⟨p,rfl⟩:=pZ e.1;obtain ⟨a,rfl⟩:=pZ d.1;obtain ⟨v,rfl⟩:=pZ an.1;have b:h_ .u64 (p:Int) 52=((p * 2 ^ 52:Nat):Int):=by show IntKind.u64.wrap ((p:Int) * 2 ^ 52)=_;rw [jH (by omega) (by omega)];simp
 have c:h_ .u64 (a:Int) 40=((a * 2 ^ 40:Nat):Int):=by show IntKind.u64.wrap ((a:Int) * 2 ^ 40)=_;rw [jH (by omega) (by omega)];simp
 rw [b,c,uN _ _ (by omega) (by omega),vz _ _ 52 (by omega),show p * 2 ^ 52+a * 2 ^ 40=(p * 2 ^ 12+a) * 2 ^ 40 by omega,uN _ _ (by omega) (by omega),vz _ _ 40 (by omega)];unfold od;omega
theorem sE (w:ak) (x a b:Int):a_ 141 [.int .i64 x,.int .i64 a,.int .i64 b] w λv w'=>v=.bool (decide (a<=x/\x<=b))/\w'=w:=by
 refine bc Tryz.func141 ?_;rw [FJ];refine a' (λh=>⟨?_,rfl⟩) (λh=>⟨?_,rfl⟩)
 ·have:a<=x:=h;simp [this]
 ·have:¬ a<=x:=h;simp [this]
theorem Ay (w:ak) (x a b:Int):a_ 143 [.int .u64 x,.int .u64 a,.int .u64 b] w λv w'=>v=.bool (decide (a<=x/\x<=b))/\w'=w:=by
 refine bc Tryz.func143 ?_;rw [Te];refine a' (λh=>⟨?_,rfl⟩) (λh=>⟨?_,rfl⟩)
 ·have:a<=x:=h;simp [this]
 ·have:¬ a<=x:=h;simp [this]
theorem I1 (w:ak) (x:Int):a_ 158 [.int .i64 x] w λv w'=>v=.bool (decide (0<=x/\x<=5))/\w'=w:=by refine bc Tryz.func158 ?_;rw [rx];refine aC (sE _ _ _ _) ?_;rintro v w1 ⟨rfl,rfl⟩;exact ⟨_,rfl,rfl,rfl⟩
theorem NY (w:ak):a_ 103 [.int .i64 0,.bool true] w λv w'=>v=.tuple #[.int .u64 1,.int .i64 0]/\w'=w:=by refine bc Tryz.func103 ?_;rw [G_];refine aC (sE _ _ _ _) ?_;rintro v w1 ⟨rfl,rfl⟩;exact ⟨_,rfl,rfl,rfl⟩
theorem I7 (w:ak):a_ 107 [.int .u64 1,.int .i64 0] w λv w'=>v=.tuple #[.int .u64 256,.int .i64 0]/\w'=w:=by refine bc Tryz.func107 ?_;rw [U7];refine aC (Ay _ _ _ _) ?_;rintro v w1 ⟨rfl,rfl⟩;refine ⟨_,rfl,cR rfl ?_⟩;refine aC (sE _ _ _ _) ?_;rintro v w1 ⟨rfl,rfl⟩;refine ⟨_,rfl,cR rfl ⟨?_,rfl⟩⟩;rfl
def wc (p a v:Int):Int:=if p<4096/\a<4096/\v<1099511627776 then od p a v else 0
theorem Hx (w:ak) (f:0<=p) (d:0<=a) (an:0<=v):a_ 104 [.int .u64 p,.int .u64 a,.int .u64 v] w λr w'=>∃ e,r=.tuple #[.int .u64 (wc p a v),.int .i64 e]/\w'=w:=by
 refine bc Tryz.func104 ?_;rw [ww];unfold wc;refine a' (λh=>⟨2,?_,rfl⟩) (λh=>a' (λb=>⟨2,?_,rfl⟩) (λb=>a' (λc=>⟨2,?_,rfl⟩) (λc=>⟨0,?_,rfl⟩)))
 ·rw [if_neg (by omega)]
 ·rw [if_neg (by omega)]
 ·rw [if_neg (by omega)]
 ·rw [if_pos (by omega),Mr (by omega) (by omega) (by omega)]
theorem xS (w:ak) (a b:Int):a_ 142 [.int .i64 a,.int .i64 b] w λv w'=>∃ cz k,v=.func (.func 187) #[] #[ptr cz,ptr k]/\av w' cz [.int .i64 b] l6/\av w' k [.int .i64 a] l6/\ai w w':=by refine bc Tryz.func142 ?_;rw [UU];rintro b1 w1 d g aA l e h;obtain ⟨i,f⟩:=bl d g;obtain ⟨j,c⟩:=bl e h;exact ⟨aA,b1,rfl,j,ai.aj c i,f.new c⟩
def nG (a b i:Int):Int:=if i<0\/b<=i then -1 else a * 8+i
theorem xD (w:ak) {cz c:Nat} {b:Int} (d:av w cz [.int .i64 b] l6) (e:av w c [.int .i64 a] l6) (g:0<=a/\a<=100000) (j:b<=100000) (i:Int):a_ 187 [.int .i64 i,ptr cz,ptr c] w λv w'=>v=.int .i64 (nG a b i)/\w'=w:=by refine bc Tryz.func187 ?_;rw [ptr,ptr,Um];unfold nG;refine a' (λh=>⟨by rw [if_pos (by omega)],rfl⟩) (λh=>⟨b,d.cell rfl,a' (λf=>⟨by rw [if_pos (by omega)],rfl⟩) (λf=>⟨a,e.cell rfl,?_,rfl⟩)⟩);rw [if_neg (by omega),bC (x:=a * 8) (by omega) (by omega),bC (x:=a * 8+i) (by omega) (by omega)]
attribute [local irreducible] ic iS mL
theorem xT:ic prog 187=true:=by kernel_rfl
theorem Ik (w:ak) (i:Int):a_ 105 [.int .i64 i] w λv w'=>v=.int .i64 (nG 1 16 i)/\ai w w':=by
 refine bc Tryz.func105 ?_;rw [TV];refine aC (xS _ _ _) ?_;rintro v w1 ⟨cz,d,rfl,a,b,e⟩;have c:=xT;refine ⟨_,rfl,?_⟩;have f:(#[]++#[.int .i64 i]++#[ptr cz,ptr d]:Array a4)=#[.int .i64 i,ptr cz,ptr d]:=by simp
 refine qU c f ?_;refine aC (xD w1 a b (by omega) (by omega) i) ?_;rintro v g ⟨rfl,rfl⟩;exact ⟨_,rfl,rfl,e⟩
theorem NZ (w:ak) (i:Int):a_ 106 [.int .i64 i] w λv w'=>v=.int .i64 (nG 3 6 i)/\ai w w':=by
 refine bc Tryz.func106 ?_;rw [Gz];refine aC (xS _ _ _) ?_;rintro v w1 ⟨cz,d,rfl,a,b,e⟩;have c:=xT;refine ⟨_,rfl,?_⟩;have f:(#[]++#[.int .i64 i]++#[ptr cz,ptr d]:Array a4)=#[.int .i64 i,ptr cz,ptr d]:=by simp
 refine qU c f ?_;refine aC (xD w1 a b (by omega) (by omega) i) ?_;rintro v g ⟨rfl,rfl⟩;exact ⟨_,rfl,rfl,e⟩
theorem q4 (w:ak) {i:Int} (a:96<=i) (b:i<256):a_ 108 [.int .i64 i] w λv w'=>v=.int .i64 (i * 8)/\w'=w:=by
 refine bc Tryz.func108 ?_;rw [U8];refine a' (λh=>by omega) (λh=>a' (λh=>by omega) (λh=>⟨?_,rfl⟩))
 rw [bC (by omega) (by omega)]
theorem Ms (w:ak) {i:Int} (a:1<=i) (b:i<=256):a_ 102 [.int .i64 i] w λv w'=>v=.int .i64 (i * 8)/\w'=w:=by
 refine bc Tryz.func102 ?_;rw [U4];refine a' (λh=>by omega) (λh=>a' (λh=>by omega) (λh=>⟨?_,rfl⟩))
 rw [bC (by omega) (by omega)]
def s9:Nat->Int->Int->Int
 | 0,_,s=>s
 |n+1,i,s=>s9 n (i+1) (je .u64 s (h_ .u64 7 (7 * i)))
def ng (n:Nat):Int:=s9 n 0 549755813888
theorem Ko (w:ak) (c:1<=n) (d:n<=5):a_ 100 [.int .i64 n] w λv w'=>v=.tuple #[.int .u64 (ng n),.int .i64 0]/\w'=w:=by
 refine bc Tryz.func100 ?_;rw [ST];refine a' (λh=>by omega) (λh=>a' (λh=>by omega) (λh=>?_))
 refine c2 mix (λm env u=>∃ (i:Nat) (s:Int) (a:ax),m=n - i/\i<=n/\env=wv s n i a/\u=w/\s9 (n - i) i s=ng n) n ⟨0,_,_,rfl,by omega,rfl,rfl,rfl⟩ ?_;rintro m env u ⟨i,s,a,rfl,e,rfl,rfl,an⟩;rw [QF];refine a' (λb=>?_) (λb=>?_)
 ·rw [bC (by omega) (by omega),jH (by omega) (by omega),bC (by omega) (by omega)];refine ⟨by omega,n - (i+1),by omega,i+1,_,_,rfl,by omega,rfl,rfl,?_⟩;rw [show n - i=n - (i+1)+1 by omega,s9] at an;exact an
 ·rw [Rg];have:i=n:=by omega
  subst this;rw [mU,s9] at an;rw [an];exact ⟨rfl,rfl⟩
theorem Em (a:n<=5):0<=ng n/\ng n<1099511627776:=by rcases n with _ | _ | _ | _ | _ | _ | n;all_goals first | decide | omega
end
section
theorem Ge {a:al} {l:bb} (h:bh u a (is l)) (d:l[i]?=some x) {z:Int} (au:z=i) (j:n=l.length) {K:aU->Prop}
  (f:∀ b o,(∀ y,ai u y->y.cell? ⟨b,o,none⟩=some (.int .i64 x))->K ⟨b,o,none⟩):bk a n z 1 K:=by
 subst au j;have g:=ch d;have c:(is l)[i]?=some (.int .i64 x):=by simp [is,d]
 rcases h with he | ⟨b,o,rfl,e⟩
 ·rw [he] at c;cases c
 ·refine ed (by omega) (by omega) ?_;have:=f b (o+i) λy k=>(bh.new k (.inr ⟨b,o,rfl,e⟩)).cell c
  simpa using this
def iw (line lines:Int):Bool:=decide (98<=lines/\lines<=256/\96<=line/\line<lines)
theorem J7 (w:ak) (line lines:Int):a_ 169 [.int .i64 line,.int .i64 lines] w λv w'=>v=.bool (iw line lines)/\w'=w:=by
 refine bc Tryz.func169 ?_;rw [UJ];have d:a_ 207 [.int .i64 lines] w λv w'=>v=.bool (decide (98<=lines/\lines<=256))/\w'=w:=by
  refine bc Tryz.func207 ?_;rw [UG];refine a' (λh=>⟨?_,rfl⟩) (λh=>⟨?_,rfl⟩)
  ·have h:98<=lines:=h;congr 1;simp [h]
  ·have h:¬ 98<=lines:=h;congr 1;simp [h]
 refine aC d ?_;rintro v w1 ⟨rfl,rfl⟩;unfold iw;refine ⟨_,rfl,a' (λh=>a' (λc=>⟨?_,rfl⟩) (λc=>⟨?_,rfl⟩)) (λh=>⟨?_,rfl⟩)⟩
 ·have c:96<=line:=c;congr 1;simp [h.1,h.2,c]
 ·have c:¬ 96<=line:=c;congr 1;simp [c]
 ·congr 1;simp;intro a b;exact absurd ⟨a,b⟩ h
theorem Mt {a:al} {cap:Nat} {L:bb} (j:a2 u 3 1 a n cap (is L)) (p:n<=1000000) {K:Nat->al->Nat->Nat->aE}
  (s:∀ b ap f h,b=u.heap.size->a2 h 3 1 ap (n+1) f (is (L++[x]))->ao (aK a) u h->(∀ k,aK ap k->aK a k\/u.heap.size<=k)->K b ap (n+1) f h) :
  ∀ b1 l,b1=u.heap.size->l=u.alloc (.cells #[.int .i64 x] 3)->∃ (ap:al) (d c:Nat),∃ h,(Builtin.append_ #[22,22] 22 #[(.slice a n cap),(.slice (some ⟨b1,0,none⟩) 1 1)]).run prog l=.ok (.slice ap d c) h/\K b1 ap d c h:=by
 obtain ⟨inf,r,au,g,q⟩:=fL (T:=3) (z:=.int .i64 0) (n:=1) (m:=8) (by kernel_rfl);rw [<-g] at j;refine ou (vs:=[.int .i64 x]) Tryz.underlying22 r au (by rw [g];rfl) (by omega) j (by rw [g];rfl) (by intro v an;simp at an;subst an;rfl) (by omega) (by omega) ?_;intro b ap f h o i;have e:is L++[Value.int .i64 x]=is (L++[x]):=by simp [is]
 rw [g,e] at i;exact s b ap f h o i
def hj (l:List Bool):ax:=l.map .bool
end
end Go.Proofs.YtmkljjbioomepaaGreat
