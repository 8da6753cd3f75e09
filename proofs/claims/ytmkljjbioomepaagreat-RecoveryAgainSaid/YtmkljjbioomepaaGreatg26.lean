import Derived.Test.YtmkljjbioomepaaGreatg25
import Derived.Test.YtmkljjbioomepaaGreatg14
import Derived.Test.YtmkljjbioomepaaGreatg21
import Derived.Test.YtmkljjbioomepaaGreatg20
import Derived.Test.YtmkljjbioomepaaGreatg23
import Derived.Test.YtmkljjbioomepaaGreatg22
set_option linter.all false
namespace Go.Proofs.YtmkljjbioomepaaGreat
open Go.Proofs.Tryz Go.bJ
variable {L a c j k m most n:Nat}{Ls:eE}{b lines o w:Int}{c0:Bool}{pc:Int×Int}{ws:a7}
section
def jh (F:ay):ay:={F with bZ:=[]}
def h5 (F:ay)(os:List cH):ay:={F with bZ:=os}
theorem RQ (F:ay):h5 (jh F) F.bZ=F:=rfl
theorem cr.jh {F:ay}(h:cr F):cr (jh F):=by refine⟨⟨⟨h.cg.ok.lines,h.cg.ok.nodes,h.cg.ok.words,h.cg.ok.aF,h.cg.ok.aL,λp a=>by cases a⟩,h.cg.cC,λp a=>by cases a⟩,?_⟩;have:=h.hg;unfold me at *;show 0+5*F.e_<=1000;omega
section
variable {cv:Conv}
theorem NY (F:ay)(os:List cH)(c:Int):(h5 F os).take c=((F.take c).1,h5 (F.take c).2 os):=by
 have a:(h5 F os).cC c=F.cC c:=rfl;unfold ay.take;rw[a];cases F.cC c with
 |none=>rfl
 |some C=>
  simp only;split
  ·rfl
  ·cases C.batch with
   |none=>rfl
   |some ds=>simp only;split<;>rfl
theorem NZ (F:ay)(os:List cH)(c:Int)(vs:a_):(h5 F os).post c vs=((F.post c vs).1,h5 (F.post c vs).2 os):=by
 have a:(h5 F os).cC c=F.cC c:=rfl;have d:(h5 F os).nodes=F.nodes:=rfl;have b:(h5 F os).lines=F.lines:=rfl;unfold ay.post;rw[a,d,b];cases F.cC c with
 |none=>rfl
 |some C=>
  simp only;repeat' split
  all_goals rfl
theorem N0 (F:ay)(os:List cH)(t:bK cv):br (h5 F os) t=(h5 (br F t).1 os,(br F t).2):=by
 have a:(h5 F os).alive t.aL=F.alive t.aL:=rfl;have hw:(h5 F os).waiting t.aL=F.waiting t.aL:=rfl
 grind[br,NY,gG,NZ]
theorem CQ (cs:a7){t:bK cv}(a:t.en=true):∀ (f m:Nat) (F:ay),(eG cs [] [] f m F [t]).2=[t]
 | 0,_,_=>rfl
 |f+1,m,F=>by
  have b:turns (je F cs m []) [t]=(F,[t]):=by
   show((br F t).1,[(br F t).2])=_;have:br F t=(F,t):=by unfold br;grind
   grind
  unfold eG;rw[b];split
  ·exact CQ cs a f (m+1) _
  ·rfl
theorem J7 {c:Nat}(cs:a7)(os:List cH):∀ (f m:Nat) {F:ay} {t:bK cv} {k:Nat} {e:ay×bK cv},kv c (F,t)->Norm (jn c) k (br F t) e->e.2.en=true->k<f->(eG cs [] [] f m (h5 F os) [t]).2=[e.2]
 | 0,m,F,t,k,e,b,l,p,r=>by omega
 |f+1,m,F,t,k,e,b,l,p,r=>by
  have a:=b.br;have u:turns (je (h5 F os) cs m []) [t]=(h5 (br F t).1 os,[(br F t).2]):=by show((br (h5 F os) t).1,[(br (h5 F os) t).2])=_;rw[N0]
  unfold eG;rw[u];cases h:(br F t).1.dd with
  |nil=>
   have o:∀ j,fC c j (br F t).1=none:=λj=>by
    cases d:fC c j (br F t).1 with
    |none=>rfl
    |some bE=>
     have:=Cx d
     grind
   cases l with
   |nil _=>
    grind[CQ]
   |cons i w _=>
    grind[nm]
  |cons x xs=>
   obtain⟨j,bE,rfl,d⟩:=a.tP.choice (x:=x) (by grind);have s:e6 (h5 (br F t).1 os) [] m=(true,h5 bE os):=by
    unfold e6 jM;rw[aQ (by simp)];have q:(h5 (br F t).1 os).dd=(⟨-1,c,j⟩::xs)++kA 0 os:=by have g:(br F t).1.dd=hp 0 (br F t).1.aF++kA 0 (br F t).1.bZ:=rfl;rw[a.tP.fY,h]at g;simp only[kA,kV]at g;rw[g];rfl
    grind[fC,h5,br,iR,v3]
   rw[s,bh rfl];obtain⟨y,rfl,n⟩:=l.after (DF c) a (nm.2 ⟨bE,d,rfl⟩);exact J7 cs os f (m+1) (kv.fC a d) n p (by omega)
theorem Nk {bp:cv.dV}{ns':List aD}{G':a3}{o:cv.O}{F:ay}{t:bK cv}{a:Int}(I:cr F)(y:g9 c (jh F))(u:F.aF[c]?=some (fl n c a b))(M:F.nodes.length=n)(H:F.lines=L)(g:t=⟨(c:Int),bp,[],false,false,t.out⟩)(h:Lone cv c n L bp k F.nodes [] o ns' G')(K:k<most) :
  (dP F [t] [] [] most).2=[⟨(c:Int),bp,G',true,false,o⟩]:=by
 have d:t.aL=(c:Int):=by rw[g]
 have w:kv c (jh F,t):=⟨I.jh,y,d⟩;obtain⟨r,b',N⟩:=D9 h (F:=jh F) (t:=t) u rfl M H d (by rw[g]) (by rw[g]) (by rw[g]);have z:br (jh F) t=gG (jh F) t:=by
  have A:(jh F).cC (c:Int)=some (fl n c a b):=by rw[g1];exact u
  unfold br;have j:(jh F).alive t.aL=true:=by unfold ay.alive;rw[d,A];rfl
  have f:(jh F).waiting t.aL=0:=by unfold ay.waiting;rw[d,A];rfl
  have E:(jh F).take t.aL=(none,jh F):=by unfold ay.take;rw[d,A];rfl
  have B:t.en=false:=by rw[g]
  rw[aQ (by grind),E];rfl
 have p:∀ i,jn (cv:=cv) c i (eZ (jh F) ns' c (fl n c r b'),⟨t.aL,t.bp,G',true,t.bad,o⟩)=none:=λi=>by
  cases Q:jn (cv:=cv) c i (eZ (jh F) ns' c (fl n c r b'),⟨t.aL,t.bp,G',true,t.bad,o⟩)with
  |none=>rfl
  |some s=>
   obtain⟨bE,j,_⟩:=nm.1 Q;obtain⟨C,l,x,j,f,_,B,_⟩:=iR.1 j;have S:=cS u;have:(eZ (jh F) ns' c (fl n c r b')).aF[c]?=some (fl n c r b'):=by grind[eZ,jh,List.getElem?_set_self]
   rw[this]at j;cases j;have f:(hU n c 1)[i]?=some l:=f;unfold hU at f;rw[fQ]at f;cases P:(List.range n)[i]? with
   |none=>grind
   |some q=>rw[P]at f;cases f;exact cp rfl B
 have e:=N.norm (.nil p);rw[<-z,mJ]at e;have J:=J7 ([t].map bK.aL) F.bZ most 0 w e rfl K;rw[RQ]at J;have R:t.bad=false:=by rw[g]
 have T:t.bp=bp:=by rw[g]
 have D:∀ G:ay,(turns G [(⟨(c:Int),bp,G',true,false,o⟩:bK cv)]).2=[⟨(c:Int),bp,G',true,false,o⟩]:=λG=>by
  show[(br G _).2]=_;unfold br
  grind
 grind[dP]
end
end
section
open dI
def HH (vs:a_):cd:=⟨false,[],(0,0),[],some vs,false⟩
def jH (ds:ck)(G:a3):cd:=⟨true,ds,(0,0),G,none,false⟩
inductive iK (c n L:Nat):(a3->cd)->Nat->List aD->a3->List aD->Prop
 |nil {X:a3->cd} {ns:List aD}:iK c n L X 0 ns [] ns
 |cons {X:a3->cd} {k:Nat} {ns ns':List aD} {vs:a_} {D:a3}:X []=HH vs->vs≠[]->vs.length<=1024->hr n L vs=0->lH c ns vs->iK c n L (λG=>X ((cB ns vs).2::G)) k (cB ns vs).1 D ns'->iK c n L X (jr vs+k) ns ((cB ns vs).2::D) ns'
theorem iK.bind {X:a3->cd}{ns b:List aD}{D:a3}(h:iK c n L X k ns D b):∀ {Y Z:a3->cd} {bg:ck} {m:Nat} {E:a3} {a:List aD},(∀ G,X (D++G)=jH bg G)->(∀ G,(X G).ok=false->Z G=X G)->(∀ G G',X G=jH bg G'->Z G=Y G')->iK c n L Y m b E a->iK c n L Z (k+m) ns (D++E) a:=by
 induction h with
 |nil=>
  intro Y Z bg m E a d e f g;have:Z=Y:=funext λG=>f G G (d G)
  grind
 | @cons X k ns ns' vs D i j p l o _ q=>
  intro Y Z bg m E a d e f g;have aq:Z []=HH vs:=by rw[e [] (by rw[i];rfl)];exact i
  rw[zp];exact .cons aq j p l o (q (λG=>d G) (λG=>e _) (λG=>f _) g)
theorem iK.congr {X Y:a3->cd}{ns a:List aD}{D:a3}(h:iK c n L X k ns D a)(e:∀ G,Y G=X G):iK c n L Y k ns D a:=by
 have:Y=X:=funext e
 grind
theorem iK.one {ns:List aD}{vs:a_}(a:vs≠[])(e:vs.length<=1024)(b:hr n L vs=0)(d:lH c ns vs):iK c n L (λG=>bN G vs) (jr vs+0) ns [(cB ns vs).2] (cB ns vs).1:=
 .cons (yY a 0) a e b d .nil
theorem RR {ns:List aD}{vs:a_}(a:vs≠[])(b:Fit vs (cB ns vs).2)(G:a3):bN ([(cB ns vs).2]++G) vs=jH (cB ns vs).2 G:=za G a b 0
theorem PN (G:a3):bN G []=jH [] G:=rfl
end
section
open dF dI
section
variable {n L c m:Nat}{x:aD}
theorem EI (b:a % 8=0)(e:Nat):(cb m a k).v.pieces[e]?=if 8*(e:Int)<k then some ((a:Int)+8*e,if 8<(k:Int)-8*e then 8 else(k:Int)-8*e)else none:=by have h:(cb m a k).v.pieces=hT (cb m a k).v.count.toNat a k:=rfl;rw[h];exact w3 _ (a:Int) (k:Int) (by omega) (by show(k:Int)<=((k:Int).toNat:Int);omega) e
theorem Ah (b:a % 8=0)(e:Nat):e<(cb m a k).v.pieces.length↔8*e<k:=by
 have h:=EI (m:=m) (k:=k) b e
 grind
theorem zX {a k:Nat}(b:a % 8=0)(d:a+k<=x.words.length):∀ e,e<=(cb m a k).v.pieces.length->fK (cb m a k) x e=(x,((x.words.drop a).take k).take (8*e))
 | 0,_=>rfl
 |e+1,he=>by
  have h:=(Ah (m:=m) (k:=k) b e).1 (by omega);have c:=EI (m:=m) (k:=k) b e;rw[bh (by omega)]at c;unfold fK;rw[zX b d e (by omega),hO,c];simp only[Option.getD_some];have f:∀ pc:Int×Int,exec (cb m a k) pc x=(x,x.read pc.1 pc.2):=λpc=>by unfold exec;exact bh rfl
  rw[f];simp only;congr 1;unfold aD.read;apply i_;intro i;by_cases g:i<8*e
  ·grind
  ·rw[wx (by grind)];simp only[lE,pM,Cs,uo]
   grind
theorem FH (b:a % 8=0)(c:a+k<=x.words.length):eY (cb m a k) x=x/\d9 (cb m a k) x=⟨0,(x.words.drop a).take k⟩:=by
 unfold eY d9;rw[zX b c _ (db _)];refine⟨rfl,?_⟩;have h:=Ah (m:=m) (k:=k) b (cb m a k).v.pieces.length
 grind
theorem t_:(cb m a 1).v.pieces=[((a:Int),1)]:=pk (v:=(cb m a 1).v) (by show(1:Int)<=1;omega) (by show(a:Int) % 8+1<=8;omega) (by show(0:Int)<=a;omega)
theorem pu:eY (cb m a 1) x=x/\d9 (cb m a 1) x=⟨0,(x.words.drop a).take 1⟩:=by unfold eY d9;rw[t_];show(fK (cb m a 1) x 1).1=x/\(⟨0,(fK (cb m a 1) x 1).2⟩:cN)=_;unfold fK;rw[t_];exact⟨rfl,rfl⟩
theorem mA:(c9 m a o w).v.pieces=[((a:Int),1)]:=pk (v:=(c9 m a o w).v) (by show(1:Int)<=1;omega) (by show(a:Int) % 8+1<=8;omega) (by show(0:Int)<=a;omega)
theorem oJ:eY (c9 m a o w) x=x.dr a o w/\d9 (c9 m a o w) x=⟨0,[x.get a]⟩:=by unfold eY d9;rw[mA];show(fK (c9 m a o w) x 1).1=_/\(⟨0,(fK (c9 m a o w) x 1).2⟩:cN)=_;unfold fK;rw[mA];exact⟨rfl,rfl⟩
theorem Bd (d:n<=5)(f:ef L c0 x){v:bc}(al:e9 n L v){p:cH}(e:p.aL=(c:Int))(b:p.inc=1)(a:1<=c/\c<6):p.refusal v x=0:=by
 rw[AJ f d al e b a.2]
 grind
theorem N1 (j:n<=5)(f:ef L c0 x)(h:1<=c/\c<6)(al:e9 n L (cb m a k))(b:a % 8=0)(g:1<=k)(d:a+k<=L*8):kg c (cb m a k) x:=by
 refine⟨(Ah b 0).2 (by omega),λp e l i he=>?_⟩;rw[zX b (by rw[f.len];exact d) e (by omega)]
 grind[Bd]
theorem r3 {v:bc}(f:n<=5)(h:ef L c0 x)(b:1<=c/\c<6)(al:e9 n L v)(a:v.v.pieces=[pc]):kg c v x:=by refine⟨by grind,λp e g d he=>?_⟩;rw[a]at he;simp at he;subst he;exact Bd f h al g d b
end
end
section
open dF dI
section
variable {c:Nat}
theorem wU {ns:List aD}{x:aD}(h:ns[j]?=some x):ns.getD j bq=x:=by grind
theorem jF {ns:List aD}(h:j<ns.length):ns[j]?=some (ns.getD j bq):=by grind
theorem uV {ns:List aD}:∀ {vs:a_},(∀ v ∈ vs,v.node.toNat<ns.length/\kg c v (ns.getD v.node.toNat bq)/\eY v (ns.getD v.node.toNat bq)=ns.getD v.node.toNat bq)->lH c ns vs/\cB ns vs=(ns,vs.map λv=>d9 v (ns.getD v.node.toNat bq))
 | [],_=>⟨trivial,rfl⟩
 |v::vs,h=>by
  obtain⟨e,f,g⟩:=h v fR;have a:ns.set v.node.toNat (eY v (ns.getD v.node.toNat bq))=ns:=by simp_all
  obtain⟨b,d⟩:=uV (vs:=vs) λu hu=>h u (fG _ hu)
  refine⟨⟨e,f,by rw[a];exact b⟩,?_⟩;rw[r8,a,d];rfl
theorem FI {P:aD->Prop}:∀ {vs:a_} {ns:List aD},(∀ x ∈ ns,P x)->(∀ v ∈ vs,v.node.toNat<ns.length/\∀ x,P x->kg c v x/\P (eY v x)/\(d9 v x).code=0/\((d9 v x).words.length:Int)=v.v.hi)->lH c ns vs/\(∀ x ∈ (cB ns vs).1,P x)/\Fit vs (cB ns vs).2
 | [],ns,a,_=>⟨trivial,a,rfl,λi v d h=>by cases h⟩
 |v::vs,ns,a,h=>by
  obtain⟨e,j⟩:=h v fR;have l:=a _ (b9 (jF e));obtain⟨f,bW,n,o⟩:=j _ l;obtain⟨g,p,b⟩:=FI (P:=P) (vs:=vs) (ns:=ns.set v.node.toNat (eY v (ns.getD v.node.toNat bq))) (λx hm=>by
   grind) λu hu=>by
    simp_all
  refine⟨⟨e,f,g⟩,?_,?_⟩
  ·grind[r8]
  ·rw[r8];refine⟨by simp only[h3];rw[b.len],λi w d hw k=>?_⟩;cases i with
   |zero=>grind
   |succ i=>exact b.each i w d hw k
theorem G0:∀ {vs:a_} {ns:List aD},(vs.map λv=>v.node.toNat).Nodup->(∀ v ∈ vs,v.node.toNat<ns.length)->(∀ v ∈ vs,kg c v (ns.getD v.node.toNat bq))->lH c ns vs/\(cB ns vs).2=(vs.map λv=>d9 v (ns.getD v.node.toNat bq))/\(∀ v ∈ vs,(cB ns vs).1[v.node.toNat]?=some (eY v (ns.getD v.node.toNat bq)))/\∀ j,(∀ v ∈ vs,v.node.toNat≠j)->(cB ns vs).1[j]?=ns[j]?
 | [],ns,_,_,_=>⟨trivial,rfl,(λv h=>nomatch h),λj _=>rfl⟩
 |v::vs,ns,a,k,i=>by
  rw[iI,List.nodup_cons]at a;have g:=k v fR;have l:∀ u ∈ vs,v.node.toNat≠u.node.toNat:=λu hu e=>a.1 (e▸Cw (f:=λv:bc=>v.node.toNat) hu)
  have b:∀ u ∈ vs,(ns.set v.node.toNat (eY v (ns.getD v.node.toNat bq))).getD u.node.toNat bq=ns.getD u.node.toNat bq:=λu hu=>by
   grind
  obtain⟨d,n,o,p⟩:=G0 (vs:=vs) (ns:=ns.set v.node.toNat (eY v (ns.getD v.node.toNat bq))) a.2 (λu hu=>by grind) (λu hu=>by grind);rw[r8];refine⟨⟨g,i v fR,d⟩,?_,λu hu=>?_,λj q=>?_⟩
  ·simp_all
  ·grind
  grind
end
section
variable {E:Env}{c:Nat}
theorem Kp.rI (au:b8 E)(i:1<=c/\c<6){G:a3}{f:a3->cd×dB}(h:Kp E c G f){vs:a_}(d:(f []).1.ask=some vs)(a:vs≠[])(l:vs.length<=1024)(g:hr E.n E.L vs=0){ns:List aD}(j:lH c ns vs)(b:G.length<=200){o:dI.conv.O}{ns':List aD}{G':a3}
  (p:Lone dI.conv c E.n E.L (.inr (bC E c)) k (cB ns vs).1 (G++[(cB ns vs).2]) o ns' G'):Lone dI.conv c E.n E.L (.inr (bC E c)) (jr vs+k) ns G o ns' G':=by
 have e:=h.ask au i d;exact .go b (by show(fx (bC E c) G).2.2=false;rw[e]) (by show(fx (bC E c) G).1=vs;rw[e]) a l g j p
theorem Kp.Um (au:b8 E)(j:1<=c/\c<6){G:a3}{f:a3->cd×dB}(h:Kp E c G f)(b:(f []).1.ask=none)(d:(f []).1.dH=false)(g:(f []).1.a2=[])(i:G.length<=200){ns:List aD}:Lone dI.conv c E.n E.L (.inr (bC E c)) 0 ns G (.inr (f []).2) ns G:=by
 have e:=h.out au j b d g;have a:(dI.conv.next (.inr (bC E c)) G).2.1=.inr (f []).2:=by show Sum.inr (fx (bC E c) G).2.1=_;rw[e]
 rw[<-a];exact .fin i (by show(fx (bC E c) G).2.2=true;rw[e])
end
end
section
open dF dI
section
variable {E:Env}{c:Nat}
theorem EJ {v:bc}{ns:List aD}(e:n<=5)(f:∀ x ∈ ns,ef L c0 x)(d:1<=c/\c<6)(al:e9 n L v)(b:v.v.pieces=[pc])(a:v.node.toNat<ns.length):lH c ns [v]:=
 ⟨a,r3 e (f _ (b9 (jF a))) d al b,trivial⟩
theorem G1 {x:aD}(h:ef L c0 x)(b:30<=a):ef L c0 (x.dr a o w):=by
 unfold aD.dr;split
 ·have c:n3 a 1 x { x with words:=x.words.set (a:Int).toNat w }:=⟨by simp,rfl,λi d=>by
   grind[aD.get,Int.toNat_natCast,List.getElem?_set_ne]⟩
  exact c.aT h b
 grind
theorem G2 {v:bc}(b:n<=5)(a:L<=256)(al:v.v.valid n L=0):hr n L [v]=0:=by unfold hr;rw[aQ (by grind)];rfl
theorem FJ {ns:List aD}:Fit [c9 m a o w] (cB ns [c9 m a o w]).2:=by
 have h:(cB ns [c9 m a o w]).2=[⟨0,[(ns.getD m bq).get a]⟩]:=by rw[r8];show[d9 (c9 m a o w) _]=_;rw[oJ.2];rfl
 rw[h];refine⟨rfl,λq v d al b=>?_⟩;cases q with
 |zero=>cases al;cases b;exact⟨rfl,rfl⟩
 |succ q=>cases al
theorem Sm (au:b8 E)(i:1<=c/\c<6){G:a3}{cE:Int}{bU:Int×Int}(h:Kp E c G (mo E c Ls cE bU)){ns:List aD}(r:ns.length=E.n)(o:∀ x ∈ ns,ef E.L true x)(p:G.length<=199) :
  ∃ G',Lone dI.conv c E.n E.L (.inr (bC E c)) 1 ns G (.inr ⟨0,bU.1,bU.2,fT E.L cE Ls,0⟩) (cB ns (eP c)).1 G':=by
 have s:=au.e.n;have q:=au.e.L;have al:e9 E.n E.L (c9 0 49 (dp c) 0):=lo (by omega) (by omega) (by omega) (by omega) (by omega);have k:lH c ns (eP c):=EJ (by omega) o i al mA (by show(0:Int).toNat<ns.length;omega);have d:Fit (eP c) (cB ns (eP c)).2:=FJ;have l:=h.next (F4 d);have b:=l.Um au i (f:=λX=>(rN (cB ns (eP c)).2 X,⟨0,bU.1,bU.2,fT E.L cE Ls,0⟩)) rfl rfl rfl (by grind) (ns:=(cB ns (eP c)).1);have g:=h.rI au i GH (by simp[eP]) (by simp[eP]) (G2 (by omega) (by omega) (al.valid E.n (by omega) (by omega))) k (by omega) b;have j:jr (eP c)+0=1:=by
  unfold jr eP;have t:(c9 0 49 (dp c) 0).v.pieces=[(((49:Nat):Int),1)]:=mA (m:=0) (a:=49)
  grind
 rw[j]at g;exact⟨_,g⟩
end
theorem Hn {n L m:Nat}{a:Int}{ws:a7}{c0:Bool}{x:aD}(c:ef L c0 x)(f:30<=a)(g:a+ws.length<=L*8):∀ e,e<=(ca m a ws).v.pieces.length->ef L c0 (fK (ca m a ws) x e).1/\(fK (ca m a ws) x e).2=[]
 | 0,_=>⟨c,rfl⟩
 |e+1,he=>by
  obtain⟨b,i⟩:=Hn (n:=n) (m:=m) c f g e (by omega);have hm:(ca m a ws).v.pieces.getD e (0,0) ∈ (ca m a ws).v.pieces:=by
   grind
  obtain⟨d,h⟩:=Mq (x:=ca m a ws) (n:=(fK (ca m a ws) x e).1) rfl (by show 0<=a;omega) (by have hlen:=b.len;grind[fK,ca]) hm;unfold fK;refine⟨d.aT b (by show 30<=a.toNat;omega),?_⟩
  grind
theorem SY {a:Int}{x:aD}(k:n<=5)(g:1<=c/\c<6)(l:ef L c0 x)(f:30<=a)(o:1<=ws.length)(j:a+ws.length<=L*8)(al:e9 n L (ca m a ws)):kg c (ca m a ws) x/\ef L c0 (eY (ca m a ws) x)/\(d9 (ca m a ws) x).code=0/\((d9 (ca m a ws) x).words.length:Int)=(ca m a ws).v.hi:=by
 have h:=λe=>Hn (n:=n) (m:=m) (x:=x) l f j e
 have b:0<(ca m a ws).v.pieces.length:=by
  have d:(ca m a ws).v.pieces≠[]:=JW (ca m a ws).v.count.toNat a (ca m a ws).v.count (by show 1<=(ws.length:Int);omega) (by show 1<=(ws.length:Int).toNat;omega)
  grind
 refine⟨⟨b,λp e d i he=>Bd k (h e (by omega)).1 al d i g⟩,(h _ (db _)).1,rfl,?_⟩;unfold d9;simp only;rw[(h _ (db _)).2];rfl
theorem SZ {x:aD}(d:n<=5)(b:1<=c/\c<6)(e:ef L c0 x)(f:30<=a)(al:e9 n L (c9 m a o w)):kg c (c9 m a o w) x/\ef L c0 (eY (c9 m a o w) x)/\(d9 (c9 m a o w) x).code=0/\((d9 (c9 m a o w) x).words.length:Int)=(c9 m a o w).v.hi:=by
 refine⟨r3 d e b al mA,?_,?_,?_⟩
 ·grind[oJ,G1]
 ·rw[oJ.2]
 ·rw[oJ.2];rfl
theorem SI {x:aD}(e:n<=5)(d:1<=c/\c<6)(b:ef L c0 x)(f:a+1<=L*8)(al:e9 n L (cb m a 1)):kg c (cb m a 1) x/\ef L c0 (eY (cb m a 1) x)/\(d9 (cb m a 1) x).code=0/\((d9 (cb m a 1) x).words.length:Int)=(cb m a 1).v.hi:=by
 refine⟨r3 e b d al t_,?_,?_,?_⟩
 ·grind[pu]
 ·rw[pu.2]
 ·rw[pu.2];have:=b.len;simp only[lE,pM];show((min 1 (x.words.length-a):Nat):Int)=1;omega
section
variable {E:Env}{c:Nat}{Ls:eE}{cE:Int}{bU:Int×Int}
theorem Sn (au:b8 E)(i:1<=c/\c<6){S:a3->cd}{ns a:List aD}{D:a3}(h:iK c E.n E.L S k ns D a):∀ {G:a3},(∀ X,∃ bg,S (D++X)=jH bg X)->Kp E c G (λX=>fk E c Ls cE bU (S X))->a.length=E.n->(∀ x ∈ a,ef E.L true x)->G.length+D.length<=199->
  ∃ G',Lone dI.conv c E.n E.L (.inr (bC E c)) (k+1) ns G (.inr ⟨0,bU.1,bU.2,fT E.L cE Ls,0⟩) (cB a (eP c)).1 G':=by
 induction h with
 | @nil S ns=>
  intro G d g j o p;have b:Kp E c G (mo E c Ls cE bU):=λX=>(g X).trans (by obtain⟨bg,e⟩:=d X;have e:S X=jH bg X:=e;show fk E c Ls cE bU (S X)=_;rw[e];exact u6 i.2 rfl)
  exact Sm au i b j o (by simpa using p)
 | @cons S k ns a vs D r q j s t _ w=>
  intro G d g l o p;have b:=g.next (D:=(cB ns vs).2) (f':=λX=>fk E c Ls cE bU (S ((cB ns vs).2::X))) λX=>rfl
  obtain⟨G',u⟩:=w d b l o (by grind);have f:=g.rI au i (vs:=vs) (by show(fk E c Ls cE bU (S [])).1.ask=_;rw[r];exact sH vs) q j s t (by omega) u;rw[<-zp]at f;exact⟨G',f⟩
end
end
section
open dF dI
section
variable {c n L:Nat}
structure mg (c n L:Nat)(v:bc):Prop where
 go:e9 n L v
 at_:v.node.toNat<n
 ei:v.v.pieces.length<=128
 run:∀ x,ef L true x->kg c v x/\ef L true (eY v x)/\(d9 v x).code=0/\((d9 v x).words.length:Int)=v.v.hi
theorem B9 (e:n<=5)(f:1<=L/\L<=256)(h:1<=c/\c<6){a:Int}(hm:m<n)(g:30<=a)(b:1<=ws.length)(j:ws.length<=128)(d:a+ws.length<=L*8):mg c n L (ca m a ws):=by
 have al:e9 n L (ca m a ws):=oS e hm f (by omega) b (by omega) d;refine⟨al,?_,?_,λx i=>SY e h i g b d al⟩
 ·show(m:Int).toNat<n;omega
 ·exact mK (tm (ca m a ws).v.count.toNat a _) (by show(ws.length:Int).toNat<=128;omega)
theorem Yl (b:n<=5)(e:1<=L/\L<=256)(f:1<=c/\c<6){a:Int}(hm:m<n)(h:30<=a)(d:a+1<=L*8):mg c n L (c9 m a o w):=by
 have al:e9 n L (c9 m a o w):=lo b hm e (by omega) d;obtain⟨k,rfl⟩:=oN (show 0<=a by omega);refine⟨al,?_,?_,λx g=>SZ b f g (by omega) al⟩
 ·show(m:Int).toNat<n;omega
 grind[mA]
theorem Ym (b:n<=5)(e:1<=L/\L<=256)(g:1<=c/\c<6){a:Int}(hm:m<n)(f:32<=a)(d:a+1<=L*8):mg c n L (cb m a 1):=by
 have al:e9 n L (cb m a 1):=mE b hm e (by omega) (by omega) d (.inl f);obtain⟨k,rfl⟩:=oN (show 0<=a by omega);refine⟨al,?_,?_,λx h=>SI b g h (by omega) al⟩
 ·show(m:Int).toNat<n;omega
 grind[t_]
theorem FK:∀ {vs:a_},(∀ v ∈ vs,mg c n L v)->jr vs<=128*vs.length
 | [],_=>db _
 |v::vs,h=>by
  have a:=(h v fR).ei;have b:=FK (vs:=vs) λu hu=>h u (fG _ hu)
  grind[jr,List.length_cons]
def g_ (c n L:Nat)(P:ck->Prop)(ns:List aD)(S:a3->cd)(b q:Nat):Prop:=
 ∃ k D a bg,iK c n L S k ns D a/\(∀ X,S (D++X)=jH bg X)/\P bg/\a.length=n/\(∀ x ∈ a,ef L true x)/\k<=b/\D.length<=q
theorem g_.one (j:n<=5){vs:a_}(al:∀ v ∈ vs,mg c n L v)(i:vs.length<=1024){ns:List aD}(a:ns.length=n)(d:∀ x ∈ ns,ef L true x):g_ c n L (λbg=>bg.length=vs.length) ns (λG=>bN G vs) (128*vs.length) 1:=by
 by_cases b:vs=[]
 ·subst b;exact⟨0,[],ns,[],.nil,λX=>PN X,rfl,a,d,by simp,by simp⟩
 ·obtain⟨e,f,g⟩:=FI (c:=c) (P:=ef L true) (vs:=vs) d λv hm=>⟨by rw[a];exact(al v hm).at_,(al v hm).run⟩
  have h:hr n L vs=0:=qe rfl j λv hm=>(al v hm).go
  have hlen:=wT vs ns;exact⟨_,_,_,(cB ns vs).2,iK.one b i h e,λX=>RR b g X,hlen.2,by grind,f,by have:=FK al;omega,by simp⟩
theorem g_.bind {P P':ck->Prop}{ns:List aD}{S Z:a3->cd}{b q b' q':Nat}(h:g_ c n L P ns S b q)(aq:∀ G,(S G).ok=false->Z G=S G)(u:∀ bg a,P bg->a.length=n->(∀ x ∈ a,ef L true x)->∃ Y,g_ c n L P' a Y b' q'/\∀ G G',S G=jH bg G'->Z G=Y G'):g_ c n L P' ns Z (b+b') (q+q'):=by
 obtain⟨k,D,a,bg,o,p,r,s,t,B,C⟩:=h;obtain⟨Y,⟨w,f,e,d,g,y,i,j,l,z,A⟩,he⟩:=u bg a r s t;refine⟨k+w,D++f,e,d,o.bind p aq he g,λX=>?_,i,j,l,by omega,by grind⟩
 grind
theorem g_.imp {P P':ck->Prop}{ns:List aD}{S:a3->cd}{b q b' q':Nat}(h:g_ c n L P ns S b q)(j:∀ bg,P bg->P' bg)(p:b<=b')(r:q<=q'):g_ c n L P' ns S b' q':=by obtain⟨k,D,a,bg,d,e,f,g,i,l,o⟩:=h;exact⟨k,D,a,bg,d,e,j _ f,g,i,by omega,by omega⟩
end
def sX (lines:Int)(R:Int×List aN):Prop:=R.2.length<=12/\∀ p ∈ R.2,96<=p.bt/\p.bt<lines
theorem EK {L:a7}(e:fL L lines=true):sX lines (c2 L lines):=by
 have d:=e;unfold fL at d;simp only[gL,mL,beq_iff_eq]at d;have c:=d.2;have f:c2 L lines=((L.drop 8).getD 0 0,hV (L.drop 8) ((L.drop 8).getD 1 0).toNat):=by
  unfold c2 eu
  grind
 unfold eh at c;split at c
 ·omega
 split at c
 ·omega
 split at c
 ·omega
 split at c
 ·omega
 obtain⟨_,a,b,_⟩:=jA (by omega:gk ((L.drop 8).getD 0 0) (hV (L.drop 8) ((L.drop 8).getD 1 0).toNat) lines=0);rw[f];exact⟨a.2.2.2,b⟩
theorem RS (h:(dT lines Ls).2=true):sX lines (dT lines Ls).1:=by
 refine Aq (P:=sX lines) Ls _ (λL d a=>?_) (λe=>by cases e) h;obtain⟨b,c⟩:=Cj a
 grind[EK]
section
variable {E:Env}{c:Nat}
theorem Ai {j:bL}{s:Int}{W:List aN}{Ls:eE}:∀ k,(l4 j s W Ls k).length<=3*k
 | 0=>db _
 |k+1=>by
  rw[zd,fF];have a:=Ai (j:=j) (s:=s) (W:=W) (Ls:=Ls) k;have b:(r2 j s W Ls k).length<=3:=by
   unfold r2;split
   ·simp
   ·simp[w6]
  omega
theorem G4 (au:b8 E)(a:1<=c/\c<6){s:Int}{W:List aN}(fu:sX E.L (s,W)){Ls:eE}:∀ k,k<=E.n->∀ v ∈ l4 (bC E c) s W Ls k,mg c E.n E.L v
 | 0,_,v,al=>by cases al
 |k+1,f,v,al=>by
  rw[zd]at al;rcases i'.1 al with al | al
  ·exact G4 au a fu k (by omega) v al
  ·have g:=au.e.n;have d:=au.e.L;have b:=au.jG;have hw:=fu.1;unfold r2 at al;split at al
   ·cases al
   ·rw[Bc (by omega)]at al;have al:v ∈ [ca k 48 [0],ca k 56 (fW s W),ca k 48 [gw s]]:=al
    grind[pq,B9]
theorem N2 (au:b8 E)(w:1<=c/\c<6){ns:List aD}(y:ns.length=E.n)(J:∀ x ∈ ns,ef E.L true x)(Ls:eE):∃ bU,(∀ X,(eO (bC E c) (bj 0) Ls X).1=bU)/\g_ c E.n E.L (λ_=>True) ns (λX=>(eO (bC E c) (bj 0) Ls X).2) 12000 4:=by
 have ad:=au.e.n;have av:=au.e.L;have V:=au.jG;have g:1<=E.L/\E.L<=256:=by omega
 by_cases O:(dT (bC E c).lines Ls).2=true
 ·have a:=RS O;generalize Q:(dT (bC E c).lines Ls).1=R at a;obtain ⟨s,W⟩:=R;have a:sX E.L (s,W):=a;have he:∀ X,eO (bC E c) (bj 0) Ls X=((2,s),mx (bC E c) (bj 0) s W Ls X):=λX=>by
   unfold eO
   grind
  refine⟨(2,s),λX=>by rw[he],?_⟩;have i:(λX=>(eO (bC E c) (bj 0) Ls X).2)=λX=>mx (bC E c) (bj 0) s W Ls X:=funext λX=>by rw[he]
  rw[i];have hw:W.length<=12:=a.1;have H:∀ p ∈ W,96<=p.bt/\p.bt<E.L:=a.2;have B:(bC E c).v.mem.length=E.n:=by grind[qT]
  have ae:∀ m,m<E.n->∀ p ∈ W,mg c E.n E.L (fo m p):=λm hm p C=>by have:=H p C;exact B9 (by omega) g w hm (by omega) (by show 1<=8;omega) (by show 8<=128;omega) (by show p.bt*8+(8:Int)<=_;omega)
  have U:∀ m,m<E.n->mg c E.n E.L (ca m 32 [s]):=λm hm=>B9 (by omega) g w hm (by omega) (by simp) (by simp) (by grind)
  have q:=g_.one (c:=c) (by omega) (vs:=l4 (bC E c) s W Ls E.n) (G4 au w a _ (db _)) (by grind[Ai,bC]) y J;have q:=g_.imp q (P':=λ_=>True) (b':=1920) (q':=1) (λ_ _=>trivial) (by grind[Ai,bC]) (db _);refine g_.imp (g_.bind (b':=9900) (q':=3) (P':=λ_=>True) q (λG b=>?_) λbg ag _ z K=>?_) (λ_ h=>h) (by omega) (by omega)
  ·unfold mx kE
   grind
  refine⟨λG=>nf (bC E c) (bj 0) s W (fw (bC E c) (bj 0) W G),?_,λG G' b=>by unfold mx kE;rw[B,b];exact aQ (by simp[jH])⟩
  have D:∀ v ∈ W.map λp=>cb 0 (p.bt*8) 1,mg c E.n E.L v:=λv al=>by
   grind[Ym]
  have o:=g_.one (c:=c) (by omega) D (by grind) z K;rw[gR]at o;have o:=g_.imp o (b':=1536) (q':=1) (λ_ h=>h) (by omega) (db _);refine g_.imp (g_.bind (b':=8350) (q':=2) (P':=λ_=>True) o (λG b=>?_) λd N T j k=>?_) (λ_ h=>h) (by omega) (by omega)
  ·exact bh b
  generalize F:gx (bC E c) W d d.length=l;have Z:∀ p ∈ l,p ∈ W:=by rw[<-F];exact DN (by omega)
  have Y:l.length<=12:=by grind[Nat.le_trans,zc]
  have f:∀ G G',fw (bC E c) (bj 0) W G=jH d G'->nf (bC E c) (bj 0) s W (fw (bC E c) (bj 0) W G)=if l.length=0 then jH d G' else od (bC E c) (bj 0) s l (bN G' (nM (bC E c) s l)):=λG G' b=>by
   rw[b];unfold nf;rw[aQ (by simp[jH])]
   grind[gx,bC,jH]
  by_cases ao:l.length=0
  ·refine⟨λG=>jH d G,⟨0,[],N,d,.nil,λX=>rfl,trivial,j,k,by omega,by simp⟩,λG G' b=>?_⟩;have h:=f G G' b
   grind
  refine⟨λG=>od (bC E c) (bj 0) s l (bN G (nM (bC E c) s l)),?_,λG G' b=>by
   have h:=f G G' b
   grind⟩
  have t:nM (bC E c) s l=((List.range (E.n-1)).map λm=>l.map (fo (m+1))++[ca (m+1) 32 [s]]).flatten:=by unfold nM;rw[F1 ad.1,oM];rfl
  have u:∀ v ∈ nM (bC E c) s l,mg c E.n E.L v:=λv al=>by
   grind
  have S:(nM (bC E c) s l).length<=13*(E.n-1):=by
   rw[t,List.length_flatten,oM];have:(List.map (List.length ∘ λm=>l.map (fo (m+1))++[ca (m+1) 32 [s]]) (List.range (E.n-1)))=List.replicate (E.n-1) (l.length+1):=by rw[<-nO (n:=E.n-1),<-List.map_const'];simp
   rw[this,List.sum_replicate_nat];rw[Nat.mul_comm 13];exact Nat.mul_le_mul_left _ (by omega)
  have r:=g_.one (c:=c) (by omega) u (by omega) j k;have r:=g_.imp r (P':=λ_=>True) (b':=6660) (q':=1) (λ_ _=>trivial) (by omega) (db _);refine g_.imp (g_.bind (b':=1680) (q':=1) (P':=λ_=>True) r (λG b=>bh b) λP ah _ A M=>⟨λG=>bN G (rb (bC E c) (bj 0) s l),?_,λG G' b=>?_⟩) (λ_ h=>h) (by omega) (by omega)
  ·have I:∀ v ∈ rb (bC E c) (bj 0) s l,mg c E.n E.L v:=λv al=>by
    have al:v ∈ ca 0 32 [s]::l.map (fo 0):=al
    grind
   have af:(rb (bC E c) (bj 0) s l).length<=13:=by
    show(ca 0 32 [s]::l.map (fo 0)).length<=13
    grind
   exact g_.imp (g_.one (c:=c) (by omega) I (by omega) A M) (λ_ _=>trivial) (by omega) (db _)
  ·unfold od;rw[b];exact aQ (by simp[jH])
 ·by_cases hw:fL (Ls.getD 0 []) (bC E c).lines=true
  ·have a:=EK hw;generalize Q:c2 (Ls.getD 0 []) (bC E c).lines=R at a;obtain ⟨s,W⟩:=R;have a:sX E.L (s,W):=a;have he:∀ X,eO (bC E c) (bj 0) Ls X=((3,s),sS (bC E c) (bj 0) W X):=λX=>by
    unfold eO
    grind
   refine⟨(3,s),λX=>by rw[he],?_⟩;have i:(λX=>(eO (bC E c) (bj 0) Ls X).2)=λX=>bN X (W.map λp=>c9 0 (p.bt*8) (dK p.Head 0) p.Head):=funext λX=>by rw[he];rfl
   rw[i];have ab:W.length<=12:=a.1;have hu:∀ v ∈ W.map λp=>c9 0 (p.bt*8) (dK p.Head 0) p.Head,mg c E.n E.L v:=λv al=>by
    obtain⟨p,C,rfl⟩:=cW.1 al;have:=a.2 p C
    grind[Yl]
   have h:=g_.one (c:=c) (by omega) hu (by grind) y J;rw[gR]at h;exact g_.imp h (λ_ _=>trivial) (by omega) (by omega)
  ·have he:∀ X,eO (bC E c) (bj 0) Ls X=((1,0),jH [] X):=λX=>by unfold eO;rw[aQ O,aQ hw];rfl
   refine⟨(1,0),λX=>by rw[he],?_⟩;have i:(λX=>(eO (bC E c) (bj 0) Ls X).2)=λX=>jH [] X:=funext λX=>by rw[he]
   rw[i];exact⟨0,[],ns,[],.nil,λX=>rfl,trivial,y,J,by omega,by simp⟩
end
end
section
open dF dI
theorem uC {f:bc->cN}:∀ {vs:a_},(∀ v ∈ vs,(f v).code=0/\((f v).words.length:Int)=v.v.hi)->Fit vs (vs.map f):=λ{vs} h=>⟨by simp,λi v d al a=>by
 grind⟩
theorem qt:∀ {vs:a_},(∀ v ∈ vs,v.v.pieces.length<=128)->jr vs<=128*vs.length
 | [],_=>db _
 |v::vs,h=>by
  have a:=h v fR;have b:=qt (vs:=vs) λu hu=>h u (fG _ hu)
  grind[jr,List.length_cons]
theorem xf {a k:Int}(h:k<=128):(cb m a k).v.pieces.length<=128:=
 mK (tm (cb m a k).v.count.toNat a k) (by show k.toNat<=128;omega)
theorem F7 {x:aD}(h:ef L false x):ef L true (x.dr 24 1 2)/\∀ a,a≠24->(x.dr 24 1 2).get a=x.get a:=by
 have i:x.get 24=1:=h.d0;have k:=h.len;have e:x.dr 24 1 2={x with words:=x.words.set 24 2}:=by
  grind[aD.dr]
 have b:∀ a:Nat,a≠24->(x.dr 24 1 2).get a=x.get a:=λa j=>by
  grind[aD.get,List.getElem?_set_ne]
 have g:24<x.words.length:=by
  grind[aD.get,List.getElem?_eq_none_iff]
 refine⟨⟨by rw[e];exact h.up,by grind,by rw[b 0 (by omega)];exact h.key,by rw[b 1 (by omega)];exact h.eX,?_,λc d f=>by rw[b _ (by omega)];exact h.fJ c d f⟩,b⟩
 grind[aD.get,List.getElem?_set_self]
section
variable {E:Env}{c:Nat}
def xF (E:Env)(c:Nat)(Q:Int×Int->List aD->Prop)(ns:List aD)(Ls:eE):Prop:=
 ∃ bU,(∀ X,(eO (bC E c) (bj 0) Ls X).1=bU)/\∃ k D a bg,iK c E.n E.L (λX=>(eO (bC E c) (bj 0) Ls X).2) k ns D a/\(∀ X,(eO (bC E c) (bj 0) Ls (D++X)).2=jH bg X)/\a.length=E.n/\(∀ x ∈ a,ef E.L true x)/\k<=12000/\D.length<=4/\Q bU a
theorem PO (au:b8 E)(d:1<=c/\c<6){ns:List aD}(e:ns.length=E.n)(f:∀ x ∈ ns,ef E.L true x)(Ls:eE):xF E c (λ_ _=>True) ns Ls:=by obtain⟨bU,a,k,gT,b,bg,s1,s2,_,g,h,i,j⟩:=N2 au d e f Ls;exact⟨bU,a,k,gT,b,bg,s1,s2,g,h,i,j,trivial⟩
theorem ST (au:b8 E)(I:1<=c/\c<6){G:a3}(K:Kp E c G (ob E c)){ns:List aD}(af:ns.length=E.n)(U:∀ x ∈ ns,ef E.L true x)(ad:G.length<=100){Q:Int×Int->List aD->Prop}(M:xF E c Q ns ((List.range E.n).map λm=>((ns.getD m bq).words.drop 48).take 120)) :
  ∃ k f G' Ls bU,Lone dI.conv c E.n E.L (.inr (bC E c)) k ns G (.inr ⟨0,bU.1,bU.2,fT E.L ((ns.getD 0 bq).get 32) Ls,0⟩) (cB f (eP c)).1 G'/\k<=13500/\bU=(eO (bC E c) (bj 0) Ls []).1/\Ls=((List.range E.n).map λm=>((ns.getD m bq).words.drop 48).take 120)/\Q bU f:=by
 have ag:=au.e.n;have ae:=au.e.L;have T:=au.jG;have R:1<=E.L/\E.L<=256:=by omega
 have j:∀ m,m<E.n->ef E.L true (ns.getD m bq):=λm hm=>U _ (b9 (jF (by omega)))
 have d:∀ v ∈ fc E.n,∃ (m a k:Nat),m<E.n/\v=cb m a k/\a % 8=0/\1<=k/\k<=120/\a+k<=E.L*8/\(32<=a\/a+k<=32):=λv al=>by
  unfold fc at al;rcases i'.1 al with al | al
  ·obtain⟨g,J,al⟩:=qL.1 al;obtain⟨m,hm,rfl⟩:=cW.1 J;have hm:=gS.1 hm;rcases f0.1 al with rfl | al
   ·exact⟨m,24,1,hm,rfl,by omega,by omega,by omega,by omega,by omega⟩
   rcases f0.1 al with rfl | al
   ·exact⟨m,48,120,hm,rfl,by omega,by omega,by omega,by omega,by omega⟩
   grind
  ·rcases f0.1 al with rfl | al
   ·exact⟨0,32,1,by omega,rfl,by omega,by omega,by omega,by omega,by omega⟩
   grind
 have u:∀ v ∈ fc E.n,e9 E.n E.L v:=λv al=>by
  grind[mE]
 obtain⟨N,z⟩:=uV (c:=c) (ns:=ns) (vs:=fc E.n) λv al=>by
  obtain⟨m,a,k,l,e,p,w,O,A,P⟩:=d v al;have J:=u v al;subst e;have H:=j m l;refine⟨by show(m:Int).toNat<ns.length;omega,?_,?_⟩
  ·show kg c _ (ns.getD m bq)
   grind[N1]
  ·show eY _ (ns.getD m bq)=ns.getD m bq;exact(FH p (by rw[H.len];exact A)).1
 have q:∀ (m a k:Nat),m<E.n->a % 8=0->a+k<=E.L*8->d9 (cb m a k) (ns.getD ((cb m a k).node.toNat) bq)=⟨0,((ns.getD m bq).words.drop a).take k⟩:=λm a k l p w=>by show d9 _ (ns.getD m bq)=_;exact(FH p (by rw[(j m l).len];exact w)).2
 have r:Fit (fc E.n) ((fc E.n).map λv=>d9 v (ns.getD v.node.toNat bq)):=uC λv al=>by obtain⟨m,a,k,l,rfl,p,w,O,A,P⟩:=d v al;rw[q m a k l p A];refine⟨rfl,?_⟩;have:=(j m l).len;simp only[lE,pM];show((min k _:Nat):Int)=(k:Int);omega
 generalize ab:((fc E.n).map λv=>d9 v (ns.getD v.node.toNat bq))=D at r z;have b:∀ {i m a k:Nat},(fc E.n)[i]?=some (cb m a k)->m<E.n->a % 8=0->a+k<=E.L*8->D[i]?=some ⟨0,((ns.getD m bq).words.drop a).take k⟩:=λ{i m a k} y l p w=>by
  grind
 have S:∀ i,i<E.n->di D (2*i)=2:=λi y=>by have h:=b (m:=i) (a:=24) (k:=1) (xA y).1 y (by omega) (by omega);unfold di;rw[hO,h];show(((ns.getD i bq).words.drop 24).take 1).headD 0=2;rw[tK];exact(j i y).d0
 have B:di D (2*E.n)=(ns.getD 0 bq).get 32:=by have h:=b (m:=0) (a:=32) (k:=1) (Ge E.n) (by omega) (by omega) (by omega);unfold di;rw[hO,h];show(((ns.getD 0 bq).words.drop 32).take 1).headD 0=_;rw[tK];rfl
 have t:kq E.n D=(List.range E.n).map λm=>((ns.getD m bq).words.drop 48).take 120:=by
  unfold kq;refine sk λm hm=>?_
  have hm:=gS.1 hm;have h:=b (m:=m) (a:=48) (k:=120) (xA hm).2 hm (by omega) (by omega)
  grind
 rw[<-t]at M;obtain⟨bU,F,k,gT,f,bg,s1,s2,V,W,ao,av,s8⟩:=M;have C:Kp E c (G++[D]) (λX=>fk E c (kq E.n D) (di D (2*E.n)) bU (eO (bC E c) (bj 0) (kq E.n D) X).2):=K.next λX=>by
  grind[F0]
 obtain⟨G',ah⟩:=Sn au I s1 (λX=>⟨bg,s2 X⟩) C V W (by grind);have hlen:(fc E.n).length=2*E.n+1:=by
  grind[Gc]
 have Y:(cB ns (fc E.n)).1=ns:=by rw[z]
 have Z:(cB ns (fc E.n)).2=D:=by rw[z]
 have s:=K.rI au I GB (NE _) (by omega) (qe rfl (by omega) u) N (by omega) (k:=k+1) (o:=.inr ⟨0,bU.1,bU.2,fT E.L (di D (2*E.n)) (kq E.n D),0⟩) (ns':=(cB f (eP c)).1) (G':=G') (by grind);refine⟨_,f,G',_,bU,by rw[B]at s;exact s,?_,(F []).symm,t,s8⟩
 grind[qt,fc,xf]
end
end
section
open dF dI
theorem PQ {x:aD}{b:Nat}(h:b≠a):(x.dr a o w).get b=x.get b:=by
 grind[aD.dr,aD.get,Int.toNat_natCast,List.getElem?_set_ne]
section
variable {E:Env}{c:Nat}
theorem Pi (au:b8 E)(g:1<=c/\c<6){G:a3}(B:Kp E c G (kB E c)){ns:List aD}(U:ns.length=E.n)(C:∀ x ∈ ns,ef E.L true x)(K:(ns.getD 0 bq).get 49=0)(P:G.length<=99){Q:Int×Int->List aD->Prop}
  (J:∀ b,b=ns.set 0 ((ns.getD 0 bq).dr 49 0 (dp c))->b.length=E.n->(∀ x ∈ b,ef E.L true x)->xF E c Q b ((List.range E.n).map λm=>((b.getD m bq).words.drop 48).take 120)) :
  ∃ k d G' Ls bU,Lone dI.conv c E.n E.L (.inr (bC E c)) k ns G (.inr ⟨0,bU.1,bU.2,fT E.L ((ns.getD 0 bq).get 32) Ls,0⟩) (cB d (eP c)).1 G'/\k<=13628/\bU=(eO (bC E c) (bj 0) Ls []).1/\Ls.length=E.n/\(∀ m,m<E.n->(Ls.getD m []).length=120/\∀ i,i<120->i≠1->(Ls.getD m []).getD i 0=(ns.getD m bq).get (48+i))/\Q bU d:=by
 have V:=au.e.n;have R:=au.e.L;have I:=au.jG;have p:1<=E.L/\E.L<=256:=by omega
 have al:e9 E.n E.L (c9 0 49 0 (dp c)):=lo (by omega) (by omega) p (by omega) (by omega);have H:lH c ns (ft c):=EJ (by omega) C g al mA (by show(0:Int).toNat<ns.length;omega);have h:Fit (ft c) (cB ns (ft c)).2:=FJ;have he:cB ns (ft c)=(ns.set 0 ((ns.getD 0 bq).dr 49 0 (dp c)),[⟨0,[(ns.getD 0 bq).get 49]⟩]):=by
  unfold ft;rw[r8];show(ns.set 0 (eY (c9 0 49 0 (dp c)) (ns.getD 0 bq)),[d9 (c9 0 49 0 (dp c)) (ns.getD 0 bq)])=_;have e:=oJ (m:=0) (x:=ns.getD 0 bq) (a:=49) (o:=0) (w:=dp c)
  grind
 have r:=B.next (FZ g.2 h (by rw[he];exact K));have y:ef E.L true (ns.getD 0 bq):=C _ (b9 (jF (by omega)));have A:ef E.L true ((ns.getD 0 bq).dr 49 0 (dp c)):=G1 (a:=49) y (by omega);have s:(ns.set 0 ((ns.getD 0 bq).dr 49 0 (dp c))).length=E.n:=by grind
 have l:∀ x ∈ ns.set 0 ((ns.getD 0 bq).dr 49 0 (dp c)),ef E.L true x:=λx hm=>by
  grind
 have f:∀ m a,m<E.n->a≠49->((ns.set 0 ((ns.getD 0 bq).dr 49 0 (dp c))).getD m bq).get a=(ns.getD m bq).get a:=λm a hm S=>by
  grind[wU,List.getElem?_set_self,PQ,List.getElem?_set_ne]
 have u:=J _ rfl s l;obtain⟨k,d,G',Ls,bU,z,N,D,O,F⟩:=ST au g r (ns:=(cB ns (ft c)).1) (by grind) (by grind) (by grind) (Q:=Q) (by rw[he];exact u);have j:=B.rI au g (GA g.2) (by simp[ft]) (by simp[ft]) (G2 (by omega) (by omega) (al.valid E.n (by omega) (by omega))) H (by omega) z;have q:(((cB ns (ft c)).1).getD 0 bq).get 32=(ns.getD 0 bq).get 32:=by grind
 rw[q]at j;refine⟨_,d,G',Ls,bU,j,?_,D,by grind,λm hm=>?_,F⟩
 ·have M:jr (ft c)<=128 * 1:=by
   have:=qt (vs:=ft c) λv al=>by
    rcases f0.1 al with rfl | al
    ·grind[c9,dp,mA]
    grind
   exact this
  omega
 ·have t:Ls.getD m []=(((ns.set 0 ((ns.getD 0 bq).dr 49 0 (dp c))).getD m bq).words.drop 48).take 120:=by
   grind
  have hlen:=(l _ (b9 (jF (by omega:m<_)))).len;rw[t];refine⟨by grind,λi T z=>?_⟩;rw[<-f m (48+i) hm (by omega)];unfold aD.get
  grind
theorem OP (au:b8 E)(d:1<=c/\c<6){ns:List aD}(aO:ns.length=E.n)(ab:∀ x ∈ ns,ef E.L false x)(aP:(ns.getD 0 bq).get 49=0) :
  ∃ k ns' G' Ls bU,Lone dI.conv c E.n E.L (.inr (bC E c)) k ns [] (.inr ⟨0,bU.1,bU.2,fT E.L ((ns.getD 0 bq).get 32) Ls,0⟩) ns' G'/\k<=15000/\bU=(eO (bC E c) (bj 0) Ls []).1/\Ls.length=E.n/\∀ m,m<E.n->(Ls.getD m []).length=120/\∀ i,i<120->i≠1->(Ls.getD m []).getD i 0=(ns.getD m bq).get (48+i):=by
 have z:=au.e.n;have aH:=au.e.L;have Y:=au.jG;have U:1<=E.L/\E.L<=256:=by omega
 have b:∀ m,m<E.n->ef E.L false (ns.getD m bq):=λm hm=>ab _ (b9 (jF (by omega)))
 have g:∀ v ∈ eA E.n,e9 E.n E.L v:=λv al=>by
  obtain⟨m,hm,rfl⟩:=cW.1 al
  grind[mE]
 obtain⟨B,bW⟩:=uV (c:=c) (ns:=ns) (vs:=eA E.n) λv al=>by
  have t:=g v al;obtain⟨m,hm,rfl⟩:=cW.1 al;have hm:=gS.1 hm;refine⟨by show(m:Int).toNat<ns.length;omega,?_,?_⟩
  ·show kg c _ (ns.getD m bq);exact r3 (by omega) (b m hm) d t (t_ (m:=m) (a:=24))
  ·exact(pu (m:=m) (x:=ns.getD m bq) (a:=24)).1
 have C:∀ m,m<E.n->d9 (cb m 24 1) (ns.getD (cb m 24 1).node.toNat bq)=⟨0,((ns.getD m bq).words.drop 24).take 1⟩:=λm hm=>(pu (m:=m) (x:=ns.getD m bq) (a:=24)).2
 have F:Fit (eA E.n) ((eA E.n).map λv=>d9 v (ns.getD v.node.toNat bq)):=uC λv al=>by obtain⟨m,hm,rfl⟩:=cW.1 al;have hm:=gS.1 hm;rw[C m hm];refine⟨rfl,?_⟩;have:=(b m hm).len;simp only[lE,pM];show((min 1 _:Nat):Int)=(1:Int);omega
 generalize T:((eA E.n).map λv=>d9 v (ns.getD v.node.toNat bq))=D at F bW;have ao:∀ i,i<E.n->di D i=1:=λi p=>by
  have h:D[i]?=some ⟨0,((ns.getD i bq).words.drop 24).take 1⟩:=by
   rw[<-T,fQ];unfold eA
   grind
  unfold di;rw[hO,h];show(((ns.getD i bq).words.drop 24).take 1).headD 0=1;rw[tK];exact(b i p).d0
 have Z:j8 E.n D=List.range E.n:=List.filter_eq_self.2 λi p=>by
  grind
 have A:Kp E c ([]++[D]) (mn E c (List.range E.n)):=vH.next λX=>by
  grind[As]
 have q:List.range E.n≠[]:=λe=>by grind
 have j:∀ v ∈ eJ (List.range E.n),e9 E.n E.L v:=λv al=>by
  obtain⟨m,hm,rfl⟩:=cW.1 al
  grind[lo]
 obtain⟨b1,y,G,av⟩:=G0 (c:=c) (ns:=ns) (vs:=eJ (List.range E.n)) (by
  have:(eJ (List.range E.n)).map (λv=>v.node.toNat)=List.range E.n:=by unfold eJ;rw[oM];exact List.map_id' _
  grind) (λv al=>by
  obtain⟨m,hm,rfl⟩:=cW.1 al;have hm:=gS.1 hm;show(m:Int).toNat<ns.length;omega) (λv al=>by
  have t:=j v al;obtain⟨m,hm,rfl⟩:=cW.1 al;exact r3 (by omega) (b m (gS.1 hm)) d t (mA (m:=m) (a:=24)))
 have H:∀ m,m<E.n->d9 (c9 m 24 1 2) (ns.getD (c9 m 24 1 2).node.toNat bq)=⟨0,[1]⟩:=λm hm=>by have h:=(oJ (m:=m) (x:=ns.getD m bq) (a:=24) (o:=1) (w:=2)).2;rw[show(ns.getD m bq).get 24=1 from(b m hm).d0]at h;exact h
 have I:Fit (eJ (List.range E.n)) (cB ns (eJ (List.range E.n))).2:=by
  rw[y];exact uC λv al=>by obtain⟨m,hm,rfl⟩:=cW.1 al;rw[H m (gS.1 hm)];exact⟨rfl,rfl⟩
 have J:∀ i,i<(List.range E.n).length->di (cB ns (eJ (List.range E.n))).2 i=1\/di (cB ns (eJ (List.range E.n))).2 i=2:=λi p=>by
  rw[nO]at p;refine .inl ?_;have h:(cB ns (eJ (List.range E.n))).2[i]?=some ⟨0,[1]⟩:=by
   rw[y,fQ];unfold eJ
   grind
  unfold di;rw[hO,h];rfl
 have ae:=A.next (FY q I J);have hlen:=(wT (eJ (List.range E.n)) ns).1;have s:∀ m,m<E.n->(cB ns (eJ (List.range E.n))).1.getD m bq=(ns.getD m bq).dr 24 1 2:=λm hm=>by
  have h:=G (c9 m 24 1 2) (Cw (f:=λm=>c9 m 24 1 2) (gS.2 hm));have h:(cB ns (eJ (List.range E.n))).1[m]?=some (eY (c9 m 24 1 2) (ns.getD m bq)):=h
  grind[wU,oJ,bq]
 have l:∀ m a,m<E.n->a≠24->((cB ns (eJ (List.range E.n))).1.getD m bq).get a=(ns.getD m bq).get a:=λm a hm V=>by rw[s m hm];exact(F7 (b m hm)).2 a V
 have u:∀ x ∈ (cB ns (eJ (List.range E.n))).1,ef E.L true x:=λx hm=>by
  obtain⟨m,hm⟩:=ez.1 hm
  grind[cS,wU,F7]
 obtain⟨k,ns',G',Ls,bU,r,aG,P,R,S,_⟩:=Pi au d ae (by grind) u (by grind) (by simp) (Q:=λ_ _=>True) λag _ af ah=>PO au d af ah _
 rw[l 0 32 (by omega) (by omega)]at r;have ad:(eJ (List.range E.n)).length=E.n:=by grind[eJ]
 have W:(eA E.n).length=E.n:=by grind[eA]
 have O:=A.rI au d (Gz q) (λe=>by grind) (by omega) (qe rfl (by omega) j) b1 (by simp) r;have K:(cB ns (eA E.n)).1=ns:=by rw[bW]
 have M:(cB ns (eA E.n)).2=D:=by rw[bW]
 have N:=(vH (E:=E) (c:=c)).rI au d (AO z.1) (u5 z.1) (by omega) (qe rfl (by omega) g) B (by simp) (by rw[K,M];exact O);refine⟨_,_,G',Ls,bU,N,?_,P,R,λm hm=>⟨(S m hm).1,λi p r=>?_⟩⟩
 ·have aB:=qt (vs:=eA E.n) λv al=>by
   obtain⟨m,hm,rfl⟩:=cW.1 al
   grind[xf]
  have gj:=qt (vs:=eJ (List.range E.n)) λv al=>by
   obtain⟨m,hm,rfl⟩:=cW.1 al
   grind[c9,mA]
  omega
 grind
end
end
section
open dF dI
section
variable {E:Env}{c:Nat}{A:bn}{ns:List aD}
theorem D_ (au:b8 E)(p:1<=c/\c<6)(s:ns.length=E.n)(q:∀ x ∈ ns,ef E.L c0 x){vs:a_}(al:∀ v ∈ vs,∃ (m a:Nat),m<E.n/\v=cb m a 1/\a+1<=E.L*8/\(32<=a\/a+1<=32)):lH c ns vs/\cB ns vs=(ns,vs.map λv=>d9 v (ns.getD v.node.toNat bq))/\Fit vs (vs.map λv=>d9 v (ns.getD v.node.toNat bq))/\hr E.n E.L vs=0:=by
 have k:=au.e.n;have r:=au.e.L;have d:∀ m,m<E.n->ef E.L c0 (ns.getD m bq):=λm hm=>q _ (b9 (jF (by omega)))
 have j:∀ v ∈ vs,e9 E.n E.L v:=λv h=>by obtain⟨m,a,b,rfl,g,i⟩:=al v h;exact mE k.2 b (by omega) (by omega) (by omega) (by omega) (by omega)
 obtain⟨l,o⟩:=uV (c:=c) (ns:=ns) (vs:=vs) λv h=>by have f:=j v h;obtain⟨m,a,b,rfl,g,i⟩:=al v h;exact⟨by show(m:Int).toNat<ns.length;omega,r3 (by omega) (d m b) p f (t_ (m:=m) (a:=a)),(pu (m:=m) (x:=ns.getD m bq) (a:=a)).1⟩
 refine⟨l,o,uC λv h=>?_,qe rfl k.2 j⟩;obtain⟨m,a,b,rfl,g,i⟩:=al v h;have e:d9 (cb m a 1) (ns.getD (cb m a 1).node.toNat bq)=⟨0,((ns.getD m bq).words.drop a).take 1⟩:=(pu (m:=m) (x:=ns.getD m bq) (a:=a)).2;rw[e];refine⟨rfl,?_⟩;have:=(d m b).len;simp only[lE,pM];show((min 1 _:Nat):Int)=(1:Int);omega
theorem RT (au:b8 E)(a:hQ E A ns):n2 E A ((List.range E.n).map λm=>((ns.getD m bq).words.drop 48).take 120):=by refine⟨by simp,λm L h=>?_⟩;have hm:=cS h;rw[gR,nO]at hm;rw[fQ,si hm]at h;cases h;exact(a.mem m _ (jF (by rw[a.len];exact hm))).fX au
theorem PR (au:b8 E)(ab:1<=c/\c<6)(N:hQ E A ns)(Z:e8 E A)(K:∀ x ∈ ns,ef E.L true x)(g:jP E A\/pY E A):xF E c (λbU W=>W=ns/\(bU.1=2↔jP E A)) ns ((List.range E.n).map λm=>((ns.getD m bq).words.drop 48).take 120):=by
 have ae:=au.e.n;have aB:=au.e.L;have aG:=au.jG;have J:=N.len;have u:=RT au N;have H:=N.mem 0 _ (jF (by omega:0<ns.length));rcases g with g | g
 ·have I:h4 E A:=(Z.l2 0 (by omega) (g.1 0 (by omega))).1;have b:=E8 au u I ⟨0,by omega,g.1 0 (by omega)⟩ (c:=c);have U:jJ E A=[]:=by unfold jJ;rw[List.filter_eq_nil_iff];intro m hm;rw[g.1 m (gS.1 hm)];simp
  have b:∀ X,eO (bC E c) (bj 0) ((List.range E.n).map λm=>((ns.getD m bq).words.drop 48).take 120) X=((2,dt E),jY E X):=λX=>by rw[b X,U,GC]
  have hlen:=au.k2;obtain⟨M,t,ao,av⟩:=D_ au ab J K (vs:=eC (bD E)) λv al=>by obtain⟨p,d,rfl⟩:=cW.1 al;have j:=au.pl d;refine⟨0,bz p*8,by omega,?_,by omega,.inl (by omega)⟩;rw[show p.bt*8=((bz p*8:Nat):Int) by omega]
  have Y:(cB ns (eC (bD E))).2=(eC (bD E)).map λv=>d9 v (ns.getD v.node.toNat bq):=by rw[t]
  have D:h' E (cB ns (eC (bD E))).2=[]:=by
   unfold h' gx;rw[List.flatten_eq_nil_iff];intro l R;obtain⟨i,Q,rfl⟩:=cW.1 R;have Q:=gS.1 Q;obtain⟨p,d⟩:∃ p,(bD E)[i]?=some p:=⟨_,b2 Q⟩;have k:=b9 d;have j:=au.pl k;have O:(cB ns (eC (bD E))).2[i]?=some ⟨0,((ns.getD 0 bq).words.drop (bz p*8)).take 1⟩:=by rw[Y,fQ];unfold eC;rw[fQ,d];simp only[se];rw[show p.bt*8=((bz p*8:Nat):Int) by omega];exact ey some (pu (m:=0) (x:=ns.getD 0 bq) (a:=bz p*8)).2
   have hw:di (cB ns (eC (bD E))).2 i=(ns.getD 0 bq).get (bz p*8):=by unfold di;rw[hO,O];show(((ns.getD 0 bq).words.drop (bz p*8)).take 1).headD 0=_;rw[tK];rfl
   have ah:(bD E).getD i iA=p:=by rw[hO,d];rfl
   unfold pK;rw[hw,ah,aQ];intro e;have:=(H.dR au k (Z.fz 0 (by omega) p k).1).2.1 e;rw[g.2.2 p k]at this;cases this
  have s:iK c E.n E.L (jY E) (jr (eC (bD E))+0) ns [(cB ns (eC (bD E))).2] (cB ns (eC (bD E))).1:=.cons (GD au) (xu au) (by unfold eC;rw[gR];omega) av M .nil;have r:(cB ns (eC (bD E))).1=ns:=by rw[t]
  refine⟨(2,dt E),λX=>by rw[b X],_,_,_,(cB ns (eC (bD E))).2,iK.congr s λG=>by rw[b G],λX=>?_,by rw[r];exact J,by rw[r];exact K,?_,by simp,r,λ_=>g,λ_=>rfl⟩
  ·rw[b];show jY E ((cB ns (eC (bD E))).2::X)=_;rw[F2 au (by rw[Y];exact ao),bh D];rfl
  ·have:=qt (vs:=eC (bD E)) λv al=>by obtain⟨p,d,rfl⟩:=cW.1 al;exact xf (by omega)
   have F:(eC (bD E)).length=(bD E).length:=by unfold eC;rw[gR]
   omega
 ·have T:¬ jP E A:=λh=>by have:=h.1 0 (by omega);rw[g.2.1 0 (by omega)]at this;cases this
  obtain⟨bU,f,b,V,_,aO,q⟩:=E9 au u g.2.1 (c:=c);have af:bU.1=2↔jP E A:=⟨λe=>cp e V,λe=>cp e T⟩;by_cases hu:f=[]
  ·subst hu;exact⟨bU,λX=>by rw[b X],0,[],ns,[],.nil,λX=>by rw[b];exact GF X,J,K,by omega,by simp,rfl,af⟩
  ·have ad:∀ v ∈ fP f,e9 E.n E.L v:=λv al=>by obtain⟨p,d,rfl⟩:=cW.1 al;have:=q p d;exact lo ae.2 (by omega) (by omega) (by omega) (by omega)
   have P:∀ l,96<=l->l<E.L->(ns.getD 0 bq).get (l*8) % 2=0:=λl ag l2=>by
    have I:=au.cf l ag l2;by_cases C:∃ p ∈ bD E,bz p=l
    ·obtain⟨p,d,rfl⟩:=C;have:=H.b6 p d;rw[g.2.2 p d]at this;have:=this 0 (by omega);rw[mJ]at this;rw[this];exact I
    ·have:=H.gb l ag l2 (λp d e=>C ⟨p,d,e⟩) 0 (by omega);rw[mJ]at this;rw[this];exact I
   obtain⟨M,t⟩:=uV (c:=c) (ns:=ns) (vs:=fP f) λv al=>by
    have B:=ad v al;obtain⟨p,d,rfl⟩:=cW.1 al;have j:=q p d;obtain⟨a,y⟩:∃ a:Nat,p.bt=a:=⟨p.bt.toNat,by omega⟩;have e:c9 0 (p.bt*8) (dK p.Head 0) p.Head=c9 0 ((a*8:Nat):Int) (dK p.Head 0) p.Head:=by rw[y];congr 1
    rw[e]at B ⊢;refine⟨by show(0:Int).toNat<ns.length;omega,r3 (by omega) H.aT ab B (mA (m:=0) (a:=a*8)),?_⟩;show eY _ (ns.getD 0 bq)=ns.getD 0 bq;have F:eY (c9 0 ((a*8:Nat):Int) (dK p.Head 0) p.Head) (ns.getD 0 bq)=(ns.getD 0 bq).dr ((a*8:Nat):Int) (dK p.Head 0) p.Head:=(oJ (m:=0) (x:=ns.getD 0 bq) (a:=a*8)).1;rw[F];unfold aD.dr;rw[hD,aQ];intro aP;have aR:=P a (by omega) (by omega);have aV:=Ex p.Head;omega
   have z:Fit (fP f) (cB ns (fP f)).2:=by
    rw[t];refine uC λv al=>?_
    obtain⟨p,d,rfl⟩:=cW.1 al;have j:=q p d;obtain⟨a,y⟩:∃ a:Nat,p.bt=a:=⟨p.bt.toNat,by omega⟩;have e:c9 0 (p.bt*8) (dK p.Head 0) p.Head=c9 0 ((a*8:Nat):Int) (dK p.Head 0) p.Head:=by rw[y];congr 1
    rw[e];have F:d9 (c9 0 ((a*8:Nat):Int) (dK p.Head 0) p.Head) (ns.getD (c9 0 ((a*8:Nat):Int) (dK p.Head 0) p.Head).node.toNat bq)=_:=(oJ (m:=0) (a:=a*8) (o:=dK p.Head 0) (w:=p.Head)).2;rw[F];exact⟨rfl,rfl⟩
   have S:fP f≠[]:=λe=>hu (by unfold fP at e;simpa using e)
   have aH:(fP f).length=f.length:=by unfold fP;rw[gR]
   have s:iK c E.n E.L (mq f) (jr (fP f)+0) ns [(cB ns (fP f)).2] (cB ns (fP f)).1:=.cons (GG hu) S (by omega) (qe rfl ae.2 ad) M .nil;have r:(cB ns (fP f)).1=ns:=by rw[t]
   refine⟨bU,λX=>by rw[b X],_,_,_,(cB ns (fP f)).2,iK.congr s λG=>by rw[b G],λX=>?_,by rw[r];exact J,by rw[r];exact K,?_,by simp,r,af⟩
   ·rw[b];show mq f ((cB ns (fP f)).2::X)=_;rw[F3 hu z];rfl
   ·have:=qt (vs:=fP f) λv al=>by
     obtain⟨p,d,rfl⟩:=cW.1 al;have j:=q p d;obtain⟨a,y⟩:∃ a:Nat,p.bt=a:=⟨p.bt.toNat,by omega⟩;have e:c9 0 (p.bt*8) (dK p.Head 0) p.Head=c9 0 ((a*8:Nat):Int) (dK p.Head 0) p.Head:=by rw[y];congr 1
     rw[e,show c9 0 ((a*8:Nat):Int) (dK p.Head 0) p.Head=c9 ((0:Nat)) ((a*8:Nat):Int) (dK p.Head 0) p.Head from rfl,mA (m:=0) (a:=a*8)];simp
    omega
theorem OQ (au:b8 E)(r:1<=c/\c<6)(q:hQ E A ns)(ab:e8 E A)(ad:iL E A)(ao:A.dM=0)(ae:jP E A\/pY E A) :
  ∃ (k:Nat) (G':a3) (Ls:eE) (bU:Int×Int),Lone dI.conv c E.n E.L (.inr (bC E c)) k ns [] (.inr ⟨0,bU.1,bU.2,fT E.L ((ns.getD 0 bq).get 32) Ls,0⟩) ns G'/\k<=15000/\(bU.1=2↔jP E A)/\Ls.length=E.n/\∀ m,m<E.n->(Ls.getD m []).length=120/\∀ i,i<120->i≠1->(Ls.getD m []).getD i 0=(ns.getD m bq).get (48+i):=by
 have u:=au.e.n;have ag:=au.jG;have I:=q.len;have z:∀ x ∈ ns,ef E.L true x:=λx hm=>by obtain⟨m,hm⟩:=ez.1 hm;have h:=(q.mem m x hm).aT;rw[ad m (by have:=cS hm;omega)]at h;exact h
 have o:∀ m,m<E.n->ef E.L true (ns.getD m bq):=λm hm=>z _ (b9 (jF (by omega)))
 have G:=q.mem 0 _ (jF (by omega:0<ns.length));have b:(ns.getD 0 bq).get 49=0:=(G.dM rfl).trans ao;obtain⟨R,F,S,T⟩:=D_ au r I z (vs:=eA E.n) λv al=>by obtain⟨m,hm,rfl⟩:=cW.1 al;exact⟨m,24,gS.1 hm,rfl,by omega,.inr (by omega)⟩
 have H:(cB ns (eA E.n)).2=(eA E.n).map λv=>d9 v (ns.getD v.node.toNat bq):=by rw[F]
 have M:(cB ns (eA E.n)).1=ns:=by rw[F]
 have C:∀ i,i<E.n->di (cB ns (eA E.n)).2 i=2:=λi d=>by
  have h:(cB ns (eA E.n)).2[i]?=some ⟨0,((ns.getD i bq).words.drop 24).take 1⟩:=by rw[H,fQ];unfold eA;rw[fQ,si d];exact ey some (pu (m:=i) (x:=ns.getD i bq) (a:=24)).2
  unfold di;rw[hO,h];show(((ns.getD i bq).words.drop 24).take 1).headD 0=2;rw[tK];exact(o i d).d0
 have w:j8 E.n (cB ns (eA E.n)).2=[]:=by unfold j8;rw[List.filter_eq_nil_iff];intro i d;rw[C i (gS.1 d)];simp
 have aB:Kp E c ([]++[(cB ns (eA E.n)).2]) (kB E c):=vH.next λX=>by rw[As u.1 (by rw[H];exact S) λi d=>.inr (C i d),w,Gy]
 obtain⟨k,p,G',Ls,bU,U,aH,aO,V,W,Y,Z⟩:=Pi au r aB I z b (by simp) (Q:=λbU p=>p=ns.set 0 ((ns.getD 0 bq).dr 49 0 (dp c))/\(bU.1=2↔jP E A)) λB D aP aG=>by
  have f:(ns.getD 0 bq).dr ((49:Nat):Int) 0 (dp c)={ (ns.getD 0 bq)with words:=(ns.getD 0 bq).words.set 49 (dp c)}:=by unfold aD.dr;rw[hD,bh b]
  have s:hQ E (A.pD (dp c)) B:=by rw[D];show hQ E (A.pD (dp c)) (ns.set 0 ((ns.getD 0 bq).dr ((49:Nat):Int) 0 (dp c)));rw[f];exact q.fD (jF (by omega)) (G.tag au _) λaQ t y av=>av.same (λ_ _=>rfl) rfl rfl rfl rfl λe=>cp e t
  have ah:=PR au r s (ab.tag _) aG ae;rw[<-D];exact ah
 subst Y;have j:=(vH (E:=E) (c:=c)).rI au r (AO u.1) (u5 u.1) (by unfold eA;rw[gR,nO];omega) T R (by simp) (by rw[M];exact U);have g:(cB (ns.set 0 ((ns.getD 0 bq).dr 49 0 (dp c))) (eP c)).1=ns:=by
  have l:0<ns.length:=by omega
  have N:(ns.set 0 ((ns.getD 0 bq).dr 49 0 (dp c))).getD 0 bq=(ns.getD 0 bq).dr 49 0 (dp c):=wU (kX l);show((ns.set 0 ((ns.getD 0 bq).dr 49 0 (dp c))).set 0 (eY (c9 0 49 (dp c) 0) ((ns.set 0 ((ns.getD 0 bq).dr 49 0 (dp c))).getD 0 bq)))=ns;rw[N,zA];have O:eY (c9 0 49 (dp c) 0) ((ns.getD 0 bq).dr 49 0 (dp c))=((ns.getD 0 bq).dr 49 0 (dp c)).dr 49 (dp c) 0:=(oJ (m:=0) (a:=49)).1;rw[O];have af:=(o 0 (by omega)).len;have P:((ns.getD 0 bq).dr 49 0 (dp c)).dr 49 (dp c) 0=ns.getD 0 bq:=by
   have J:(ns.getD 0 bq).dr 49 0 (dp c)={ (ns.getD 0 bq)with words:=(ns.getD 0 bq).words.set 49 (dp c)}:=by unfold aD.dr;exact bh b
   rw[J];unfold aD.dr;have gj:({ (ns.getD 0 bq)with words:=(ns.getD 0 bq).words.set 49 (dp c)}:aD).get (49:Int).toNat=dp c:=by show((ns.getD 0 bq).words.set 49 (dp c)).getD 49 0=_;rw[hO,kX (by omega)];rfl
   rw[bh gj];show({ (ns.getD 0 bq)with words:=((ns.getD 0 bq).words.set 49 (dp c)).set 49 0}:aD)=_;rw[zA];have K:(ns.getD 0 bq).words.set 49 0=(ns.getD 0 bq).words:=jE (by rw[<-b];exact aD.get_some (by omega));rw[K]
  rw[P];exact jE (jF l)
 rw[g]at j;refine⟨_,G',Ls,bU,j,?_,Z,V,W⟩;have:=qt (vs:=eA E.n) λv al=>by obtain⟨m,hm,rfl⟩:=cW.1 al;exact xf (by omega)
 have:(eA E.n).length=E.n:=by unfold eA;rw[gR,nO]
 omega
end
end
section
open dF dI
section
variable {last seq lines:Int}{L:a7}{Ls:eE}
end
end
section
open dF dI
section
variable {n L c m:Nat}{x:aD}
end
end
section
open dF
section
variable {E:Env}{last:Int}{K:Nat->Option a9}{F bE:ay}{g:fp}
end
end
section
open dF
section
variable {E:Env}{last:Int}{K:Nat->Option a9}{F bE:ay}{g:fp}{t:fi}
theorem EL (d:cr F)(f:F.bZ=[])(e:∀ C ∈ F.aF,∀ l ∈ C.az,l.pair.a1=[])(c:Nat):g9 c F:=by
 refine⟨f,λi C _ a j l b=>e C (b9 a) l (b9 b),λC a=>⟨λj l b=>((d.cg.ok.aL c C a).lane j l b).bG,λi j l l' _ b _ k g=>?_⟩,λC a=>?_⟩
 ·have al:=e C (b9 a) l (b9 b);have h:=((d.cg.ok.aL c C a).lane i l b).bG
  grind
 ·have:=(d.cg.ok.aL c C a).az
  grind
end
end
section
open dF dI

end
section
open dF dI
section
variable {E:Env}{j:cJ}{ns:List aD}
end
end
section
open dF dI
section
variable {E:Env}{j:cJ}{ns:List aD}
end
end
section
open dF dI
section
variable {c n L:Nat}{a q:Nat}{w:Int}
end
end
section
open dF dI
section
variable {E:Env}{j:cJ}{ns:List aD}{a m:Nat}
end
end
section
open dF dI
section
variable {E:Env}{j:cJ}{ns:List aD}{a m:Nat}
end
end
section
open dF
section
variable {cv:Conv}
theorem Nl {bp:cv.dV}{ns':List aD}{G':a3}{o:cv.O}{F:ay}{t:bK cv}{a:Int}(u:kv c (F,t))(A:F.aF[c]?=some (fl n c a b))(I:F.nodes.length=n)(E:F.lines=L)(j:t=⟨(c:Int),bp,[],false,false,t.out⟩)(h:Lone cv c n L bp k F.nodes [] o ns' G')(sch:a7)(H:k<most) :
  ∃ f b',dP F [t] sch [] most=(eZ F ns' c (fl n c f b'),[⟨(c:Int),bp,G',true,false,o⟩]):=by
 have e:t.aL=(c:Int):=by rw[j]
 obtain⟨f,b',J⟩:=D9 h (F:=F) (t:=t) A rfl I E e (by rw[j]) (by rw[j]) (by rw[j]);have w:br F t=gG F t:=by
  have y:F.cC (c:Int)=some (fl n c a b):=by grind[g1]
  unfold br;have p:F.alive t.aL=true:=by unfold ay.alive;rw[e,y];rfl
  have g:F.waiting t.aL=0:=by unfold ay.waiting;rw[e,y];rfl
  have D:F.take t.aL=(none,F):=by unfold ay.take;rw[e,y];rfl
  have z:t.en=false:=by rw[j]
  rw[aQ (by grind),D];rfl
 have r:∀ i,jn (cv:=cv) c i (eZ F ns' c (fl n c f b'),⟨t.aL,t.bp,G',true,t.bad,o⟩)=none:=λi=>by
  cases M:jn (cv:=cv) c i (eZ F ns' c (fl n c f b'),⟨t.aL,t.bp,G',true,t.bad,o⟩)with
  |none=>rfl
  |some s=>
   obtain⟨bE,p,_⟩:=nm.1 M;obtain⟨C,l,x,p,g,_,z,_⟩:=iR.1 p;have P:=cS A;have:(eZ F ns' c (fl n c f b')).aF[c]?=some (fl n c f b'):=by grind[eZ,List.getElem?_set_self]
   rw[this]at p;cases p;have g:(hU n c 1)[i]?=some l:=g;unfold hU at g;rw[fQ]at g;cases K:(List.range n)[i]? with
   |none=>grind
   |some q=>rw[K]at g;cases g;exact cp rfl z
 have d:=J.norm (.nil r);rw[<-w,mJ]at d;refine⟨f,b',?_⟩;rw[Mp u d sch H];have N:t.bad=false:=by rw[j]
 have Q:t.bp=bp:=by rw[j]
 have B:∀ G:ay,br G (⟨t.aL,t.bp,G',true,t.bad,o⟩:bK cv)=(G,⟨t.aL,t.bp,G',true,t.bad,o⟩):=λG=>by
  unfold br
  grind
 grind
end
section
variable {n b y:Nat}{last seq:Int}{x:aD}
end
end
end Go.Proofs.YtmkljjbioomepaaGreat
