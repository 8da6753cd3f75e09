import Derived.Test.YtmkljjbioomepaaGreata44
import Derived.Test.YtmkljjbioomepaaGreatProg
import Derived.Test.YtmkljjbioomepaaGreata03
import Derived.Test.YtmkljjbioomepaaGreata02
import Derived.Test.YtmkljjbioomepaaGreatRows
import Derived.WalkKit
import Derived.ProofKit
import Derived.OpenShut
import Derived.Deep.Slices
set_option linter.all false
set_option maxHeartbeats 4000000
set_option maxRecDepth 100000
namespace Go.Proofs.YtmkljjbioomepaaGreat
open Go.Proofs.Tryz Go.b8
variable {F:a9} {P:Program} {X:cF} {args:Array bx} {s9 k:Nat} {e t:TypeId} {held:Bool} {dA:List MemPlace} {r:Reach} {v:bx} {w:av}
section
open mA
def Jo:Nat->a9->List ir->Option (a9×List ir)
 | 0,_,_=>none
 |f+1,F,l=>match turns F l with
  | (ew,l')=>match mv ew [] 0 with
   | (true,jr)=>Jo f jr l'
   | (false,jr)=>some (jr,l')
theorem IR (F:a9) (n:Nat):mv F [] n=mv F [] 0:=by unfold mv t';simp
theorem aaa (cs:bR):∀ (f oI n:Nat) {F:a9} {l:List ir} {e:a9×List ir},Jo f F l=some e->f<=oI->m0 cs [] [] oI n F l=e
 | 0,oI,n,F,l,e,h,aJ=>by cases h
 |f+1,0,n,F,l,e,h,aJ=>by omega
 |f+1,oI+1,n,F,l,e,h,aJ=>by
  unfold Jo at h;unfold m0;have ed:r' F cs n []=F:=rfl;rw [ed,IR];cases aZ:turns F l with
  |mk ew l'=>
   rw [aZ] at h;simp only at h ⊢;cases aA:mv ew [] 0 with
   |mk b jr=>
    rw [aA] at h;cases b with
    |true=>simp only at h ⊢;rw [if_pos trivial];exact aaa cs f oI (n+1) h (by omega)
    |false=>simp only at h ⊢;rw [if_neg (λh=>nomatch h)];exact zf h
def aaR:a9×List ir:=ib (a9.fresh 1 2 101) [vo 1 0] [] [] 3
def aeK (t:ir):Bool:=match t.out with
 | .inl _=>false
 | .inr o=>o.Code == 0 && (o.rR == 3 && o.rO == 2)
def aaQ (e:a9×List ir):Bool:=match e.2 with
 | [t]=>t.ix && (aeK t && match e.1.nodes with
  | [x]=>!x.down && (x.words.length == 808 && x.get 768 == 256)
  | _=>false)
 | _=>false
def aaP:Bool:=match aaR with
 | (ll,ft)=>(match ll.nodes with
  | [x]=>!x.down && (x.words.length == 808 && x.get 768 == 257)
  | _=>false) && (ft.length == 1 && match ll.die 0 with
   | (true,jr)=>(match Jo 60 jr [ua 1 1] with
    |some e=>aaQ e
    |none=>false)
   | (false,_)=>false)
theorem aos:aaP=true:=by kernel_rfl
structure agQ (ll jr xV:a9) (ft:List ir) (t:ir) (ee e7:bt):Prop where
 d1:ib (a9.fresh 1 2 101) [vo 1 0] [] [] 3=(ll,ft)
 u4:ll.nodes=[ee]/\ee.down=false/\ee.words.length=808/\ee.get 768=257
 die:ll.die 0=(true,jr)
 d3:xG jr (ua 1 1)=(xV,[t])
 aew:xV.nodes=[e7]/\e7.down=false/\e7.words.length=808/\e7.get 768=256
 one:∃ t1,ft=[t1]
 ix:t.ix=true
 out:∃ o:f7,t.out=.inr o/\o.Code=0/\o.rR=3/\o.rO=2
theorem aoW:∃ ll jr xV ft t ee e7,agQ ll jr xV ft t ee e7:=by
 have h:=aos;unfold aaP at h;cases af:aaR with
 |mk ll ft=>
 rw [af] at h;simp only [iz] at h;obtain ⟨bc,g3,ak⟩:=h;have a1:∃ ee,ll.nodes=[ee]/\ee.down=false/\ee.words.length=808/\ee.get 768=257:=by
  cases aj:ll.nodes with
  |nil=>rw [aj] at bc;cases bc
  |cons x l=>
   cases l with
   |nil=>rw [aj] at bc;simp only [iz,FC,beq_iff_eq] at bc;exact ⟨x,rfl,bc⟩
   |cons y l=>rw [aj] at bc;cases bc
 obtain ⟨ee,a1⟩:=a1;cases aC:ll.die 0 with
 |mk b jr=>
 rw [aC] at ak;cases b with
 |false=>cases ak
 |true=>
 simp only at ak;cases a':Jo 60 jr [ua 1 1] with
 |none=>rw [a'] at ak;cases ak
 |some e=>
 rw [a'] at ak;obtain ⟨xV,oS⟩:=e;unfold aaQ at ak;simp only at ak;cases oS with
 |nil=>cases ak
 |cons t l=>
 cases l with
 |cons a l=>cases ak
 |nil=>
 simp only [iz] at ak;obtain ⟨aq,rf,ao⟩:=ak;have bf:∃ e7,xV.nodes=[e7]/\e7.down=false/\e7.words.length=808/\e7.get 768=256:=by
  cases aj:xV.nodes with
  |nil=>rw [aj] at ao;cases ao
  |cons x l=>
   cases l with
   |nil=>rw [aj] at ao;simp only [iz,FC,beq_iff_eq] at ao;exact ⟨x,rfl,ao⟩
   |cons y l=>rw [aj] at ao;cases ao
 obtain ⟨e7,bf⟩:=bf;have GH:xG jr (ua 1 1)=(xV,[t]):=by unfold xG ib;rw [aaa _ 60 20000 0 a' (by omega)];exact Wt λhC lz=>by simp at lz;rw [lz];exact aq
 refine ⟨ll,jr,xV,ft,t,ee,e7,af,a1,aC,GH,bf,?_,aq,?_⟩
 ·rw [beq_iff_eq] at g3;exact Ih.1 g3
 unfold aeK at rf;cases B9:t.out with
 |inl o=>rw [B9] at rf;cases rf
 |inr o=>rw [B9] at rf;simp only [iz,beq_iff_eq] at rf;exact ⟨o,rfl,rf⟩
end
section
open mA
theorem R1 (h:X.pure=F) {x:bt} (ao:F.nodes=[x]):∃ y,X.nodes[0]?=some y/\y.n=x:=by rw [<-h] at ao;obtain ⟨y,az,rfl⟩:=Mr (f:=λy:mm=>y.n) (l:=X.nodes) (y:=x) (by simpa [cF.pure] using ao);exact ⟨y,by rw [az];rfl,rfl⟩
theorem anc (h:X.pure=F) (aJ:dK F):X.cN.length<=100000000:=by
 have af:=aJ.le;have al:X.cN.length=F.cN.length:=by rw [<-h];simp [cF.pure]
 omega
theorem agI (n c:Nat):xH (ua n c):=λ_=>by show ([]:List (List a_)).length<=200;simp
section
attribute [local irreducible] ib xG
theorem ane (w:av):bK 14 [] w λv u=>v=.bool true/\ai w u:=by
 obtain ⟨ll,jr,xV,ft,t,qQ,n4,aA⟩:=aoW;obtain ⟨t1,rfl⟩:=aA.one;have bE:hi 0=[96]:=by decide
 have uK:dK (a9.fresh 1 2 101):=dK.fresh (by omega) (by omega) (by omega);have yp:dK ll:=by have:=dK.ib uK [vo 1 0] [] [] 3;rw [aA.d1] at this;exact this
 have z2:dK jr:=by have:=yp.die 0;rw [aA.die] at this;exact this
 refine bO Tryz.func14 ?_;rw [ay7];refine aR (Zj (n:=1) (c:=2) (lines:=101) (by omega) (by omega) (by omega)) ?_;rintro v ct ⟨a3,A,aG,X,rfl,cM,Eh,fB,q5⟩;refine ⟨_,_,rfl,eX rfl ?_⟩;rintro b1 cS bA ki;obtain ⟨bP,a5⟩:=b4 bA ki;have bP:aF cS b1 (is (cm [96])) 3:=bP;clear ki;obtain ⟨e9,pt,U_⟩:=R1 (x:=⟨fmt 101 1,false⟩) q5 rfl;have hlen:e9.n.words.length=808:=by rw [U_];obtain ⟨h,_⟩:=QF (n:=1) (by omega);simp only [Mq,iz,beq_iff_eq] at h;exact h.1
 refine aR (Ya (cM.new a5) (n:=1) (by omega) pt (by rw [U_]) (L:=[96]) (λl au=>by simp at au <;> omega) (by simp) (cc:=1) (jk bP rfl) 0 1) ?_;rintro v b2 ⟨fg,fw,h0,rfl,bf,aw,cV,KZ⟩;have TA:Bu e9.n [96]=[ql 96]:=by have:=Do (n:=1) (y:=0) (by omega) (by omega) U_;rw [bE] at this;exact this
 rw [TA] at cV;have jc:=a5.size;have j2:=bf.size;refine dx.bd (p0 0 1 101 fg fw 1 h0) ⟨true,rfl,?_⟩;refine g0 (vs:=(p0 0 1 101 fg fw 1 h0).cells) rfl (dx.single _) λaP ff cv dL bH=>?_
 refine eX rfl (dx.bd (p0 0 1 101 fg fw 1 h0) ⟨cD dL rfl,?_⟩);rintro bT jP ej KU;obtain ⟨e4,cg⟩:=b4 ej KU;clear KU;have g3:=dL.lt;have yB:=cg.size;have v3:ai b2 jP:=bH.new cg;have uT:ai w b2:=Eh.new (a5.new bf);have k9:c4 A aG b2 a3 X:=cM.new (a5.new bf);have S2:∀ k,A k->k<ct.heap.size:=λk J=>cM.low k J
 have qz:io (λk=>A k\/k=aP) jP (p0 0 1 101 fg fw 1 h0) (vo 1 0):=by
  have atu:vo 1 0=Sl 0 ⟨0,1,101,rD 1,[],[ql 96]⟩:=by unfold vo LA;rw [bE];rfl
  rw [atu];refine YS ((aw.mono λk aK J=>J.resolve_right (by omega)).new v3) (cV.rd.new v3) rfl (by simp) ?_ ?_
  ·exact mK cV.rd λk J ed=>by
    have bs:=KZ _ J;have bI:=cV.lt J;rcases ed with ed | ed
    ·have:=S2 _ ed;omega
    ·omega
  ·have:=Z' (y:=0);rw [bE] at this;exact this
 refine aR (YU k9 v3 (b1:=aP) ⟨by omega,by omega⟩ (by rw [q5];exact uK) qz (agH 1 0) (pc:=1) (jk e4 (by simp)) (sch:=[]) (sa:=none) (sc:=0) ⟨.inl rfl,.inl rfl⟩ (λx ao=>by cases ao) (most:=3) (by omega) (by rw [q5];exact aA.d1)) ?_;rintro v mU ⟨la,lc,r1,Io,Ms,ji,rfl,abB,BD,aEu,_,hI⟩;refine ⟨_,_,_,rfl,?_⟩;obtain ⟨u4,j8,aew,avO⟩:=aA.u4;obtain ⟨ee,su,U'⟩:=R1 BD u4;refine aR (FN abB.dt su (l:=96) (by omega) (by rw [U'];omega) (by rw [U'];exact j8)) ?_;rintro v u8 ⟨rfl,eT⟩;refine a6.bd (ee.n.g6 96) ⟨true,rfl,?_⟩;refine g0 (vs:=(ee.n.g6 96).cells) rfl (a6.single _) λec iy iO kI gJ=>?_
 have abC:=abB.new (eT.new gJ);have arz:(ee.n.g6 96).Head=257:=by have:(ee.n.g6 96).Head=ee.n.get 768:=rfl;rw [this,U',avO]
 refine eX rfl ⟨_,kI.cell (i:=1) rfl,eX (by rw [arz];rfl) ?_⟩;refine aR (aah abC.dt (by rw [BD];exact yp.du.ok) (anc BD yp) 0) ?_;rintro v VW ⟨rfl,ar⟩;rw [BD,aA.die] at ar ⊢;obtain ⟨Ip,aCT,s6,abz,Ol,_,_,_,ap1⟩:=abC.op ar;refine ⟨_,rfl,eX rfl ?_⟩;refine aR (aaz (A:=λk=>Ip k\/k=aP) (λk J=>abz.dt.low k J) (n:=1) (by omega) 1 0) ?_;rintro v vd ⟨ayb,rfl,nN,oP⟩;refine dx.bd (EZ 1 0 ayb) ⟨rfl,?_⟩;have JD:=abz.new nN;refine aR (am' JD.dt (by rw [Ol];exact z2) (t:=ua 1 1) (YT oP ⟨by omega,by omega⟩) (agI 1 1)) ?_;rintro v afP ar;rw [Ol] at ar;obtain ⟨aCW,aFa,aC3,aqa,pf,⟨hC,e1,lz,rfl,ads⟩,_,_,ap2⟩:=JD.op ar;rw [aA.d3] at lz pf;have lz:hC=t:=by simpa using lz.symm
 subst lz;have gM:aF afP aP (p0 0 1 101 fg fw 1 h0).cells 45:=by have af:aF mU aP (p0 0 1 101 fg fw 1 h0).cells 45:=hI.trans (ai.an cg dL);have al:aF VW aP (p0 0 1 101 fg fw 1 h0).cells 45:=(ap1 aP rfl).trans (ai.an (eT.new gJ) af);exact (ap2 aP rfl).trans (ai.an nN al)
 refine dx.bd e1 ⟨rfl,?_⟩;refine gL (vs:=e1.cells) gM rfl (dx.single _) λaE4 u1 D6=>?_
 have abA:=aqa.local D6 λk e=>e
 obtain ⟨wD,nb,EG,Vr⟩:=aA.aew;obtain ⟨e7,Ew,Va⟩:=R1 pf wD;refine aR (FN abA.dt Ew (l:=96) (by omega) (by rw [Va];omega) (by rw [Va];exact nb)) ?_;rintro v aE5 ⟨rfl,pn⟩;refine a6.bd (e7.n.g6 96) ⟨true,rfl,?_⟩;refine g0 (vs:=(e7.n.g6 96).cells) rfl (a6.single _) λjB aE6 ih om uQ=>?_
 have Pt:=ai.an (pn.new uQ) u1;obtain ⟨o,aq,mo,mq,ru⟩:=aA.out;have B9:=ads.out;rw [aq] at B9;obtain ⟨iU,lG,p3,At⟩:=B9;have arA:(e7.n.g6 96).Head=256:=by have:(e7.n.g6 96).Head=e7.n.get 768:=rfl;rw [this,Va,Vr]
 refine ⟨_,Pt.cell (i:=24) rfl,g8 (ads.ix.trans aA.ix) ⟨_,Pt.cell (i:=26) rfl,g8 (by rw [iU,mo];rfl) ⟨_,Pt.cell (i:=33) rfl,g8 (by rw [lG,mq];rfl) ⟨_,Pt.cell (i:=35) rfl,g8 (by rw [At,ru];rfl) (g8 rfl ⟨_,om.cell (i:=1) rfl,?_,?_⟩)⟩⟩⟩⟩
 ·rw [arA];rfl
 ·exact (abA.new (pn.new uQ)).oT k9 uT fB
end
end
section
open IntKind
variable (w:av) (R:dW) {i k l:Int} {s t:ax} {a b c d:Nat}
theorem awh:bS prog f3 [I i,I k,I l,ad s a b,ad t c d] R w=(cond ((a:Int)>100) (R (U true) w) (cond ((c:Int)>200) (R (U true) w) (dI 12 #[I i,I 3] w λf fS=>axz 13 #[I (i64.wrap (f+1)),I k,I l,ad s a b] fS λg h e E=>cond (!e) (R (U false) E) (fu 14 #[] E λH G=>cond (!H) (R (U false) G) (Lr 16 #[I (i64.wrap (f+1)),I 1,ah 0] G λO bG=>bb bG O.cells.toArray 45 λK W=>hJ 15 #[.pointer g,ad (b7 K) 1 1,ad t c d,bC,I 5000] W λA m n F=>cb A m 0 36 λM=>hW F M λr=>bb F #[I 0,I 0,I 0,I 0,I 0,I 0,I 0,ah 0,I 0,I 0,I 0,I 0,bC,bC,bC,I 0,I 0,I 0,I 0,bC,I 0,I 0,ah 0,bC,U false,U false,I 0,I 0,bC,I 0,bC,ah 0,I 0,I 0,I 0,I 0] 45 λC P=>bJ P (ae C 0) 0 r.cells λD=>p4 D (ae C 24) λo=>cond (!o) (R (U false) D) (p4 D (ae C 25) λp=>cond p (R (U false) D) (cQ D (ae C 26) λq=>cond (q != 0) (R (U false) D) (fu 17 #[.pointer g,ad t c d] D λu bF=>cond (!u) (R (U false) bF) (hJ 19 #[I k] bF λj v x S=>axA 18 #[.pointer g,ad j v x] S λy z N B=>cond N (cond y (cQ B (ae C 33) λQ=>cond (((Q:Int) == 2) == y) (cond (!y) (R (U true) B) (cQ B (ae C 35) λV=>R (U ((V:Int) == 2)) B)) (R (U false) B)) (cond z (cond (!h) (cQ B (ae C 33) λL=>cond (((L:Int) == 2) == y) (cond (!y) (R (U true) B) (cQ B (ae C 35) λT=>R (U ((T:Int) == 2)) B)) (R (U false) B)) (R (U false) B)) (R (U false) B))) (R (U false) B)))))))))):=by kernel_rfl
end
section
open mA
theorem akV {n y:Nat} {c:Nat} {ts:List ir} {sure:Bool} {m:Nat} (h:Di n y [c] ts sure F m):∃ t,ts=[t]:=by obtain ⟨_,_,_,_,aC,_⟩:=h;exact Ih.1 (aC.len.trans rfl)
section
attribute [local irreducible] ib
theorem aCB (w:av) {e9 ee e_:Int} {ry tM:ax} {vH Bt:Nat} {sch ord:bR} (aN:gF e9) (af:gF ee) (al:gF e_) (aX:bW w ry (is sch)) (aD:∀ x ∈ sch,gF x) (aq:bW w tM (is ord)) (acV:∀ x ∈ ord,gF x) :
  bK 3 [.int .i64 e9,.int .i64 ee,.int .i64 e_,.slice ry sch.length vH,.slice tM ord.length Bt] w λv u=>v=.bool true/\ai w u:=by
 refine bO Tryz.func3 ?_;rw [awh];refine bL (λh=>⟨rfl,ay.refl _ _⟩) (λ_=>bL (λh=>⟨rfl,ay.refl _ _⟩) (λO2=>?_))
 refine aR (FV _ _ _ aN (by omega)) ?_;rintro v ct ⟨rfl,gx⟩;obtain rfl:w=ct:=gx.symm;rw [if_neg (by omega)];refine ⟨_,rfl,?_⟩;obtain ⟨n,aj,bf⟩:∃ n:Nat,e9 % 3+1=n/\1<=n/\n<=3:=⟨(e9 % 3+1).toNat,by omega,by omega⟩;rw [cn (x:=e9 % 3+1) (by omega) (by omega),aj];refine aR (an1 bf af al aX aD) ?_;obtain ⟨y,az,u0⟩:∃ y:Nat,(ee % 14).toNat=y/\y<14:=⟨(ee % 14).toNat,rfl,by omega⟩;rw [az];rintro v cS ⟨a3,sure,A,aG,X,F,G,B,g,gr,rfl,zR,OB⟩;refine ⟨_,_,_,rfl,eX rfl ?_⟩;refine aR (ane _) ?_;rintro v b2 ⟨rfl,sj⟩;refine ⟨_,rfl,eX rfl ?_⟩;have r7:=zR.oU sj;refine aR (aaz (A:=A) (λk J=>r7.dt.low k J) (n:=n) (by omega) 1 0) ?_;rintro v c6 ⟨fg,rfl,yw,wi⟩;refine dx.bd (EZ 1 0 fg) ⟨rfl,?_⟩;rintro b1 ff bA sr;obtain ⟨dL,GX⟩:=b4 bA sr;clear sr;have ap3:=r7.oU (yw.new GX);have cq:=GE OB (rs:=[1]) (λc ab=>by simp at ab <;> omega);have gn:=air bf u0 (λc ab=>by simp at ab <;> omega) (by simp) cq ord (most:=5000) (by simp);obtain ⟨dw,k_⟩:=gn;have ij:=ap3.apj OB.kT (ts:=[(EZ 1 0 fg,ua n 1)]) (pa:=some ⟨b1,0,none⟩) (pl:=1) (pc:=1) rfl (jk dL (by simp [nj])) (λx ao=>by simp at ao;rw [ao];exact ⟨YT (wi.new GX) ⟨by omega,by omega⟩,agI n 1⟩) (by simp) (sch:=ord) (sa:=tM) (sl:=ord.length) (sc:=Bt) rfl aq acV (most:=5000) (by omega) (tl:=[ua n 1]) rfl;refine aR ij ?_;rintro v jP ⟨la,lc,sO,agL,aFc,aC4,rfl,Oj,yF,KM,Ca,eu,aDo⟩;have dw:Di n y [1] (ib F [ua n 1] ord [] 5000).2 sure (ib F [ua n 1] ord [] 5000).1 2380:=dw;have k_:C1 (ib F [ua n 1] ord [] 5000).2:=k_;generalize ib F [ua n 1] ord [] 5000=R at dw k_ yF Oj;obtain ⟨aCX,sy⟩:=R;simp only at dw k_ yF Oj;obtain ⟨t,rfl⟩:=akV dw;obtain ⟨⟨r,t2⟩,rfl,bg⟩:=Mr yF;have bg:t2=t:=bg;subst bg;have Pg:=Ca (r,t2) (by simp);have ade:=Fn bf u0 (λc ab=>by simp at ab <;> omega) dw k_;have ob:=(ade.1 t2 (by simp)).1;obtain ⟨fJ,v6,fM,aEV,_,_,ast,_⟩:=ade.2.2 rfl t2 (by simp);refine ⟨_,_,_,rfl,hq (cells:=λx:h8×dB conv=>x.1.cells) (λx=>dx.len x.1) (by omega) KM (i:=0) (x:=(r,t2)) rfl rfl rfl λb o ab _=>dx.bd r ⟨ab,?_⟩⟩;refine g0 (vs:=r.cells) rfl (dx.single _) λaP mU cv fQ asc=>?_
 have ap4:=Oj.oU asc;have Ty:r.Code=0:=by have:=Pg.out;rw [ast] at this;exact this.1
 refine ⟨_,fQ.cell (i:=24) rfl,eX (by rw [Pg.ix,k_ t2 (by simp)];rfl) ⟨_,fQ.cell (i:=25) rfl,eX (Pg.bad.trans ob) ⟨_,fQ.cell (i:=26) rfl,eX (by rw [Ty];rfl) ?_⟩⟩⟩;refine aR (ana ap4 (aiq bf u0 (λc ab=>by simp at ab <;> omega)) dw (by omega) aq acV (by omega)) ?_;rintro v u8 ⟨rfl,aCV,aFd,aC5,aCY,aEL,ap5,as7,fe,aDp⟩;refine ⟨_,rfl,eX rfl ?_⟩;have aqs:¬ agL aP:=λed=>by have:=Oj.dt.low aP ed;omega
 have gN:=fe.an fQ aqs;refine aR (YR af) ?_;rw [az];rintro v iy ⟨mX,cc,rfl,m5,acO⟩;refine ⟨_,_,_,rfl,?_⟩;obtain ⟨x5,qK,s8,aeW,apS,atr,asu,KW,UH,_⟩:=(Fn bf u0 (λc ab=>by simp at ab <;> omega) as7 k_).2.2 rfl t2 (by simp);have S8:=ap5.oU acO;refine aR (ajy S8.dt bf u0 (b:=x5) (by rw [S8.pure];exact apS) m5) ?_;rintro v VW ⟨rfl,acP⟩;refine ⟨_,_,_,rfl,g8 rfl ?_⟩;have tC:=ai.an (acO.new acP) gN;have BZ:ai w VW:=S8.new.new acP;have U0:r.rR=qK/\r.rO=aeW:=by have:=Pg.out;rw [asu] at this;exact ⟨this.2.1,this.2.2.2⟩
 cases x5 with
 |true=>have bY:qK=2:=KW.2 rfl;have bg:aeW=2:=UH rfl;refine g8 rfl ⟨_,tC.cell (i:=33) rfl,g8 (by rw [U0.1,bY];rfl) (eX rfl ⟨_,tC.cell (i:=35) rfl,?_,BZ⟩)⟩;rw [U0.2,bg];rfl
 |false=>
  have bY:qK≠2:=λe=>by have:=KW.1 e;cases this
  have bg:sure=false:=by
   cases G7:sure with
   |false=>rfl
   |true=>have:=atr G7;cases this
  refine eX rfl (g8 rfl (g8 (by rw [bg];rfl) ⟨_,tC.cell (i:=33) rfl,g8 ?_ (g8 rfl ⟨rfl,BZ⟩)⟩));rw [U0.1];have:(qK == 2)=false:=by simpa using bY
  rw [this];rfl
end
end
section
open Go.ChangeShapes Go.WideShapes Go.ChangeAt Go.RowKit
theorem laid:laidOutB prog=true:=by kernel_rfl
theorem an2:ownKnob prog.godebug=none:=by kernel_rfl
theorem af9 {H:Type} {enc:TypeId×bx->H} {W W':av} {sp:Nat->Bool}:∀ {ts:List TypeId} {vs:aH} {ds:List (DataW H)} {dA:List MemPlace},(∀ t ∈ ts,prog.readableRec t=true/\t<prog.types.size)->DataW.TrodAll enc prog W 0 (λ_=>true) true ts vs ds dA->
  (∀ p ∈ dA,W.sameAt W' p)->(∀ p ∈ dA,sp p.block=true)->DataW.TrodAll enc prog W' 0 sp true ts vs ds dA
 | [],_,_,_,_,h,_,_=>by obtain ⟨rfl,rfl,rfl⟩:=trodAll_nil h;exact trodAll_mk0
 |t::ts,_,_,_,aZ,h,aX,ar=>by obtain ⟨v,aE7,d,aDf,a,b,rfl,rfl,rfl,af,al⟩:=trodAll_cons h;refine trodAll_cons_mk (WideElems.Trod_stays laid (aZ t iA).1 (aZ t iA).2 af (λp aM=>aX p (Mo _ aM)) λp aM=>ar p (Mo _ aM)) ?_;exact af9 (λt h=>aZ t (jz _ h)) al (λp aM=>aX p (List.mem_append_right _ aM)) λp aM=>ar p (List.mem_append_right _ aM)
theorem akW {H:Type} {enc:TypeId×bx->H} {f:Func} {s:ChangeSpec} {apart:Bool} {W W':av} {ds gs:List (DataW H)} {before:List MemPlace} {tb:TypeId} (ig:DataW.Whole enc prog f.params.toList s.vars apart W args.toList ds gs before)
  (ak:Go.b8.ai W W') (yF:∀ t ∈ f.params.toList,prog.readableRec t=true/\t<prog.types.size) (aw:s.vars=[]) (D2:s.fn H (ds++gs)={ results:=[.lit (.bool true)],args:=ds }) (aA:f.resultTypes=#[tb]) (Ag:prog.underlying tb=some .bool) :
  s.post enc prog f apart true false false W args (.bool true) W':=by
 have hy:Go.RowKit.Below W.heap.size W W':=ak.below (eJ _) λ_ _ h=>h
 have aK:=ig.lt;have aqg:=ig;obtain ⟨p,q,fB,zS,rfl,arl,ra⟩:=ig;refine ⟨ds,gs,p++q,[],p,[],aqg,?_,?_,?_,hy.frame _,λh=>by cases h⟩
 ·rw [D2,aA];exact trodAll_cons_mk (shut_bool Ag _) trodAll_mk0
 ·rw [D2];exact af9 yF fB (λx ao=>hy.same (aK x (Mo _ ao))) λx ao=>by simpa using aK x (Mo _ ao)
 ·rw [D2,aw];rfl
theorem M1 {n:Int} (h:(Lit.int .i64 n).wf=true):gF n:=by have:=bounds_i64 h;exact ⟨this.1,by omega⟩
end
section
open Go.ChangeShapes Go.WideShapes Go.ChangeAt Go.RowKit
theorem YW {sz:Nat} (aN:0<sz):∀ {rows:List aH} {j:Nat} {u:bx},(∀ r ∈ rows,r.length=sz)->rows.flatten[j]?=some u->∃ r,rows[j / sz]?=some r/\r[j % sz]?=some u
 | [],j,u,_,h=>by simp at h
 |r::rows,j,u,aA,h=>by
  have au:=aA r iA;rw [l7,CY] at h;by_cases c_:j<sz
  ·rw [if_pos (by omega)] at h;exact ⟨r,by rw [Nat.div_eq_of_lt c_];rfl,by rw [Ia c_];exact h⟩
  ·rw [if_neg (by omega),au] at h;obtain ⟨e1,af,al⟩:=YW aN (λr O9=>aA r (jz _ O9)) h;have bY:j / sz=(j - sz) / sz+1:=by rw [Nat.div_eq_sub_div aN (by omega)]
   have bg:j % sz=(j - sz) % sz:=by rw [Nat.mod_eq_sub_mod (by omega)]
   exact ⟨e1,by rw [bY];simpa using af,by rw [bg];exact al⟩
theorem ajz {a:bh} (h:w.cell? a=some v):a.spot=none:=by
 cases aX:a.spot with
 |none=>rfl
 |some s=>exfalso;unfold World.cell? at h;simp only [aX,Option.isSome_some,if_true] at h;split at h<;>simp_all
theorem ais {H:Type} {enc:TypeId×bx->H} {W:av} {fuel:Nat} {cs:aH} {x:DataW H×List MemPlace} (aZ:P.underlying t=some (.slice e)) (ab:P.cellsOf e=k) (J:0<k)
  (aJ:DataW.trod enc P W 0 (λ_=>true) held fuel t cs=some x):∃ a cap rows,cs=[.slice a (List.length rows) cap]/\rows.length<=cap/\bW W a rows.flatten/\∀ r ∈ rows,r.length=k/\∃ fuel x,DataW.trod enc P W 0 (λ_=>true) held fuel e r=some x:=by
 rcases Deep.open_slice aZ aJ with ⟨af,_⟩ | ⟨ch,len,cap,m,n,D,aoy,af,_,aL,_,c9,_,i'⟩
 ·exact ⟨none,0,[],af,eJ _,.inl rfl,λx ao=>by cases ao⟩
 ·subst af;have hm:len<=m:=by rw [c9];simp;omega
  obtain ⟨f,OF⟩:=Deep.choose_lt (α:=aH) (p:=λi cs=>W.cells? 0 (ch.add (i * k)) k=some cs/\DataW.trod enc P W 0 (λ_=>true) held n e cs=some (D i,aoy i)) (n:=m) (λi aD=>by obtain ⟨cs,bs,bI⟩:=i' i aD;rw [ab] at bs;exact ⟨cs,bs,bI⟩)
  have KM:∀ (i:Nat) (r:aH),((List.range len).map f)[i]?=some r->i<len/\r=f i:=by intro i r aA;have aD:=dy aA;simp at aD;simp [aD] at aA;exact ⟨aD,aA.symm⟩
  have acA:∀ r ∈ (List.range len).map f,r.length=k:=by intro r aA;obtain ⟨i,aD⟩:=hn.1 aA;obtain ⟨aD,rfl⟩:=KM i r aD;exact (World.cells?_some (OF i (by omega)).1).2.1
  refine ⟨some ch,cap,(List.range len).map f,by simp,by simpa using aL,?_,λr aA=>⟨acA r aA,?_⟩⟩
  ·by_cases aN:len=0
   ·subst aN;exact .inl rfl
   ·have jl:∀ (i q:Nat) (u:bx),i<len->(f i)[q]?=some u->q<k->W.cell? (ch.add (i * k+q))=some u:=by intro i q u aD aM KL;have:=(World.cells?_some (OF i (by omega)).1).2.2 q KL;rw [Deep.add_add] at this;rw [this,aM]
    have uK:=(World.cells?_some (OF 0 (by omega)).1).2.1;have aX:ch.spot=none:=by have hj:=jl 0 0 _ (by omega) (cp (by omega)) J;have:=ajz hj;simpa [Addr.add] using this
    refine .inr ⟨ch.block,ch.off,by cases ch;simp_all,λj u hu=>?_⟩;obtain ⟨r,bs,bI⟩:=YW J acA hu;obtain ⟨aD,rfl⟩:=KM _ _ bs;have hj:=jl (j / k) (j % k) u aD bI (Nat.mod_lt _ J);rw [Mc,Nat.div_add_mod] at hj;rw [<-hj];unfold Addr.add;split
    ·rename_i aN;subst aN;cases ch;simp_all
    ·cases ch;simp_all
  ·obtain ⟨i,aD⟩:=hn.1 aA;obtain ⟨aD,rfl⟩:=KM i r aD;exact ⟨n,_,(OF i (by omega)).2⟩
theorem ajA {H:Type} {enc:TypeId×bx->H} {W:av} {d:DataW H} (aZ:P.underlying t=some (.slice e)) (ab:P.cellsOf e=k) (J:0<k) (il:Value.okWide P W r s9 t v)
  (aC:DataW.Trod enc P W 0 (λ_=>true) held t v d dA):∃ a cap rows,v=.slice a (List.length rows) cap/\bW W a rows.flatten/\∀ r ∈ rows,r.length=k/\∃ fuel x,DataW.trod enc P W 0 (λ_=>true) held fuel e r=some x:=by
 obtain ⟨a,len,cap,rfl⟩:=okWide_slice aZ il;obtain ⟨fuel,aJ⟩:=aC;obtain ⟨cB,bU,rows,af,_,al,aL⟩:=ais aZ ab J aJ;have yf:[Value.slice a len cap]=[.slice cB rows.length bU]:=af;simp at yf;obtain ⟨rfl,rfl,rfl⟩:=yf;exact ⟨_,_,_,rfl,al,aL⟩
theorem Yb {H:Type} {enc:TypeId×bx->H} {W:av} {d:DataW H} (aZ:P.underlying t=some (.slice e)) (he:P.underlying e=some (.int .i64)) (ab:P.cellsOf e=1) (il:Value.okWide P W r s9 t v)
  (aC:DataW.Trod enc P W 0 (λ_=>true) held t v d dA):∃ a cap xs,v=.slice a (List.length xs) cap/\bW W a (is xs)/\∀ x ∈ xs,gF x:=by
 obtain ⟨a,cap,rows,rfl,af,al⟩:=ajA aZ ab (by omega) il aC;have hint:∀ r ∈ rows,∃ n,r=[.int .i64 n]/\gF n:=by intro r aA;obtain ⟨_,fuel,x,ao⟩:=al r aA;obtain ⟨n,e,_,w⟩:=DataW.trod_int he ao;exact ⟨n,e,M1 w⟩
 clear al;have key:∀ rows:List aH,(∀ r ∈ rows,∃ n,r=[Value.int .i64 n]/\gF n)->∃ xs:bR,rows.length=xs.length/\rows.flatten=is xs/\∀ x ∈ xs,gF x:=by
  intro rows;induction rows with
  |nil=>intro _;exact ⟨[],rfl,rfl,λx ao=>by cases ao⟩
  |cons r rows c5=>
   intro h;obtain ⟨n,rfl,aj⟩:=h r iA;obtain ⟨xs,bs,bI,dd⟩:=c5 λr aA=>h r (jz _ aA)
   refine ⟨n::xs,by simp [bs],by simp [is,bI],λx ao=>?_⟩;rcases iF.1 ao with rfl | ao
   ·exact aj
   ·exact dd x ao
 obtain ⟨xs,bs,bI,dd⟩:=key rows hint;exact ⟨a,cap,xs,by rw [bs],by rw [<-bI];exact af,dd⟩
end
section
open Go.ChangeShapes Go.WideShapes Go.ChangeAt Go.RowKit
theorem ahH {H:Type} {enc:TypeId×bx->H} {base:Nat} {spare:Nat->Bool} {hC afL t3 t4:TypeId} {ds:List (DataW H)} (h:DataW.TrodAll enc P w base spare held [t,hC,afL,t3,t4] args.toList ds dA) :
  ∃ v bX Qp fv v4 d gA NH d3 d4 p p' P_ ry tM,args=#[v,bX,Qp,fv,v4]/\ds=[d,gA,NH,d3,d4]/\dA=p++p'++P_++ry++tM/\DataW.Trod enc P w base spare held t v d p/\DataW.Trod enc P w base spare held hC bX gA p'/\DataW.Trod enc P w base spare held afL Qp NH P_/\DataW.Trod enc P w base spare held t3 fv d3 ry/\DataW.Trod enc P w base spare held t4 v4 d4 tM:=by
 obtain ⟨v,vs,d,apl,p,q,aDx,rfl,rfl,aC,ata⟩:=trodAll_cons h;obtain ⟨bX,im,gA,aDe,p',dZ,rfl,rfl,rfl,pj,atb⟩:=trodAll_cons ata;obtain ⟨Qp,w6,NH,aDi,P_,aEU,rfl,rfl,rfl,aqW,atc⟩:=trodAll_cons atb;obtain ⟨fv,aE8,d3,aDg,ry,p3,rfl,rfl,rfl,GH,atd⟩:=trodAll_cons atc;obtain ⟨v4,aE9,d4,aDh,tM,At,rfl,rfl,rfl,TG,ate⟩:=trodAll_cons atd;obtain ⟨rfl,rfl,rfl⟩:=trodAll_nil ate;exact ⟨v,bX,Qp,fv,v4,d,gA,NH,d3,d4,p,p',P_,ry,tM,by cases args;simp_all,rfl,by simp,aC,pj,aqW,GH,TG⟩
theorem akX (os:Os) (started:os.Started) (H:Type) (enc:TypeId×bx->H) :
  ReturnsInHanded {} Tryz.checked os 3 .any (Rows.recoveryCutsSpec.pre6 enc prog f3 Rows.recoveryCutsRow.domain false) (Rows.recoveryCutsSpec.post enc prog f3 false true false false):=by
 refine returnsInHanded_of_change (C:=Tryz.checked) an2 started (by kernel_rfl) Tryz.func3
  (ChangeSpec.witness6 (enc:=enc) (C:=Tryz.checked) false ⟨#[],#[.int .i64 0,.int .i64 0,.int .i64 0,.slice none 0 0,.slice none 0 0],[]⟩ 8 (by kernel_rfl) (by kernel_rfl) (by kernel_rfl) (by kernel_rfl)) ?_
 intro W base args ds gs before atC ig aDL _;have il:∀ (j:Nat) t v,f3.params[j]?=some t->args[j]?=some v->Value.okWide prog W .any base t v:=atC;have aqf:=ig;obtain ⟨p,q,apP,zS,rfl,arl,ra⟩:=ig;have fB:DataW.TrodAll enc prog W 0 (λ_=>true) true f3.params.toList args.toList ds p:=apP;rw [Tryz.params3] at fB il;obtain ⟨v0,v1,v2,fv,v4,d0,d1,d2,d3,d4,hV,nm,hr,ry,tM,rfl,rfl,rfl,aN,af,al,aL,ca⟩:=ahH fB;obtain ⟨rfl,rfl⟩:=trodVars_none zS;obtain ⟨Dq,rfl,_,_,w0⟩:=open_int Tryz.underlying3 (il 0 _ v0 rfl rfl) aN;obtain ⟨dr,rfl,_,_,w1⟩:=open_int Tryz.underlying3 (il 1 _ v1 rfl rfl) af;obtain ⟨c2,rfl,_,_,aS⟩:=open_int Tryz.underlying3 (il 2 _ v2 rfl rfl) al;obtain ⟨eA,vH,oS,rfl,nZ,aY⟩:=Yb Tryz.underlying22 Tryz.underlying3 (by kernel_rfl) (il 3 _ fv rfl rfl) aL;obtain ⟨hE,Bt,wz,rfl,sJ,bZ⟩:=Yb Tryz.underlying22 Tryz.underlying3 (by kernel_rfl) (il 4 _ v4 rfl rfl) ca;refine (aCB W (M1 w0) (M1 w1) (M1 aS) nZ aY sJ bZ).mono λe W' ⟨x,he,ao,a'⟩=>?_
 subst he ao;refine ⟨_,rfl,akW aqf a' (by rw [Tryz.params3];decide +kernel) rfl rfl (tb:=4) (by kernel_rfl) Tryz.underlying4⟩
theorem ao':Rows.recoveryCutsRow.wf (OpenSpec.ofChange Rows.recoveryCutsSpec)=true:=by kernel_rfl
theorem apa:mapsRowed prog=true:=by kernel_rfl
theorem apb:f3.params.all (prog.readableRec ·)=true:=by kernel_rfl
theorem apc:namedTie prog Rows.recoveryCutsRow.named Rows.recoveryCutsSpec.vars=true:=by kernel_rfl
theorem apd:(Rows.recoveryCutsRow.inPlace == prog.inPlace 3)=true:=by kernel_rfl
theorem ape:(Rows.recoveryCutsRow.unfollowed == prog.unfollowed 3)=true:=by kernel_rfl
theorem apf:(Rows.recoveryCutsRow.recurses == prog.recurses 3)=true:=by kernel_rfl
theorem apg:(Rows.recoveryCutsRow.named == prog.varsNamed 3)=true:=by kernel_rfl
theorem akY:joinedFacts prog 3 f3 Rows.recoveryCutsSpec Rows.recoveryCutsRow=true:=by unfold joinedFacts;rw [ao',laid,apa,apb,apc,apd,ape,apf,apg];kernel_rfl
theorem aot:Rows.recoveryCutsRow.holds Tryz.pinned (OpenSpec.ofChange Rows.recoveryCutsSpec):=
 OpenClaim.holds_of_wide 3 f3 rfl rfl rfl rfl rfl rfl rfl ⟨rfl,rfl,rfl,rfl,rfl⟩ rfl rfl rfl rfl rfl (by kernel_rfl) Tryz.func3 akY
  (of_decide_eq_true (by kernel_rfl)) (by unfold Func.isWrapper;first | (rw [if_pos (by decide +kernel)];kernel_rfl) | (rw [if_neg (by decide +kernel)];exact ⟨rfl,rfl⟩))
  (λos started H enc _=>akX os started H enc)
theorem recoveryCuts_holds:Rows.RecoveryCutsSaid:=aot
#print axioms recoveryCuts_holds
end
end Go.Proofs.YtmkljjbioomepaaGreat
