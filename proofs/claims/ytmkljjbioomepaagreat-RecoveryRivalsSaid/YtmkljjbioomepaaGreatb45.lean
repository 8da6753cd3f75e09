import Derived.Test.YtmkljjbioomepaaGreatb44
import Derived.Test.YtmkljjbioomepaaGreatProg
import Derived.Test.YtmkljjbioomepaaGreatb03
import Derived.Test.YtmkljjbioomepaaGreatb02
import Derived.Test.YtmkljjbioomepaaGreatRows
import Derived.WalkKit
import Derived.ProofKit
import Derived.OpenShut
import Derived.Deep.Slices
set_option linter.all false
set_option maxHeartbeats 4000000
set_option maxRecDepth 100000
namespace Go.Proofs.YtmkljjbioomepaaGreat
open Go.Proofs.Tryz Go.bu
variable {F:aN} {P:Program} {X:bL} {args:Array a2} {kU k:Nat} {e t:TypeId} {held:Bool} {ch:List MemPlace} {r:Reach} {v:a2} {w:ak}
section
open hh
def uq:Nat->aN->List e4->Option (aN×List e4)
 | 0,_,_=>none
 |f+1,F,l=>match turns F l with
  | (cJ,l')=>match hd cJ [] 0 with
   | (true,a)=>uq f a l'
   | (false,a)=>some (a,l')
theorem Kx (F:aN) (n:Nat):hd F [] n=hd F [] 0:=by unfold hd lo;simp
theorem EA (cs:bd):∀ (f a n:Nat) {F:aN} {l:List e4} {e:aN×List e4},uq f F l=some e->f<=a->hB cs [] [] a n F l=e
 | 0,a,n,F,l,e,h,c=>by cases h
 |f+1,0,n,F,l,e,h,c=>by omega
 |f+1,a+1,n,F,l,e,h,c=>by
  unfold uq at h;unfold hB;have d:ku F cs n []=F:=rfl;rw [d,Kx];cases i:turns F l with
  |mk cJ l'=>
   rw [i] at h;simp only at h ⊢;cases g:hd cJ [] 0 with
   |mk b j=>
    rw [g] at h;cases b with
    |true=>simp only at h ⊢;rw [if_pos trivial];exact EA cs f a (n+1) h (by omega)
    |false=>simp only at h ⊢;rw [if_neg (λh=>nomatch h)];exact nX h
def E':aN×List e4:=eV (aN.fresh 1 2 101) [lZ 1 0] [] [] 3
def F_ (t:e4):Bool:=match t.out with
 | .inl _=>false
 | .inr o=>o.Code == 0 && (o.jZ == 3 && o.jV == 2)
def E_ (e:aN×List e4):Bool:=match e.2 with
 | [t]=>t.e0 && (F_ t && match e.1.nodes with
  | [x]=>!x.down && (x.words.length == 808 && x.get 768 == 256)
  | _=>false)
 | _=>false
def E9:Bool:=match E' with
 | (a,dd)=>(match a.nodes with
  | [x]=>!x.down && (x.words.length == 808 && x.get 768 == 257)
  | _=>false) && (dd.length == 1 && match a.die 0 with
   | (true,b)=>(match uq 60 b [iK 1 1] with
    |some e=>E_ e
    |none=>false)
   | (false,_)=>false)
theorem Pt:E9=true:=by kernel_rfl
structure HH (zb C9 C_:aN) (dd:List e4) (t:e4) (x9 x_:aZ):Prop where
 d1:eV (aN.fresh 1 2 101) [lZ 1 0] [] [] 3=(zb,dd)
 lM:zb.nodes=[x9]/\x9.down=false/\x9.words.length=808/\x9.get 768=257
 die:zb.die 0=(true,C9)
 d3:mQ C9 (iK 1 1)=(C_,[t])
 F2:C_.nodes=[x_]/\x_.down=false/\x_.words.length=808/\x_.get 768=256
 one:∃ t1,dd=[t1]
 e0:t.e0=true
 out:∃ o:dA,t.out=.inr o/\o.Code=0/\o.jZ=3/\o.jV=2
theorem PQ:∃ q s r dd t f g,HH q s r dd t f g:=by
 have h:=Pt;unfold E9 at h;cases C:E' with
 |mk q dd=>
 rw [C] at h;simp only [e1] at h;obtain ⟨i,u,d⟩:=h;have k:∃ f,q.nodes=[f]/\f.down=false/\f.words.length=808/\f.get 768=257:=by
  cases j:q.nodes with
  |nil=>rw [j] at i;cases i
  |cons x l=>
   cases l with
   |nil=>rw [j] at i;simp only [e1,rq,beq_iff_eq] at i;exact ⟨x,rfl,i⟩
   |cons y l=>rw [j] at i;cases i
 obtain ⟨f,k⟩:=k;cases ar:q.die 0 with
 |mk b s=>
 rw [ar] at d;cases b with
 |false=>cases d
 |true=>
 simp only at d;cases B:uq 60 s [iK 1 1] with
 |none=>rw [B] at d;cases d
 |some e=>
 rw [B] at d;obtain ⟨r,iC⟩:=e;unfold E_ at d;simp only at d;cases iC with
 |nil=>cases d
 |cons t l=>
 cases l with
 |cons a l=>cases d
 |nil=>
 simp only [e1] at d;obtain ⟨D,c,p⟩:=d;have n:∃ g,r.nodes=[g]/\g.down=false/\g.words.length=808/\g.get 768=256:=by
  cases j:r.nodes with
  |nil=>rw [j] at p;cases p
  |cons x l=>
   cases l with
   |nil=>rw [j] at p;simp only [e1,rq,beq_iff_eq] at p;exact ⟨x,rfl,p⟩
   |cons y l=>rw [j] at p;cases p
 obtain ⟨g,n⟩:=n;have A:mQ s (iK 1 1)=(r,[t]):=by unfold mQ eV;rw [EA _ 60 20000 0 B (by omega)];exact AT λE w=>by simp at w;rw [w];exact D
 refine ⟨q,s,r,dd,t,f,g,C,k,ar,A,n,?_,D,?_⟩
 ·rw [beq_iff_eq] at u;exact vh.1 u
 unfold F_ at c;cases z:t.out with
 |inl o=>rw [z] at c;cases c
 |inr o=>rw [z] at c;simp only [e1,beq_iff_eq] at c;exact ⟨o,rfl,c⟩
end
section
open hh
theorem zn (h:X.pure=F) {x:aZ} (a:F.nodes=[x]):∃ y,X.nodes[0]?=some y/\y.n=x:=by rw [<-h] at a;obtain ⟨y,b,rfl⟩:=vC (f:=λy:g'=>y.n) (l:=X.nodes) (y:=x) (by simpa [bL.pure] using a);exact ⟨y,by rw [b];rfl,rfl⟩
theorem Nx (h:X.pure=F) (a:cp F):X.bP.length<=100000000:=by
 have b:=a.le;have c:X.bP.length=F.bP.length:=by rw [<-h];simp [bL.pure]
 omega
theorem AJ (n c:Nat):mR (iK n c):=λ_=>by show ([]:List (List aO)).length<=200;simp
section
attribute [local irreducible] eV mQ
theorem Ny (w:ak):a9 14 [] w λv u=>v=.bool true/\ai w u:=by
 obtain ⟨WF,WG,Xe,dd,t,Xr,Xs,p⟩:=PQ;obtain ⟨t1,rfl⟩:=p.one;have Wf:ej 0=[96]:=by decide
 have W:cp (aN.fresh 1 2 101):=cp.fresh (by omega) (by omega) (by omega);have I:cp WF:=by have:=cp.eV W [lZ 1 0] [] [] 3;rw [p.d1] at this;exact this
 have Wl:cp WG:=by have:=I.die 0;rw [p.die] at this;exact this
 refine bc Tryz.func14 ?_;rw [UF];refine aC (DL (n:=1) (c:=2) (lines:=101) (by omega) (by omega) (by omega)) ?_;rintro v bE ⟨aI,A,aw,X,rfl,We,V3,WJ,Wg⟩;refine ⟨_,_,rfl,cV rfl ?_⟩;rintro b1 Xa Wh V8;obtain ⟨M,r⟩:=bl Wh V8;have M:av Xa b1 (is (bB [96])) 3:=M;clear V8;obtain ⟨WD,Wt,f⟩:=zn (x:=⟨fmt 101 1,false⟩) Wg rfl;have hlen:WD.n.words.length=808:=by rw [f];obtain ⟨h,_⟩:=x8 (n:=1) (by omega);simp only [vp,e1,beq_iff_eq] at h;exact h.1
 refine aC (Cz (We.new r) (n:=1) (by omega) Wt (by rw [f]) (L:=[96]) (λl WN=>by simp at WN <;> omega) (by simp) (cc:=1) (fm M rfl) 0 1) ?_;rintro v bk ⟨c6,df,eN,rfl,J,al,b,Ws⟩;have Wk:pk WD.n [96]=[jC 96]:=by have:=CA (n:=1) (y:=0) (by omega) (by omega) f;rw [Wf] at this;exact this
 rw [Wk] at b;have WR:=r.size;have WS:=J.size;refine cj.aR (jm 0 1 101 c6 df 1 eN) ⟨true,rfl,?_⟩;refine ea (vs:=(jm 0 1 101 c6 df 1 eN).cells) rfl (cj.single _) λaA Xp WK N Wo=>?_
 refine cV rfl (cj.aR (jm 0 1 101 c6 df 1 eN) ⟨bJ N rfl,?_⟩);rintro Xi WC Wi V9;obtain ⟨Ww,K⟩:=bl Wi V9;clear V9;have WO:=N.lt;have WT:=K.size;have d:ai bk WC:=Wo.new K;have V4:ai w bk:=V3.new (r.new J);have O:b2 A aw bk aI X:=We.new (r.new J);have H:∀ k,A k->k<bE.heap.size:=λk D=>We.low k D
 have Wq:ip (λk=>A k\/k=aA) WC (jm 0 1 101 c6 df 1 eN) (lZ 1 0):=by
  have Wp:lZ 1 0=zL 0 ⟨0,1,101,kc 1,[],[jC 96]⟩:=by unfold lZ uW;rw [Wf];rfl
  rw [Wp];refine Dj ((al.mono λk WP D=>D.resolve_right (by omega)).new d) (b.rd.new d) rfl (by simp) ?_ ?_
  ·exact hn b.rd λk D Wd=>by
    have Xl:=Ws _ D;have Xm:=b.lt D;rcases Wd with Wd | Wd
    ·have:=H _ Wd;omega
    ·omega
  ·have:=Ez (y:=0);rw [Wf] at this;exact this
 refine aC (Fn O d (b1:=aA) ⟨by omega,by omega⟩ (by rw [Wg];exact W) Wq (Hv 1 0) (pc:=1) (fm Ww (by simp)) (sch:=[]) (sa:=none) (sc:=0) ⟨.inl rfl,.inl rfl⟩ (λx WV=>by cases WV) (most:=3) (by omega) (by rw [Wg];exact p.d1)) ?_;rintro v Xb ⟨la,lc,r1,Xc,Xt,Xf,rfl,S,q,WU,_,Wj⟩;refine ⟨_,_,_,rfl,?_⟩;obtain ⟨lM,fR,F2,WZ⟩:=p.lM;obtain ⟨Wb,Wu,g⟩:=zn q lM;refine aC (rF S.cd Wu (l:=96) (by omega) (by rw [g];omega) (by rw [g];exact fR)) ?_;rintro v u8 ⟨rfl,Z⟩;refine aK.aR (Wb.n.d_ 96) ⟨true,rfl,?_⟩;refine ea (vs:=(Wb.n.d_ 96).cells) rfl (aK.single _) λXj Xq WL Wx V2=>?_
 have T:=S.new (Z.new V2);have Wm:(Wb.n.d_ 96).Head=257:=by have:(Wb.n.d_ 96).Head=Wb.n.get 768:=rfl;rw [this,g,WZ]
 refine cV rfl ⟨_,Wx.cell (i:=1) rfl,cV (by rw [Wm];rfl) ?_⟩;refine aC (EH T.cd (by rw [q];exact I.cf.ok) (Nx q I) 0) ?_;rintro v Wz ⟨rfl,V5⟩;rw [q,p.die] at V5 ⊢;obtain ⟨WE,Xu,Xg,z,U,_,_,_,P⟩:=T.op V5;refine ⟨_,rfl,cV rfl ?_⟩;refine aC (zK (A:=λk=>WE k\/k=aA) (λk D=>z.cd.low k D) (n:=1) (by omega) 1 0) ?_;rintro v W7 ⟨Wy,rfl,E,Wr⟩;refine cj.aR (mE 1 0 Wy) ⟨rfl,?_⟩;have B:=z.new E;refine aC (N7 B.cd (by rw [U];exact Wl) (t:=iK 1 1) (yF Wr ⟨by omega,by omega⟩) (AJ 1 1)) ?_;rintro v WA V5;rw [U] at V5;obtain ⟨Xd,Xv,Xh,R,V,⟨W6,WB,s,rfl,V6⟩,_,_,Q⟩:=B.op V5;rw [p.d3] at s V;have s:W6=t:=by simpa using s.symm
 subst s;have V_:av WA aA (jm 0 1 101 c6 df 1 eN).cells 45:=by have WH:av Xb aA (jm 0 1 101 c6 df 1 eN).cells 45:=Wj.trans (ai.aj K N);have WI:av Wz aA (jm 0 1 101 c6 df 1 eN).cells 45:=(P aA rfl).trans (ai.aj (Z.new V2) WH);exact (Q aA rfl).trans (ai.aj E WI)
 refine cj.aR WB ⟨rfl,?_⟩;refine dQ (vs:=WB.cells) V_ rfl (cj.single _) λW8 V' Y=>?_
 have C:=R.local Y λk e=>e
 obtain ⟨WW,WX,Xn,WY⟩:=p.F2;obtain ⟨Wc,Wv,j⟩:=zn V WW;refine aC (rF C.cd Wv (l:=96) (by omega) (by rw [j];omega) (by rw [j];exact WX)) ?_;rintro v W9 ⟨rfl,F⟩;refine aK.aR (Wc.n.d_ 96) ⟨true,rfl,?_⟩;refine ea (vs:=(Wc.n.d_ 96).cells) rfl (aK.single _) λXk W_ WM Wa G=>?_
 have a:=ai.aj (F.new G) V';obtain ⟨o,WQ,W0,W1,W2⟩:=p.out;have V7:=V6.out;rw [WQ] at V7;obtain ⟨W3,W4,Xo,W5⟩:=V7;have Wn:(Wc.n.d_ 96).Head=256:=by have:(Wc.n.d_ 96).Head=Wc.n.get 768:=rfl;rw [this,j,WY]
 refine ⟨_,a.cell (i:=24) rfl,ek (V6.e0.trans p.e0) ⟨_,a.cell (i:=26) rfl,ek (by rw [W3,W0];rfl) ⟨_,a.cell (i:=33) rfl,ek (by rw [W4,W1];rfl) ⟨_,a.cell (i:=35) rfl,ek (by rw [W5,W2];rfl) (ek rfl ⟨_,Wa.cell (i:=1) rfl,?_,?_⟩)⟩⟩⟩⟩
 ·rw [Wn];rfl
 ·exact (C.new (F.new G)).iD O V4 WJ
end
end
section
open IntKind
variable (w:ak) (R:cB) {i k l:Int} {s t u:an} {a b c d:Nat} {F:Bool} {j:aq}
def qz (s1:Int) (e:an) (a b:Nat) (c:an) (d:Bool) (f:an) (g h:Nat) (i k:Int) (j:aq):aq:=ag j 0 1 (ab s1::ag j 1 2 (ae e a b::ag j 3 6 (.pointer c::ad d::ag j 9 1 (ae f g h::ab i::ab k::ag j 10 105 []))))
def Fx (s1:Int) (e:an) (a b:Nat) (c:an) (d:Bool) (f:Int) (j:aq):aq:=ag j 0 1 (ab s1::ag j 1 2 (ae e a b::ag j 3 6 (.pointer c::ad d::ag j 9 2 (ab f::ag j 11 106 []))))
theorem RP:bf prog f5 [ab i,ab k,ab l,ae s a b,ae t c d] R w=(cond ((a:Int)>100) (R (ad true) w) (cond ((c:Int)>300) (R (ad true) w) (cm 12 #[ab i,ab 3] w λf x=>S6 13 #[ab (i64.wrap (f+1)),ab k,ab l,ae s a b] x λg h e r=>cond (!e) (R (ad false) r) (de 14 #[] r λq v=>cond (!q) (R (ad false) v) (sF 16 #[ab (i64.wrap (f+1)),ab 1,ah 0] v λo B=>sF 16 #[ab (i64.wrap (f+1)),ab 2,ah 0] B λp y=>aQ y #[ab o.Kind,ab o.Client,ab o.yZ.oa,ab o.jW.oa,ab o.jW.Number,ab o.jW.Client,ab o.jW.Round,ah o.jW.nf,ab o.en.Client,ab o.en.Seq,ab o.en.gw,ab o.en.View.Number,ae o.en.View.ed o.en.View.ei o.en.View.eA,ae o.en.Reads o.en.jX o.en.m8,ae o.en.eu o.en.dO o.en.gX,ab o.Recover.Client,ab o.Recover.hy,ab o.Recover.gw,ab o.Recover.View.Number,ae o.Recover.View.ed o.Recover.View.ei o.Recover.View.eA,ab o.Recover.eO,ab o.Recover.fv,ah o.Recover.g8,ae o.ql o.o8 o.tJ,ad o.kT,ad o.lB,ab o.Code,ab o.View.Number,ae o.View.ed o.View.ei o.View.eA,ab o.Status,ae o.Doors o.tG o.qg,ah o.nf,ab o.n7,ab o.jZ,ab o.Seq,ab o.jV,ab p.Kind,ab p.Client,ab p.yZ.oa,ab p.jW.oa,ab p.jW.Number,ab p.jW.Client,ab p.jW.Round,ah p.jW.nf,ab p.en.Client,ab p.en.Seq,ab p.en.gw,ab p.en.View.Number,ae p.en.View.ed p.en.View.ei p.en.View.eA,ae p.en.Reads p.en.jX p.en.m8,ae p.en.eu p.en.dO p.en.gX,ab p.Recover.Client,ab p.Recover.hy,ab p.Recover.gw,ab p.Recover.View.Number,ae p.Recover.View.ed p.Recover.View.ei p.Recover.View.eA,ab p.Recover.eO,ab p.Recover.fv,ah p.Recover.g8,ae p.ql p.o8 p.tJ,ad p.kT,ad p.lB,ab p.Code,ab p.View.Number,ae p.View.ed p.View.ei p.View.eA,ab p.Status,ae p.Doors p.tG p.qg,ah p.nf,ab p.n7,ab p.jZ,ab p.Seq,ab p.jV] 45 λu A=>eE 15 #[.pointer g,ae (bn u) 2 2,ae t c d,a5,ab 5000] A λj m n z=>cv prog (c0 f5 [1,1,1,1,1,1,1,0,1,0,0]) (qz k t c d g h j m n 0 0 (ab (i64.wrap (f+1))::ab l::ae s a b::bb 5 (ad false::ad e::bb 3 (ae s a b::cX a::ad ((a:Int)>100)::ad false::ae t c d::cX c::ad ((c:Int)>300)::ad ((c:Int)>300)::ab i::ab f::ab (i64.wrap (f+1))::.tuple #[.pointer g,ad h,ad e]::ab (i64.wrap (f+1))::ab k::ab l::ae s a b::.tuple #[.pointer g,ad h,ad e]::.pointer g::ad h::ad e::ad e::ad (!e)::ad false::ad q::ad (!q)::ad (!q)::.pointer g::ab (i64.wrap (f+1))::o.val::ab (i64.wrap (f+1))::p.val::ae (bn u) 2 2::ae t c d::ae j m n::bb 68 [])))) (aM 0 (aP f5 [1,1,1,1,1,1,1,1] R)) z))))):=by kernel_rfl
theorem Qe (y:aq->aE):W prog (sb f5 [1,1,1,1,1,1,1,0,1,0,0]) (qz i s a b t F u c d k l j) (aU y (aM 0 (aP f5 [1,1,1,1,1,1,1,1] R))) w=(cond (l<2) (bm u c l 36 λh=>jo w (bT h 24) λg=>cond (!g) (R (ad false) w) (bm u c l 36 λr=>jo w (bT r 25) λm=>cond m (R (ad false) w) (bm u c l 36 λe=>bS w (bT e 26) λn=>cond (n != 0) (bm u c l 36 λf=>bS w (bT f 26) λo=>cond (o != 3) (R (ad false) w) (bm u c l 36 λv=>bS w (bT v 26) λp=>cond (p == 0) (y (qz i s a b t F u c d (i64.wrap (k+1)) (i64.wrap (l+1)) (ag j 0 47 (ab l::ad (l<2)::ab l::ab (i64.wrap (l+1))::ae u c d::ab l::jp h::bq h 24::ad g::ad (!g)::ad false::ae u c d::ab l::jp r::bq r 25::ad m::ad m::ad false::ae u c d::ab l::jp e::bq e 26::ab n::ad ((n:Int) != 0)::ad true::ae u c d::ab l::jp f::bq f 26::ab o::ad ((o:Int) != 3)::ad ((o:Int) != 3)::ad ((o:Int) != 3)::ae u c d::ab l::jp v::bq v 26::ab p::ad ((p:Int) == 0)::ab k::ab (i64.wrap (k+1))::ag j 88 27 []))) w) (y (qz i s a b t F u c d k (i64.wrap (l+1)) (ag j 0 47 (ab l::ad (l<2)::ab l::ab (i64.wrap (l+1))::ae u c d::ab l::jp h::bq h 24::ad g::ad (!g)::ad false::ae u c d::ab l::jp r::bq r 25::ad m::ad m::ad false::ae u c d::ab l::jp e::bq e 26::ab n::ad ((n:Int) != 0)::ad true::ae u c d::ab l::jp f::bq f 26::ab o::ad ((o:Int) != 3)::ad ((o:Int) != 3)::ad ((o:Int) != 3)::ae u c d::ab l::jp v::bq v 26::ab p::ad ((p:Int) == 0)::ag j 86 29 []))) w))) (bm u c l 36 λx=>bS w (bT x 26) λq=>cond (q == 0) (y (qz i s a b t F u c d (i64.wrap (k+1)) (i64.wrap (l+1)) (ag j 0 47 (ab l::ad (l<2)::ab l::ab (i64.wrap (l+1))::ae u c d::ab l::jp h::bq h 24::ad g::ad (!g)::ad false::ae u c d::ab l::jp r::bq r 25::ad m::ad m::ad false::ae u c d::ab l::jp e::bq e 26::ab n::ad ((n:Int) != 0)::ad false::bb 6 (ad false::ad false::ae u c d::ab l::jp x::bq x 26::ab q::ad ((q:Int) == 0)::ab k::ab (i64.wrap (k+1))::ag j 88 27 [])))) w) (y (qz i s a b t F u c d k (i64.wrap (l+1)) (ag j 0 47 (ab l::ad (l<2)::ab l::ab (i64.wrap (l+1))::ae u c d::ab l::jp h::bq h 24::ad g::ad (!g)::ad false::ae u c d::ab l::jp r::bq r 25::ad m::ad m::ad false::ae u c d::ab l::jp e::bq e 26::ab n::ad ((n:Int) != 0)::ad false::bb 6 (ad false::ad false::ae u c d::ab l::jp x::bq x 26::ab q::ad ((q:Int) == 0)::ag j 86 29 [])))) w))))) (W prog (sb f5 [1,1,1,1,1,1,1,1]) (Fx i s a b t F k (ag j 0 10 (ae u c d::ab l::ag j 10 37 (ab l::ad (l<2)::ag j 49 66 [])))) (bZ f5 R) w)):=by kernel_rfl
theorem Qr:W prog (sb f5 [1,1,1,1,1,1,1,1]) (Fx i s a b t F k j) (bZ f5 R) w=(cond (k == 0) (R (ad false) w) (de 17 #[.pointer t,ae s a b] w λg f=>cond (!g) (R (ad false) f) (eE 19 #[ab i] f λh c e o=>S7 18 #[.pointer t,ae h c e] o λl m n d=>cond n (cond l (R (ad true) d) (cond m (R (ad (!F)) d) (R (ad false) d))) (R (ad false) d)))):=by kernel_rfl
end
section
open hh
section
attribute [local irreducible] eV
theorem Vr (w:ak) {Wh Wi WJ:Int} {WI Wj:an} {WK Wk:Nat} {sch ord:bd} (WN:dN Wh) (Z:dN Wi) (WO:dN WJ) (W0:bh w WI (is sch)) (Wt:∀ x ∈ sch,dN x) (WE:bh w Wj (is ord)) (Wa:∀ x ∈ ord,dN x) :
  a9 5 [.int .i64 Wh,.int .i64 Wi,.int .i64 WJ,.slice WI sch.length WK,.slice Wj ord.length Wk] w λv u=>v=.bool true/\ai w u:=by
 refine bc Tryz.func5 ?_;rw [RP];refine a8 (λh=>⟨rfl,ao.refl _ _⟩) (λ_=>a8 (λh=>⟨rfl,ao.refl _ _⟩) (λWZ=>?_))
 refine aC (rM _ _ _ WN (by omega)) ?_;rintro v bE ⟨rfl,Wz⟩;obtain rfl:w=bE:=Wz.symm;rw [if_neg (by omega)];refine ⟨_,rfl,?_⟩;obtain ⟨n,WY,p⟩:∃ n:Nat,Wh % 3+1=n/\1<=n/\n<=3:=⟨(Wh % 3+1).toNat,by omega,by omega⟩;rw [bC (x:=Wh % 3+1) (by omega) (by omega),WY];refine aC (OZ p Z WO W0 Wt) ?_;obtain ⟨y,WG,f⟩:∃ y:Nat,(Wi % 14).toNat=y/\y<14:=⟨(Wi % 14).toNat,rfl,by omega⟩;rw [WG];rintro v Xc ⟨aI,sure,A,aw,X,F,G,B,g,gr,rfl,Wm,L⟩;refine ⟨_,_,_,rfl,cV rfl ?_⟩;refine aC (Ny _) ?_;rintro v bk ⟨rfl,V9⟩;refine ⟨_,rfl,cV rfl ?_⟩;have V2:=Wm.iE V9;refine aC (zK (A:=A) (λk M=>V2.cd.low k M) (n:=n) (by omega) 1 0) ?_;rintro v Xd ⟨c6,rfl,V_,WA⟩;refine cj.aR (mE 1 0 c6) ⟨rfl,?_⟩;have V3:=V2.iE V_;refine aC (zK (A:=A) (λk M=>V3.cd.low k M) (n:=n) (by omega) 2 0) ?_;rintro v Xe ⟨Y,rfl,N,WB⟩;refine cj.aR (mE 2 0 Y) ⟨rfl,?_⟩;rintro b1 W3 Wp Wf;obtain ⟨W,s⟩:=bl Wp Wf;have W:av W3 b1 ((mE 1 0 c6).cells++(mE 2 0 Y).cells) gE:=W;clear Wf;have Wn:=V3.iE (N.new s);have C:∀ c ∈ [1,2],1<=c/\c<4:=λc j=>by simp at j <;> omega
 have Ww:=Jm L (rs:=[1,2]) C;have Ws:=Jn p f C (by simp) Ww ord (most:=5000) (by simp);obtain ⟨l,a⟩:=Ws;have U:=Wn.PT L.gn (ts:=[(mE 1 0 c6,iK n 1),(mE 2 0 Y,iK n 2)]) (pa:=some ⟨b1,0,none⟩) (pl:=2) (pc:=2) rfl (fm W (by simp only [hK,f9,tj,gV,List.flatten_nil,i',td,hx])) (λx H=>by
  simp at H;rcases H with rfl | rfl
  ·exact ⟨yF ((WA.new N).new s) ⟨by omega,by omega⟩,AJ n 1⟩
  ·exact ⟨yF (WB.new s) ⟨by omega,by omega⟩,AJ n 2⟩) (by simp) (sch:=ord) (sa:=Wj) (sl:=ord.length) (sc:=Wk) rfl WE Wa (most:=5000) (by omega) (tl:=[iK n 1,iK n 2]) rfl
 refine aC U ?_;rintro v W4 ⟨la,lc,J,W5,Xh,W8,rfl,S,D,Wd,Wy,WW,WP⟩;have l:r3 n y [1,2] (eV F [iK n 1,iK n 2] ord [] 5000).2 sure (eV F [iK n 1,iK n 2] ord [] 5000).1 (700+2 * 1680):=l;have a:p_ (eV F [iK n 1,iK n 2] ord [] 5000).2:=a;generalize eV F [iK n 1,iK n 2] ord [] 5000=R at l a D S;obtain ⟨WC,j5⟩:=R;simp only at l a D S;have V8:J.length=2:=by obtain ⟨_,_,_,_,ar,_⟩:=l;have Z:=ar.len;rw [<-D,ft] at Z;exact Z
 obtain ⟨V6,Wg,_⟩:=Dl p f C l a;have P:∀ x ∈ J,x.1.kT=true/\x.1.lB=false/\(x.1.Code=0\/x.1.Code=3)/\(r4 n y sure WC x.2->x.1.Code=0):=λx H=>by
  have V7:x.2 ∈ j5:=by rw [<-D];exact cT.2 ⟨x,H,rfl⟩
  have E:=Wy x H;obtain ⟨WL,Q⟩:=V6 x.2 V7;have key:r4 n y sure WC x.2->x.1.Code=0:=λ⟨_,_,_,_,_,_,Wb,_⟩=>by have:=E.out;rw [Wb] at this;exact this.1
  refine ⟨E.e0.trans (a _ V7),E.bad.trans WL,?_,key⟩;rcases Q with Q | ⟨w',Q⟩
  ·exact .inl (key Q)
  ·have:=E.out;rw [Q] at this;exact .inr this.1
 rw [V8];refine ⟨_,_,_,rfl,?_⟩;refine c2 mix (λq env z=>∃ (i:Nat) (d:Int) (WH:ax),q=2 - i/\i<=2/\env=qz Wi Wj ord.length Wk (some ⟨aI,0,none⟩) sure la 2 lc d i WH/\z=W4/\0<=d/\d<=i/\∀ (k:Nat) (x:eJ×b_ conv),k<i->J[k]?=some x->x.1.Code=0->1<=d) 2
  ⟨0,0,_,rfl,by omega,rfl,rfl,by omega,by omega,λk x M=>by omega⟩ ?_
 rintro q env z ⟨i,d,WH,rfl,WV,rfl,rfl,Wr,WT,V5⟩;rw [Qe];refine a8 (λWu=>?_) (λWU=>?_)
 ·have Wu:i<2:=by omega
  obtain ⟨x,H⟩:∃ x,J[i]?=some x:=⟨_,bD (by omega)⟩;obtain ⟨s1,s2,W1,_⟩:=P x (b7 H);have rd:∀ {K:aS->Prop},(∀ b o,(∀ (q:Nat) (v:a2),x.1.cells[q]?=some v->z.cell? ⟨b,o+q,none⟩=some v)->K ⟨b,o,none⟩)->bm la 2 i 36 K:=λ{K} WR=>
   er (cells:=λx:eJ×b_ conv=>x.1.cells) (λx=>cj.len x.1) (by omega) Wd H rfl V8.symm λb o _ j=>WR b o j
  refine rd λb o j=>⟨_,j 24 _ rfl,cV (by rw [s1];rfl) (rd λb o j=>⟨_,j 25 _ rfl,cV s2 (rd λb o j=>⟨_,j 26 _ rfl,?_⟩)⟩)⟩
  rw [bC (x:=(i:Int)+1) (by omega) (by omega),bC (x:=d+1) (by omega) (by omega)];rcases W1 with e | e
  ·refine cV (by rw [e];rfl) (rd λb o j=>⟨_,j 26 _ rfl,ek (by rw [e];rfl) ⟨2 - (i+1),by omega,i+1,d+1,_,rfl,by omega,rfl,rfl,by omega,by omega,λk fT M I V4=>by omega⟩⟩)
  ·refine ek (by rw [e];rfl) (rd λb o j=>⟨_,j 26 _ rfl,cV (by rw [e];rfl) (rd λb o j=>⟨_,j 26 _ rfl,cV (by rw [e];rfl) ⟨2 - (i+1),by omega,i+1,d,_,rfl,by omega,rfl,rfl,Wr,by omega,λk fT M I V4=>?_⟩⟩)⟩);by_cases WM:k=i
   ·subst WM;rw [H] at I;cases I;omega
   ·exact V5 k fT (by omega) I V4
 ·have Wt:i=2:=by omega
  subst Wt;rw [Qr];have ar:1<=d:=by obtain ⟨t,WF,WS⟩:=Wg (by simp);obtain ⟨k,M⟩:=eh.1 WF;obtain ⟨r,Wv⟩:=N8 D M;exact V5 k _ (by have:=cb Wv;omega) Wv ((P _ (b7 Wv)).2.2.2 WS)
  refine cV (by simp;omega) ?_;refine aC (N9 S (Jl p f C) l (by omega) WE Wa (by omega)) ?_;rintro v u8 ⟨rfl,W6,Xi,W9,W7,Xa,Wo,Wc,WX,WQ⟩;refine ⟨_,rfl,cV rfl ?_⟩;refine aC (Di Z) ?_;rw [WG];rintro v Xf ⟨W_,cc,rfl,Wq,V'⟩;refine ⟨_,_,_,rfl,?_⟩;obtain ⟨t,WF,WD,Xg,s8,Xb,Wl,We,_⟩:=(Dl p f C Wc a).2.1 (by simp);have T:=Wo.iE V';refine aC (Kw T.cd p f (b:=WD) (by rw [T.pure];exact Wl) Wq) ?_;rintro v W2 ⟨rfl,V⟩;have O:=T.new.new V;refine ⟨_,_,_,rfl,ek rfl ?_⟩;cases WD with
  |true=>exact ek rfl ⟨rfl,O⟩
  |false=>
   have Q:sure=false:=by
    cases Wx:sure with
    |false=>rfl
    |true=>have:=We Wx;cases this
   exact cV rfl (ek rfl ⟨by rw [Q];rfl,O⟩)
end
end
section
open Go.ChangeShapes Go.WideShapes Go.ChangeAt Go.RowKit
theorem laid:laidOutB prog=true:=by kernel_rfl
theorem O0:ownKnob prog.godebug=none:=by kernel_rfl
theorem Hb {H:Type} {enc:TypeId×a2->H} {W W':ak} {sp:Nat->Bool}:∀ {ts:List TypeId} {vs:ax} {ds:List (DataW H)} {ch:List MemPlace},(∀ t ∈ ts,prog.readableRec t=true/\t<prog.types.size)->DataW.TrodAll enc prog W 0 (λ_=>true) true ts vs ds ch->
  (∀ p ∈ ch,W.sameAt W' p)->(∀ p ∈ ch,sp p.block=true)->DataW.TrodAll enc prog W' 0 sp true ts vs ds ch
 | [],_,_,_,_,h,_,_=>by obtain ⟨rfl,rfl,rfl⟩:=trodAll_nil h;exact trodAll_mk0
 |t::ts,_,_,_,e,h,g,f=>by obtain ⟨v,l,d,i,a,b,rfl,rfl,rfl,j,k⟩:=trodAll_cons h;refine trodAll_cons_mk (WideElems.Trod_stays laid (e t e2).1 (e t e2).2 j (λp c=>g p (vm _ c)) λp c=>f p (vm _ c)) ?_;exact Hb (λt h=>e t (fu _ h)) k (λp c=>g p (List.mem_append_right _ c)) λp c=>f p (List.mem_append_right _ c)
theorem LQ {H:Type} {enc:TypeId×a2->H} {f:Func} {s:ChangeSpec} {apart:Bool} {W W':ak} {ds gs:List (DataW H)} {before:List MemPlace} {tb:TypeId} (eW:DataW.Whole enc prog f.params.toList s.vars apart W args.toList ds gs before)
  (k:Go.bu.ai W W') (e:∀ t ∈ f.params.toList,prog.readableRec t=true/\t<prog.types.size) (al:s.vars=[]) (a:s.fn H (ds++gs)={ results:=[.lit (.bool true)],args:=ds }) (o:f.resultTypes=#[tb]) (d:prog.underlying tb=some .bool) :
  s.post enc prog f apart true false false W args (.bool true) W':=by
 have i:Go.RowKit.Below W.heap.size W W':=k.below (cQ _) λ_ _ h=>h
 have b:=eW.lt;have c:=eW;obtain ⟨p,q,j,r,rfl,l,n⟩:=eW;refine ⟨ds,gs,p++q,[],p,[],c,?_,?_,?_,i.frame _,λh=>by cases h⟩
 ·rw [a,o];exact trodAll_cons_mk (shut_bool d _) trodAll_mk0
 ·rw [a];exact Hb e j (λx g=>i.same (b x (vm _ g))) λx g=>by simpa using b x (vm _ g)
 ·rw [a,al];rfl
theorem vY {n:Int} (h:(Lit.int .i64 n).wf=true):dN n:=by have:=bounds_i64 h;exact ⟨this.1,by omega⟩
end
section
open Go.ChangeShapes Go.WideShapes Go.ChangeAt Go.RowKit
theorem Fr {sz:Nat} (b:0<sz):∀ {rows:List ax} {j:Nat} {u:a2},(∀ r ∈ rows,r.length=sz)->rows.flatten[j]?=some u->∃ r,rows[j / sz]?=some r/\r[j % sz]?=some u
 | [],j,u,_,h=>by simp at h
 |r::rows,j,u,d,h=>by
  have k:=d r e2;rw [gV,p7] at h;by_cases c:j<sz
  ·rw [if_pos (by omega)] at h;exact ⟨r,by rw [Nat.div_eq_of_lt c];rfl,by rw [ta c];exact h⟩
  ·rw [if_neg (by omega),k] at h;obtain ⟨l,g,i⟩:=Fr b (λr a=>d r (fu _ a)) h;have e:j / sz=(j - sz) / sz+1:=by rw [Nat.div_eq_sub_div b (by omega)]
   have f:j % sz=(j - sz) % sz:=by rw [Nat.mod_eq_sub_mod (by omega)]
   exact ⟨l,by rw [e];simpa using g,by rw [f];exact i⟩
theorem Ky {a:aS} (h:w.cell? a=some v):a.spot=none:=by
 cases b:a.spot with
 |none=>rfl
 |some s=>exfalso;unfold World.cell? at h;simp only [b,Option.isSome_some,if_true] at h;split at h<;>simp_all
theorem Jo {H:Type} {enc:TypeId×a2->H} {W:ak} {fuel:Nat} {cs:ax} {x:DataW H×List MemPlace} (M:P.underlying t=some (.slice e)) (I:P.cellsOf e=k) (A:0<k)
  (J:DataW.trod enc P W 0 (λ_=>true) held fuel t cs=some x):∃ a cap rows,cs=[.slice a (List.length rows) cap]/\rows.length<=cap/\bh W a rows.flatten/\∀ r ∈ rows,r.length=k/\∃ fuel x,DataW.trod enc P W 0 (λ_=>true) held fuel e r=some x:=by
 rcases Deep.open_slice M J with ⟨z,_⟩ | ⟨bx,len,cap,m,n,D,C,z,_,E,_,F,_,G⟩
 ·exact ⟨none,0,[],z,cQ _,.inl rfl,λx N=>by cases N⟩
 ·subst z;have hm:len<=m:=by rw [F];simp;omega
  obtain ⟨f,h⟩:=Deep.choose_lt (α:=ax) (p:=λi cs=>W.cells? 0 (bx.add (i * k)) k=some cs/\DataW.trod enc P W 0 (λ_=>true) held n e cs=some (D i,C i)) (n:=m) (λi b=>by obtain ⟨cs,o,w⟩:=G i b;rw [I] at o;exact ⟨cs,o,w⟩)
  have g:∀ (i:Nat) (r:ax),((List.range len).map f)[i]?=some r->i<len/\r=f i:=by intro i r l;have b:=cb l;simp at b;simp [b] at l;exact ⟨b,l.symm⟩
  have d:∀ r ∈ (List.range len).map f,r.length=k:=by intro r l;obtain ⟨i,b⟩:=eh.1 l;obtain ⟨b,rfl⟩:=g i r b;exact (World.cells?_some (h i (by omega)).1).2.1
  refine ⟨some bx,cap,(List.range len).map f,by simp,by simpa using E,?_,λr l=>⟨d r l,?_⟩⟩
  ·by_cases y:len=0
   ·subst y;exact .inl rfl
   ·have c:∀ (i q:Nat) (u:a2),i<len->(f i)[q]?=some u->q<k->W.cell? (bx.add (i * k+q))=some u:=by intro i q u b L B;have:=(World.cells?_some (h i (by omega)).1).2.2 q B;rw [Deep.add_add] at this;rw [this,L]
    have K:=(World.cells?_some (h 0 (by omega)).1).2.1;have O:bx.spot=none:=by have s:=c 0 0 _ (by omega) (bD (by omega)) A;have:=Ky s;simpa [Addr.add] using this
    refine .inr ⟨bx.block,bx.off,by cases bx;simp_all,λj u hu=>?_⟩;obtain ⟨r,o,w⟩:=Fr A d hu;obtain ⟨b,rfl⟩:=g _ _ o;have s:=c (j / k) (j % k) u b w (Nat.mod_lt _ A);rw [vb,Nat.div_add_mod] at s;rw [<-s];unfold Addr.add;split
    ·rename_i y;subst y;cases bx;simp_all
    ·cases bx;simp_all
  ·obtain ⟨i,b⟩:=eh.1 l;obtain ⟨b,rfl⟩:=g i r b;exact ⟨n,_,(h i (by omega)).2⟩
theorem KA {H:Type} {enc:TypeId×a2->H} {W:ak} {d:DataW H} (g:P.underlying t=some (.slice e)) (n:P.cellsOf e=k) (p:0<k) (f:Value.okWide P W r kU t v)
  (ar:DataW.Trod enc P W 0 (λ_=>true) held t v d ch):∃ a cap rows,v=.slice a (List.length rows) cap/\bh W a rows.flatten/\∀ r ∈ rows,r.length=k/\∃ fuel x,DataW.trod enc P W 0 (λ_=>true) held fuel e r=some x:=by
 obtain ⟨a,len,cap,rfl⟩:=okWide_slice g f;obtain ⟨fuel,o⟩:=ar;obtain ⟨h,b,rows,i,_,j,l⟩:=Jo g n p o;have c:[Value.slice a len cap]=[.slice h rows.length b]:=i;simp at c;obtain ⟨rfl,rfl,rfl⟩:=c;exact ⟨_,_,_,rfl,j,l⟩
theorem CB {H:Type} {enc:TypeId×a2->H} {W:ak} {d:DataW H} (q:P.underlying t=some (.slice e)) (he:P.underlying e=some (.int .i64)) (o:P.cellsOf e=1) (c:Value.okWide P W r kU t v)
  (ar:DataW.Trod enc P W 0 (λ_=>true) held t v d ch):∃ a cap xs,v=.slice a (List.length xs) cap/\bh W a (is xs)/\∀ x ∈ xs,dN x:=by
 obtain ⟨a,cap,rows,rfl,l,k⟩:=KA q o (by omega) c ar;have hint:∀ r ∈ rows,∃ n,r=[.int .i64 n]/\dN n:=by intro r j;obtain ⟨_,fuel,x,b⟩:=k r j;obtain ⟨n,e,_,w⟩:=DataW.trod_int he b;exact ⟨n,e,vY w⟩
 clear k;have key:∀ rows:List ax,(∀ r ∈ rows,∃ n,r=[Value.int .i64 n]/\dN n)->∃ xs:bd,rows.length=xs.length/\rows.flatten=is xs/\∀ x ∈ xs,dN x:=by
  intro rows;induction rows with
  |nil=>intro _;exact ⟨[],rfl,rfl,λx b=>by cases b⟩
  |cons r rows s=>
   intro h;obtain ⟨n,rfl,p⟩:=h r e2;obtain ⟨xs,f,g,i⟩:=s λr j=>h r (fu _ j)
   refine ⟨n::xs,by simp [f],by simp [is,g],λx b=>?_⟩;rcases e6.1 b with rfl | b
   ·exact p
   ·exact i x b
 obtain ⟨xs,f,g,i⟩:=key rows hint;exact ⟨a,cap,xs,by rw [f],by rw [<-g];exact l,i⟩
end
section
open Go.ChangeShapes Go.WideShapes Go.ChangeAt Go.RowKit
theorem IB {H:Type} {enc:TypeId×a2->H} {base:Nat} {spare:Nat->Bool} {B l t3 t4:TypeId} {ds:List (DataW H)} (h:DataW.TrodAll enc P w base spare held [t,B,l,t3,t4] args.toList ds ch) :
  ∃ v bj i s v4 d n b d3 d4 p p' g o r,args=#[v,bj,i,s,v4]/\ds=[d,n,b,d3,d4]/\ch=p++p'++g++o++r/\DataW.Trod enc P w base spare held t v d p/\DataW.Trod enc P w base spare held B bj n p'/\DataW.Trod enc P w base spare held l i b g/\DataW.Trod enc P w base spare held t3 s d3 o/\DataW.Trod enc P w base spare held t4 v4 d4 r:=by
 obtain ⟨v,vs,d,D,p,q,u,rfl,rfl,ar,j⟩:=trodAll_cons h;obtain ⟨bj,eX,n,A,p',cy,rfl,rfl,rfl,x,c⟩:=trodAll_cons j;obtain ⟨i,C,b,G,g,I,rfl,rfl,rfl,k,a⟩:=trodAll_cons c;obtain ⟨s,J,d3,E,o,L,rfl,rfl,rfl,y,e⟩:=trodAll_cons a;obtain ⟨v4,K,d4,F,r,M,rfl,rfl,rfl,z,f⟩:=trodAll_cons e;obtain ⟨rfl,rfl,rfl⟩:=trodAll_nil f;exact ⟨v,bj,i,s,v4,d,n,b,d3,d4,p,p',g,o,r,by cases args;simp_all,rfl,by simp,ar,x,k,y,z⟩
theorem LR (os:Os) (started:os.Started) (H:Type) (enc:TypeId×a2->H) :
  ReturnsInHanded {} Tryz.checked os 5 .any (Rows.recoveryRivalsSpec.pre6 enc prog f5 Rows.recoveryRivalsRow.domain false) (Rows.recoveryRivalsSpec.post enc prog f5 false true false false):=by
 refine returnsInHanded_of_change (C:=Tryz.checked) O0 started (by kernel_rfl) Tryz.func5
  (ChangeSpec.witness6 (enc:=enc) (C:=Tryz.checked) false ⟨#[],#[.int .i64 0,.int .i64 0,.int .i64 0,.slice none 0 0,.slice none 0 0],[]⟩ 8 (by kernel_rfl) (by kernel_rfl) (by kernel_rfl) (by kernel_rfl)) ?_
 intro W base args ds gs before b eW g _;have a:∀ (j:Nat) t v,f5.params[j]?=some t->args[j]?=some v->Value.okWide prog W .any base t v:=b;have d:=eW;obtain ⟨p,q,c,o,rfl,r,u⟩:=eW;have f:DataW.TrodAll enc prog W 0 (λ_=>true) true f5.params.toList args.toList ds p:=c;rw [Tryz.params5] at f a;obtain ⟨v0,v1,v2,A,v4,d0,d1,d2,d3,d4,M,N,O,P,Q,rfl,rfl,rfl,h,i,k,l,n⟩:=IB f;obtain ⟨rfl,rfl⟩:=trodVars_none o;obtain ⟨F,rfl,_,_,w0⟩:=open_int Tryz.underlying3 (a 0 _ v0 rfl rfl) h;obtain ⟨G,rfl,_,_,w1⟩:=open_int Tryz.underlying3 (a 1 _ v1 rfl rfl) i;obtain ⟨b0,rfl,_,_,B⟩:=open_int Tryz.underlying3 (a 2 _ v2 rfl rfl) k;obtain ⟨I,K,iC,rfl,y,D⟩:=CB Tryz.underlying22 Tryz.underlying3 (by kernel_rfl) (a 3 _ A rfl rfl) l;obtain ⟨J,L,mq,rfl,z,E⟩:=CB Tryz.underlying22 Tryz.underlying3 (by kernel_rfl) (a 4 _ v4 rfl rfl) n;refine (Vr W (vY w0) (vY w1) (vY B) y D z E).mono λe W' ⟨x,he,w,s⟩=>?_
 subst he w;refine ⟨_,rfl,LQ d s (by rw [Tryz.params5];decide +kernel) rfl rfl (tb:=4) (by kernel_rfl) Tryz.underlying4⟩
theorem TD:Rows.recoveryRivalsRow.wf (OpenSpec.ofChange Rows.recoveryRivalsSpec)=true:=by kernel_rfl
theorem TE:mapsRowed prog=true:=by kernel_rfl
theorem TF:f5.params.all (prog.readableRec ·)=true:=by kernel_rfl
theorem TG:namedTie prog Rows.recoveryRivalsRow.named Rows.recoveryRivalsSpec.vars=true:=by kernel_rfl
theorem TH:(Rows.recoveryRivalsRow.inPlace == prog.inPlace 5)=true:=by kernel_rfl
theorem TI:(Rows.recoveryRivalsRow.unfollowed == prog.unfollowed 5)=true:=by kernel_rfl
theorem TJ:(Rows.recoveryRivalsRow.recurses == prog.recurses 5)=true:=by kernel_rfl
theorem TK:(Rows.recoveryRivalsRow.named == prog.varsNamed 5)=true:=by kernel_rfl
theorem LS:joinedFacts prog 5 f5 Rows.recoveryRivalsSpec Rows.recoveryRivalsRow=true:=by unfold joinedFacts;rw [TD,laid,TE,TF,TG,TH,TI,TJ,TK];kernel_rfl
theorem Pu:Rows.recoveryRivalsRow.holds Tryz.pinned (OpenSpec.ofChange Rows.recoveryRivalsSpec):=
 OpenClaim.holds_of_wide 5 f5 rfl rfl rfl rfl rfl rfl rfl ⟨rfl,rfl,rfl,rfl,rfl⟩ rfl rfl rfl rfl rfl (by kernel_rfl) Tryz.func5 LS
  (of_decide_eq_true (by kernel_rfl)) (by unfold Func.isWrapper;first | (rw [if_pos (by decide +kernel)];kernel_rfl) | (rw [if_neg (by decide +kernel)];exact ⟨rfl,rfl⟩))
  (λos started H enc _=>LR os started H enc)
theorem recoveryRivals_holds:Rows.RecoveryRivalsSaid:=Pu
#print axioms recoveryRivals_holds
end
end Go.Proofs.YtmkljjbioomepaaGreat
