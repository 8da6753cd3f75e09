import Derived.Test.YtmkljjbioomepaaGreate33
import Derived.Test.YtmkljjbioomepaaGreatProg
import Derived.Test.YtmkljjbioomepaaGreate03
set_option linter.all false
set_option maxHeartbeats 4000000
set_option maxRecDepth 100000
namespace Go.Proofs.YtmkljjbioomepaaGreat
open Go.Proofs.Tryz Go.bn
variable {A:a2} {B:Nat} {L:a4} {Ls:List a4} {lines:Int} {bo:al}
section
structure yh (R:Int×List aR):Prop where
 dn:ff R.1 R.2 256=0
 pl:pn R.2
 u64:∀ x ∈ eD R.1 R.2,b3 x
theorem C3 (h:fx L lines=true) (hu:∀ x ∈ L,b3 x):yh (cI L lines):=by obtain ⟨g,f,i⟩:=Kr h hu;obtain ⟨_,k,_⟩:=jD g;refine ⟨zr g,⟨f,i⟩,Cf (by unfold b3;omega) f.dM λp j=>?_⟩;obtain ⟨a,b,c,d,e⟩:=f.ok p j;exact ⟨by unfold b3;omega,e,i p j⟩
theorem xn {lines:Int} {P:(Int×List aR)->Prop}:∀ (Ls:List a4) (b:(Int×List aR)×Bool),(∀ L ∈ Ls,hF L lines=true->P (fB L lines))->(b.2=true->P b.1)->(Ls.foldl (iN lines) b).2=true->P (Ls.foldl (iN lines) b).1
 | [],_,_,a=>a
 |L::Ls,b,h,a=>by
  refine xn Ls _ (λc d=>h c (e2 _ d)) ?_;unfold iN;split
  ·rename_i e;exact λ_=>h L d_ e.1
  ·exact a
theorem zv (h:hF L lines=true):fx L lines=true/\fB L lines=cI L lines:=by refine ⟨?_,if_pos h⟩;unfold hF at h;exact (eH _ _▸h).1
theorem Mr (hu:∀ L ∈ Ls,∀ x ∈ L,b3 x) (h:(dG lines Ls).2=true):yh (dG lines Ls).1:=by refine xn (P:=yh) Ls _ (λL c d=>?_) (λe=>by cases e) h;obtain ⟨a,b⟩:=zv d;rw [b];exact C3 a (hu L c)
def eC (j:bz) (m:aO) (Ls:List a4) (G:List (List aC)):(Int×Int)×b2:=
 if (dG j.lines Ls).2=true then ((2,(dG j.lines Ls).1.1),mQ j m (dG j.lines Ls).1.1 (dG j.lines Ls).1.2 Ls G)
 else if fx (Ls.getD 0 []) j.lines=true then ((3,(cI (Ls.getD 0 []) j.lines).1),qu j m (cI (Ls.getD 0 []) j.lines).2 G)
 else ((1,0),⟨true,[],(0,0),G,none,false⟩)
section
variable {A:a2} {w0 u:al} {aI tb:Nat} {r:cN} {m:aO} {j:bz} {V:ej} {T:ee} {G:List (List aC)}
def xo (A:a2) (w0 u:al) (aI tb:Nat) (r:cN) (m:aO) (j:bz) (V:ej) (S:(Int×Int)×b2) (v:a0) (bo:al):Prop:=
 v=.tuple #[.int .i64 S.1.1,.int .i64 S.1.2,.bool S.2.ok]/\ec A w0 u aI tb u.heap.size r m j V S.2 bo
theorem J1 (N:c6 w0 u aI tb r m j V (0,0)) (UC:ek A w0 u tb T G) (I:fz T) (Y:kx w0 u aI tb V Ls) (UE:Ls.length=j.v.mem.length) :
  ba 182 [ptr aI] u (xo A w0 u aI tb r m j V (eC j m Ls G)):=by
 refine bc Tryz.func182 ?_;rw [ptr,Qw];have UY:=N.ak.lt;have U2:=UC.ak.lt;have U8:=N.ca.mem;have J:=N.bs.lines;obtain ⟨⟨Uz,UP,UO,U',P⟩,UW⟩:=id Y;have hu:∀ L ∈ Ls,∀ x ∈ L,b3 x:=λL UB=>by obtain ⟨i,UV⟩:=gh.1 UB;obtain ⟨s,UD⟩:∃ s,Uz[i]?=some s:=⟨_,bM (by have:=cz UV;omega)⟩;exact (P i s L UD UV).u64
 refine aD (Gu N Y (by omega)) ?_;rintro v w1 ⟨aX,pc,rfl,Up,Uu,UN⟩;have U9:=Up.size;have C:=Mr (lines:=j.lines) hu;have Um:(dG j.lines Ls).2=true->eC j m Ls G=((2,(dG j.lines Ls).1.1),mQ j m (dG j.lines Ls).1.1 (dG j.lines Ls).1.2 Ls G):=λh=>if_pos h
 have Un:¬ (dG j.lines Ls).2=true->eC j m Ls G=if fx (Ls.getD 0 []) j.lines=true then ((3,(cI (Ls.getD 0 []) j.lines).1),qu j m (cI (Ls.getD 0 []) j.lines).2 G) else ((1,0),⟨true,[],(0,0),G,none,false⟩):=λh=>if_neg h
 generalize dG j.lines Ls=d at Uu C Um Un;refine bN.aS ⟨d.1.1,aX,d.1.2.length,pc⟩ ⟨_,rfl,?_⟩;refine dU (vs:=bN.cells ⟨d.1.1,aX,d.1.2.length,pc⟩) rfl (bN.single _) λb1 U3 U7 UQ Uq=>?_
 have Q:=Up.new Uq;refine fy (λUl=>?_) (λUl=>?_)
 ·rw [Um Ul];have z:=C Ul;rintro Vc Uw;have Z:ai U3 Vc:=by rw [Uw];exact cL _
  clear Uw;have l:=Q.new Z;have w:=ai.ak Z UQ;refine ⟨λy=>av y b1 (bN.cells ⟨d.1.1,aX,d.1.2.length,pc⟩) dW,w,d.1.1,λy B=>B.cell (i:=0) rfl,bN.aS ⟨d.1.1,aX,d.1.2.length,pc⟩ ⟨λy B=>bI B rfl,?_⟩⟩;refine aD (H4 (N.bw l) (UC.new l) I (Y.new l) UE (q:=⟨d.1.1,aX,d.1.2.length,pc⟩) (Uu.new (Uq.new Z)) (λk z=>?_) z.dn z.u64 z.pl) ?_
  ·have:=UN k z;constructor<;>omega
  rintro v Vh ⟨rfl,Us⟩;exact ⟨_,rfl,Us.ax.ak w λe=>by rcases e with e | e<;>omega,rfl,Us.of l l.size⟩
 have Ul:¬ d.2=true:=by rw [Ul];simp
 rw [Un Ul];rintro U4 Ux;have UK:ai U3 U4:=by rw [Ux];exact cL _
 clear Ux;have o:=Q.new UK;have H:=N.bw o;obtain ⟨s,UD⟩:∃ s,Uz[0]?=some s:=⟨_,bM (by omega)⟩;obtain ⟨L,UB⟩:∃ L,Ls[0]?=some L:=⟨_,bM (by omega)⟩;have X:=P 0 s L UD UB;have U6:Ls.getD 0 []=L:=by rw [cK,UB];rfl
 rw [U6];have UL:=C3 (L:=L) (lines:=j.lines) (hu:=X.u64);refine ⟨λy=>ai U4 y,ao.refl _ _,_,_,_,λy B=>(ai.ak B H.ak).cell (i:=13) rfl,?_⟩;refine j8 (cells:=lU) (sz:=1) (λ_=>rfl) (by decide) (UP.new o) UD rfl UO λb' Vg UH=>⟨s.a,s.n,s.c,λy B=>by simpa using UH y B 0 _ rfl,r.gS,λy B=>(ai.ak B H.ak).cell (i:=2) rfl,?_⟩
 rw [J];have fin:∀ {y:al} {az:Nat} {pb:an} {aT:Nat},ai u y->av y az (bN.cells ⟨(cI L j.lines).1,pb,(cI L j.lines).2.length,aT⟩) dW->u.heap.size<=az->eY y pb (cI L j.lines).2.length (cI L j.lines).2->(∀ k,aL pb k->u.heap.size<=k)->
   (bif (fx L j.lines) then (∀ F,F=y.drew->∃ UA:aE,UA F/\∃ Seq:Int,(∀ u,UA u->u.cell? ⟨az,0,none⟩=some (.int .i64 Seq))/\bN.ex λr1=>(∀ u,UA u->b7 u ⟨az,0,none⟩ 0 r1.cells)/\Calls prog 229 #[ptr aI,r1.val] F λe Uk=>∃ b:Bool,e=.returned (.bool b)/\UA Uk/\xo A w0 u aI tb r m j V (if fx L j.lines=true then ((3,(cI L j.lines).1),qu j m (cI L j.lines).2 G) else ((1,0),⟨true,[],(0,0),G,none,false⟩)) (.tuple #[.int .i64 3,.int .i64 Seq,.bool b]) Uk)
    else xo A w0 u aI tb r m j V (if fx L j.lines=true then ((3,(cI L j.lines).1),qu j m (cI L j.lines).2 G) else ((1,0),⟨true,[],(0,0),G,none,false⟩)) (.tuple #[.int .i64 1,.int .i64 0,.bool true]) y):=by
  intro y az pb aT M UR Uo UM UX;refine fy (λhw=>?_) (λhw=>?_)
  ·rw [if_pos hw];have z:=UL hw;rintro F S;have D:ai y F:=by rw [S];exact cL _
   clear S;have p:=M.new D;have W:=ai.ak D UR;refine ⟨λy=>av y az (bN.cells ⟨(cI L j.lines).1,pb,(cI L j.lines).2.length,aT⟩) dW,W,_,λy B=>B.cell (i:=0) rfl,bN.aS ⟨(cI L j.lines).1,pb,(cI L j.lines).2.length,aT⟩ ⟨λy B=>bI B rfl,?_⟩⟩;refine aD (MS (N.bw p) (UC.new p) I (q:=⟨(cI L j.lines).1,pb,(cI L j.lines).2.length,aT⟩) (UM.new D) z.pl.wr) ?_;rintro v Uk ⟨rfl,Us⟩;exact ⟨_,rfl,Us.ax.ak W λe=>by rcases e with e | e<;>omega,rfl,Us.of p p.size⟩
  ·rw [if_neg (by rw [hw];simp)];have UF:=UC.new M;exact ⟨rfl,ao.bZ M,N.bw M,T,UF,I.di,I.cW⟩
 have U1:=o.size;refine ⟨?_,?_⟩
 ·refine aD (ub j.lines (X.new H.new)) ?_;rintro v Vd ⟨pb,aT,rfl,K,Uv,Ut⟩;refine bN.aS ⟨(cI L j.lines).1,pb,(cI L j.lines).2.length,aT⟩ ⟨_,rfl,K,?_⟩;rintro az Ve Uo Uy;obtain ⟨Uj,Ur⟩:=bk Uo Uy;have Uj:av Ve az ib.cells dW:=Uj;clear Uy;have U_:=K.size;refine ⟨K.new Ur,dC (vs:=bN.cells ⟨(cI L j.lines).1,pb,(cI L j.lines).2.length,aT⟩) Uj rfl (bN.single _) λVf US UI=>?_⟩;have R:ai Vd Vf:=Ur.trans UI λk UJ e=>by omega
  exact fin ((o.new K).new R) US (by omega) (Uv.new R) λk z=>by have:=Ut k z;omega
 ·rintro U5 UT UG U;obtain ⟨t,g⟩:=bk UG U;have t:av UT U5 ib.cells dW:=t;clear U;have UZ:=g.size;have UU:=t.lt;refine ⟨g,aD (ub j.lines (X.new (H.bw g).new)) ?_⟩;rintro v Va ⟨pb,aT,rfl,f,Ui,E⟩;have U0:=f.size;refine bN.aS ⟨(cI L j.lines).1,pb,(cI L j.lines).2.length,aT⟩ ⟨_,rfl,g.new f,dC (vs:=bN.cells ⟨(cI L j.lines).1,pb,(cI L j.lines).2.length,aT⟩) (ai.ak f t) rfl (bN.single _) λVb w O=>?_⟩;exact fin ((o.new (g.new f)).trans O λk UJ e=>by omega) w (by omega) (ue Ui O λk z e=>by have:=E k z;omega) λk z=>by have:=E k z;omega
end
end
section
noncomputable abbrev mA:Func:=f129
def E9 (r:cN) (tb:Nat) (m:aO) (tag:Int) (V:ej) (o:dj):aw:=r.cells++(ptr tb::m.cells)++[.int .u64 tag,.slice V.fs V.jG V.lc,.int .u64 V.clock]++o.cells
structure sA (A:a2) (w0 u:al) (aI tb B:Nat) (r:cN) (m:aO) (tag:Int) (S:b2) (o:dj) (bo:al):Prop where
 ax:ao (λk=>k=tb\/k=aI) u bo
 ak:∃ V,av bo aI (E9 r tb m tag V o) nv
 hp:∃ hM:ee,ek A w0 bo tb hM S.a7/\hM.di=S.di/\(match S.ask with
  |none=>hM.cW=0
  |some vs=>0<vs.length/\∃ w1,ai w0 w1/\B<=w1.heap.size/\bD w1 bo hM.aa hM.cW hM.ac vs)
theorem ec.run {w0 u:al} {aI tb:Nat} {r:cN} {m:aO} {j:bz} {V:ej} {S:b2} (h:ec A w0 u aI tb B r m j V S bo):sA A w0 u aI tb B r m (f_ j.inc j.aP) S (h5 S.out) bo:=
 ⟨h.ax,⟨V,h.eb.ak⟩,h.hp⟩
def jR (j:bz) (m:aO) (G:List (List aC)):List a4:=qj j (bR G (fh j m)).done
def mf (j:bz) (m:aO) (G:List (List aC)):Int:=rN j (bR G (fh j m)).done
def pX (j:bz) (m:aO) (Ls:List a4) (clk:Int) (Z:(Int×Int)×b2):b2×dj:=
 if Z.2.ok=false then (Z.2,h5 Z.2.out) else if (hd j m Z.2.a7).ok=false then (hd j m Z.2.a7,h5 (hd j m Z.2.a7).out)
 else (hd j m Z.2.a7,⟨0,Z.1.1,Z.1.2,iv j.lines clk Ls,0⟩)
def rn (j:bz) (m:aO) (C:b2):b2×dj:=
 if C.ok=false then (C,h5 C.out) else if (fi j m C.a7).ok=false then (fi j m C.a7,h5 (fi j m C.a7).out)
 else pX j m (jR j m C.a7) (mf j m C.a7) (eC j m (jR j m C.a7) (fi j m C.a7).a7)
def hH (j:bz) (m:aO) (G:List (List aC)):b2×dj:=
 if (g2 j G).ok=false then (g2 j G,h5 (g2 j G).out) else rn j m (hQ j m (g2 j G).a7)
structure oi (S:b2):Prop where
 out:S.out=(0,0)
 ask:S.ask=none
 di:S.di=false
theorem wg {G:List (List aC)} {vs:List aG} (h:(bR G vs).ok=true):oi (bR G vs):=by obtain ⟨a,b,c⟩:=nG h;exact ⟨a,b,c⟩
theorem H5 {j:bz} {m:aO} {G:List (List aC)} (h:(hQ j m G).ok=true):oi (hQ j m G):=by
 unfold hQ at h ⊢;split at h
 ·rename_i e;rw [e] at h;cases h
 rename_i e;rw [if_neg e];split at h
 ·cases h
 rename_i a;rw [if_neg a];exact ⟨rfl,rfl,rfl⟩
theorem Jj {j:bz} {m:aO} {G:List (List aC)} (h:(fi j m G).ok=true):oi (fi j m G):=by
 unfold fi qt at h ⊢;split at h
 ·rename_i e;rw [e] at h;cases h
 rename_i e;rw [if_neg e];split at h
 ·rename_i a;rw [if_pos a];exact ⟨rfl,rfl,rfl⟩
 ·split at h
  ·rename_i b;rw [b] at h;cases h
  ·cases h
theorem Hj {j:bz} {m:aO} {G:List (List aC)} (h:(eC j m Ls G).2.ok=true):oi (eC j m Ls G).2:=by
 unfold eC at h ⊢;split at h
 ·rename_i e;rw [if_pos e];simp only at h ⊢;unfold mQ at h ⊢;split at h
  ·rename_i a;rw [a] at h;cases h
  rename_i a;rw [if_neg a];unfold ou at h ⊢;split at h
  ·rename_i b;rw [b] at h;cases h
  rename_i b;rw [if_neg b];split at h
  ·rename_i c;rw [if_pos c];exact wg h
  rename_i c;rw [if_neg c];unfold nC at h ⊢;split at h
  ·rename_i d;rw [d] at h;cases h
  rename_i d;rw [if_neg d];exact wg h
 rename_i e;rw [if_neg e];split at h
 ·rename_i a;rw [if_pos a];exact wg h
 ·rename_i a;rw [if_neg a];exact ⟨rfl,rfl,rfl⟩
theorem H6 {j:bz} {G:List (List aC)} (h:(g2 j G).ok=true):oi (g2 j G):=by
 unfold g2 si at h ⊢;split at h
 ·rename_i e;rw [e] at h;cases h
 rename_i e;rw [if_neg e];split at h
 ·cases h
 rename_i b;rw [if_neg b];unfold oX at h ⊢;split at h
 ·rename_i a;rw [a] at h;cases h
 rename_i a;rw [if_neg a];split at h
 ·cases h
 rename_i c;rw [if_neg c];exact ⟨rfl,rfl,rfl⟩
def xO (G:List (List aC)):Prop:=∀ ds ∈ G,∀ d ∈ ds,∀ x ∈ d.words,b3 x
theorem N9 {w:al} {a:an} {G:List (List aC)} (h:hj A w a G):xO G:=by obtain ⟨rows,n,_,_,j⟩:=h;intro ds b d aA x l;obtain ⟨i,f⟩:=gh.1 b;obtain ⟨k,g⟩:=gh.1 aA;obtain ⟨r,c⟩:∃ r,rows[i]?=some r:=⟨_,bM (by have:=cz f;omega)⟩;obtain ⟨_,_,e,_⟩:=j i r ds c f;obtain ⟨v,aj⟩:∃ v,r.raw[k]?=some v:=⟨_,bM (by have:=cz g;have:=e.1;omega)⟩;exact (e.2 k v d aj g).wf x l
theorem MV {G:List (List aC)} {vs:List aG} (h:xO G):∀ d ∈ (bR G vs).done,∀ x ∈ d.words,b3 x:=by
 intro d aA;have:d ∈ (batch G vs).done:=by
  unfold bR cd at aA;split at aA
  ·simp at aA
  split at aA
  ·simp at aA
  ·exact aA
 unfold batch at this;split at this
 ·simp at this
 cases G with
 |nil=>simp at this
 |cons ds G=>
  simp only at this;split at this
  ·exact h ds d_ d this
  ·simp at this
theorem Ms {j:bz} {m:aO} {G:List (List aC)} (h:xO G):b3 (mf j m G):=by
 unfold mf rN dv e5;rw [cK];cases aA:(bR G (fh j m)).done[2 * j.v.mem.length]? with
 |none=>exact gQ
 |some d=>
  have:=MV h d (cj aA);cases hw:d.words with
  |nil=>simp [hw];exact gQ
  |cons x l=>simp [hw];exact this x (by rw [hw];exact d_)
theorem Mt {j:bz} {m:aO} {G:List (List aC)} (h:(fi j m G).ok=true):(bR G (fh j m)).ok=true:=by
 unfold fi qt at h;split at h
 ·rename_i e;rw [e] at h;cases h
 ·rename_i e;simpa using e
theorem Mu {G:List (List aC)} {vs:List aG} (h:(bR G vs).ok=true):(bR G vs).done.length=vs.length:=by
 unfold bR cd at h ⊢;split at h
 ·cases h
 split at h
 ·cases h
 rename_i b e;rw [if_neg b,if_neg e];have a:(batch G vs).ok=true:=by simpa using b
 show (batch G vs).done.length=_;unfold batch at a ⊢;by_cases aj:vs.length=0
 ·rw [if_pos aj];exact aj.symm
 rw [if_neg aj] at a ⊢;cases G with
 |nil=>cases a
 |cons d G'=>
  simp only at a ⊢;split at a
  ·rename_i c;rw [if_pos c];have:=wH c;simp only;omega
  ·cases a
theorem J2 {j:bz} {m:aO} {G:List (List aC)} (h:(fi j m G).ok=true):(jR j m G).length=j.v.mem.length/\∀ L ∈ jR j m G,L.length=120:=by unfold jR qj;refine ⟨by simp,λL d=>?_⟩;obtain ⟨i,b,rfl⟩:=cD.1 d;have b:=dS.1 b;have a:=Mt h;obtain ⟨bb,hm⟩:=z4 (m:=m) b;have hlen:=Mu a;obtain ⟨x,c⟩:∃ x,(bR G (fh j m)).done[2 * i+1]?=some x:=⟨_,bM (by have:=cz hm;omega)⟩;have:=C1 a hm c;rw [cK,c];have e:(l7 j bb (eQ j.dead) 120).v.g7=120:=rfl;show x.words.length=120;omega
section
variable {A:a2} {w0 u:al} {aI tb:Nat} {r:cN} {m:aO} {j:bz} {V:ej} {T:ee} {G:List (List aC)}
theorem ec.tw {S:b2} (h:ec A w0 u aI tb B r m j V S bo) (c:oi S):c6 w0 bo aI tb r m j V (0,0)/\∃ b,ek A w0 bo tb b S.a7/\fz b:=by have a:=h.eb;rw [c.out] at a;obtain ⟨b,f,d,e⟩:=h.hp;rw [c.ask] at e;rw [c.di] at d;exact ⟨a,b,f,e,d⟩
theorem Mv (Uy:c6 w0 u aI tb r m j ⟨none,0,0,0⟩ (0,0)) (UN:ek A w0 u tb T G) (UD:fz T) :
  ba 129 [ptr aI] u λv bo=>v=.tuple #[]/\sA A w0 u aI tb u.heap.size r m (f_ j.inc j.aP) (hH j m G).1 (hH j m G).2 bo:=by
 refine bc Tryz.func129 ?_;rw [ptr,pu];generalize UM:(λ(v:a0) (bo:al)=>v=.tuple #[]/\sA A w0 u aI tb u.heap.size r m (f_ j.inc j.aP) (hH j m G).1 (hH j m G).2 bo)=R;have stop:∀ {w:al} (Up:aw),R (.tuple #[]) w->Go.bn.W prog (sub (bh mA) [0,1]) (sL ⟨aI,0,none⟩ true Up) (a1 (λenv w=>Go.bn.W prog (sub (bh mA) [1]) env (dh prog mA R) w) (dh prog mA R)) w:=by intro w Up h;refine gK (fn:=mA) (R:=R) (λ_ _=>rfl) ?_;rw [D8];exact fK rfl h
 have last:∀ {w:al} {S:b2×dj},hH j m G=S->sA A w0 u aI tb u.heap.size r m (f_ j.inc j.aP) S.1 S.2 w->R (.tuple #[]) w:=by intro w S e h;rw [<-UM,e];exact ⟨rfl,h⟩
 refine aD (sj Uy UN UD) ?_;rintro v bH ⟨rfl,q⟩;refine ⟨_,rfl,dZ (λUE=>stop _ (last (S:=(g2 j G,h5 (g2 j G).out)) (if_pos UE) q.run)) (λUG=>?_)⟩
 have Us:hH j m G=rn j m (hQ j m (g2 j G).a7):=if_neg (by rw [UG];simp);obtain ⟨Uz,UP,O,X⟩:=q.tw (H6 UG);refine aD (Mq Uz O X) ?_;rintro v bY ⟨rfl,J⟩;generalize UK:(g2 j G).a7=p at J O Us;have f:=ec.seq q.ax (ao.refl _ _) J q.ax.size;refine ⟨_,rfl,dZ (λUE=>stop _ (last (S:=(hQ j m p,h5 (hQ j m p).out)) (Us.trans (if_pos UE)) f.run)) (λUo=>?_)⟩
 obtain ⟨UA,UQ,I,Y⟩:=J.tw (H5 Uo);have Ut:hH j m G=if (fi j m (hQ j m p).a7).ok=false then (fi j m (hQ j m p).a7,h5 (fi j m (hQ j m p).a7).out) else pX j m (jR j m (hQ j m p).a7) (mf j m (hQ j m p).a7) (eC j m (jR j m (hQ j m p).a7) (fi j m (hQ j m p).a7).a7):=Us.trans (if_neg (by rw [Uo];simp));refine aD (MQ UA I Y) ?_;rintro v br ⟨rfl,M,K,b⟩;generalize (hQ j m p).a7=c at K b I Ut;have g:=ec.seq f.ax (ao.refl _ _) K f.ax.size;refine ⟨_,rfl,?_⟩;cases d:(fi j m c).ok with
 |false=>exact stop _ (last (S:=(fi j m c,h5 (fi j m c).out)) (Ut.trans (if_pos d)) g.run)
 |true=>
  obtain ⟨UB,UR,Uv,Ui⟩:=K.tw (Jj d);have N:hH j m G=pX j m (jR j m c) (mf j m c) (eC j m (jR j m c) (fi j m c).a7):=Ut.trans (if_neg (by rw [d];simp));obtain ⟨b,a⟩:=b d;have b:kx w0 br aI tb M (jR j m c):=b;have a:M.clock=mf j m c:=a;obtain ⟨Um,B⟩:=J2 d;have Uk:b3 (mf j m c):=Ms (N9 I.a7);refine gK (fn:=mA) (R:=R) (λ_ _=>rfl) ?_;rw [D8];refine dw rfl (ev (gK (fn:=mA) (R:=R) (λ_ _=>rfl) ?_));rw [PQ];generalize jR j m c=Ls at b N Um B;generalize mf j m c=clk at a N Uk;refine aD (J1 UB Uv Ui b Um) ?_;rintro v UT ⟨rfl,s⟩;have H:(eC j m Ls (fi j m c).a7).2.ok=true->oi (eC j m Ls (fi j m c).a7).2:=Hj;generalize eC j m Ls (fi j m c).a7=Z at s N H;have l:=ec.seq g.ax (ao.refl _ _) s g.ax.size;have n:∀ {w:al} {S:b2×dj} (Up:aw) {Q:Exit->aw->aE},(∀ env w,Q .ret env w=dh prog mA R .ret env w)->hH j m G=S->sA A w0 u aI tb u.heap.size r m (f_ j.inc j.aP) S.1 S.2 w->∀ (x y:Int),(∀ env w,R (.tuple #[]) w->Q .normal env w)->Go.bn.W prog (sub (bh mA) [1,1,1]) (vj ⟨aI,0,none⟩ x y false Up) (bC prog mA R Q) w:=by intro w S Up Q dp e h x y UL;rw [D9];exact dw rfl (UL _ _ (last e h))
  refine ⟨_,_,_,rfl,fy (λUq=>?_) (λUq=>?_)⟩
  ·obtain ⟨UC,US,Uw,Uj⟩:=s.tw (H Uq);have Uu:hH j m G=if (hd j m Z.2.a7).ok=false then (hd j m Z.2.a7,h5 (hd j m Z.2.a7).out) else (hd j m Z.2.a7,⟨0,Z.1.1,Z.1.2,iv j.lines clk Ls,0⟩):=N.trans (if_neg (by rw [Uq];simp));refine aD (AT UC Uw Uj) ?_;rintro v UH ⟨rfl,t⟩;have z:(hd j m Z.2.a7).ok=true->oi (hd j m Z.2.a7):=wg;generalize hd j m Z.2.a7=E at t Uu z;have F:=ec.seq l.ax (ao.refl _ _) t l.ax.size;refine ⟨_,rfl,?_⟩;cases aJ:E.ok with
   |false=>exact n _ (λ_ _=>rfl) (S:=(E,h5 E.out)) (Uu.trans (if_pos aJ)) F.run _ _ λ_ _ h=>h
   |true=>
    have UJ:=Uu.trans (if_neg (by rw [aJ];simp));obtain ⟨U,UI,Ux,C⟩:=t.tw (z aJ);rw [D9];refine fK rfl ?_;have Ul:ao (λk=>k=tb\/k=aI) br UH:=s.ax.trans t.ax λ_ _ e=>e
    refine aD (Jh U (b.ax Ul λ_ e=>e) (by have:=Uy.ca.mem;omega) B (by rw [a];exact Uk)) ?_;rintro v UO ⟨rfl,Un⟩;have V:=U.bw Un;refine ⟨_,rfl,fI V.ak (dd 20) (dj.single ⟨0,Z.1.1,Z.1.2,_,0⟩),λUr L=>?_⟩;have UF:ao (λk=>k=aI) UO Ur:=by rw [L];exact ht _ _ _ _ _
    have P:av Ur aI (E9 r tb m (f_ j.inc j.aP) M ⟨0,Z.1.1,Z.1.2,iv j.lines M.clock Ls,0⟩) nv:=by rw [L];exact V.ak.cl (vs:=dj.cells ⟨0,Z.1.1,Z.1.2,_,0⟩) (o:=15) (i:=0)
    clear L;rw [a] at P;have D:ao (λk=>k=aI) UH Ur:=(ao.bZ Un).trans UF λ_ _ e=>e
    show R (.tuple #[]) Ur;refine last UJ ⟨F.ax.trans D λk _ e=>.inr e,⟨M,P⟩,UI,Ux.ax D λe=>Uy.ne e.symm,by rw [C.di,(z aJ).di],?_⟩;rw [(z aJ).ask];exact C.cW
  ·exact n _ (λ_ _=>rfl) (S:=(Z.2,h5 Z.2.out)) (N.trans (if_pos Uq)) l.run _ _ λ_ _ h=>h
end
end
section
open IntKind
variable (w:al) (R:cp) {A:aV} {j:aq} {F G:Bool} {i k:Int}
def kg:Code->List Oper
 | .region _ ops _=>ops.toList
 | _=>[]
def ol (a:aV) (j:aq):aq:=ag j 0 1 (.pointer (some a)::ag j 1 119 [])
def vy (a:aV) (b:Bool) (j:aq):aq:=ag j 0 1 (.pointer (some a)::ag j 1 25 (ad b::ag j 26 93 []))
def ED (a:aV) (j:aq):aq:=ag j 0 1 (.pointer (some a)::ag j 1 119 [])
def vz (a:aV) (c d:Int) (s8 b:Bool) (j:aq):aq:=ag j 0 1 (.pointer (some a)::ag j 1 4 (ab c::ab d::ad s8::ag j 5 32 (ad b::ag j 37 79 [])))
def yU (a:aV) (b c:Int) (s8:Bool) (j:aq):aq:=ag j 0 1 (.pointer (some a)::ag j 1 4 (ab b::ab c::ad s8::ag j 5 112 []))
def vA (a:aV) (c d:Int) (s8 b:Bool) (j:aq):aq:=ag j 0 1 (.pointer (some a)::ag j 1 4 (ab c::ab d::ad s8::ag j 5 41 (ad b::ag j 46 70 [])))
def yV (a:aV) (b c:Int) (s8:Bool) (j:aq):aq:=ag j 0 1 (.pointer (some a)::ag j 1 4 (ab b::ab c::ad s8::ag j 5 112 []))
def qQ (a:aV) (c d:Int) (s8 b:Bool) (j:aq):aq:=ag j 0 1 (.pointer (some a)::ag j 1 4 (ab c::ab d::ad s8::ag j 5 54 (ad b::ag j 59 57 [])))
def vB (a:aV) (b c:Int) (s8:Bool) (j:aq):aq:=ag j 0 1 (.pointer (some a)::ag j 1 4 (ab b::ab c::ad s8::ag j 5 112 []))
def yR (a:aV) (c d:Int) (b:Bool) (j:aq):aq:=ag j 0 1 (.pointer (some a)::ag j 1 4 (ab c::ab d::ag j 5 77 (ad b::ag j 82 35 [])))
def yS (a:aV) (b c:Int) (j:aq):aq:=ag j 0 1 (.pointer (some a)::ag j 1 4 (ab b::ab c::ag j 5 113 []))
def py (a:Bool) (j:aq):aq:=ag j 0 120 [ad a]
def Ey (a:Bool) (j:aq):aq:=ag j 0 93 (ad a::ag j 93 27 [])
def pz  (j:aq):aq:=ag j 0 121 []
theorem TE (f:cN):bd prog f127 [f.val] R w=(aQ w f.cells.toArray 41 λe g=>bG g (af e 1) λa=>bG g (af e 0) λb=>g6 128 #[ab a,ab b] g λc d h=>cond (d != 0) (R (ab d) h) (W prog (sb f127 [1,1]) (ol (af e 0) (f.val::ab 0::ah c::ab d::bx 4 (.tuple #[ah c,ab d]::jp (af e 1)::ab a::jp (af e 0)::ab b::.tuple #[ah c,ab d]::ah c::ab d::ab d::ad ((d:Int) != 0)::bx 102 []))) (bW f127 R) h)):=by kernel_rfl
theorem Rh (env:aq) (w:al) (Q:Exit->aq->aE):W prog (sub (bh f127) [1,1]) env Q w=W prog (sub (bh f127) [1,1,0]) env (a1 (λenv w=>W prog (sub (bh f127) [1,1,1]) env Q w) Q) w:=by rw [show sub (bh f127) [1,1]=.seq (sub (bh f127) [1,1,0]) (sub (bh f127) [1,1,1]) by kernel_rfl];generalize sub (bh f127) [1,1,0]=a;generalize sub (bh f127) [1,1,1]=b;kernel_rfl
theorem QG (env:aq) (w:al) (Q:Exit->aq->aE):W prog (sub (bh f127) [1,1,0]) env Q w=W prog (sub (bh f127) [1,1,0,0]) env (a1 (λenv w=>W prog (sub (bh f127) [1,1,0,1]) env Q w) Q) w:=by rw [show sub (bh f127) [1,1,0]=.seq (sub (bh f127) [1,1,0,0]) (sub (bh f127) [1,1,0,1]) by kernel_rfl];generalize sub (bh f127) [1,1,0,0]=a;generalize sub (bh f127) [1,1,0,1]=b;kernel_rfl
theorem Se (a:Exit->aq->aE):W prog (sb f127 [1,1,0,0]) (ol A j) (bC prog f127 R a) w=(bG w (bS A 5) λb=>cond (b<0) (a .normal (vy A true (ag j 0 19 (bE A 5::ab b::ad (b<0)::ad true::bx 3 (ag j 27 93 [])))) w) (bG w (bS A 5) λc=>a .normal (vy A (decide ((c:Int)>=6)) (ag j 0 19 (bE A 5::ab b::ad (b<0)::ad false::bE A 5::ab c::ad (c>=6)::ag j 27 93 []))) w)):=by kernel_rfl
theorem rt (a:Exit->aq->aE):W prog (sb f127 [1,1,0,1]) (vy A F j) (bC prog f127 R a) w=(cond F (R (ab 1) w) (a .normal (ED A (ag j 0 26 (ad F::ag j 26 93 []))) w)):=by kernel_rfl
theorem Sf (a:Exit->aq->aE):W prog (sb f127 [1,1,1]) (ED A j) (bC prog f127 R a) w=(lo w (bS A 3) λk=>cm 166 #[k.val,ab 5] w λb m=>cond (b != 0) (R (ab b) m) (dN m (bS A 7) λc=>zc 177 #[ah c] m λd f g e=>bG e (bS A 2) λh=>cond (h<98) (W prog (sb f127 [1,1,1,1,1,0,0,1]) (vz A d f g true (ag j 0 4 (ab b::ag j 8 19 (bE A 3::k.val::ab b::ab b::ad ((b:Int) != 0)::aN j 32::.tuple #[ab d,ab f,ad g]::bE A 7::ah c::.tuple #[ab d,ab f,ad g]::ab d::ab f::ad g::bE A 2::ab h::ad (h<98)::ad true::bx 3 (ad true::ag j 49 71 []))))) (aW 0 (a1 (λl w=>W prog (sb f127 [1,1,1,1,1,1]) l (bC prog f127 R a) w) (bC prog f127 R a))) e) (bG e (bS A 2) λi=>W prog (sb f127 [1,1,1,1,1,0,0,1]) (vz A d f g (decide ((i:Int)>256)) (ag j 0 4 (ab b::ag j 8 19 (bE A 3::k.val::ab b::ab b::ad ((b:Int) != 0)::aN j 32::.tuple #[ab d,ab f,ad g]::bE A 7::ah c::.tuple #[ab d,ab f,ad g]::ab d::ab f::ad g::bE A 2::ab h::ad (h<98)::ad false::bE A 2::ab i::ad (i>256)::ad (i>256)::ag j 49 71 [])))) (aW 0 (a1 (λl w=>W prog (sb f127 [1,1,1,1,1,1]) l (bC prog f127 R a) w) (bC prog f127 R a))) e))):=by kernel_rfl
theorem rx (a:Exit->aq->aE):W prog (sb f127 [1,1,1,1,1,0,0,1]) (vz A i k F G j) (bC prog f127 R a) w=(cond G (R (ab 18) w) (W prog (sb f127 [1,1,1,1,1,0,0,1,1]) (yU A i k F (ag j 0 37 (ad G::ag j 37 79 []))) (bC prog f127 R a) w)):=by kernel_rfl
theorem Ri (env:aq) (w:al) (Q:Exit->aq->aE):W prog (sub (bh f127) [1,1,1,1,1,0,0,1,1]) env Q w=W prog (sub (bh f127) [1,1,1,1,1,0,0,1,1,0]) env (a1 (λenv w=>W prog (sub (bh f127) [1,1,1,1,1,0,0,1,1,1]) env Q w) Q) w:=by rw [show sub (bh f127) [1,1,1,1,1,0,0,1,1]=.seq (sub (bh f127) [1,1,1,1,1,0,0,1,1,0]) (sub (bh f127) [1,1,1,1,1,0,0,1,1,1]) by kernel_rfl];generalize sub (bh f127) [1,1,1,1,1,0,0,1,1,0]=a;generalize sub (bh f127) [1,1,1,1,1,0,0,1,1,1]=b;kernel_rfl
theorem Sg (a:Exit->aq->aE):W prog (sb f127 [1,1,1,1,1,0,0,1,1,0]) (yU A i k F j) (bC prog f127 R a) w=(bG w (bS A 5) λb=>bG w A λc=>cond (b == c) (bG w (bS A 6) λd=>bG w (bS A 1) λf=>a .normal (vA A i k F ((d:Int) != f) (ag j 0 46 (bE A 5::ab b::jp A::ab c::ad ((b:Int) == c)::ad true::bE A 6::ab d::bE A 1::ab f::ad ((d:Int) != f)::ad ((d:Int) != f)::ag j 59 58 []))) w) (a .normal (vA A i k F false (ag j 0 46 (bE A 5::ab b::jp A::ab c::ad ((b:Int) == c)::ad false::bx 5 (ad false::ag j 59 58 [])))) w)):=by kernel_rfl
theorem RV (a:Exit->aq->aE):W prog (sb f127 [1,1,1,1,1,0,0,1,1,1]) (vA A i k F G j) (bC prog f127 R a) w=(cond G (R (ab 1) w) (W prog (sb f127 [1,1,1,1,1,0,0,1,1,1,1]) (yV A i k F (ag j 0 46 (ad G::ag j 46 70 []))) (bC prog f127 R a) w)):=by kernel_rfl
theorem Rj (env:aq) (w:al) (Q:Exit->aq->aE):W prog (sub (bh f127) [1,1,1,1,1,0,0,1,1,1,1]) env Q w=W prog (sub (bh f127) [1,1,1,1,1,0,0,1,1,1,1,0]) env (a1 (λenv w=>W prog (sub (bh f127) [1,1,1,1,1,0,0,1,1,1,1,1]) env Q w) Q) w:=by rw [show sub (bh f127) [1,1,1,1,1,0,0,1,1,1,1]=.seq (sub (bh f127) [1,1,1,1,1,0,0,1,1,1,1,0]) (sub (bh f127) [1,1,1,1,1,0,0,1,1,1,1,1]) by kernel_rfl];generalize sub (bh f127) [1,1,1,1,1,0,0,1,1,1,1,0]=a;generalize sub (bh f127) [1,1,1,1,1,0,0,1,1,1,1,1]=b;kernel_rfl
theorem RW (a:Exit->aq->aE):W prog (sb f127 [1,1,1,1,1,0,0,1,1,1,1,0]) (yV A i k F j) (bC prog f127 R a) w=(bG w (bS A 5) λb=>bG w A λc=>cond (b != c) (bG w (bS A 6) λd=>cond (d<2) (a .normal (qQ A i k F true (ag j 0 59 (bE A 5::ab b::jp A::ab c::ad ((b:Int) != c)::ad true::bE A 6::ab d::ad (d<2)::ad true::bx 3 (ad true::ad true::bx 4 (ad true::ad true::ag j 81 36 []))))) w) (bG w (bS A 6) λf=>cond (f>60) (a .normal (qQ A i k F true (ag j 0 59 (bE A 5::ab b::jp A::ab c::ad ((b:Int) != c)::ad true::bE A 6::ab d::ad (d<2)::ad false::bE A 6::ab f::ad (f>60)::ad (f>60)::ad true::bx 4 (ad true::ad true::ag j 81 36 [])))) w) (bG w (bS A 6) λg=>a .normal (qQ A i k F (((Int.tmod g 2):Int) != 0) (ag j 0 59 (bE A 5::ab b::jp A::ab c::ad ((b:Int) != c)::ad true::bE A 6::ab d::ad (d<2)::ad false::bE A 6::ab f::ad (f>60)::ad (f>60)::ad false::bE A 6::ab g::ab (Int.tmod g 2)::ad (((Int.tmod g 2):Int) != 0)::ad (((Int.tmod g 2):Int) != 0)::ad (((Int.tmod g 2):Int) != 0)::ag j 81 36 []))) w))) (a .normal (qQ A i k F false (ag j 0 59 (bE A 5::ab b::jp A::ab c::ad ((b:Int) != c)::ad false::bx 14 (ad false::ag j 81 36 [])))) w)):=by kernel_rfl
theorem RX (a:Exit->aq->aE):W prog (sb f127 [1,1,1,1,1,0,0,1,1,1,1,1]) (qQ A i k F G j) (bC prog f127 R a) w=(cond G (R (ab 2) w) (W prog (sb f127 [1,1,1,1,1,0,0,1,1,1,1,1,1]) (vB A i k F (ag j 0 59 (ad G::ag j 59 57 []))) (bC prog f127 R a) w)):=by kernel_rfl
theorem QV (env:aq) (w:al) (Q:Exit->aq->aE):W prog (sub (bh f127) [1,1,1,1,1,0,0,1,1,1,1,1,1]) env Q w=W prog (sub (bh f127) [1,1,1,1,1,0,0,1,1,1,1,1,1,0]) env (a1 (λenv w=>W prog (sub (bh f127) [1,1,1,1,1,0,0,1,1,1,1,1,1,1]) env Q w) Q) w:=by rw [show sub (bh f127) [1,1,1,1,1,0,0,1,1,1,1,1,1]=.seq (sub (bh f127) [1,1,1,1,1,0,0,1,1,1,1,1,1,0]) (sub (bh f127) [1,1,1,1,1,0,0,1,1,1,1,1,1,1]) by kernel_rfl];generalize sub (bh f127) [1,1,1,1,1,0,0,1,1,1,1,1,1,0]=a;generalize sub (bh f127) [1,1,1,1,1,0,0,1,1,1,1,1,1,1]=b;kernel_rfl
theorem RY (a:Exit->aq->aE):W prog (sb f127 [1,1,1,1,1,0,0,1,1,1,1,1,1,0]) (vB A i k F j) (bC prog f127 R a) w=(dN w (bS A 7) λb=>cond (b != 0) (a .normal (yR A i k (!F) (ag j 0 5 (ad F::ag j 5 76 (bE A 7::ah b::ad ((b:Int) != 0)::ad true::ad F::ad (!F)::ad (!F)::ag j 89 28 [])))) w) (a .normal (yR A i k false (ag j 0 5 (ad F::ag j 5 76 (bE A 7::ah b::ad ((b:Int) != 0)::ad false::bx 2 (ad false::ag j 89 28 []))))) w)):=by kernel_rfl
theorem Et (a:Exit->aq->aE):W prog (sb f127 [1,1,1,1,1,0,0,1,1,1,1,1,1,1]) (yR A i k F j) (bC prog f127 R a) w=(cond F (R (ab 1) w) (W prog (sb f127 [1,1,1,1,1,0,0,1,1,1,1,1,1,1,1]) (yS A i k (ag j 0 82 (ad F::ag j 82 35 []))) (bC prog f127 R a) w)):=by kernel_rfl
theorem QH (env:aq) (w:al) (Q:Exit->aq->aE):W prog (sub (bh f127) [1,1,1,1,1,0,0,1,1,1,1,1,1,1,1]) env Q w=W prog (sub (bh f127) [1,1,1,1,1,0,0,1,1,1,1,1,1,1,1,0]) env (a1 (λenv w=>W prog (sub (bh f127) [1,1,1,1,1,0,0,1,1,1,1,1,1,1,1,1]) env Q w) Q) w:=by rw [show sub (bh f127) [1,1,1,1,1,0,0,1,1,1,1,1,1,1,1]=.seq (sub (bh f127) [1,1,1,1,1,0,0,1,1,1,1,1,1,1,1,0]) (sub (bh f127) [1,1,1,1,1,0,0,1,1,1,1,1,1,1,1,1]) by kernel_rfl];generalize sub (bh f127) [1,1,1,1,1,0,0,1,1,1,1,1,1,1,1,0]=a;generalize sub (bh f127) [1,1,1,1,1,0,0,1,1,1,1,1,1,1,1,1]=b;kernel_rfl
theorem Ru (e:Exit->aq->aE):W prog (sb f127 [1,1,1,1,1,0,0,1,1,1,1,1,1,1,1,0]) (yS A i k j) (bC prog f127 R e) w=(dN w (bS A 7) λb=>cond (b != 0) (bG w A λc=>cond (k == c) (bG w (bS A 1) λd=>cond (i>=d) (jr prog (kg (sb f127 [1,1,1,1,1,0,0,1,1,1,1,1,1,1,1,0])) ((kg (sb f127 [1,1,1,1,1,0,0,1,1,1,1,1,1,1,1,0])).drop 27) (py true (aN j 0::jp A::ag j 1 4 (ab i::ab k::ag j 5 86 (bE A 7::ah b::ad ((b:Int) != 0)::ad true::ab k::jp A::ab c::ad ((k:Int) == c)::ad true::ab i::bE A 1::ab d::ad (i>=d)::ad (i>=d)::ad true::bx 10 [ad true])))) ((bC prog f127 R e) .normal) w) (bG w (bS A 5) λf=>cond (k == f) (bG w (bS A 6) λg=>jr prog (kg (sb f127 [1,1,1,1,1,0,0,1,1,1,1,1,1,1,1,0])) ((kg (sb f127 [1,1,1,1,1,0,0,1,1,1,1,1,1,1,1,0])).drop 27) (py (decide ((i:Int)>=g)) (aN j 0::jp A::ag j 1 4 (ab i::ab k::ag j 5 86 [bE A 7,ah b,ad ((b:Int) != 0),ad true,ab k,jp A,ab c,ad ((k:Int) == c),ad true,ab i,bE A 1,ab d,ad (i>=d),ad (i>=d),ad false,ab k,bE A 5,ab f,ad ((k:Int) == f),ad true,ab i,bE A 6,ab g,ad (i>=g),ad (i>=g),ad (i>=g)]))) ((bC prog f127 R e) .normal) w) (jr prog (kg (sb f127 [1,1,1,1,1,0,0,1,1,1,1,1,1,1,1,0])) ((kg (sb f127 [1,1,1,1,1,0,0,1,1,1,1,1,1,1,1,0])).drop 27) (py false (aN j 0::jp A::ag j 1 4 (ab i::ab k::ag j 5 86 (bE A 7::ah b::ad ((b:Int) != 0)::ad true::ab k::jp A::ab c::ad ((k:Int) == c)::ad true::ab i::bE A 1::ab d::ad (i>=d)::ad (i>=d)::ad false::ab k::bE A 5::ab f::ad ((k:Int) == f)::ad false::bx 4 [ad false,ad false])))) ((bC prog f127 R e) .normal) w))) (bG w (bS A 5) λh=>cond (k == h) (bG w (bS A 6) λa=>jr prog (kg (sb f127 [1,1,1,1,1,0,0,1,1,1,1,1,1,1,1,0])) ((kg (sb f127 [1,1,1,1,1,0,0,1,1,1,1,1,1,1,1,0])).drop 27) (py (decide ((i:Int)>=a)) (aN j 0::jp A::ag j 1 4 (ab i::ab k::ag j 5 86 (bE A 7::ah b::ad ((b:Int) != 0)::ad true::ab k::jp A::ab c::ad ((k:Int) == c)::ad false::bx 4 [ad false,ad false,ab k,bE A 5,ab h,ad ((k:Int) == h),ad true,ab i,bE A 6,ab a,ad (i>=a),ad (i>=a),ad (i>=a)])))) ((bC prog f127 R e) .normal) w) (jr prog (kg (sb f127 [1,1,1,1,1,0,0,1,1,1,1,1,1,1,1,0])) ((kg (sb f127 [1,1,1,1,1,0,0,1,1,1,1,1,1,1,1,0])).drop 27) (py false (aN j 0::jp A::ag j 1 4 (ab i::ab k::ag j 5 86 (bE A 7::ah b::ad ((b:Int) != 0)::ad true::ab k::jp A::ab c::ad ((k:Int) == c)::ad false::bx 4 (ad false::ad false::ab k::bE A 5::ab h::ad ((k:Int) == h)::ad false::bx 4 [ad false,ad false]))))) ((bC prog f127 R e) .normal) w))) (jr prog (kg (sb f127 [1,1,1,1,1,0,0,1,1,1,1,1,1,1,1,0])) ((kg (sb f127 [1,1,1,1,1,0,0,1,1,1,1,1,1,1,1,0])).drop 27) (py false (aN j 0::jp A::ag j 1 4 (ab i::ab k::ag j 5 86 (bE A 7::ah b::ad ((b:Int) != 0)::ad false::bx 22 [])))) ((bC prog f127 R e) .normal) w)):=by kernel_rfl
theorem Rv (a:Exit->aq->aE):jr prog (kg (sb f127 [1,1,1,1,1,0,0,1,1,1,1,1,1,1,1,0])) ((kg (sb f127 [1,1,1,1,1,0,0,1,1,1,1,1,1,1,1,0])).drop 27) (py F j) ((bC prog f127 R a) .normal) w=(a .normal (Ey F (ag j 0 93 (ag j 94 26 [ad F]))) w):=by kernel_rfl
theorem Rw (a:Exit->aq->aE):W prog (sb f127 [1,1,1,1,1,0,0,1,1,1,1,1,1,1,1,1]) (Ey F j) (bC prog f127 R a) w=(cond F (R (ab 1) w) (a .normal (pz  (ag j 0 93 (ad F::ag j 93 27 []))) w)):=by kernel_rfl
theorem Rx (a:Exit->aq->aE):W prog (sb f127 [1,1,1,1,1,1]) (pz  j) (bC prog f127 R a) w=(R (ab 0) w):=by kernel_rfl
end
end Go.Proofs.YtmkljjbioomepaaGreat
