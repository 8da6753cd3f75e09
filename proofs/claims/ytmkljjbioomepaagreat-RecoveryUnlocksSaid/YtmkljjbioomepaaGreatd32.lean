import Derived.Test.YtmkljjbioomepaaGreatd31
import Derived.Test.YtmkljjbioomepaaGreatProg
import Derived.Test.YtmkljjbioomepaaGreatd03
import Derived.Test.YtmkljjbioomepaaGreatd23
set_option linter.all false
set_option maxHeartbeats 4000000
set_option maxRecDepth 100000
namespace Go.Proofs.YtmkljjbioomepaaGreat
open Go.Proofs.Tryz Go.bs
variable {A:a6} {B:Nat} {G:List (List aM)} {L:a8} {aV:List a8} {P:Program} {Q:Exit->ax->aF} {R:cz} {S:cr} {c:Code} {env:ax} {fn:Func} {j:ca} {lines:Int} {m:a0} {r:dE} {bw w:ak} {vs:List aQ}
section
structure zX (R:Int×List aK):Prop where
 dI:fH R.1 R.2 256=0
 pl:qs R.2
 u64:∀ x ∈ fo R.1 R.2,cj x
theorem EL (h:fU L lines=true) (hu:∀ x ∈ L,cj x):zX (c1 L lines):=by obtain ⟨g,f,i⟩:=MQ h hu;obtain ⟨_,k,_⟩:=jy g;refine ⟨Bc g,⟨f,i⟩,DQ (by unfold cj;omega) f.eB λp j=>?_⟩;obtain ⟨a,b,c,d,e⟩:=f.ok p j;exact ⟨by unfold cj;omega,e,i p j⟩
theorem Ed {lines:Int} {P:(Int×List aK)->Prop}:∀ (aV:List a8) (b:(Int×List aK)×Bool),(∀ L ∈ aV,gx L lines=true->P (fp L lines))->(b.2=true->P b.1)->(aV.foldl (mC lines) b).2=true->P (aV.foldl (mC lines) b).1
 | [],_,_,a=>a
 |L::aV,b,h,a=>by
  refine Ed aV _ (λc d=>h c (fw _ d)) ?_;unfold mC;split
  ·rename_i e;exact λ_=>h L eO e.1
  ·exact a
theorem BW (h:gx L lines=true):fU L lines=true/\fp L lines=c1 L lines:=by refine ⟨?_,if_pos h⟩;unfold gx at h;exact (ep _ _▸h).1
theorem Oj (hu:∀ L ∈ aV,∀ x ∈ L,cj x) (h:(ef lines aV).2=true):zX (ef lines aV).1:=by refine Ed (P:=zX) aV _ (λL c d=>?_) (λe=>by cases e) h;obtain ⟨a,b⟩:=BW d;rw [b];exact EL a (hu L c)
def hN (j:ca) (m:a0) (aV:List a8) (G:List (List aM)):(Int×Int)×cr:=
 if (ef j.lines aV).2=true then ((2,(ef j.lines aV).1.1),p0 j m (ef j.lines aV).1.1 (ef j.lines aV).1.2 aV G)
 else if fU (aV.getD 0 []) j.lines=true then ((3,(c1 (aV.getD 0 []) j.lines).1),tV j m (c1 (aV.getD 0 []) j.lines).2 G)
 else ((1,0),⟨true,[],(0,0),G,none,false⟩)
section
variable {A:a6} {w0 u:ak} {aI tb:Nat} {r:dE} {m:a0} {j:ca} {V:gl} {T:gn} {G:List (List aM)}
def zt (A:a6) (w0 u:ak) (aI tb:Nat) (r:dE) (m:a0) (j:ca) (V:gl) (S:(Int×Int)×cr) (v:a4) (bw:ak):Prop:=
 v=.tuple #[.int .i64 S.1.1,.int .i64 S.1.2,.bool S.2.ok]/\eF A w0 u aI tb u.heap.size r m j V S.2 bw
theorem Md (N:dg w0 u aI tb r m j V (0,0)) (XP:eP A w0 u tb T G) (I:ga T) (Y:k1 w0 u aI tb V aV) (XR:aV.length=j.v.mem.length) :
  bb 182 [ptr aI] u (zt A w0 u aI tb r m j V (hN j m aV G)):=by
 refine bd Tryz.func182 ?_;rw [ptr,Ta];have X':=N.aj.lt;have Yd:=XP.aj.lt;have Yj:=N.b8.mem;have J:=N.bQ.lines;obtain ⟨⟨XM,X2,X1,Ym,P⟩,X9⟩:=id Y;have hu:∀ L ∈ aV,∀ x ∈ L,cj x:=λL XO=>by obtain ⟨i,X8⟩:=ei.1 XO;obtain ⟨s,XQ⟩:∃ s,XM[i]?=some s:=⟨_,bE (by have:=b3 X8;omega)⟩;exact (P i s L XQ X8).u64
 refine aD (Il N Y (by omega)) ?_;rintro v w1 ⟨a2,pc,rfl,XC,XH,X0⟩;have Yk:=XC.size;have C:=Oj (lines:=j.lines) hu;have Xz:(ef j.lines aV).2=true->hN j m aV G=((2,(ef j.lines aV).1.1),p0 j m (ef j.lines aV).1.1 (ef j.lines aV).1.2 aV G):=λh=>if_pos h
 have XA:¬ (ef j.lines aV).2=true->hN j m aV G=if fU (aV.getD 0 []) j.lines=true then ((3,(c1 (aV.getD 0 []) j.lines).1),tV j m (c1 (aV.getD 0 []) j.lines).2 G) else ((1,0),⟨true,[],(0,0),G,none,false⟩):=λh=>if_neg h
 generalize ef j.lines aV=d at XH C Xz XA;refine b0.aT ⟨d.1.1,a2,d.1.2.length,pc⟩ ⟨_,rfl,?_⟩;refine ec (vs:=b0.cells ⟨d.1.1,a2,d.1.2.length,pc⟩) rfl (b0.single _) λb1 Ye Yi X3 XD=>?_
 have Q:=XC.new XD;refine f' (λXy=>?_) (λXy=>?_)
 ·rw [Xz Xy];have z:=C Xy;rintro Yp XJ;have Z:ai Ye Yp:=by rw [XJ];exact cK _
  clear XJ;have l:=Q.new Z;have w:=ai.aj Z X3;refine ⟨λy=>av y b1 (b0.cells ⟨d.1.1,a2,d.1.2.length,pc⟩) er,w,d.1.1,λy B=>B.cell (i:=0) rfl,b0.aT ⟨d.1.1,a2,d.1.2.length,pc⟩ ⟨λy B=>bO B rfl,?_⟩⟩;refine aD (JQ (N.bB l) (XP.new l) I (Y.new l) XR (q:=⟨d.1.1,a2,d.1.2.length,pc⟩) (XH.new (XD.new Z)) (λk z=>?_) z.dI z.u64 z.pl) ?_
  ·have:=X0 k z;constructor<;>omega
  rintro v Yu ⟨rfl,XF⟩;exact ⟨_,rfl,XF.aA.aj w λe=>by rcases e with e | e<;>omega,rfl,XF.of l l.size⟩
 have Xy:¬ d.2=true:=by rw [Xy];simp
 rw [XA Xy];rintro Yf XK;have XX:ai Ye Yf:=by rw [XK];exact cK _
 clear XK;have o:=Q.new XX;have H:=N.bB o;obtain ⟨s,XQ⟩:∃ s,XM[0]?=some s:=⟨_,bE (by omega)⟩;obtain ⟨L,XO⟩:∃ L,aV[0]?=some L:=⟨_,bE (by omega)⟩;have X:=P 0 s L XQ XO;have Yh:aV.getD 0 []=L:=by rw [dq,XO];rfl
 rw [Yh];have XY:=EL (L:=L) (lines:=j.lines) (hu:=X.u64);refine ⟨λy=>ai Yf y,ao.refl _ _,_,_,_,λy B=>(ai.aj B H.aj).cell (i:=13) rfl,?_⟩;refine jj (cells:=mK) (sz:=1) (λ_=>rfl) (by decide) (X2.new o) XQ rfl X1 λb' Yt XU=>⟨s.a,s.n,s.c,λy B=>by simpa using XU y B 0 _ rfl,r.hs,λy B=>(ai.aj B H.aj).cell (i:=2) rfl,?_⟩
 rw [J];have fin:∀ {y:ak} {aB:Nat} {pb:an} {aY:Nat},ai u y->av y aB (b0.cells ⟨(c1 L j.lines).1,pb,(c1 L j.lines).2.length,aY⟩) er->u.heap.size<=aB->fm y pb (c1 L j.lines).2.length (c1 L j.lines).2->(∀ k,aL pb k->u.heap.size<=k)->
   (bif (fU L j.lines) then (∀ F,F=y.drew->∃ XN:aF,XN F/\∃ Seq:Int,(∀ u,XN u->u.cell? ⟨aB,0,none⟩=some (.int .i64 Seq))/\b0.ex λr1=>(∀ u,XN u->cf u ⟨aB,0,none⟩ 0 r1.cells)/\Calls prog 229 #[ptr aI,r1.val] F λe Xx=>∃ b:Bool,e=.returned (.bool b)/\XN Xx/\zt A w0 u aI tb r m j V (if fU L j.lines=true then ((3,(c1 L j.lines).1),tV j m (c1 L j.lines).2 G) else ((1,0),⟨true,[],(0,0),G,none,false⟩)) (.tuple #[.int .i64 3,.int .i64 Seq,.bool b]) Xx)
    else zt A w0 u aI tb r m j V (if fU L j.lines=true then ((3,(c1 L j.lines).1),tV j m (c1 L j.lines).2 G) else ((1,0),⟨true,[],(0,0),G,none,false⟩)) (.tuple #[.int .i64 1,.int .i64 0,.bool true]) y):=by
  intro y aB pb aY M X4 XB XZ X_;refine f' (λhw=>?_) (λhw=>?_)
  ·rw [if_pos hw];have z:=XY hw;rintro F S;have D:ai y F:=by rw [S];exact cK _
   clear S;have p:=M.new D;have W:=ai.aj D X4;refine ⟨λy=>av y aB (b0.cells ⟨(c1 L j.lines).1,pb,(c1 L j.lines).2.length,aY⟩) er,W,_,λy B=>B.cell (i:=0) rfl,b0.aT ⟨(c1 L j.lines).1,pb,(c1 L j.lines).2.length,aY⟩ ⟨λy B=>bO B rfl,?_⟩⟩;refine aD (OH (N.bB p) (XP.new p) I (q:=⟨(c1 L j.lines).1,pb,(c1 L j.lines).2.length,aY⟩) (XZ.new D) z.pl.wr) ?_;rintro v Xx ⟨rfl,XF⟩;exact ⟨_,rfl,XF.aA.aj W λe=>by rcases e with e | e<;>omega,rfl,XF.of p p.size⟩
  ·rw [if_neg (by rw [hw];simp)];have XS:=XP.new M;exact ⟨rfl,ao.b9 M,N.bB M,T,XS,I.dD,I.da⟩
 have Yc:=o.size;refine ⟨?_,?_⟩
 ·refine aD (vL j.lines (X.new H.new)) ?_;rintro v Yq ⟨pb,aY,rfl,K,XI,XG⟩;refine b0.aT ⟨(c1 L j.lines).1,pb,(c1 L j.lines).2.length,aY⟩ ⟨_,rfl,K,?_⟩;rintro aB Yr XB XL;obtain ⟨Xw,XE⟩:=bl XB XL;have Xw:av Yr aB iZ.cells er:=Xw;clear XL;have Yl:=K.size;refine ⟨K.new XE,dQ (vs:=b0.cells ⟨(c1 L j.lines).1,pb,(c1 L j.lines).2.length,aY⟩) Xw rfl (b0.single _) λYs X5 XV=>?_⟩;have R:ai Yq Ys:=XE.trans XV λk XW e=>by omega
  exact fin ((o.new K).new R) X5 (by omega) (XI.new R) λk z=>by have:=XG k z;omega
 ·rintro Yg X6 XT U;obtain ⟨t,g⟩:=bl XT U;have t:av X6 Yg iZ.cells er:=t;clear U;have Ya:=g.size;have X7:=t.lt;refine ⟨g,aD (vL j.lines (X.new (H.bB g).new)) ?_⟩;rintro v Yn ⟨pb,aY,rfl,f,Xv,E⟩;have Yb:=f.size;refine b0.aT ⟨(c1 L j.lines).1,pb,(c1 L j.lines).2.length,aY⟩ ⟨_,rfl,g.new f,dQ (vs:=b0.cells ⟨(c1 L j.lines).1,pb,(c1 L j.lines).2.length,aY⟩) (ai.aj f t) rfl (b0.single _) λYo w O=>?_⟩;exact fin ((o.new (g.new f)).trans O λk XW e=>by omega) w (by omega) (vN Xv O λk z e=>by have:=E k z;omega) λk z=>by have:=E k z;omega
end
end
section
noncomputable abbrev nB:Func:=f129
def G8 (r:dE) (tb:Nat) (m:a0) (tag:Int) (V:gl) (o:dA):ax:=r.cells++(ptr tb::m.cells)++[.int .u64 tag,.slice V.fz V.ke V.lc,.int .u64 V.clock]++o.cells
structure uc (A:a6) (w0 u:ak) (aI tb B:Nat) (r:dE) (m:a0) (tag:Int) (S:cr) (o:dA) (bw:ak):Prop where
 aA:ao (λk=>k=tb\/k=aI) u bw
 aj:∃ V,av bw aI (G8 r tb m tag V o) oq
 fY:∃ iv:gn,eP A w0 bw tb iv S.a7/\iv.dD=S.dD/\(match S.ask with
  |none=>iv.da=0
  |some vs=>0<vs.length/\∃ w1,ai w0 w1/\B<=w1.heap.size/\bK w1 bw iv.aa iv.da iv.ac vs)
theorem eF.run {w0 u:ak} {aI tb:Nat} {V:gl} (h:eF A w0 u aI tb B r m j V S bw):uc A w0 u aI tb B r m (gG j.inc j.aW) S (iP S.out) bw:=
 ⟨h.aA,⟨V,h.eD.aj⟩,h.fY⟩
def kq (j:ca) (m:a0) (G:List (List aM)):List a8:=rI j (bP G (fI j m)).done
def m8 (j:ca) (m:a0) (G:List (List aM)):Int:=td j (bP G (fI j m)).done
def q7 (j:ca) (m:a0) (aV:List a8) (cO:Int) (Z:(Int×Int)×cr):cr×dA:=
 if Z.2.ok=false then (Z.2,iP Z.2.out) else if (hM j m Z.2.a7).ok=false then (hM j m Z.2.a7,iP (hM j m Z.2.a7).out)
 else (hM j m Z.2.a7,⟨0,Z.1.1,Z.1.2,jT j.lines cO aV,0⟩)
def sS (j:ca) (m:a0) (C:cr):cr×dA:=
 if C.ok=false then (C,iP C.out) else if (fK j m C.a7).ok=false then (fK j m C.a7,iP (fK j m C.a7).out)
 else q7 j m (kq j m C.a7) (m8 j m C.a7) (hN j m (kq j m C.a7) (fK j m C.a7).a7)
def ih (j:ca) (m:a0) (G:List (List aM)):cr×dA:=
 if (hD j G).ok=false then (hD j G,iP (hD j G).out) else sS j m (h_ j m (hD j G).a7)
structure po (S:cr):Prop where
 out:S.out=(0,0)
 ask:S.ask=none
 dD:S.dD=false
theorem yo (h:(bP G vs).ok=true):po (bP G vs):=by obtain ⟨a,b,c⟩:=oE h;exact ⟨a,b,c⟩
theorem JR (h:(h_ j m G).ok=true):po (h_ j m G):=by
 unfold h_ at h ⊢;split at h
 ·rename_i e;rw [e] at h;cases h
 rename_i e;rw [if_neg e];split at h
 ·cases h
 rename_i a;rw [if_neg a];exact ⟨rfl,rfl,rfl⟩
theorem K0 (h:(fK j m G).ok=true):po (fK j m G):=by
 unfold fK r4 at h ⊢;split at h
 ·rename_i e;rw [e] at h;cases h
 rename_i e;rw [if_neg e];split at h
 ·rename_i a;rw [if_pos a];exact ⟨rfl,rfl,rfl⟩
 ·split at h
  ·rename_i b;rw [b] at h;cases h
  ·cases h
theorem Jo (h:(hN j m aV G).2.ok=true):po (hN j m aV G).2:=by
 unfold hN at h ⊢;split at h
 ·rename_i e;rw [if_pos e];simp only at h ⊢;unfold p0 at h ⊢;split at h
  ·rename_i a;rw [a] at h;cases h
  rename_i a;rw [if_neg a];unfold pv at h ⊢;split at h
  ·rename_i b;rw [b] at h;cases h
  rename_i b;rw [if_neg b];split at h
  ·rename_i c;rw [if_pos c];exact yo h
  rename_i c;rw [if_neg c];unfold qO at h ⊢;split at h
  ·rename_i d;rw [d] at h;cases h
  rename_i d;rw [if_neg d];exact yo h
 rename_i e;rw [if_neg e];split at h
 ·rename_i a;rw [if_pos a];exact yo h
 ·rename_i a;rw [if_neg a];exact ⟨rfl,rfl,rfl⟩
theorem JS (h:(hD j G).ok=true):po (hD j G):=by
 unfold hD tx at h ⊢;split at h
 ·rename_i e;rw [e] at h;cases h
 rename_i e;rw [if_neg e];split at h
 ·cases h
 rename_i b;rw [if_neg b];unfold oW at h ⊢;split at h
 ·rename_i a;rw [a] at h;cases h
 rename_i a;rw [if_neg a];split at h
 ·cases h
 rename_i c;rw [if_neg c];exact ⟨rfl,rfl,rfl⟩
def zw (G:List (List aM)):Prop:=∀ ds ∈ G,∀ d ∈ ds,∀ x ∈ d.words,cj x
theorem Qf {a:an} (h:hS A w a G):zw G:=by obtain ⟨rows,n,_,_,j⟩:=h;intro ds b d aq x l;obtain ⟨i,f⟩:=ei.1 b;obtain ⟨k,g⟩:=ei.1 aq;obtain ⟨r,c⟩:∃ r,rows[i]?=some r:=⟨_,bE (by have:=b3 f;omega)⟩;obtain ⟨_,_,e,_⟩:=j i r ds c f;obtain ⟨v,al⟩:∃ v,r.raw[k]?=some v:=⟨_,bE (by have:=b3 g;have:=e.1;omega)⟩;exact (e.2 k v d al g).wf x l
theorem OK (h:zw G):∀ d ∈ (bP G vs).done,∀ x ∈ d.words,cj x:=by
 intro d aq;have:d ∈ (batch G vs).done:=by
  unfold bP cm at aq;split at aq
  ·simp at aq
  split at aq
  ·simp at aq
  ·exact aq
 unfold batch at this;split at this
 ·simp at this
 cases G with
 |nil=>simp at this
 |cons ds G=>
  simp only at this;split at this
  ·exact h ds eO d this
  ·simp at this
theorem Ok (h:zw G):cj (m8 j m G):=by
 unfold m8 td dv eb;rw [dq];cases aq:(bP G (fI j m)).done[2 * j.v.mem.length]? with
 |none=>exact hq
 |some d=>
  have:=OK h d (b5 aq);cases hw:d.words with
  |nil=>simp [hw];exact hq
  |cons x l=>simp [hw];exact this x (by rw [hw];exact eO)
theorem Ol (h:(fK j m G).ok=true):(bP G (fI j m)).ok=true:=by
 unfold fK r4 at h;split at h
 ·rename_i e;rw [e] at h;cases h
 ·rename_i e;simpa using e
theorem Ee (h:(bP G vs).ok=true):(bP G vs).done.length=vs.length:=by
 unfold bP cm at h ⊢;split at h
 ·cases h
 split at h
 ·cases h
 rename_i b e;rw [if_neg b,if_neg e];have a:(batch G vs).ok=true:=by simpa using b
 show (batch G vs).done.length=_;unfold batch at a ⊢;by_cases al:vs.length=0
 ·rw [if_pos al];exact al.symm
 rw [if_neg al] at a ⊢;cases G with
 |nil=>cases a
 |cons d f=>
  simp only at a ⊢;split at a
  ·rename_i c;rw [if_pos c];have:=yz c;simp only;omega
  ·cases a
theorem Me (h:(fK j m G).ok=true):(kq j m G).length=j.v.mem.length/\∀ L ∈ kq j m G,L.length=120:=by unfold kq rI;refine ⟨by simp,λL d=>?_⟩;obtain ⟨i,b,rfl⟩:=cZ.1 d;have b:=fs.1 b;have a:=Ol h;obtain ⟨bg,hm⟩:=BV (m:=m) b;have hlen:=Ee a;obtain ⟨x,c⟩:∃ x,(bP G (fI j m)).done[2 * i+1]?=some x:=⟨_,bE (by have:=b3 hm;omega)⟩;have:=EJ a hm c;rw [dq,c];have e:(mU j bg (e' j.dead) 120).v.iW=120:=rfl;show x.words.length=120;omega
section
variable {A:a6} {w0 u:ak} {aI tb:Nat} {r:dE} {m:a0} {j:ca} {V:gl} {T:gn} {G:List (List aM)}
theorem eF.u' (h:eF A w0 u aI tb B r m j V S bw) (c:po S):dg w0 bw aI tb r m j V (0,0)/\∃ b,eP A w0 bw tb b S.a7/\ga b:=by have a:=h.eD;rw [c.out] at a;obtain ⟨b,f,d,e⟩:=h.fY;rw [c.ask] at e;rw [c.dD] at d;exact ⟨a,b,f,e,d⟩
theorem Om (XL:dg w0 u aI tb r m j ⟨none,0,0,0⟩ (0,0)) (X0:eP A w0 u tb T G) (XQ:ga T) :
  bb 129 [ptr aI] u λv bw=>v=.tuple #[]/\uc A w0 u aI tb u.heap.size r m (gG j.inc j.aW) (ih j m G).1 (ih j m G).2 bw:=by
 refine bd Tryz.func129 ?_;rw [ptr,T2];generalize XZ:(λ(v:a4) (bw:ak)=>v=.tuple #[]/\uc A w0 u aI tb u.heap.size r m (gG j.inc j.aW) (ih j m G).1 (ih j m G).2 bw)=R;have stop:∀ {w:ak} (XC:ax),R (.tuple #[]) w->Go.bs.W prog (sub (bn nB) [0,1]) (uw ⟨aI,0,none⟩ true XC) (aZ (λenv w=>Go.bs.W prog (sub (bn nB) [1]) env (dC prog nB R) w) (dC prog nB R)) w:=by intro w XC h;refine hj (fn:=nB) (R:=R) (λ_ _=>rfl) ?_;rw [it];exact gB rfl h
 have last:∀ {w:ak} {S:cr×dA},ih j m G=S->uc A w0 u aI tb u.heap.size r m (gG j.inc j.aW) S.1 S.2 w->R (.tuple #[]) w:=by intro w S e h;rw [<-XZ,e];exact ⟨rfl,h⟩
 refine aD (tI XL X0 XQ) ?_;rintro v bG ⟨rfl,q⟩;refine ⟨_,rfl,ev (λXR=>stop _ (last (S:=(hD j G,iP (hD j G).out)) (if_pos XR) q.run)) (λXT=>?_)⟩
 have XF:ih j m G=sS j m (h_ j m (hD j G).a7):=if_neg (by rw [XT];simp);obtain ⟨XM,X2,O,X⟩:=q.u' (JS XT);refine aD (Oi XM O X) ?_;rintro v X6 ⟨rfl,J⟩;generalize XX:(hD j G).a7=p at J O XF;have f:=eF.seq q.aA (ao.refl _ _) J q.aA.size;refine ⟨_,rfl,ev (λXR=>stop _ (last (S:=(h_ j m p,iP (h_ j m p).out)) (XF.trans (if_pos XR)) f.run)) (λXB=>?_)⟩
 obtain ⟨XN,X3,I,Y⟩:=J.u' (JR XB);have XG:ih j m G=if (fK j m (h_ j m p).a7).ok=false then (fK j m (h_ j m p).a7,iP (fK j m (h_ j m p).a7).out) else q7 j m (kq j m (h_ j m p).a7) (m8 j m (h_ j m p).a7) (hN j m (kq j m (h_ j m p).a7) (fK j m (h_ j m p).a7).a7):=XF.trans (if_neg (by rw [XB];simp));refine aD (OF XN I Y) ?_;rintro v bq ⟨rfl,M,K,b⟩;generalize (h_ j m p).a7=c at K b I XG;have g:=eF.seq f.aA (ao.refl _ _) K f.aA.size;refine ⟨_,rfl,?_⟩;cases d:(fK j m c).ok with
 |false=>exact stop _ (last (S:=(fK j m c,iP (fK j m c).out)) (XG.trans (if_pos d)) g.run)
 |true=>
  obtain ⟨XO,X4,XI,Xv⟩:=K.u' (K0 d);have N:ih j m G=q7 j m (kq j m c) (m8 j m c) (hN j m (kq j m c) (fK j m c).a7):=XG.trans (if_neg (by rw [d];simp));obtain ⟨b,a⟩:=b d;have b:k1 w0 bq aI tb M (kq j m c):=b;have a:M.clock=m8 j m c:=a;obtain ⟨Xz,B⟩:=Me d;have Xx:cj (m8 j m c):=Ok (Qf I.a7);refine hj (fn:=nB) (R:=R) (λ_ _=>rfl) ?_;rw [it];refine di rfl (eT (hj (fn:=nB) (R:=R) (λ_ _=>rfl) ?_));rw [SV];generalize kq j m c=aV at b N Xz B;generalize m8 j m c=cO at a N Xx;refine aD (Md XO XI Xv b Xz) ?_;rintro v X7 ⟨rfl,s⟩;have H:(hN j m aV (fK j m c).a7).2.ok=true->po (hN j m aV (fK j m c).a7).2:=Jo;generalize hN j m aV (fK j m c).a7=Z at s N H;have l:=eF.seq g.aA (ao.refl _ _) s g.aA.size;have n:∀ {w:ak} {S:cr×dA} (XC:ax) {Q:Exit->ax->aF},(∀ env w,Q .ret env w=dC prog nB R .ret env w)->ih j m G=S->uc A w0 u aI tb u.heap.size r m (gG j.inc j.aW) S.1 S.2 w->∀ (x y:Int),(∀ env w,R (.tuple #[]) w->Q .normal env w)->Go.bs.W prog (sub (bn nB) [1,1,1]) (xb ⟨aI,0,none⟩ x y false XC) (bI prog nB R Q) w:=by intro w S XC Q dH e h x y XY;rw [F8];exact di rfl (XY _ _ (last e h))
  refine ⟨_,_,_,rfl,f' (λXD=>?_) (λXD=>?_)⟩
  ·obtain ⟨XP,X5,XJ,Xw⟩:=s.u' (H XD);have XH:ih j m G=if (hM j m Z.2.a7).ok=false then (hM j m Z.2.a7,iP (hM j m Z.2.a7).out) else (hM j m Z.2.a7,⟨0,Z.1.1,Z.1.2,jT j.lines cO aV,0⟩):=N.trans (if_neg (by rw [XD];simp));refine aD (Cb XP XJ Xw) ?_;rintro v XU ⟨rfl,t⟩;have z:(hM j m Z.2.a7).ok=true->po (hM j m Z.2.a7):=yo;generalize hM j m Z.2.a7=E at t XH z;have F:=eF.seq l.aA (ao.refl _ _) t l.aA.size;refine ⟨_,rfl,?_⟩;cases ay:E.ok with
   |false=>exact n _ (λ_ _=>rfl) (S:=(E,iP E.out)) (XH.trans (if_pos ay)) F.run _ _ λ_ _ h=>h
   |true=>
    have XW:=XH.trans (if_neg (by rw [ay];simp));obtain ⟨U,XV,XK,C⟩:=t.u' (z ay);rw [F8];refine gB rfl ?_;have Xy:ao (λk=>k=tb\/k=aI) bq XU:=s.aA.trans t.aA λ_ _ e=>e
    refine aD (KX U (b.aA Xy λ_ e=>e) (by have:=XL.b8.mem;omega) B (by rw [a];exact Xx)) ?_;rintro v X1 ⟨rfl,XA⟩;have V:=U.bB XA;refine ⟨_,rfl,gq V.aj (cY 20) (dA.single ⟨0,Z.1.1,Z.1.2,_,0⟩),λXE L=>?_⟩;have XS:ao (λk=>k=aI) X1 XE:=by rw [L];exact h7 _ _ _ _ _
    have P:av XE aI (G8 r tb m (gG j.inc j.aW) M ⟨0,Z.1.1,Z.1.2,jT j.lines M.clock aV,0⟩) oq:=by rw [L];exact V.aj.cu (vs:=dA.cells ⟨0,Z.1.1,Z.1.2,_,0⟩) (o:=15) (i:=0)
    clear L;rw [a] at P;have D:ao (λk=>k=aI) XU XE:=(ao.b9 XA).trans XS λ_ _ e=>e
    show R (.tuple #[]) XE;refine last XW ⟨F.aA.trans D λk _ e=>.inr e,⟨M,P⟩,XV,XK.aA D λe=>XL.ne e.symm,by rw [C.dD,(z ay).dD],?_⟩;rw [(z ay).ask];exact C.da
  ·exact n _ (λ_ _=>rfl) (S:=(Z.2,iP Z.2.out)) (N.trans (if_pos XD)) l.run _ _ λ_ _ h=>h
end
end
section
open IntKind
variable (w:ak) (R:cz) {A:aX} {j:ar} {F G:Bool} {i k:Int}
def kQ:Code->List Oper
 | .region _ ops _=>ops.toList
 | _=>[]
def GB (a:aX) (j:ar):ar:=ag j 0 1 (.pointer (some a)::ag j 1 119 [])
def xC (a:aX) (b:Bool) (j:ar):ar:=ag j 0 1 (.pointer (some a)::ag j 1 25 (ad b::ag j 26 93 []))
def GC (a:aX) (j:ar):ar:=ag j 0 1 (.pointer (some a)::ag j 1 119 [])
def xt (a:aX) (c d:Int) (s8 b:Bool) (j:ar):ar:=ag j 0 1 (.pointer (some a)::ag j 1 4 (ab c::ab d::ad s8::ag j 5 32 (ad b::ag j 37 79 [])))
def AA (a:aX) (b c:Int) (s8:Bool) (j:ar):ar:=ag j 0 1 (.pointer (some a)::ag j 1 4 (ab b::ab c::ad s8::ag j 5 112 []))
def xu (a:aX) (c d:Int) (s8 b:Bool) (j:ar):ar:=ag j 0 1 (.pointer (some a)::ag j 1 4 (ab c::ab d::ad s8::ag j 5 41 (ad b::ag j 46 70 [])))
def Ax (a:aX) (b c:Int) (s8:Bool) (j:ar):ar:=ag j 0 1 (.pointer (some a)::ag j 1 4 (ab b::ab c::ad s8::ag j 5 112 []))
def sn (a:aX) (c d:Int) (s8 b:Bool) (j:ar):ar:=ag j 0 1 (.pointer (some a)::ag j 1 4 (ab c::ab d::ad s8::ag j 5 54 (ad b::ag j 59 57 [])))
def xv (a:aX) (b c:Int) (s8:Bool) (j:ar):ar:=ag j 0 1 (.pointer (some a)::ag j 1 4 (ab b::ab c::ad s8::ag j 5 112 []))
def Av (a:aX) (c d:Int) (b:Bool) (j:ar):ar:=ag j 0 1 (.pointer (some a)::ag j 1 4 (ab c::ab d::ag j 5 77 (ad b::ag j 82 35 [])))
def Aw (a:aX) (b c:Int) (j:ar):ar:=ag j 0 1 (.pointer (some a)::ag j 1 4 (ab b::ab c::ag j 5 113 []))
def qG (a:Bool) (j:ar):ar:=ag j 0 120 [ad a]
def Gw (a:Bool) (j:ar):ar:=ag j 0 93 (ad a::ag j 93 27 [])
def qH  (j:ar):ar:=ag j 0 121 []
theorem WZ (g:dE):bf prog f127 [g.val] R w=(aS w g.cells.toArray 41 λe f=>bX f (af e 1) λa=>bX f (af e 0) λb=>hH 128 #[ab a,ab b] f λc d h=>cond (d != 0) (R (ab d) h) (W prog (sb f127 [1,1]) (GB (af e 0) (g.val::ab 0::ah c::ab d::bD 4 (.tuple #[ah c,ab d]::jp (af e 1)::ab a::jp (af e 0)::ab b::.tuple #[ah c,ab d]::ah c::ab d::ab d::ad ((d:Int) != 0)::bD 102 []))) (b7 f127 R) h)):=by kernel_rfl
theorem T3 (env:ar) (w:ak) (Q:Exit->ar->aF):W prog (sub (bn f127) [1,1]) env Q w=W prog (sub (bn f127) [1,1,0]) env (aZ (λenv w=>W prog (sub (bn f127) [1,1,1]) env Q w) Q) w:=by rw [show sub (bn f127) [1,1]=.seq (sub (bn f127) [1,1,0]) (sub (bn f127) [1,1,1]) by kernel_rfl];generalize sub (bn f127) [1,1,0]=a;generalize sub (bn f127) [1,1,1]=b;kernel_rfl
theorem TE (env:ar) (w:ak) (Q:Exit->ar->aF):W prog (sub (bn f127) [1,1,0]) env Q w=W prog (sub (bn f127) [1,1,0,0]) env (aZ (λenv w=>W prog (sub (bn f127) [1,1,0,1]) env Q w) Q) w:=by rw [show sub (bn f127) [1,1,0]=.seq (sub (bn f127) [1,1,0,0]) (sub (bn f127) [1,1,0,1]) by kernel_rfl];generalize sub (bn f127) [1,1,0,0]=a;generalize sub (bn f127) [1,1,0,1]=b;kernel_rfl
theorem UZ (a:Exit->ar->aF):W prog (sb f127 [1,1,0,0]) (GB A j) (bI prog f127 R a) w=(bX w (bY A 5) λb=>cond (b<0) (a .normal (xC A true (ag j 0 19 (bL A 5::ab b::ad (b<0)::ad true::bD 3 (ag j 27 93 [])))) w) (bX w (bY A 5) λc=>a .normal (xC A (decide ((c:Int)>=6)) (ag j 0 19 (bL A 5::ab b::ad (b<0)::ad false::bL A 5::ab c::ad (c>=6)::ag j 27 93 []))) w)):=by kernel_rfl
theorem U0 (a:Exit->ar->aF):W prog (sb f127 [1,1,0,1]) (xC A F j) (bI prog f127 R a) w=(cond F (R (ab 1) w) (a .normal (GC A (ag j 0 26 (ad F::ag j 26 93 []))) w)):=by kernel_rfl
theorem U1 (a:Exit->ar->aF):W prog (sb f127 [1,1,1]) (GC A j) (bI prog f127 R a) w=(l5 w (bY A 3) λk=>ct 166 #[k.val,ab 5] w λb l=>cond (b != 0) (R (ab b) l) (dX l (bY A 7) λc=>AW 177 #[ah c] l λd f g e=>bX e (bY A 2) λh=>cond (h<98) (W prog (sb f127 [1,1,1,1,1,0,0,1]) (xt A d f g true (ag j 0 4 (ab b::ag j 8 19 (bL A 3::k.val::ab b::ab b::ad ((b:Int) != 0)::aO j 32::.tuple #[ab d,ab f,ad g]::bL A 7::ah c::.tuple #[ab d,ab f,ad g]::ab d::ab f::ad g::bL A 2::ab h::ad (h<98)::ad true::bD 3 (ad true::ag j 49 71 []))))) (aP 0 (aZ (λm w=>W prog (sb f127 [1,1,1,1,1,1]) m (bI prog f127 R a) w) (bI prog f127 R a))) e) (bX e (bY A 2) λi=>W prog (sb f127 [1,1,1,1,1,0,0,1]) (xt A d f g (decide ((i:Int)>256)) (ag j 0 4 (ab b::ag j 8 19 (bL A 3::k.val::ab b::ab b::ad ((b:Int) != 0)::aO j 32::.tuple #[ab d,ab f,ad g]::bL A 7::ah c::.tuple #[ab d,ab f,ad g]::ab d::ab f::ad g::bL A 2::ab h::ad (h<98)::ad false::bL A 2::ab i::ad (i>256)::ad (i>256)::ag j 49 71 [])))) (aP 0 (aZ (λm w=>W prog (sb f127 [1,1,1,1,1,1]) m (bI prog f127 R a) w) (bI prog f127 R a))) e))):=by kernel_rfl
theorem U2 (a:Exit->ar->aF):W prog (sb f127 [1,1,1,1,1,0,0,1]) (xt A i k F G j) (bI prog f127 R a) w=(cond G (R (ab 18) w) (W prog (sb f127 [1,1,1,1,1,0,0,1,1]) (AA A i k F (ag j 0 37 (ad G::ag j 37 79 []))) (bI prog f127 R a) w)):=by kernel_rfl
theorem T4 (env:ar) (w:ak) (Q:Exit->ar->aF):W prog (sub (bn f127) [1,1,1,1,1,0,0,1,1]) env Q w=W prog (sub (bn f127) [1,1,1,1,1,0,0,1,1,0]) env (aZ (λenv w=>W prog (sub (bn f127) [1,1,1,1,1,0,0,1,1,1]) env Q w) Q) w:=by rw [show sub (bn f127) [1,1,1,1,1,0,0,1,1]=.seq (sub (bn f127) [1,1,1,1,1,0,0,1,1,0]) (sub (bn f127) [1,1,1,1,1,0,0,1,1,1]) by kernel_rfl];generalize sub (bn f127) [1,1,1,1,1,0,0,1,1,0]=a;generalize sub (bn f127) [1,1,1,1,1,0,0,1,1,1]=b;kernel_rfl
theorem U3 (a:Exit->ar->aF):W prog (sb f127 [1,1,1,1,1,0,0,1,1,0]) (AA A i k F j) (bI prog f127 R a) w=(bX w (bY A 5) λb=>bX w A λc=>cond (b == c) (bX w (bY A 6) λd=>bX w (bY A 1) λf=>a .normal (xu A i k F ((d:Int) != f) (ag j 0 46 (bL A 5::ab b::jp A::ab c::ad ((b:Int) == c)::ad true::bL A 6::ab d::bL A 1::ab f::ad ((d:Int) != f)::ad ((d:Int) != f)::ag j 59 58 []))) w) (a .normal (xu A i k F false (ag j 0 46 (bL A 5::ab b::jp A::ab c::ad ((b:Int) == c)::ad false::bD 5 (ad false::ag j 59 58 [])))) w)):=by kernel_rfl
theorem Vq (a:Exit->ar->aF):W prog (sb f127 [1,1,1,1,1,0,0,1,1,1]) (xu A i k F G j) (bI prog f127 R a) w=(cond G (R (ab 1) w) (W prog (sb f127 [1,1,1,1,1,0,0,1,1,1,1]) (Ax A i k F (ag j 0 46 (ad G::ag j 46 70 []))) (bI prog f127 R a) w)):=by kernel_rfl
theorem T5 (env:ar) (w:ak) (Q:Exit->ar->aF):W prog (sub (bn f127) [1,1,1,1,1,0,0,1,1,1,1]) env Q w=W prog (sub (bn f127) [1,1,1,1,1,0,0,1,1,1,1,0]) env (aZ (λenv w=>W prog (sub (bn f127) [1,1,1,1,1,0,0,1,1,1,1,1]) env Q w) Q) w:=by rw [show sub (bn f127) [1,1,1,1,1,0,0,1,1,1,1]=.seq (sub (bn f127) [1,1,1,1,1,0,0,1,1,1,1,0]) (sub (bn f127) [1,1,1,1,1,0,0,1,1,1,1,1]) by kernel_rfl];generalize sub (bn f127) [1,1,1,1,1,0,0,1,1,1,1,0]=a;generalize sub (bn f127) [1,1,1,1,1,0,0,1,1,1,1,1]=b;kernel_rfl
theorem Vr (a:Exit->ar->aF):W prog (sb f127 [1,1,1,1,1,0,0,1,1,1,1,0]) (Ax A i k F j) (bI prog f127 R a) w=(bX w (bY A 5) λb=>bX w A λc=>cond (b != c) (bX w (bY A 6) λd=>cond (d<2) (a .normal (sn A i k F true (ag j 0 59 (bL A 5::ab b::jp A::ab c::ad ((b:Int) != c)::ad true::bL A 6::ab d::ad (d<2)::ad true::bD 3 (ad true::ad true::bD 4 (ad true::ad true::ag j 81 36 []))))) w) (bX w (bY A 6) λf=>cond (f>60) (a .normal (sn A i k F true (ag j 0 59 (bL A 5::ab b::jp A::ab c::ad ((b:Int) != c)::ad true::bL A 6::ab d::ad (d<2)::ad false::bL A 6::ab f::ad (f>60)::ad (f>60)::ad true::bD 4 (ad true::ad true::ag j 81 36 [])))) w) (bX w (bY A 6) λg=>a .normal (sn A i k F (((Int.tmod g 2):Int) != 0) (ag j 0 59 (bL A 5::ab b::jp A::ab c::ad ((b:Int) != c)::ad true::bL A 6::ab d::ad (d<2)::ad false::bL A 6::ab f::ad (f>60)::ad (f>60)::ad false::bL A 6::ab g::ab (Int.tmod g 2)::ad (((Int.tmod g 2):Int) != 0)::ad (((Int.tmod g 2):Int) != 0)::ad (((Int.tmod g 2):Int) != 0)::ag j 81 36 []))) w))) (a .normal (sn A i k F false (ag j 0 59 (bL A 5::ab b::jp A::ab c::ad ((b:Int) != c)::ad false::bD 14 (ad false::ag j 81 36 [])))) w)):=by kernel_rfl
theorem Vw (a:Exit->ar->aF):W prog (sb f127 [1,1,1,1,1,0,0,1,1,1,1,1]) (sn A i k F G j) (bI prog f127 R a) w=(cond G (R (ab 2) w) (W prog (sb f127 [1,1,1,1,1,0,0,1,1,1,1,1,1]) (xv A i k F (ag j 0 59 (ad G::ag j 59 57 []))) (bI prog f127 R a) w)):=by kernel_rfl
theorem T6 (env:ar) (w:ak) (Q:Exit->ar->aF):W prog (sub (bn f127) [1,1,1,1,1,0,0,1,1,1,1,1,1]) env Q w=W prog (sub (bn f127) [1,1,1,1,1,0,0,1,1,1,1,1,1,0]) env (aZ (λenv w=>W prog (sub (bn f127) [1,1,1,1,1,0,0,1,1,1,1,1,1,1]) env Q w) Q) w:=by rw [show sub (bn f127) [1,1,1,1,1,0,0,1,1,1,1,1,1]=.seq (sub (bn f127) [1,1,1,1,1,0,0,1,1,1,1,1,1,0]) (sub (bn f127) [1,1,1,1,1,0,0,1,1,1,1,1,1,1]) by kernel_rfl];generalize sub (bn f127) [1,1,1,1,1,0,0,1,1,1,1,1,1,0]=a;generalize sub (bn f127) [1,1,1,1,1,0,0,1,1,1,1,1,1,1]=b;kernel_rfl
theorem Vx (a:Exit->ar->aF):W prog (sb f127 [1,1,1,1,1,0,0,1,1,1,1,1,1,0]) (xv A i k F j) (bI prog f127 R a) w=(dX w (bY A 7) λb=>cond (b != 0) (a .normal (Av A i k (!F) (ag j 0 5 (ad F::ag j 5 76 (bL A 7::ah b::ad ((b:Int) != 0)::ad true::ad F::ad (!F)::ad (!F)::ag j 89 28 [])))) w) (a .normal (Av A i k false (ag j 0 5 (ad F::ag j 5 76 (bL A 7::ah b::ad ((b:Int) != 0)::ad false::bD 2 (ad false::ag j 89 28 []))))) w)):=by kernel_rfl
theorem Gi (a:Exit->ar->aF):W prog (sb f127 [1,1,1,1,1,0,0,1,1,1,1,1,1,1]) (Av A i k F j) (bI prog f127 R a) w=(cond F (R (ab 1) w) (W prog (sb f127 [1,1,1,1,1,0,0,1,1,1,1,1,1,1,1]) (Aw A i k (ag j 0 82 (ad F::ag j 82 35 []))) (bI prog f127 R a) w)):=by kernel_rfl
theorem TF (env:ar) (w:ak) (Q:Exit->ar->aF):W prog (sub (bn f127) [1,1,1,1,1,0,0,1,1,1,1,1,1,1,1]) env Q w=W prog (sub (bn f127) [1,1,1,1,1,0,0,1,1,1,1,1,1,1,1,0]) env (aZ (λenv w=>W prog (sub (bn f127) [1,1,1,1,1,0,0,1,1,1,1,1,1,1,1,1]) env Q w) Q) w:=by rw [show sub (bn f127) [1,1,1,1,1,0,0,1,1,1,1,1,1,1,1]=.seq (sub (bn f127) [1,1,1,1,1,0,0,1,1,1,1,1,1,1,1,0]) (sub (bn f127) [1,1,1,1,1,0,0,1,1,1,1,1,1,1,1,1]) by kernel_rfl];generalize sub (bn f127) [1,1,1,1,1,0,0,1,1,1,1,1,1,1,1,0]=a;generalize sub (bn f127) [1,1,1,1,1,0,0,1,1,1,1,1,1,1,1,1]=b;kernel_rfl
theorem Va (e:Exit->ar->aF):W prog (sb f127 [1,1,1,1,1,0,0,1,1,1,1,1,1,1,1,0]) (Aw A i k j) (bI prog f127 R e) w=(dX w (bY A 7) λb=>cond (b != 0) (bX w A λc=>cond (k == c) (bX w (bY A 1) λd=>cond (i>=d) (jZ prog (kQ (sb f127 [1,1,1,1,1,0,0,1,1,1,1,1,1,1,1,0])) ((kQ (sb f127 [1,1,1,1,1,0,0,1,1,1,1,1,1,1,1,0])).drop 27) (qG true (aO j 0::jp A::ag j 1 4 (ab i::ab k::ag j 5 86 (bL A 7::ah b::ad ((b:Int) != 0)::ad true::ab k::jp A::ab c::ad ((k:Int) == c)::ad true::ab i::bL A 1::ab d::ad (i>=d)::ad (i>=d)::ad true::bD 10 [ad true])))) ((bI prog f127 R e) .normal) w) (bX w (bY A 5) λf=>cond (k == f) (bX w (bY A 6) λg=>jZ prog (kQ (sb f127 [1,1,1,1,1,0,0,1,1,1,1,1,1,1,1,0])) ((kQ (sb f127 [1,1,1,1,1,0,0,1,1,1,1,1,1,1,1,0])).drop 27) (qG (decide ((i:Int)>=g)) (aO j 0::jp A::ag j 1 4 (ab i::ab k::ag j 5 86 [bL A 7,ah b,ad ((b:Int) != 0),ad true,ab k,jp A,ab c,ad ((k:Int) == c),ad true,ab i,bL A 1,ab d,ad (i>=d),ad (i>=d),ad false,ab k,bL A 5,ab f,ad ((k:Int) == f),ad true,ab i,bL A 6,ab g,ad (i>=g),ad (i>=g),ad (i>=g)]))) ((bI prog f127 R e) .normal) w) (jZ prog (kQ (sb f127 [1,1,1,1,1,0,0,1,1,1,1,1,1,1,1,0])) ((kQ (sb f127 [1,1,1,1,1,0,0,1,1,1,1,1,1,1,1,0])).drop 27) (qG false (aO j 0::jp A::ag j 1 4 (ab i::ab k::ag j 5 86 (bL A 7::ah b::ad ((b:Int) != 0)::ad true::ab k::jp A::ab c::ad ((k:Int) == c)::ad true::ab i::bL A 1::ab d::ad (i>=d)::ad (i>=d)::ad false::ab k::bL A 5::ab f::ad ((k:Int) == f)::ad false::bD 4 [ad false,ad false])))) ((bI prog f127 R e) .normal) w))) (bX w (bY A 5) λh=>cond (k == h) (bX w (bY A 6) λa=>jZ prog (kQ (sb f127 [1,1,1,1,1,0,0,1,1,1,1,1,1,1,1,0])) ((kQ (sb f127 [1,1,1,1,1,0,0,1,1,1,1,1,1,1,1,0])).drop 27) (qG (decide ((i:Int)>=a)) (aO j 0::jp A::ag j 1 4 (ab i::ab k::ag j 5 86 (bL A 7::ah b::ad ((b:Int) != 0)::ad true::ab k::jp A::ab c::ad ((k:Int) == c)::ad false::bD 4 [ad false,ad false,ab k,bL A 5,ab h,ad ((k:Int) == h),ad true,ab i,bL A 6,ab a,ad (i>=a),ad (i>=a),ad (i>=a)])))) ((bI prog f127 R e) .normal) w) (jZ prog (kQ (sb f127 [1,1,1,1,1,0,0,1,1,1,1,1,1,1,1,0])) ((kQ (sb f127 [1,1,1,1,1,0,0,1,1,1,1,1,1,1,1,0])).drop 27) (qG false (aO j 0::jp A::ag j 1 4 (ab i::ab k::ag j 5 86 (bL A 7::ah b::ad ((b:Int) != 0)::ad true::ab k::jp A::ab c::ad ((k:Int) == c)::ad false::bD 4 (ad false::ad false::ab k::bL A 5::ab h::ad ((k:Int) == h)::ad false::bD 4 [ad false,ad false]))))) ((bI prog f127 R e) .normal) w))) (jZ prog (kQ (sb f127 [1,1,1,1,1,0,0,1,1,1,1,1,1,1,1,0])) ((kQ (sb f127 [1,1,1,1,1,0,0,1,1,1,1,1,1,1,1,0])).drop 27) (qG false (aO j 0::jp A::ag j 1 4 (ab i::ab k::ag j 5 86 (bL A 7::ah b::ad ((b:Int) != 0)::ad false::bD 22 [])))) ((bI prog f127 R e) .normal) w)):=by kernel_rfl
theorem rx (a:Exit->ar->aF):jZ prog (kQ (sb f127 [1,1,1,1,1,0,0,1,1,1,1,1,1,1,1,0])) ((kQ (sb f127 [1,1,1,1,1,0,0,1,1,1,1,1,1,1,1,0])).drop 27) (qG F j) ((bI prog f127 R a) .normal) w=(a .normal (Gw F (ag j 0 93 (ag j 94 26 [ad F]))) w):=by kernel_rfl
theorem Vb (a:Exit->ar->aF):W prog (sb f127 [1,1,1,1,1,0,0,1,1,1,1,1,1,1,1,1]) (Gw F j) (bI prog f127 R a) w=(cond F (R (ab 1) w) (a .normal (qH  (ag j 0 93 (ad F::ag j 93 27 []))) w)):=by kernel_rfl
theorem UO (a:Exit->ar->aF):W prog (sb f127 [1,1,1,1,1,1]) (qH  j) (bI prog f127 R a) w=(R (ab 0) w):=by kernel_rfl
end
section
def s4 (r:dE) (ok:Bool) (p c:Int):Int:=if r.hK≠0/\ok=false then 1 else if r.hK≠0/\(c=r.Client/\r.ir<=p\/c=r.eV/\r.f0<=p) then 1 else 0
theorem lx (a:∀ env w,Q .ret env w=dC P fn R .ret env w) (h:W P c env (bI P fn R Q) w):W P c env Q w:=(z9 a).mp h
theorem uT (a:∀ env w,Q .ret env w=dC P fn R .ret env w) (h:W P c env Q w):W P c env (bI P fn R Q) w:=(z9 a).mpr h
section
variable {R:cz} {u:ak} {b1:Nat} {r:dE} {p c:Int} {ok:Bool} {Q:Exit->ax->aF}
 (au:av u b1 [.int .i64 r.Client,.int .i64 r.ir,.int .i64 r.hs,.int .i64 r.View.Number,.slice r.View.fh r.View.eW r.View.fQ,.int .i64 r.eV,.int .i64 r.f0,.int .u64 r.hK] 41) (dH:∀ env w,Q .ret env w=dC prog f127 R .ret env w)
include au dH
theorem FE (e:r.hK≠0/\(c=r.Client/\r.ir<=p\/c=r.eV/\r.f0<=p)->R (.int .i64 1) u) (d:¬ (r.hK≠0/\(c=r.Client/\r.ir<=p\/c=r.eV/\r.f0<=p))->∀ b,Q .normal (qH b) u) (b:ax) :
  W prog (sub (bn f127) [1,1,1,1,1,0,0,1,1,1,1,1,1,1,1]) (Aw ⟨b1,0,none⟩ p c b) Q u:=by
 rw [TF];refine lx (P:=prog) (fn:=f127) (R:=R) dH ?_;rw [Va];repeat' first
  |refine ⟨_,au.cell rfl,?_⟩
  |refine d' (λ_=>?_) (λ_=>?_)
  |refine du (λ_=>?_) (λ_=>?_)
  |refine bc (λ_=>?_) (λ_=>?_)
 all_goals
  try dsimp only
  rw [rx];refine eT ?_;refine lx (P:=prog) (fn:=f127) (R:=R) dH ?_;rw [Vb];refine f' (λa=>e ?_) (λa=>d ?_ _)
 all_goals first | omega | (have a:=of_decide_eq_true a;omega) | (have a:=of_decide_eq_false a;omega) | (exact absurd a (by simp))
theorem Ro (b:r.hK≠0/\ok=false->R (.int .i64 1) u) (h:r.hK≠0/\(c=r.Client/\r.ir<=p\/c=r.eV/\r.f0<=p)->R (.int .i64 1) u)
  (g:¬ (r.hK≠0/\ok=false)->¬ (r.hK≠0/\(c=r.Client/\r.ir<=p\/c=r.eV/\r.f0<=p))->∀ f,Q .normal (qH f) u) (f:ax) :
  W prog (sub (bn f127) [1,1,1,1,1,0,0,1,1,1,1,1,1]) (xv ⟨b1,0,none⟩ p c ok f) Q u:=by
 rw [T6];refine lx (P:=prog) (fn:=f127) (R:=R) dH ?_;rw [Vx];refine ⟨_,au.cell rfl,du (λd=>?_) (λd=>?_)⟩
 ·refine eT ?_;refine lx (P:=prog) (fn:=f127) (R:=R) dH ?_;rw [Gi];refine ev (λa=>b ⟨d,a⟩) (λa=>?_)
  exact uT dH <| FE au dH h (g (λe=>by rw [a] at e;cases e.2)) _
 ·refine eT ?_;refine lx (P:=prog) (fn:=f127) (R:=R) dH ?_;rw [Gi];refine di rfl ?_;exact uT dH <| FE au dH h (g (λe=>e.1 d)) _
theorem Rn (d:R (.int .i64 (if r.eV=r.Client/\r.f0≠r.ir then 1 else if r.eV≠r.Client/\(r.f0<2\/60<r.f0\/Int.tmod r.f0 2≠0) then 2 else s4 r ok p c)) u)
  (q:R (.int .i64 0) u->∀ a,Q .normal (qH a) u) (a:ax) :
  W prog (sub (bn f127) [1,1,1,1,1,0,0,1,1]) (AA ⟨b1,0,none⟩ p c ok a) Q u:=by
 have i:∀ a,R (.int .i64 (s4 r ok p c)) u->W prog (sub (bn f127) [1,1,1,1,1,0,0,1,1,1,1,1,1]) (xv ⟨b1,0,none⟩ p c ok a) Q u:=λa h=>by
  unfold s4 at h;refine Ro au dH (λe=>?_) (λe=>?_) (λn o=>q ?_) a
  ·rw [if_pos e] at h;exact h
  ·by_cases f:r.hK≠0/\ok=false
   ·rw [if_pos f] at h;exact h
   ·rw [if_neg f,if_pos e] at h;exact h
  ·rw [if_neg n,if_neg o] at h;exact h
 rw [T4];refine lx (P:=prog) (fn:=f127) (R:=R) dH ?_;rw [U3];have k:∀ a,¬ (r.eV=r.Client/\r.f0≠r.ir)->W prog (sub (bn f127) [1,1,1,1,1,0,0,1,1,1,1]) (Ax ⟨b1,0,none⟩ p c ok a) Q u:=λa s=>by
  rw [if_neg s] at d;rw [T5];refine lx (P:=prog) (fn:=f127) (R:=R) dH ?_;rw [Vr];have l:∀ (b:Bool) a,(b=true↔r.eV≠r.Client/\(r.f0<2\/60<r.f0\/Int.tmod r.f0 2≠0))->W prog (sub (bn f127) [1,1,1,1,1,0,0,1,1,1,1,1]) (sn ⟨b1,0,none⟩ p c ok b a) Q u:=λb a g=>by
   refine lx (P:=prog) (fn:=f127) (R:=R) dH ?_;rw [Vw];refine f' (λe=>?_) (λe=>uT dH <| i _ ?_)
   ·rw [if_pos (g.1 e)] at d;exact d
   ·rw [if_neg (λf=>by rw [g.2 f] at e;cases e)] at d;exact d
  repeat' first
   |refine ⟨_,au.cell rfl,?_⟩
   |refine d' (λ_=>?_) (λ_=>?_)
   |refine du (λ_=>?_) (λ_=>?_)
   |refine bc (λ_=>?_) (λ_=>?_)
  all_goals
   refine eT (l _ _ ?_)
  all_goals first | (simp;omega) | (simp only [bne_iff_ne];omega) | (constructor<;>intro _<;>first | rfl | omega)
 have j:∀ (b:Bool) a,(b=true↔r.eV=r.Client/\r.f0≠r.ir)->W prog (sub (bn f127) [1,1,1,1,1,0,0,1,1,1]) (xu ⟨b1,0,none⟩ p c ok b a) Q u:=λb a g=>by refine lx (P:=prog) (fn:=f127) (R:=R) dH ?_;rw [Vq];refine f' (λe=>?_) (λe=>uT dH <| k _ (λf=>by rw [g.2 f] at e;cases e));rw [if_pos (g.1 e)] at d;exact d
 repeat' first
  |refine ⟨_,au.cell rfl,?_⟩
  |refine d' (λ_=>?_) (λ_=>?_)
  |refine du (λ_=>?_) (λ_=>?_)
  |refine bc (λ_=>?_) (λ_=>?_)
 all_goals
  refine eT (j _ _ ?_)
 all_goals first | (simp;omega) | (simp only [bne_iff_ne];omega) | (constructor<;>intro _<;>first | rfl | omega)
theorem FF {b:Bool} (f:b=true↔r.hs<98\/256<r.hs) (a:R (.int .i64 (if r.hs<98\/256<r.hs then 18 else if r.eV=r.Client/\r.f0≠r.ir then 1 else if r.eV≠r.Client/\(r.f0<2\/60<r.f0\/Int.tmod r.f0 2≠0) then 2 else s4 r ok p c)) u)
  (h:R (.int .i64 0) u->∀ d,Q .normal (qH d) u) (d:ax) :
  W prog (sub (bn f127) [1,1,1,1,1,0,0,1]) (xt ⟨b1,0,none⟩ p c ok b d) Q u:=by
 refine lx (P:=prog) (fn:=f127) (R:=R) dH ?_;rw [U2];refine f' (λe=>?_) (λe=>uT dH <| Rn au dH ?_ h _)
 ·rw [if_pos (f.1 e)] at a;exact a
 ·rw [if_neg (λg=>by rw [f.2 g] at e;cases e)] at a;exact a
end
abbrev m9 (w:ak) (k:Int):cz:=λx w'=>x=.int .i64 k/\ai w w'
theorem JT (h:rp w r j):bb 127 [r.val] w (m9 w j.valid):=by
 refine bd Tryz.func127 ?_;rw [WZ];rintro b1 w1 l o;obtain ⟨au,f⟩:=bl l o;have au:av w1 b1 [.int .i64 r.Client,.int .i64 r.ir,.int .i64 r.hs,.int .i64 r.View.Number,.slice r.View.fh r.View.eW r.View.fQ,.int .i64 r.eV,.int .i64 r.f0,.int .u64 r.hK] 41:=au;clear o l;obtain ⟨s,t,u,⟨I,g⟩,y,A,B,hu⟩:=h;have d:j.valid=if gg r.ir r.Client≠0 then gg r.ir r.Client else if r.eV<0\/6<=r.eV then 1 else if j.v.valid 5≠0 then j.v.valid 5 else if r.hs<98\/256<r.hs then 18 else if r.eV=r.Client/\r.f0≠r.ir then 1 else if r.eV≠r.Client/\(r.f0<2\/60<r.f0\/Int.tmod r.f0 2≠0) then 2 else s4 r (mT r.hK) (pu r.hK) (kP r.hK):=by unfold ca.valid ca.tail s4;rw [s,t,u,y,A,B];cases J:mT j.prev<;>by_cases F:j.prev=0<;>simp [F]
 rw [d];clear d s t u y A B;refine ⟨_,au.cell (i:=1) rfl,_,au.cell (i:=0) rfl,?_⟩;refine aD (wg w1 r.ir r.Client) ?_;rintro x G ⟨rfl,rfl⟩;refine ⟨_,_,rfl,du (λhe=>⟨by rw [if_pos he],f⟩) (λhe=>?_)⟩
 rw [if_neg (λe=>e he),T3,TE];refine lx (λ_ _=>rfl) ?_;rw [UZ];generalize k:(if r.eV<0\/6<=r.eV then (1:Int) else _)=V;have q:∀ (b:Bool) a,(b=true↔r.eV<0\/6<=r.eV)->W prog (sub (bn f127) [1,1,0,1]) (xC ⟨b1,0,none⟩ b a) (aZ (λenv z=>W prog (sub (bn f127) [1,1,1]) env (dC prog f127 (m9 w V)) z) (dC prog f127 (m9 w V))) G:=λb a C=>by
  refine lx (P:=prog) (fn:=f127) (R:=m9 w V) (λ_ _=>rfl) ?_;rw [U0];refine f' (λe=>⟨by rw [<-k,if_pos (C.1 e)],f⟩) (λe=>?_)
  rw [if_neg (λD=>by rw [C.2 D] at e;cases e)] at k;refine eT ?_;refine lx (P:=prog) (fn:=f127) (R:=m9 w V) (λ_ _=>rfl) ?_;rw [U1];refine c2.aT r.View ⟨bO au rfl,?_⟩;refine aD (Di (g.new f) 5) ?_;rintro x H ⟨rfl,n⟩;have au:=ai.aj n au;have f:=f.new n;refine ⟨_,rfl,du (λal=>⟨by rw [<-k,if_pos al],f⟩) (λal=>⟨_,au.cell (i:=7) rfl,?_⟩)⟩;rw [if_neg (λe=>e al)] at k;refine aD (H9 H hu) ?_;rintro x p ⟨rfl,rfl⟩;have fin:m9 w V (.int .i64 0) p->∀ a,W prog (sub (bn f127) [1,1,1,1,1,1]) (qH a) (bI prog f127 (m9 w V) (dC prog f127 (m9 w V))) p:=λh a=>by rw [UO];exact h
  have c:m9 w V (.int .i64 V) p:=⟨rfl,f⟩;refine ⟨_,_,_,rfl,_,au.cell (i:=2) rfl,bc (λE=>?_) (λE=>⟨_,au.cell (i:=2) rfl,?_⟩)⟩
  ·refine FF (R:=m9 w V) au ?_ ?_ ?_ ?_ _
   ·exact λ_ _=>rfl
   ·simp;omega
   ·rw [k];exact c
   ·exact λh a=>pI (eT (fin h a))
  ·refine FF (R:=m9 w V) au ?_ ?_ ?_ ?_ _
   ·exact λ_ _=>rfl
   ·simp;omega
   ·rw [k];exact c
   ·exact λh a=>pI (eT (fin h a))
 refine ⟨_,au.cell (i:=5) rfl,bc (λaq=>eT (q _ _ ?_)) (λaq=>⟨_,au.cell (i:=5) rfl,eT (q _ _ ?_)⟩)⟩
 ·simp;omega
 ·simp;omega
end
end Go.Proofs.YtmkljjbioomepaaGreat
