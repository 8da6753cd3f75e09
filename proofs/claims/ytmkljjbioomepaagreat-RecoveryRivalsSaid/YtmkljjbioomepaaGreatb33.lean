import Derived.Test.YtmkljjbioomepaaGreatb32
import Derived.Test.YtmkljjbioomepaaGreatProg
import Derived.Test.YtmkljjbioomepaaGreatb03
import Derived.Test.YtmkljjbioomepaaGreatb23
set_option linter.all false
set_option maxHeartbeats 4000000
set_option maxRecDepth 100000
namespace Go.Proofs.YtmkljjbioomepaaGreat
open Go.Proofs.Tryz Go.bu
variable {A:a3} {B:Nat} {G:List (List aO)} {L:bd} {aT:List bd} {P:Program} {Q:Exit->ax->aE} {R:cB} {S:cq} {c:Code} {env:ax} {fn:Func} {j:b3} {lines:Int} {m:aY} {r:dt} {bs w:ak} {vs:List aW}
section
structure zI (R:Int×List aK):Prop where
 c6:fy R.1 R.2 256=0
 pl:qo R.2
 u64:∀ x ∈ fi R.1 R.2,ca x
theorem Eh (h:fN L lines=true) (hu:∀ x ∈ L,ca x):zI (cW L lines):=by obtain ⟨g,f,i⟩:=KQ h hu;obtain ⟨_,k,_⟩:=jj g;refine ⟨AL g,⟨f,i⟩,Dx (by unfold ca;omega) f.eD λp j=>?_⟩;obtain ⟨a,b,c,d,e⟩:=f.ok p j;exact ⟨by unfold ca;omega,e,i p j⟩
theorem In {lines:Int} {P:(Int×List aK)->Prop}:∀ (aT:List bd) (b:(Int×List aK)×Bool),(∀ L ∈ aT,li L lines=true->P (fj L lines))->(b.2=true->P b.1)->(aT.foldl (lw lines) b).2=true->P (aT.foldl (lw lines) b).1
 | [],_,_,a=>a
 |L::aT,b,h,a=>by
  refine In aT _ (λc d=>h c (fu _ d)) ?_;unfold lw;split
  ·rename_i e;exact λ_=>h L e2 e.1
  ·exact a
theorem Bt (h:li L lines=true):fN L lines=true/\fj L lines=cW L lines:=by refine ⟨?_,if_pos h⟩;unfold li at h;exact (e1 _ _▸h).1
theorem MR (hu:∀ L ∈ aT,∀ x ∈ L,ca x) (h:(eb lines aT).2=true):zI (eb lines aT).1:=by refine In (P:=zI) aT _ (λL c d=>?_) (λe=>by cases e) h;obtain ⟨a,b⟩:=Bt d;rw [b];exact Eh a (hu L c)
def hD (j:b3) (m:aY) (aT:List bd) (G:List (List aO)):(Int×Int)×cq:=
 if (eb j.lines aT).2=true then ((2,(eb j.lines aT).1.1),pV j m (eb j.lines aT).1.1 (eb j.lines aT).1.2 aT G)
 else if fN (aT.getD 0 []) j.lines=true then ((3,(cW (aT.getD 0 []) j.lines).1),tR j m (cW (aT.getD 0 []) j.lines).2 G)
 else ((1,0),⟨true,[],(0,0),G,none,false⟩)
section
variable {A:a3} {w0 u:ak} {aH tb:Nat} {r:dt} {m:aY} {j:b3} {V:ga} {T:fV} {G:List (List aO)}
def y5 (A:a3) (w0 u:ak) (aH tb:Nat) (r:dt) (m:aY) (j:b3) (V:ga) (S:(Int×Int)×cq) (v:a2) (bs:ak):Prop:=
 v=.tuple #[.int .i64 S.1.1,.int .i64 S.1.2,.bool S.2.ok]/\eH A w0 u aH tb u.heap.size r m j V S.2 bs
theorem LU (N:dh w0 u aH tb r m j V (0,0)) (Wk:eP A w0 u tb T G) (I:fY T) (Y:kS w0 u aH tb V aT) (Wm:aT.length=j.v.mem.length) :
  a9 182 [ptr aH] u (y5 A w0 u aH tb r m j V (hD j m aT G)):=by
 refine bc Tryz.func182 ?_;rw [ptr,Rx];have WG:=N.aj.lt;have WK:=Wk.aj.lt;have WQ:=N.cf.mem;have J:=N.bM.lines;obtain ⟨⟨Wh,Wx,Ww,WT,P⟩,WE⟩:=id Y;have hu:∀ L ∈ aT,∀ x ∈ L,ca x:=λL Wj=>by obtain ⟨i,WD⟩:=eh.1 Wj;obtain ⟨s,Wl⟩:∃ s,Wh[i]?=some s:=⟨_,bD (by have:=cb WD;omega)⟩;exact (P i s L Wl WD).u64
 refine aC (HL N Y (by omega)) ?_;rintro v w1 ⟨pa,pc,rfl,V9,Wc,Wv⟩;have WR:=V9.size;have C:=MR (lines:=j.lines) hu;have V6:(eb j.lines aT).2=true->hD j m aT G=((2,(eb j.lines aT).1.1),pV j m (eb j.lines aT).1.1 (eb j.lines aT).1.2 aT G):=λh=>if_pos h
 have V7:¬ (eb j.lines aT).2=true->hD j m aT G=if fN (aT.getD 0 []) j.lines=true then ((3,(cW (aT.getD 0 []) j.lines).1),tR j m (cW (aT.getD 0 []) j.lines).2 G) else ((1,0),⟨true,[],(0,0),G,none,false⟩):=λh=>if_neg h
 generalize eb j.lines aT=d at Wc C V6 V7;refine bY.aR ⟨d.1.1,pa,d.1.2.length,pc⟩ ⟨_,rfl,?_⟩;refine ea (vs:=bY.cells ⟨d.1.1,pa,d.1.2.length,pc⟩) rfl (bY.single _) λb1 WL WP Wy V_=>?_
 have Q:=V9.new V_;refine fX (λV5=>?_) (λV5=>?_)
 ·rw [V6 V5];have z:=C V5;rintro WW We;have Z:ai WL WW:=by rw [We];exact cE _
  clear We;have l:=Q.new Z;have w:=ai.aj Z Wy;refine ⟨λy=>av y b1 (bY.cells ⟨d.1.1,pa,d.1.2.length,pc⟩) eo,w,d.1.1,λy B=>B.cell (i:=0) rfl,bY.aR ⟨d.1.1,pa,d.1.2.length,pc⟩ ⟨λy B=>bJ B rfl,?_⟩⟩;refine aC (JK (N.bz l) (Wk.new l) I (Y.new l) Wm (q:=⟨d.1.1,pa,d.1.2.length,pc⟩) (Wc.new (V_.new Z)) (λk z=>?_) z.c6 z.u64 z.pl) ?_
  ·have:=Wv k z;constructor<;>omega
  rintro v W1 ⟨rfl,Wa⟩;exact ⟨_,rfl,Wa.az.aj w λe=>by rcases e with e | e<;>omega,rfl,Wa.of l l.size⟩
 have V5:¬ d.2=true:=by rw [V5];simp
 rw [V7 V5];rintro WM Wf;have Ws:ai WL WM:=by rw [Wf];exact cE _
 clear Wf;have o:=Q.new Ws;have H:=N.bz o;obtain ⟨s,Wl⟩:∃ s,Wh[0]?=some s:=⟨_,bD (by omega)⟩;obtain ⟨L,Wj⟩:∃ L,aT[0]?=some L:=⟨_,bD (by omega)⟩;have X:=P 0 s L Wl Wj;have WO:aT.getD 0 []=L:=by rw [dF,Wj];rfl
 rw [WO];have Wt:=Eh (L:=L) (lines:=j.lines) (hu:=X.u64);refine ⟨λy=>ai WM y,ao.refl _ _,_,_,_,λy B=>(ai.aj B H.aj).cell (i:=13) rfl,?_⟩;refine iW (cells:=mz) (sz:=1) (λ_=>rfl) (by decide) (Wx.new o) Wl rfl Ww λb' W0 Wp=>⟨s.a,s.n,s.c,λy B=>by simpa using Wp y B 0 _ rfl,r.gw,λy B=>(ai.aj B H.aj).cell (i:=2) rfl,?_⟩
 rw [J];have fin:∀ {y:ak} {aA:Nat} {pb:an} {aX:Nat},ai u y->av y aA (bY.cells ⟨(cW L j.lines).1,pb,(cW L j.lines).2.length,aX⟩) eo->u.heap.size<=aA->fh y pb (cW L j.lines).2.length (cW L j.lines).2->(∀ k,aL pb k->u.heap.size<=k)->
   (bif (fN L j.lines) then (∀ F,F=y.drew->∃ Wi:aE,Wi F/\∃ Seq:Int,(∀ u,Wi u->u.cell? ⟨aA,0,none⟩=some (.int .i64 Seq))/\bY.ex λr1=>(∀ u,Wi u->b6 u ⟨aA,0,none⟩ 0 r1.cells)/\Calls prog 229 #[ptr aH,r1.val] F λe V4=>∃ b:Bool,e=.returned (.bool b)/\Wi V4/\y5 A w0 u aH tb r m j V (if fN L j.lines=true then ((3,(cW L j.lines).1),tR j m (cW L j.lines).2 G) else ((1,0),⟨true,[],(0,0),G,none,false⟩)) (.tuple #[.int .i64 3,.int .i64 Seq,.bool b]) V4)
    else y5 A w0 u aH tb r m j V (if fN L j.lines=true then ((3,(cW L j.lines).1),tR j m (cW L j.lines).2 G) else ((1,0),⟨true,[],(0,0),G,none,false⟩)) (.tuple #[.int .i64 1,.int .i64 0,.bool true]) y):=by
  intro y aA pb aX M Wz V8 Wu WF;refine fX (λhw=>?_) (λhw=>?_)
  ·rw [if_pos hw];have z:=Wt hw;rintro F S;have D:ai y F:=by rw [S];exact cE _
   clear S;have p:=M.new D;have W:=ai.aj D Wz;refine ⟨λy=>av y aA (bY.cells ⟨(cW L j.lines).1,pb,(cW L j.lines).2.length,aX⟩) eo,W,_,λy B=>B.cell (i:=0) rfl,bY.aR ⟨(cW L j.lines).1,pb,(cW L j.lines).2.length,aX⟩ ⟨λy B=>bJ B rfl,?_⟩⟩;refine aC (OR (N.bz p) (Wk.new p) I (q:=⟨(cW L j.lines).1,pb,(cW L j.lines).2.length,aX⟩) (Wu.new D) z.pl.wr) ?_;rintro v V4 ⟨rfl,Wa⟩;exact ⟨_,rfl,Wa.az.aj W λe=>by rcases e with e | e<;>omega,rfl,Wa.of p p.size⟩
  ·rw [if_neg (by rw [hw];simp)];have Wn:=Wk.new M;exact ⟨rfl,ao.b4 M,N.bz M,T,Wn,I.dE,I.c8⟩
 have WJ:=o.size;refine ⟨?_,?_⟩
 ·refine aC (vI j.lines (X.new H.new)) ?_;rintro v WX ⟨pb,aX,rfl,K,Wd,Wb⟩;refine bY.aR ⟨(cW L j.lines).1,pb,(cW L j.lines).2.length,aX⟩ ⟨_,rfl,K,?_⟩;rintro aA WY V8 Wg;obtain ⟨V3,V'⟩:=bl V8 Wg;have V3:av WY aA iL.cells eo:=V3;clear Wg;have WS:=K.size;refine ⟨K.new V',dQ (vs:=bY.cells ⟨(cW L j.lines).1,pb,(cW L j.lines).2.length,aX⟩) V3 rfl (bY.single _) λWZ WA Wq=>?_⟩;have R:ai WX WZ:=V'.trans Wq λk Wr e=>by omega
  exact fin ((o.new K).new R) WA (by omega) (Wd.new R) λk z=>by have:=Wb k z;omega
 ·rintro WN WB Wo U;obtain ⟨t,g⟩:=bl Wo U;have t:av WB WN iL.cells eo:=t;clear U;have WH:=g.size;have WC:=t.lt;refine ⟨g,aC (vI j.lines (X.new (H.bz g).new)) ?_⟩;rintro v WU ⟨pb,aX,rfl,f,V2,E⟩;have WI:=f.size;refine bY.aR ⟨(cW L j.lines).1,pb,(cW L j.lines).2.length,aX⟩ ⟨_,rfl,g.new f,dQ (vs:=bY.cells ⟨(cW L j.lines).1,pb,(cW L j.lines).2.length,aX⟩) (ai.aj f t) rfl (bY.single _) λWV w O=>?_⟩;exact fin ((o.new (g.new f)).trans O λk Wr e=>by omega) w (by omega) (vx V2 O λk z e=>by have:=E k z;omega) λk z=>by have:=E k z;omega
end
end
section
noncomputable abbrev nm:Func:=f129
def GF (r:dt) (tb:Nat) (m:aY) (tag:Int) (V:ga) (o:dA):ax:=r.cells++(ptr tb::m.cells)++[.int .u64 tag,.slice V.fq V.j6 V.lc,.int .u64 V.clock]++o.cells
structure tV (A:a3) (w0 u:ak) (aH tb B:Nat) (r:dt) (m:aY) (tag:Int) (S:cq) (o:dA) (bs:ak):Prop where
 az:ao (λk=>k=tb\/k=aH) u bs
 aj:∃ V,av bs aH (GF r tb m tag V o) oi
 fS:∃ ib:fV,eP A w0 bs tb ib S.a4/\ib.dE=S.dE/\(match S.ask with
  |none=>ib.c8=0
  |some vs=>0<vs.length/\∃ w1,ai w0 w1/\B<=w1.heap.size/\bH w1 bs ib.aa ib.c8 ib.ac vs)
theorem eH.run {w0 u:ak} {aH tb:Nat} {V:ga} (h:eH A w0 u aH tb B r m j V S bs):tV A w0 u aH tb B r m (gv j.inc j.a1) S (iG S.out) bs:=
 ⟨h.az,⟨V,h.eF.aj⟩,h.fS⟩
def ke (j:b3) (m:aY) (G:List (List aO)):List bd:=rA j (bK G (fz j m)).done
def m0 (j:b3) (m:aY) (G:List (List aO)):Int:=s7 j (bK G (fz j m)).done
def q4 (j:b3) (m:aY) (aT:List bd) (cH:Int) (Z:(Int×Int)×cq):cq×dA:=
 if Z.2.ok=false then (Z.2,iG Z.2.out) else if (hC j m Z.2.a4).ok=false then (hC j m Z.2.a4,iG (hC j m Z.2.a4).out)
 else (hC j m Z.2.a4,⟨0,Z.1.1,Z.1.2,jG j.lines cH aT,0⟩)
def sL (j:b3) (m:aY) (C:cq):cq×dA:=
 if C.ok=false then (C,iG C.out) else if (fB j m C.a4).ok=false then (fB j m C.a4,iG (fB j m C.a4).out)
 else q4 j m (ke j m C.a4) (m0 j m C.a4) (hD j m (ke j m C.a4) (fB j m C.a4).a4)
def h8 (j:b3) (m:aY) (G:List (List aO)):cq×dA:=
 if (hq j G).ok=false then (hq j G,iG (hq j G).out) else sL j m (h2 j m (hq j G).a4)
structure pg (S:cq):Prop where
 out:S.out=(0,0)
 ask:S.ask=none
 dE:S.dE=false
theorem x6 (h:(bK G vs).ok=true):pg (bK G vs):=by obtain ⟨a,b,c⟩:=oA h;exact ⟨a,b,c⟩
theorem JL (h:(h2 j m G).ok=true):pg (h2 j m G):=by
 unfold h2 at h ⊢;split at h
 ·rename_i e;rw [e] at h;cases h
 rename_i e;rw [if_neg e];split at h
 ·cases h
 rename_i a;rw [if_neg a];exact ⟨rfl,rfl,rfl⟩
theorem KJ (h:(fB j m G).ok=true):pg (fB j m G):=by
 unfold fB rZ at h ⊢;split at h
 ·rename_i e;rw [e] at h;cases h
 rename_i e;rw [if_neg e];split at h
 ·rename_i a;rw [if_pos a];exact ⟨rfl,rfl,rfl⟩
 ·split at h
  ·rename_i b;rw [b] at h;cases h
  ·cases h
theorem IK (h:(hD j m aT G).2.ok=true):pg (hD j m aT G).2:=by
 unfold hD at h ⊢;split at h
 ·rename_i e;rw [if_pos e];simp only at h ⊢;unfold pV at h ⊢;split at h
  ·rename_i a;rw [a] at h;cases h
  rename_i a;rw [if_neg a];unfold pq at h ⊢;split at h
  ·rename_i b;rw [b] at h;cases h
  rename_i b;rw [if_neg b];split at h
  ·rename_i c;rw [if_pos c];exact x6 h
  rename_i c;rw [if_neg c];unfold qL at h ⊢;split at h
  ·rename_i d;rw [d] at h;cases h
  rename_i d;rw [if_neg d];exact x6 h
 rename_i e;rw [if_neg e];split at h
 ·rename_i a;rw [if_pos a];exact x6 h
 ·rename_i a;rw [if_neg a];exact ⟨rfl,rfl,rfl⟩
theorem JM (h:(hq j G).ok=true):pg (hq j G):=by
 unfold hq tA at h ⊢;split at h
 ·rename_i e;rw [e] at h;cases h
 rename_i e;rw [if_neg e];split at h
 ·cases h
 rename_i b;rw [if_neg b];unfold oR at h ⊢;split at h
 ·rename_i a;rw [a] at h;cases h
 rename_i a;rw [if_neg a];split at h
 ·cases h
 rename_i c;rw [if_neg c];exact ⟨rfl,rfl,rfl⟩
def ze (G:List (List aO)):Prop:=∀ ds ∈ G,∀ d ∈ ds,∀ x ∈ d.words,ca x
theorem O_ {a:an} (h:hI A w a G):ze G:=by obtain ⟨rows,n,_,_,j⟩:=h;intro ds b d ar x l;obtain ⟨i,f⟩:=eh.1 b;obtain ⟨k,g⟩:=eh.1 ar;obtain ⟨r,c⟩:∃ r,rows[i]?=some r:=⟨_,bD (by have:=cb f;omega)⟩;obtain ⟨_,_,e,_⟩:=j i r ds c f;obtain ⟨v,al⟩:∃ v,r.raw[k]?=some v:=⟨_,bD (by have:=cb g;have:=e.1;omega)⟩;exact (e.2 k v d al g).wf x l
theorem OU (h:ze G):∀ d ∈ (bK G vs).done,∀ x ∈ d.words,ca x:=by
 intro d ar;have:d ∈ (batch G vs).done:=by
  unfold bK cg at ar;split at ar
  ·simp at ar
  split at ar
  ·simp at ar
  ·exact ar
 unfold batch at this;split at this
 ·simp at this
 cases G with
 |nil=>simp at this
 |cons ds G=>
  simp only at this;split at this
  ·exact h ds e2 d this
  ·simp at this
theorem MS (h:ze G):ca (m0 j m G):=by
 unfold m0 s7 dx d8;rw [dF];cases ar:(bK G (fz j m)).done[2 * j.v.mem.length]? with
 |none=>exact hf
 |some d=>
  have:=OU h d (b7 ar);cases hw:d.words with
  |nil=>simp [hw];exact hf
  |cons x l=>simp [hw];exact this x (by rw [hw];exact e2)
theorem MT (h:(fB j m G).ok=true):(bK G (fz j m)).ok=true:=by
 unfold fB rZ at h;split at h
 ·rename_i e;rw [e] at h;cases h
 ·rename_i e;simpa using e
theorem DV (h:(bK G vs).ok=true):(bK G vs).done.length=vs.length:=by
 unfold bK cg at h ⊢;split at h
 ·cases h
 split at h
 ·cases h
 rename_i b e;rw [if_neg b,if_neg e];have a:(batch G vs).ok=true:=by simpa using b
 show (batch G vs).done.length=_;unfold batch at a ⊢;by_cases al:vs.length=0
 ·rw [if_pos al];exact al.symm
 rw [if_neg al] at a ⊢;cases G with
 |nil=>cases a
 |cons d f=>
  simp only at a ⊢;split at a
  ·rename_i c;rw [if_pos c];have:=yf c;simp only;omega
  ·cases a
theorem LV (h:(fB j m G).ok=true):(ke j m G).length=j.v.mem.length/\∀ L ∈ ke j m G,L.length=120:=by unfold ke rA;refine ⟨by simp,λL d=>?_⟩;obtain ⟨i,b,rfl⟩:=cT.1 d;have b:=fJ.1 b;have a:=MT h;obtain ⟨bg,hm⟩:=Bs (m:=m) b;have hlen:=DV a;obtain ⟨x,c⟩:∃ x,(bK G (fz j m)).done[2 * i+1]?=some x:=⟨_,bD (by have:=cb hm;omega)⟩;have:=D6 a hm c;rw [dF,c];have e:(mL j bg (e' j.dead) 120).v.iq=120:=rfl;show x.words.length=120;omega
section
variable {A:a3} {w0 u:ak} {aH tb:Nat} {r:dt} {m:aY} {j:b3} {V:ga} {T:fV} {G:List (List aO)}
theorem eH.u0 (h:eH A w0 u aH tb B r m j V S bs) (c:pg S):dh w0 bs aH tb r m j V (0,0)/\∃ b,eP A w0 bs tb b S.a4/\fY b:=by have a:=h.eF;rw [c.out] at a;obtain ⟨b,f,d,e⟩:=h.fS;rw [c.ask] at e;rw [c.dE] at d;exact ⟨a,b,f,e,d⟩
theorem MU (Wg:dh w0 u aH tb r m j ⟨none,0,0,0⟩ (0,0)) (Wv:eP A w0 u tb T G) (Wl:fY T) :
  a9 129 [ptr aH] u λv bs=>v=.tuple #[]/\tV A w0 u aH tb u.heap.size r m (gv j.inc j.a1) (h8 j m G).1 (h8 j m G).2 bs:=by
 refine bc Tryz.func129 ?_;rw [ptr,St];generalize Wu:(λ(v:a2) (bs:ak)=>v=.tuple #[]/\tV A w0 u aH tb u.heap.size r m (gv j.inc j.a1) (h8 j m G).1 (h8 j m G).2 bs)=R;have stop:∀ {w:ak} (V9:ax),R (.tuple #[]) w->Go.bu.W prog (sub (bp nm) [0,1]) (uj ⟨aH,0,none⟩ true V9) (aU (λenv w=>Go.bu.W prog (sub (bp nm) [1]) env (dD prog nm R) w) (dD prog nm R)) w:=by intro w V9 h;refine g_ (fn:=nm) (R:=R) (λ_ _=>rfl) ?_;rw [Fz];exact ek rfl h
 have last:∀ {w:ak} {S:cq×dA},h8 j m G=S->tV A w0 u aH tb u.heap.size r m (gv j.inc j.a1) S.1 S.2 w->R (.tuple #[]) w:=by intro w S e h;rw [<-Wu,e];exact ⟨rfl,h⟩
 refine aC (qg Wg Wv Wl) ?_;rintro v bE ⟨rfl,q⟩;refine ⟨_,rfl,ev (λWm=>stop _ (last (S:=(hq j G,iG (hq j G).out)) (if_pos Wm) q.run)) (λWo=>?_)⟩
 have Wa:h8 j m G=sL j m (h2 j m (hq j G).a4):=if_neg (by rw [Wo];simp);obtain ⟨Wh,Wx,O,X⟩:=q.u0 (JM Wo);refine aC (Nt Wh O X) ?_;rintro v WB ⟨rfl,J⟩;generalize Ws:(hq j G).a4=p at J O Wa;have f:=eH.seq q.az (ao.refl _ _) J q.az.size;refine ⟨_,rfl,ev (λWm=>stop _ (last (S:=(h2 j m p,iG (h2 j m p).out)) (Wa.trans (if_pos Wm)) f.run)) (λV8=>?_)⟩
 obtain ⟨Wi,Wy,I,Y⟩:=J.u0 (JL V8);have Wb:h8 j m G=if (fB j m (h2 j m p).a4).ok=false then (fB j m (h2 j m p).a4,iG (fB j m (h2 j m p).a4).out) else q4 j m (ke j m (h2 j m p).a4) (m0 j m (h2 j m p).a4) (hD j m (ke j m (h2 j m p).a4) (fB j m (h2 j m p).a4).a4):=Wa.trans (if_neg (by rw [V8];simp));refine aC (OO Wi I Y) ?_;rintro v bk ⟨rfl,M,K,b⟩;generalize (h2 j m p).a4=c at K b I Wb;have g:=eH.seq f.az (ao.refl _ _) K f.az.size;refine ⟨_,rfl,?_⟩;cases d:(fB j m c).ok with
 |false=>exact stop _ (last (S:=(fB j m c,iG (fB j m c).out)) (Wb.trans (if_pos d)) g.run)
 |true=>
  obtain ⟨Wj,Wz,Wd,V2⟩:=K.u0 (KJ d);have N:h8 j m G=q4 j m (ke j m c) (m0 j m c) (hD j m (ke j m c) (fB j m c).a4):=Wb.trans (if_neg (by rw [d];simp));obtain ⟨b,a⟩:=b d;have b:kS w0 bk aH tb M (ke j m c):=b;have a:M.clock=m0 j m c:=a;obtain ⟨V6,B⟩:=LV d;have V4:ca (m0 j m c):=MS (O_ I.a4);refine g_ (fn:=nm) (R:=R) (λ_ _=>rfl) ?_;rw [Fz];refine cV rfl (eU (g_ (fn:=nm) (R:=R) (λ_ _=>rfl) ?_));rw [Rc];generalize ke j m c=aT at b N V6 B;generalize m0 j m c=cH at a N V4;refine aC (LU Wj Wd V2 b V6) ?_;rintro v WC ⟨rfl,s⟩;have H:(hD j m aT (fB j m c).a4).2.ok=true->pg (hD j m aT (fB j m c).a4).2:=IK;generalize hD j m aT (fB j m c).a4=Z at s N H;have l:=eH.seq g.az (ao.refl _ _) s g.az.size;have n:∀ {w:ak} {S:cq×dA} (V9:ax) {Q:Exit->ax->aE},(∀ env w,Q .ret env w=dD prog nm R .ret env w)->h8 j m G=S->tV A w0 u aH tb u.heap.size r m (gv j.inc j.a1) S.1 S.2 w->∀ (x y:Int),(∀ env w,R (.tuple #[]) w->Q .normal env w)->Go.bu.W prog (sub (bp nm) [1,1,1]) (wT ⟨aH,0,none⟩ x y false V9) (bG prog nm R Q) w:=by intro w S V9 Q dH e h x y Wt;rw [FA];exact cV rfl (Wt _ _ (last e h))
  refine ⟨_,_,_,rfl,fX (λV_=>?_) (λV_=>?_)⟩
  ·obtain ⟨Wk,WA,We,V3⟩:=s.u0 (H V_);have Wc:h8 j m G=if (hC j m Z.2.a4).ok=false then (hC j m Z.2.a4,iG (hC j m Z.2.a4).out) else (hC j m Z.2.a4,⟨0,Z.1.1,Z.1.2,jG j.lines cH aT,0⟩):=N.trans (if_neg (by rw [V_];simp));refine aC (B1 Wk We V3) ?_;rintro v Wp ⟨rfl,t⟩;have z:(hC j m Z.2.a4).ok=true->pg (hC j m Z.2.a4):=x6;generalize hC j m Z.2.a4=E at t Wc z;have F:=eH.seq l.az (ao.refl _ _) t l.az.size;refine ⟨_,rfl,?_⟩;cases ay:E.ok with
   |false=>exact n _ (λ_ _=>rfl) (S:=(E,iG E.out)) (Wc.trans (if_pos ay)) F.run _ _ λ_ _ h=>h
   |true=>
    have Wr:=Wc.trans (if_neg (by rw [ay];simp));obtain ⟨U,Wq,Wf,C⟩:=t.u0 (z ay);rw [FA];refine ek rfl ?_;have V5:ao (λk=>k=tb\/k=aH) bk Wp:=s.az.trans t.az λ_ _ e=>e
    refine aC (KG U (b.az V5 λ_ e=>e) (by have:=Wg.cf.mem;omega) B (by rw [a];exact V4)) ?_;rintro v Ww ⟨rfl,V7⟩;have V:=U.bz V7;refine ⟨_,rfl,gg V.aj (cQ 20) (dA.single ⟨0,Z.1.1,Z.1.2,_,0⟩),λV' L=>?_⟩;have Wn:ao (λk=>k=aH) Ww V':=by rw [L];exact h0 _ _ _ _ _
    have P:av V' aH (GF r tb m (gv j.inc j.a1) M ⟨0,Z.1.1,Z.1.2,jG j.lines M.clock aT,0⟩) oi:=by rw [L];exact V.aj.cr (vs:=dA.cells ⟨0,Z.1.1,Z.1.2,_,0⟩) (o:=15) (i:=0)
    clear L;rw [a] at P;have D:ao (λk=>k=aH) Wp V':=(ao.b4 V7).trans Wn λ_ _ e=>e
    show R (.tuple #[]) V';refine last Wr ⟨F.az.trans D λk _ e=>.inr e,⟨M,P⟩,Wq,Wf.az D λe=>Wg.ne e.symm,by rw [C.dE,(z ay).dE],?_⟩;rw [(z ay).ask];exact C.c8
  ·exact n _ (λ_ _=>rfl) (S:=(Z.2,iG Z.2.out)) (N.trans (if_pos V_)) l.run _ _ λ_ _ h=>h
end
end
section
open IntKind
variable (w:ak) (R:cB) {A:aS} {j:aq} {F G:Bool} {i k:Int}
def kF:Code->List Oper
 | .region _ ops _=>ops.toList
 | _=>[]
def F' (a:aS) (j:aq):aq:=ag j 0 1 (.pointer (some a)::ag j 1 119 [])
def xa (a:aS) (b:Bool) (j:aq):aq:=ag j 0 1 (.pointer (some a)::ag j 1 25 (ad b::ag j 26 93 []))
def Ga (a:aS) (j:aq):aq:=ag j 0 1 (.pointer (some a)::ag j 1 119 [])
def xb (a:aS) (c d:Int) (s8 b:Bool) (j:aq):aq:=ag j 0 1 (.pointer (some a)::ag j 1 4 (ab c::ab d::ad s8::ag j 5 32 (ad b::ag j 37 79 [])))
def Ae (a:aS) (b c:Int) (s8:Bool) (j:aq):aq:=ag j 0 1 (.pointer (some a)::ag j 1 4 (ab b::ab c::ad s8::ag j 5 112 []))
def xc (a:aS) (c d:Int) (s8 b:Bool) (j:aq):aq:=ag j 0 1 (.pointer (some a)::ag j 1 4 (ab c::ab d::ad s8::ag j 5 41 (ad b::ag j 46 70 [])))
def Af (a:aS) (b c:Int) (s8:Bool) (j:aq):aq:=ag j 0 1 (.pointer (some a)::ag j 1 4 (ab b::ab c::ad s8::ag j 5 112 []))
def sf (a:aS) (c d:Int) (s8 b:Bool) (j:aq):aq:=ag j 0 1 (.pointer (some a)::ag j 1 4 (ab c::ab d::ad s8::ag j 5 54 (ad b::ag j 59 57 [])))
def xd (a:aS) (b c:Int) (s8:Bool) (j:aq):aq:=ag j 0 1 (.pointer (some a)::ag j 1 4 (ab b::ab c::ad s8::ag j 5 112 []))
def Ab (a:aS) (c d:Int) (b:Bool) (j:aq):aq:=ag j 0 1 (.pointer (some a)::ag j 1 4 (ab c::ab d::ag j 5 77 (ad b::ag j 82 35 [])))
def Ac (a:aS) (b c:Int) (j:aq):aq:=ag j 0 1 (.pointer (some a)::ag j 1 4 (ab b::ab c::ag j 5 113 []))
def qD (a:Bool) (j:aq):aq:=ag j 0 120 [ad a]
def F3 (a:Bool) (j:aq):aq:=ag j 0 93 (ad a::ag j 93 27 [])
def qE  (j:aq):aq:=ag j 0 121 []
theorem Vp (g:dt):bf prog f127 [g.val] R w=(aQ w g.cells.toArray 41 λe f=>bS f (af e 1) λa=>bS f (af e 0) λb=>ht 128 #[ab a,ab b] f λc d h=>cond (d != 0) (R (ab d) h) (W prog (sb f127 [1,1]) (F' (af e 0) (g.val::ab 0::ah c::ab d::bb 4 (.tuple #[ah c,ab d]::jp (af e 1)::ab a::jp (af e 0)::ab b::.tuple #[ah c,ab d]::ah c::ab d::ab d::ad ((d:Int) != 0)::bb 102 []))) (bZ f127 R) h)):=by kernel_rfl
theorem Su (env:aq) (w:ak) (Q:Exit->aq->aE):W prog (sub (bp f127) [1,1]) env Q w=W prog (sub (bp f127) [1,1,0]) env (aU (λenv w=>W prog (sub (bp f127) [1,1,1]) env Q w) Q) w:=by rw [show sub (bp f127) [1,1]=.seq (sub (bp f127) [1,1,0]) (sub (bp f127) [1,1,1]) by kernel_rfl];generalize sub (bp f127) [1,1,0]=a;generalize sub (bp f127) [1,1,1]=b;kernel_rfl
theorem R3 (env:aq) (w:ak) (Q:Exit->aq->aE):W prog (sub (bp f127) [1,1,0]) env Q w=W prog (sub (bp f127) [1,1,0,0]) env (aU (λenv w=>W prog (sub (bp f127) [1,1,0,1]) env Q w) Q) w:=by rw [show sub (bp f127) [1,1,0]=.seq (sub (bp f127) [1,1,0,0]) (sub (bp f127) [1,1,0,1]) by kernel_rfl];generalize sub (bp f127) [1,1,0,0]=a;generalize sub (bp f127) [1,1,0,1]=b;kernel_rfl
theorem Tp (a:Exit->aq->aE):W prog (sb f127 [1,1,0,0]) (F' A j) (bG prog f127 R a) w=(bS w (bT A 5) λb=>cond (b<0) (a .normal (xa A true (ag j 0 19 (bq A 5::ab b::ad (b<0)::ad true::bb 3 (ag j 27 93 [])))) w) (bS w (bT A 5) λc=>a .normal (xa A (decide ((c:Int)>=6)) (ag j 0 19 (bq A 5::ab b::ad (b<0)::ad false::bq A 5::ab c::ad (c>=6)::ag j 27 93 []))) w)):=by kernel_rfl
theorem Tq (a:Exit->aq->aE):W prog (sb f127 [1,1,0,1]) (xa A F j) (bG prog f127 R a) w=(cond F (R (ab 1) w) (a .normal (Ga A (ag j 0 26 (ad F::ag j 26 93 []))) w)):=by kernel_rfl
theorem Tr (a:Exit->aq->aE):W prog (sb f127 [1,1,1]) (Ga A j) (bG prog f127 R a) w=(lS w (bT A 3) λk=>cm 166 #[k.val,ab 5] w λb l=>cond (b != 0) (R (ab b) l) (dr l (bT A 7) λc=>Ax 177 #[ah c] l λd f g e=>bS e (bT A 2) λh=>cond (h<98) (W prog (sb f127 [1,1,1,1,1,0,0,1]) (xb A d f g true (ag j 0 4 (ab b::ag j 8 19 (bq A 3::k.val::ab b::ab b::ad ((b:Int) != 0)::aF j 32::.tuple #[ab d,ab f,ad g]::bq A 7::ah c::.tuple #[ab d,ab f,ad g]::ab d::ab f::ad g::bq A 2::ab h::ad (h<98)::ad true::bb 3 (ad true::ag j 49 71 []))))) (aM 0 (aU (λm w=>W prog (sb f127 [1,1,1,1,1,1]) m (bG prog f127 R a) w) (bG prog f127 R a))) e) (bS e (bT A 2) λi=>W prog (sb f127 [1,1,1,1,1,0,0,1]) (xb A d f g (decide ((i:Int)>256)) (ag j 0 4 (ab b::ag j 8 19 (bq A 3::k.val::ab b::ab b::ad ((b:Int) != 0)::aF j 32::.tuple #[ab d,ab f,ad g]::bq A 7::ah c::.tuple #[ab d,ab f,ad g]::ab d::ab f::ad g::bq A 2::ab h::ad (h<98)::ad false::bq A 2::ab i::ad (i>256)::ad (i>256)::ag j 49 71 [])))) (aM 0 (aU (λm w=>W prog (sb f127 [1,1,1,1,1,1]) m (bG prog f127 R a) w) (bG prog f127 R a))) e))):=by kernel_rfl
theorem Ts (a:Exit->aq->aE):W prog (sb f127 [1,1,1,1,1,0,0,1]) (xb A i k F G j) (bG prog f127 R a) w=(cond G (R (ab 18) w) (W prog (sb f127 [1,1,1,1,1,0,0,1,1]) (Ae A i k F (ag j 0 37 (ad G::ag j 37 79 []))) (bG prog f127 R a) w)):=by kernel_rfl
theorem Sv (env:aq) (w:ak) (Q:Exit->aq->aE):W prog (sub (bp f127) [1,1,1,1,1,0,0,1,1]) env Q w=W prog (sub (bp f127) [1,1,1,1,1,0,0,1,1,0]) env (aU (λenv w=>W prog (sub (bp f127) [1,1,1,1,1,0,0,1,1,1]) env Q w) Q) w:=by rw [show sub (bp f127) [1,1,1,1,1,0,0,1,1]=.seq (sub (bp f127) [1,1,1,1,1,0,0,1,1,0]) (sub (bp f127) [1,1,1,1,1,0,0,1,1,1]) by kernel_rfl];generalize sub (bp f127) [1,1,1,1,1,0,0,1,1,0]=a;generalize sub (bp f127) [1,1,1,1,1,0,0,1,1,1]=b;kernel_rfl
theorem Tt (a:Exit->aq->aE):W prog (sb f127 [1,1,1,1,1,0,0,1,1,0]) (Ae A i k F j) (bG prog f127 R a) w=(bS w (bT A 5) λb=>bS w A λc=>cond (b == c) (bS w (bT A 6) λd=>bS w (bT A 1) λf=>a .normal (xc A i k F ((d:Int) != f) (ag j 0 46 (bq A 5::ab b::jp A::ab c::ad ((b:Int) == c)::ad true::bq A 6::ab d::bq A 1::ab f::ad ((d:Int) != f)::ad ((d:Int) != f)::ag j 59 58 []))) w) (a .normal (xc A i k F false (ag j 0 46 (bq A 5::ab b::jp A::ab c::ad ((b:Int) == c)::ad false::bb 5 (ad false::ag j 59 58 [])))) w)):=by kernel_rfl
theorem T1 (a:Exit->aq->aE):W prog (sb f127 [1,1,1,1,1,0,0,1,1,1]) (xc A i k F G j) (bG prog f127 R a) w=(cond G (R (ab 1) w) (W prog (sb f127 [1,1,1,1,1,0,0,1,1,1,1]) (Af A i k F (ag j 0 46 (ad G::ag j 46 70 []))) (bG prog f127 R a) w)):=by kernel_rfl
theorem Sw (env:aq) (w:ak) (Q:Exit->aq->aE):W prog (sub (bp f127) [1,1,1,1,1,0,0,1,1,1,1]) env Q w=W prog (sub (bp f127) [1,1,1,1,1,0,0,1,1,1,1,0]) env (aU (λenv w=>W prog (sub (bp f127) [1,1,1,1,1,0,0,1,1,1,1,1]) env Q w) Q) w:=by rw [show sub (bp f127) [1,1,1,1,1,0,0,1,1,1,1]=.seq (sub (bp f127) [1,1,1,1,1,0,0,1,1,1,1,0]) (sub (bp f127) [1,1,1,1,1,0,0,1,1,1,1,1]) by kernel_rfl];generalize sub (bp f127) [1,1,1,1,1,0,0,1,1,1,1,0]=a;generalize sub (bp f127) [1,1,1,1,1,0,0,1,1,1,1,1]=b;kernel_rfl
theorem T2 (a:Exit->aq->aE):W prog (sb f127 [1,1,1,1,1,0,0,1,1,1,1,0]) (Af A i k F j) (bG prog f127 R a) w=(bS w (bT A 5) λb=>bS w A λc=>cond (b != c) (bS w (bT A 6) λd=>cond (d<2) (a .normal (sf A i k F true (ag j 0 59 (bq A 5::ab b::jp A::ab c::ad ((b:Int) != c)::ad true::bq A 6::ab d::ad (d<2)::ad true::bb 3 (ad true::ad true::bb 4 (ad true::ad true::ag j 81 36 []))))) w) (bS w (bT A 6) λf=>cond (f>60) (a .normal (sf A i k F true (ag j 0 59 (bq A 5::ab b::jp A::ab c::ad ((b:Int) != c)::ad true::bq A 6::ab d::ad (d<2)::ad false::bq A 6::ab f::ad (f>60)::ad (f>60)::ad true::bb 4 (ad true::ad true::ag j 81 36 [])))) w) (bS w (bT A 6) λg=>a .normal (sf A i k F (((Int.tmod g 2):Int) != 0) (ag j 0 59 (bq A 5::ab b::jp A::ab c::ad ((b:Int) != c)::ad true::bq A 6::ab d::ad (d<2)::ad false::bq A 6::ab f::ad (f>60)::ad (f>60)::ad false::bq A 6::ab g::ab (Int.tmod g 2)::ad (((Int.tmod g 2):Int) != 0)::ad (((Int.tmod g 2):Int) != 0)::ad (((Int.tmod g 2):Int) != 0)::ag j 81 36 []))) w))) (a .normal (sf A i k F false (ag j 0 59 (bq A 5::ab b::jp A::ab c::ad ((b:Int) != c)::ad false::bb 14 (ad false::ag j 81 36 [])))) w)):=by kernel_rfl
theorem T7 (a:Exit->aq->aE):W prog (sb f127 [1,1,1,1,1,0,0,1,1,1,1,1]) (sf A i k F G j) (bG prog f127 R a) w=(cond G (R (ab 2) w) (W prog (sb f127 [1,1,1,1,1,0,0,1,1,1,1,1,1]) (xd A i k F (ag j 0 59 (ad G::ag j 59 57 []))) (bG prog f127 R a) w)):=by kernel_rfl
theorem Sx (env:aq) (w:ak) (Q:Exit->aq->aE):W prog (sub (bp f127) [1,1,1,1,1,0,0,1,1,1,1,1,1]) env Q w=W prog (sub (bp f127) [1,1,1,1,1,0,0,1,1,1,1,1,1,0]) env (aU (λenv w=>W prog (sub (bp f127) [1,1,1,1,1,0,0,1,1,1,1,1,1,1]) env Q w) Q) w:=by rw [show sub (bp f127) [1,1,1,1,1,0,0,1,1,1,1,1,1]=.seq (sub (bp f127) [1,1,1,1,1,0,0,1,1,1,1,1,1,0]) (sub (bp f127) [1,1,1,1,1,0,0,1,1,1,1,1,1,1]) by kernel_rfl];generalize sub (bp f127) [1,1,1,1,1,0,0,1,1,1,1,1,1,0]=a;generalize sub (bp f127) [1,1,1,1,1,0,0,1,1,1,1,1,1,1]=b;kernel_rfl
theorem T8 (a:Exit->aq->aE):W prog (sb f127 [1,1,1,1,1,0,0,1,1,1,1,1,1,0]) (xd A i k F j) (bG prog f127 R a) w=(dr w (bT A 7) λb=>cond (b != 0) (a .normal (Ab A i k (!F) (ag j 0 5 (ad F::ag j 5 76 (bq A 7::ah b::ad ((b:Int) != 0)::ad true::ad F::ad (!F)::ad (!F)::ag j 89 28 [])))) w) (a .normal (Ab A i k false (ag j 0 5 (ad F::ag j 5 76 (bq A 7::ah b::ad ((b:Int) != 0)::ad false::bb 2 (ad false::ag j 89 28 []))))) w)):=by kernel_rfl
theorem FZ (a:Exit->aq->aE):W prog (sb f127 [1,1,1,1,1,0,0,1,1,1,1,1,1,1]) (Ab A i k F j) (bG prog f127 R a) w=(cond F (R (ab 1) w) (W prog (sb f127 [1,1,1,1,1,0,0,1,1,1,1,1,1,1,1]) (Ac A i k (ag j 0 82 (ad F::ag j 82 35 []))) (bG prog f127 R a) w)):=by kernel_rfl
theorem R4 (env:aq) (w:ak) (Q:Exit->aq->aE):W prog (sub (bp f127) [1,1,1,1,1,0,0,1,1,1,1,1,1,1,1]) env Q w=W prog (sub (bp f127) [1,1,1,1,1,0,0,1,1,1,1,1,1,1,1,0]) env (aU (λenv w=>W prog (sub (bp f127) [1,1,1,1,1,0,0,1,1,1,1,1,1,1,1,1]) env Q w) Q) w:=by rw [show sub (bp f127) [1,1,1,1,1,0,0,1,1,1,1,1,1,1,1]=.seq (sub (bp f127) [1,1,1,1,1,0,0,1,1,1,1,1,1,1,1,0]) (sub (bp f127) [1,1,1,1,1,0,0,1,1,1,1,1,1,1,1,1]) by kernel_rfl];generalize sub (bp f127) [1,1,1,1,1,0,0,1,1,1,1,1,1,1,1,0]=a;generalize sub (bp f127) [1,1,1,1,1,0,0,1,1,1,1,1,1,1,1,1]=b;kernel_rfl
theorem TC (e:Exit->aq->aE):W prog (sb f127 [1,1,1,1,1,0,0,1,1,1,1,1,1,1,1,0]) (Ac A i k j) (bG prog f127 R e) w=(dr w (bT A 7) λb=>cond (b != 0) (bS w A λc=>cond (k == c) (bS w (bT A 1) λd=>cond (i>=d) (jL prog (kF (sb f127 [1,1,1,1,1,0,0,1,1,1,1,1,1,1,1,0])) ((kF (sb f127 [1,1,1,1,1,0,0,1,1,1,1,1,1,1,1,0])).drop 27) (qD true (aF j 0::jp A::ag j 1 4 (ab i::ab k::ag j 5 86 (bq A 7::ah b::ad ((b:Int) != 0)::ad true::ab k::jp A::ab c::ad ((k:Int) == c)::ad true::ab i::bq A 1::ab d::ad (i>=d)::ad (i>=d)::ad true::bb 10 [ad true])))) ((bG prog f127 R e) .normal) w) (bS w (bT A 5) λf=>cond (k == f) (bS w (bT A 6) λg=>jL prog (kF (sb f127 [1,1,1,1,1,0,0,1,1,1,1,1,1,1,1,0])) ((kF (sb f127 [1,1,1,1,1,0,0,1,1,1,1,1,1,1,1,0])).drop 27) (qD (decide ((i:Int)>=g)) (aF j 0::jp A::ag j 1 4 (ab i::ab k::ag j 5 86 [bq A 7,ah b,ad ((b:Int) != 0),ad true,ab k,jp A,ab c,ad ((k:Int) == c),ad true,ab i,bq A 1,ab d,ad (i>=d),ad (i>=d),ad false,ab k,bq A 5,ab f,ad ((k:Int) == f),ad true,ab i,bq A 6,ab g,ad (i>=g),ad (i>=g),ad (i>=g)]))) ((bG prog f127 R e) .normal) w) (jL prog (kF (sb f127 [1,1,1,1,1,0,0,1,1,1,1,1,1,1,1,0])) ((kF (sb f127 [1,1,1,1,1,0,0,1,1,1,1,1,1,1,1,0])).drop 27) (qD false (aF j 0::jp A::ag j 1 4 (ab i::ab k::ag j 5 86 (bq A 7::ah b::ad ((b:Int) != 0)::ad true::ab k::jp A::ab c::ad ((k:Int) == c)::ad true::ab i::bq A 1::ab d::ad (i>=d)::ad (i>=d)::ad false::ab k::bq A 5::ab f::ad ((k:Int) == f)::ad false::bb 4 [ad false,ad false])))) ((bG prog f127 R e) .normal) w))) (bS w (bT A 5) λh=>cond (k == h) (bS w (bT A 6) λa=>jL prog (kF (sb f127 [1,1,1,1,1,0,0,1,1,1,1,1,1,1,1,0])) ((kF (sb f127 [1,1,1,1,1,0,0,1,1,1,1,1,1,1,1,0])).drop 27) (qD (decide ((i:Int)>=a)) (aF j 0::jp A::ag j 1 4 (ab i::ab k::ag j 5 86 (bq A 7::ah b::ad ((b:Int) != 0)::ad true::ab k::jp A::ab c::ad ((k:Int) == c)::ad false::bb 4 [ad false,ad false,ab k,bq A 5,ab h,ad ((k:Int) == h),ad true,ab i,bq A 6,ab a,ad (i>=a),ad (i>=a),ad (i>=a)])))) ((bG prog f127 R e) .normal) w) (jL prog (kF (sb f127 [1,1,1,1,1,0,0,1,1,1,1,1,1,1,1,0])) ((kF (sb f127 [1,1,1,1,1,0,0,1,1,1,1,1,1,1,1,0])).drop 27) (qD false (aF j 0::jp A::ag j 1 4 (ab i::ab k::ag j 5 86 (bq A 7::ah b::ad ((b:Int) != 0)::ad true::ab k::jp A::ab c::ad ((k:Int) == c)::ad false::bb 4 (ad false::ad false::ab k::bq A 5::ab h::ad ((k:Int) == h)::ad false::bb 4 [ad false,ad false]))))) ((bG prog f127 R e) .normal) w))) (jL prog (kF (sb f127 [1,1,1,1,1,0,0,1,1,1,1,1,1,1,1,0])) ((kF (sb f127 [1,1,1,1,1,0,0,1,1,1,1,1,1,1,1,0])).drop 27) (qD false (aF j 0::jp A::ag j 1 4 (ab i::ab k::ag j 5 86 (bq A 7::ah b::ad ((b:Int) != 0)::ad false::bb 22 [])))) ((bG prog f127 R e) .normal) w)):=by kernel_rfl
theorem rx (a:Exit->aq->aE):jL prog (kF (sb f127 [1,1,1,1,1,0,0,1,1,1,1,1,1,1,1,0])) ((kF (sb f127 [1,1,1,1,1,0,0,1,1,1,1,1,1,1,1,0])).drop 27) (qD F j) ((bG prog f127 R a) .normal) w=(a .normal (F3 F (ag j 0 93 (ag j 94 26 [ad F]))) w):=by kernel_rfl
theorem TL (a:Exit->aq->aE):W prog (sb f127 [1,1,1,1,1,0,0,1,1,1,1,1,1,1,1,1]) (F3 F j) (bG prog f127 R a) w=(cond F (R (ab 1) w) (a .normal (qE  (ag j 0 93 (ad F::ag j 93 27 []))) w)):=by kernel_rfl
theorem Te (a:Exit->aq->aE):W prog (sb f127 [1,1,1,1,1,1]) (qE  j) (bG prog f127 R a) w=(R (ab 0) w):=by kernel_rfl
end
section
def sV (r:dt) (ok:Bool) (p c:Int):Int:=if r.g8≠0/\ok=false then 1 else if r.g8≠0/\(c=r.Client/\r.hy<=p\/c=r.eO/\r.fv<=p) then 1 else 0
theorem lh (a:∀ env w,Q .ret env w=dD P fn R .ret env w) (h:W P c env (bG P fn R Q) w):W P c env Q w:=(zR a).mp h
theorem uK (a:∀ env w,Q .ret env w=dD P fn R .ret env w) (h:W P c env Q w):W P c env (bG P fn R Q) w:=(zR a).mpr h
section
variable {R:cB} {u:ak} {b1:Nat} {r:dt} {p c:Int} {ok:Bool} {Q:Exit->ax->aE}
 (au:av u b1 [.int .i64 r.Client,.int .i64 r.hy,.int .i64 r.gw,.int .i64 r.View.Number,.slice r.View.ed r.View.ei r.View.eA,.int .i64 r.eO,.int .i64 r.fv,.int .u64 r.g8] 41) (dH:∀ env w,Q .ret env w=dD prog f127 R .ret env w)
include au dH
theorem E6 (e:r.g8≠0/\(c=r.Client/\r.hy<=p\/c=r.eO/\r.fv<=p)->R (.int .i64 1) u) (d:¬ (r.g8≠0/\(c=r.Client/\r.hy<=p\/c=r.eO/\r.fv<=p))->∀ b,Q .normal (qE b) u) (b:ax) :
  W prog (sub (bp f127) [1,1,1,1,1,0,0,1,1,1,1,1,1,1,1]) (Ac ⟨b1,0,none⟩ p c b) Q u:=by
 rw [R4];refine lh (P:=prog) (fn:=f127) (R:=R) dH ?_;rw [TC];repeat' first
  |refine ⟨_,au.cell rfl,?_⟩
  |refine dY (λ_=>?_) (λ_=>?_)
  |refine dw (λ_=>?_) (λ_=>?_)
  |refine a8 (λ_=>?_) (λ_=>?_)
 all_goals
  try dsimp only
  rw [rx];refine eU ?_;refine lh (P:=prog) (fn:=f127) (R:=R) dH ?_;rw [TL];refine fX (λa=>e ?_) (λa=>d ?_ _)
 all_goals first | omega | (have a:=of_decide_eq_true a;omega) | (have a:=of_decide_eq_false a;omega) | (exact absurd a (by simp))
theorem PM (b:r.g8≠0/\ok=false->R (.int .i64 1) u) (h:r.g8≠0/\(c=r.Client/\r.hy<=p\/c=r.eO/\r.fv<=p)->R (.int .i64 1) u)
  (g:¬ (r.g8≠0/\ok=false)->¬ (r.g8≠0/\(c=r.Client/\r.hy<=p\/c=r.eO/\r.fv<=p))->∀ f,Q .normal (qE f) u) (f:ax) :
  W prog (sub (bp f127) [1,1,1,1,1,0,0,1,1,1,1,1,1]) (xd ⟨b1,0,none⟩ p c ok f) Q u:=by
 rw [Sx];refine lh (P:=prog) (fn:=f127) (R:=R) dH ?_;rw [T8];refine ⟨_,au.cell rfl,dw (λd=>?_) (λd=>?_)⟩
 ·refine eU ?_;refine lh (P:=prog) (fn:=f127) (R:=R) dH ?_;rw [FZ];refine ev (λa=>b ⟨d,a⟩) (λa=>?_)
  exact uK dH <| E6 au dH h (g (λe=>by rw [a] at e;cases e.2)) _
 ·refine eU ?_;refine lh (P:=prog) (fn:=f127) (R:=R) dH ?_;rw [FZ];refine cV rfl ?_;exact uK dH <| E6 au dH h (g (λe=>e.1 d)) _
theorem PL (d:R (.int .i64 (if r.eO=r.Client/\r.fv≠r.hy then 1 else if r.eO≠r.Client/\(r.fv<2\/60<r.fv\/Int.tmod r.fv 2≠0) then 2 else sV r ok p c)) u)
  (q:R (.int .i64 0) u->∀ a,Q .normal (qE a) u) (a:ax) :
  W prog (sub (bp f127) [1,1,1,1,1,0,0,1,1]) (Ae ⟨b1,0,none⟩ p c ok a) Q u:=by
 have i:∀ a,R (.int .i64 (sV r ok p c)) u->W prog (sub (bp f127) [1,1,1,1,1,0,0,1,1,1,1,1,1]) (xd ⟨b1,0,none⟩ p c ok a) Q u:=λa h=>by
  unfold sV at h;refine PM au dH (λe=>?_) (λe=>?_) (λn o=>q ?_) a
  ·rw [if_pos e] at h;exact h
  ·by_cases f:r.g8≠0/\ok=false
   ·rw [if_pos f] at h;exact h
   ·rw [if_neg f,if_pos e] at h;exact h
  ·rw [if_neg n,if_neg o] at h;exact h
 rw [Sv];refine lh (P:=prog) (fn:=f127) (R:=R) dH ?_;rw [Tt];have k:∀ a,¬ (r.eO=r.Client/\r.fv≠r.hy)->W prog (sub (bp f127) [1,1,1,1,1,0,0,1,1,1,1]) (Af ⟨b1,0,none⟩ p c ok a) Q u:=λa s=>by
  rw [if_neg s] at d;rw [Sw];refine lh (P:=prog) (fn:=f127) (R:=R) dH ?_;rw [T2];have l:∀ (b:Bool) a,(b=true↔r.eO≠r.Client/\(r.fv<2\/60<r.fv\/Int.tmod r.fv 2≠0))->W prog (sub (bp f127) [1,1,1,1,1,0,0,1,1,1,1,1]) (sf ⟨b1,0,none⟩ p c ok b a) Q u:=λb a g=>by
   refine lh (P:=prog) (fn:=f127) (R:=R) dH ?_;rw [T7];refine fX (λe=>?_) (λe=>uK dH <| i _ ?_)
   ·rw [if_pos (g.1 e)] at d;exact d
   ·rw [if_neg (λf=>by rw [g.2 f] at e;cases e)] at d;exact d
  repeat' first
   |refine ⟨_,au.cell rfl,?_⟩
   |refine dY (λ_=>?_) (λ_=>?_)
   |refine dw (λ_=>?_) (λ_=>?_)
   |refine a8 (λ_=>?_) (λ_=>?_)
  all_goals
   refine eU (l _ _ ?_)
  all_goals first | (simp;omega) | (simp only [bne_iff_ne];omega) | (constructor<;>intro _<;>first | rfl | omega)
 have j:∀ (b:Bool) a,(b=true↔r.eO=r.Client/\r.fv≠r.hy)->W prog (sub (bp f127) [1,1,1,1,1,0,0,1,1,1]) (xc ⟨b1,0,none⟩ p c ok b a) Q u:=λb a g=>by refine lh (P:=prog) (fn:=f127) (R:=R) dH ?_;rw [T1];refine fX (λe=>?_) (λe=>uK dH <| k _ (λf=>by rw [g.2 f] at e;cases e));rw [if_pos (g.1 e)] at d;exact d
 repeat' first
  |refine ⟨_,au.cell rfl,?_⟩
  |refine dY (λ_=>?_) (λ_=>?_)
  |refine dw (λ_=>?_) (λ_=>?_)
  |refine a8 (λ_=>?_) (λ_=>?_)
 all_goals
  refine eU (j _ _ ?_)
 all_goals first | (simp;omega) | (simp only [bne_iff_ne];omega) | (constructor<;>intro _<;>first | rfl | omega)
theorem E7 {b:Bool} (f:b=true↔r.gw<98\/256<r.gw) (a:R (.int .i64 (if r.gw<98\/256<r.gw then 18 else if r.eO=r.Client/\r.fv≠r.hy then 1 else if r.eO≠r.Client/\(r.fv<2\/60<r.fv\/Int.tmod r.fv 2≠0) then 2 else sV r ok p c)) u)
  (h:R (.int .i64 0) u->∀ d,Q .normal (qE d) u) (d:ax) :
  W prog (sub (bp f127) [1,1,1,1,1,0,0,1]) (xb ⟨b1,0,none⟩ p c ok b d) Q u:=by
 refine lh (P:=prog) (fn:=f127) (R:=R) dH ?_;rw [Ts];refine fX (λe=>?_) (λe=>uK dH <| PL au dH ?_ h _)
 ·rw [if_pos (f.1 e)] at a;exact a
 ·rw [if_neg (λg=>by rw [f.2 g] at e;cases e)] at a;exact a
end
abbrev m1 (w:ak) (k:Int):cB:=λx w'=>x=.int .i64 k/\ai w w'
theorem JN (h:ri w r j):a9 127 [r.val] w (m1 w j.valid):=by
 refine bc Tryz.func127 ?_;rw [Vp];rintro b1 w1 l o;obtain ⟨au,f⟩:=bl l o;have au:av w1 b1 [.int .i64 r.Client,.int .i64 r.hy,.int .i64 r.gw,.int .i64 r.View.Number,.slice r.View.ed r.View.ei r.View.eA,.int .i64 r.eO,.int .i64 r.fv,.int .u64 r.g8] 41:=au;clear o l;obtain ⟨s,t,u,⟨I,g⟩,y,A,B,hu⟩:=h;have d:j.valid=if f7 r.hy r.Client≠0 then f7 r.hy r.Client else if r.eO<0\/6<=r.eO then 1 else if j.v.valid 5≠0 then j.v.valid 5 else if r.gw<98\/256<r.gw then 18 else if r.eO=r.Client/\r.fv≠r.hy then 1 else if r.eO≠r.Client/\(r.fv<2\/60<r.fv\/Int.tmod r.fv 2≠0) then 2 else sV r (mK r.g8) (kE r.g8) (pu r.g8):=by unfold b3.valid b3.tail sV;rw [s,t,u,y,A,B];cases J:mK j.prev<;>by_cases F:j.prev=0<;>simp [F]
 rw [d];clear d s t u y A B;refine ⟨_,au.cell (i:=1) rfl,_,au.cell (i:=0) rfl,?_⟩;refine aC (vR w1 r.hy r.Client) ?_;rintro x G ⟨rfl,rfl⟩;refine ⟨_,_,rfl,dw (λhe=>⟨by rw [if_pos he],f⟩) (λhe=>?_)⟩
 rw [if_neg (λe=>e he),Su,R3];refine lh (λ_ _=>rfl) ?_;rw [Tp];generalize k:(if r.eO<0\/6<=r.eO then (1:Int) else _)=V;have q:∀ (b:Bool) a,(b=true↔r.eO<0\/6<=r.eO)->W prog (sub (bp f127) [1,1,0,1]) (xa ⟨b1,0,none⟩ b a) (aU (λenv z=>W prog (sub (bp f127) [1,1,1]) env (dD prog f127 (m1 w V)) z) (dD prog f127 (m1 w V))) G:=λb a C=>by
  refine lh (P:=prog) (fn:=f127) (R:=m1 w V) (λ_ _=>rfl) ?_;rw [Tq];refine fX (λe=>⟨by rw [<-k,if_pos (C.1 e)],f⟩) (λe=>?_)
  rw [if_neg (λD=>by rw [C.2 D] at e;cases e)] at k;refine eU ?_;refine lh (P:=prog) (fn:=f127) (R:=m1 w V) (λ_ _=>rfl) ?_;rw [Tr];refine c3.aR r.View ⟨bJ au rfl,?_⟩;refine aC (CO (g.new f) 5) ?_;rintro x H ⟨rfl,n⟩;have au:=ai.aj n au;have f:=f.new n;refine ⟨_,rfl,dw (λal=>⟨by rw [<-k,if_pos al],f⟩) (λal=>⟨_,au.cell (i:=7) rfl,?_⟩)⟩;rw [if_neg (λe=>e al)] at k;refine aC (Hw H hu) ?_;rintro x p ⟨rfl,rfl⟩;have fin:m1 w V (.int .i64 0) p->∀ a,W prog (sub (bp f127) [1,1,1,1,1,1]) (qE a) (bG prog f127 (m1 w V) (dD prog f127 (m1 w V))) p:=λh a=>by rw [Te];exact h
  have c:m1 w V (.int .i64 V) p:=⟨rfl,f⟩;refine ⟨_,_,_,rfl,_,au.cell (i:=2) rfl,a8 (λE=>?_) (λE=>⟨_,au.cell (i:=2) rfl,?_⟩)⟩
  ·refine E7 (R:=m1 w V) au ?_ ?_ ?_ ?_ _
   ·exact λ_ _=>rfl
   ·simp;omega
   ·rw [k];exact c
   ·exact λh a=>pD (eU (fin h a))
  ·refine E7 (R:=m1 w V) au ?_ ?_ ?_ ?_ _
   ·exact λ_ _=>rfl
   ·simp;omega
   ·rw [k];exact c
   ·exact λh a=>pD (eU (fin h a))
 refine ⟨_,au.cell (i:=5) rfl,a8 (λar=>eU (q _ _ ?_)) (λar=>⟨_,au.cell (i:=5) rfl,eU (q _ _ ?_)⟩)⟩
 ·simp;omega
 ·simp;omega
end
end Go.Proofs.YtmkljjbioomepaaGreat
