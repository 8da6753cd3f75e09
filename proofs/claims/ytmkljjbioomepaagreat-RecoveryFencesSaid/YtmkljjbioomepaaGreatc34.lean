import Derived.Test.YtmkljjbioomepaaGreatc33
import Derived.Test.YtmkljjbioomepaaGreatProg
import Derived.Test.YtmkljjbioomepaaGreatc03
set_option linter.all false
set_option maxHeartbeats 4000000
set_option maxRecDepth 100000
namespace Go.Proofs.YtmkljjbioomepaaGreat
open Go.Proofs.Tryz Go.br
variable {A:a5} {B:Nat} {G:List (List aL)} {L:bb} {aT:List bb} {S:cn} {j:b2} {lines:Int} {m:aZ} {bq:ak} {vs:List aP}
section
structure zi (R:Int×List aJ):Prop where
 c_:fr R.1 R.2 256=0
 pl:qi R.2
 u64:∀ x ∈ fc R.1 R.2,b8 x
theorem D0 (h:fJ L lines=true) (hu:∀ x ∈ L,b8 x):zi (cT L lines):=by obtain ⟨g,f,i⟩:=KQ h hu;obtain ⟨_,k,_⟩:=ji g;refine ⟨Am g,⟨f,i⟩,Dn (by unfold b8;omega) f.eA λp j=>?_⟩;obtain ⟨a,b,c,d,e⟩:=f.ok p j;exact ⟨by unfold b8;omega,e,i p j⟩
theorem C8 {lines:Int} {P:(Int×List aJ)->Prop}:∀ (aT:List bb) (b:(Int×List aJ)×Bool),(∀ L ∈ aT,f' L lines=true->P (fe L lines))->(b.2=true->P b.1)->(aT.foldl (mo lines) b).2=true->P (aT.foldl (mo lines) b).1
 | [],_,_,a=>a
 |L::aT,b,h,a=>by
  refine C8 aT _ (λc d=>h c (fD _ d)) ?_;unfold mo;split
  ·rename_i e;exact λ_=>h L e_ e.1
  ·exact a
theorem Be (h:f' L lines=true):fJ L lines=true/\fe L lines=cT L lines:=by refine ⟨?_,if_pos h⟩;unfold f' at h;exact (eY _ _▸h).1
theorem M6 (hu:∀ L ∈ aT,∀ x ∈ L,b8 x) (h:(eb lines aT).2=true):zi (eb lines aT).1:=by refine C8 (P:=zi) aT _ (λL c d=>?_) (λe=>by cases e) h;obtain ⟨a,b⟩:=Be d;rw [b];exact D0 a (hu L c)
def hB (j:b2) (m:aZ) (aT:List bb) (G:List (List aL)):(Int×Int)×cn:=
 if (eb j.lines aT).2=true then ((2,(eb j.lines aT).1.1),pP j m (eb j.lines aT).1.1 (eb j.lines aT).1.2 aT G)
 else if fJ (aT.getD 0 []) j.lines=true then ((3,(cT (aT.getD 0 []) j.lines).1),H1 j m (cT (aT.getD 0 []) j.lines).2 G)
 else ((1,0),⟨true,[],(0,0),G,none,false⟩)
section
variable {A:a5} {w0 u:ak} {aH tb:Nat} {r:dr} {m:aZ} {j:b2} {V:fZ} {T:gg} {G:List (List aL)}
def yq (A:a5) (w0 u:ak) (aH tb:Nat) (r:dr) (m:aZ) (j:b2) (V:fZ) (S:(Int×Int)×cn) (v:a4) (bq:ak):Prop:=
 v=.tuple #[.int .i64 S.1.1,.int .i64 S.1.2,.bool S.2.ok]/\eG A w0 u aH tb u.heap.size r m j V S.2 bq
theorem KV (N:df w0 u aH tb r m j V (0,0)) (VL:eO A w0 u tb T G) (I:fT T) (Y:kM w0 u aH tb V aT) (VN:aT.length=j.v.mem.length) :
  a_ 182 [ptr aH] u (yq A w0 u aH tb r m j V (hB j m aT G)):=by
 refine bc Tryz.func182 ?_;rw [ptr,Q_];have V7:=N.aj.lt;have V':=VL.aj.lt;have Wf:=N.cj.mem;have J:=N.bN.lines;obtain ⟨⟨VI,VY,VX,Wi,P⟩,V5⟩:=id Y;have hu:∀ L ∈ aT,∀ x ∈ L,b8 x:=λL VK=>by obtain ⟨i,V4⟩:=eF.1 VK;obtain ⟨s,VM⟩:∃ s,VI[i]?=some s:=⟨_,bF (by have:=ch V4;omega)⟩;exact (P i s L VM V4).u64
 refine aC (HM N Y (by omega)) ?_;rintro v w1 ⟨pa,pc,rfl,Vy,VD,VW⟩;have Wg:=Vy.size;have C:=M6 (lines:=j.lines) hu;have Vv:(eb j.lines aT).2=true->hB j m aT G=((2,(eb j.lines aT).1.1),pP j m (eb j.lines aT).1.1 (eb j.lines aT).1.2 aT G):=λh=>if_pos h
 have Vw:¬ (eb j.lines aT).2=true->hB j m aT G=if fJ (aT.getD 0 []) j.lines=true then ((3,(cT (aT.getD 0 []) j.lines).1),H1 j m (cT (aT.getD 0 []) j.lines).2 G) else ((1,0),⟨true,[],(0,0),G,none,false⟩):=λh=>if_neg h
 generalize eb j.lines aT=d at VD C Vv Vw;refine bX.aS ⟨d.1.1,pa,d.1.2.length,pc⟩ ⟨_,rfl,?_⟩;refine ea (vs:=bX.cells ⟨d.1.1,pa,d.1.2.length,pc⟩) rfl (bX.single _) λb1 Wa We VZ Vz=>?_
 have Q:=Vy.new Vz;refine fS (λVu=>?_) (λVu=>?_)
 ·rw [Vv Vu];have z:=C Vu;rintro Wl VF;have Z:ai Wa Wl:=by rw [VF];exact cD _
  clear VF;have l:=Q.new Z;have w:=ai.aj Z VZ;refine ⟨λy=>av y b1 (bX.cells ⟨d.1.1,pa,d.1.2.length,pc⟩) ek,w,d.1.1,λy B=>B.cell (i:=0) rfl,bX.aS ⟨d.1.1,pa,d.1.2.length,pc⟩ ⟨λy B=>bK B rfl,?_⟩⟩;refine aC (Ip (N.bx l) (VL.new l) I (Y.new l) VN (q:=⟨d.1.1,pa,d.1.2.length,pc⟩) (VD.new (Vz.new Z)) (λk z=>?_) z.c_ z.u64 z.pl) ?_
  ·have:=VW k z;constructor<;>omega
  rintro v Wq ⟨rfl,VB⟩;exact ⟨_,rfl,VB.az.aj w λe=>by rcases e with e | e<;>omega,rfl,VB.of l l.size⟩
 have Vu:¬ d.2=true:=by rw [Vu];simp
 rw [Vw Vu];rintro Wb VG;have VT:ai Wa Wb:=by rw [VG];exact cD _
 clear VG;have o:=Q.new VT;have H:=N.bx o;obtain ⟨s,VM⟩:∃ s,VI[0]?=some s:=⟨_,bF (by omega)⟩;obtain ⟨L,VK⟩:∃ L,aT[0]?=some L:=⟨_,bF (by omega)⟩;have X:=P 0 s L VM VK;have Wd:aT.getD 0 []=L:=by rw [dD,VK];rfl
 rw [Wd];have VU:=D0 (L:=L) (lines:=j.lines) (hu:=X.u64);refine ⟨λy=>ai Wb y,ao.refl _ _,_,_,_,λy B=>(ai.aj B H.aj).cell (i:=13) rfl,?_⟩;refine iR (cells:=mv) (sz:=1) (λ_=>rfl) (by decide) (VY.new o) VM rfl VX λb' Wp VQ=>⟨s.a,s.n,s.c,λy B=>by simpa using VQ y B 0 _ rfl,r.fF,λy B=>(ai.aj B H.aj).cell (i:=2) rfl,?_⟩
 rw [J];have fin:∀ {y:ak} {aA:Nat} {pb:al} {aY:Nat},ai u y->av y aA (bX.cells ⟨(cT L j.lines).1,pb,(cT L j.lines).2.length,aY⟩) ek->u.heap.size<=aA->i0 y pb (cT L j.lines).2.length (cT L j.lines).2->(∀ k,aK pb k->u.heap.size<=k)->
   (bif (fJ L j.lines) then (∀ F,F=y.drew->∃ VJ:aE,VJ F/\∃ Seq:Int,(∀ u,VJ u->u.cell? ⟨aA,0,none⟩=some (.int .i64 Seq))/\bX.ex λr1=>(∀ u,VJ u->b6 u ⟨aA,0,none⟩ 0 r1.cells)/\Calls prog 229 #[ptr aH,r1.val] F λe Vt=>∃ b:Bool,e=.returned (.bool b)/\VJ Vt/\yq A w0 u aH tb r m j V (if fJ L j.lines=true then ((3,(cT L j.lines).1),H1 j m (cT L j.lines).2 G) else ((1,0),⟨true,[],(0,0),G,none,false⟩)) (.tuple #[.int .i64 3,.int .i64 Seq,.bool b]) Vt)
    else yq A w0 u aH tb r m j V (if fJ L j.lines=true then ((3,(cT L j.lines).1),H1 j m (cT L j.lines).2 G) else ((1,0),⟨true,[],(0,0),G,none,false⟩)) (.tuple #[.int .i64 1,.int .i64 0,.bool true]) y):=by
  intro y aA pb aY M V0 Vx VV V6;refine fS (λhw=>?_) (λhw=>?_)
  ·rw [if_pos hw];have z:=VU hw;rintro F S;have D:ai y F:=by rw [S];exact cD _
   clear S;have p:=M.new D;have W:=ai.aj D V0;refine ⟨λy=>av y aA (bX.cells ⟨(cT L j.lines).1,pb,(cT L j.lines).2.length,aY⟩) ek,W,_,λy B=>B.cell (i:=0) rfl,bX.aS ⟨(cT L j.lines).1,pb,(cT L j.lines).2.length,aY⟩ ⟨λy B=>bK B rfl,?_⟩⟩;refine aC (NG (N.bx p) (VL.new p) I (q:=⟨(cT L j.lines).1,pb,(cT L j.lines).2.length,aY⟩) (VV.new D) z.pl.wr) ?_;rintro v Vt ⟨rfl,VB⟩;exact ⟨_,rfl,VB.az.aj W λe=>by rcases e with e | e<;>omega,rfl,VB.of p p.size⟩
  ·rw [if_neg (by rw [hw];simp)];have VO:=VL.new M;exact ⟨rfl,ao.b3 M,N.bx M,T,VO,I.dC,I.c5⟩
 have V_:=o.size;refine ⟨?_,?_⟩
 ·refine aC (vh j.lines (X.new H.new)) ?_;rintro v Wm ⟨pb,aY,rfl,K,VE,VC⟩;refine bX.aS ⟨(cT L j.lines).1,pb,(cT L j.lines).2.length,aY⟩ ⟨_,rfl,K,?_⟩;rintro aA Wn Vx VH;obtain ⟨Vs,VA⟩:=bl Vx VH;have Vs:av Wn aA iF.cells ek:=Vs;clear VH;have Wh:=K.size;refine ⟨K.new VA,dO (vs:=bX.cells ⟨(cT L j.lines).1,pb,(cT L j.lines).2.length,aY⟩) Vs rfl (bX.single _) λWo V1 VR=>?_⟩;have R:ai Wm Wo:=VA.trans VR λk VS e=>by omega
  exact fin ((o.new K).new R) V1 (by omega) (VE.new R) λk z=>by have:=VC k z;omega
 ·rintro Wc V2 VP U;obtain ⟨t,g⟩:=bl VP U;have t:av V2 Wc iF.cells ek:=t;clear U;have V8:=g.size;have V3:=t.lt;refine ⟨g,aC (vh j.lines (X.new (H.bx g).new)) ?_⟩;rintro v Wj ⟨pb,aY,rfl,f,Vr,E⟩;have V9:=f.size;refine bX.aS ⟨(cT L j.lines).1,pb,(cT L j.lines).2.length,aY⟩ ⟨_,rfl,g.new f,dO (vs:=bX.cells ⟨(cT L j.lines).1,pb,(cT L j.lines).2.length,aY⟩) (ai.aj f t) rfl (bX.single _) λWk w O=>?_⟩;exact fin ((o.new (g.new f)).trans O λk VS e=>by omega) w (by omega) (vj Vr O λk z e=>by have:=E k z;omega) λk z=>by have:=E k z;omega
end
end
section
noncomputable abbrev m':Func:=f129
def Gd (r:dr) (tb:Nat) (m:aZ) (tag:Int) (V:fZ) (o:dz):ax:=r.cells++(ptr tb::m.cells)++[.int .u64 tag,.slice V.fm V.jU V.lc,.int .u64 V.clock]++o.cells
structure tD (A:a5) (w0 u:ak) (aH tb B:Nat) (r:dr) (m:aZ) (tag:Int) (S:cn) (o:dz) (bq:ak):Prop where
 az:ao (λk=>k=tb\/k=aH) u bq
 aj:∃ V,av bq aH (Gd r tb m tag V o) n8
 fO:∃ h8:gg,eO A w0 bq tb h8 S.a7/\h8.dC=S.dC/\(match S.ask with
  |none=>h8.c5=0
  |some vs=>0<vs.length/\∃ w1,ai w0 w1/\B<=w1.heap.size/\bH w1 bq h8.aa h8.c5 h8.ac vs)
theorem eG.run {w0 u:ak} {aH tb:Nat} {r:dr} {V:fZ} (h:eG A w0 u aH tb B r m j V S bq):tD A w0 u aH tb B r m (gl j.inc j.a3) S (iz S.out) bq:=
 ⟨h.az,⟨V,h.eE.aj⟩,h.fO⟩
def j3 (j:b2) (m:aZ) (G:List (List aL)):List bb:=rv j (bL G (fs j m)).done
def mR (j:b2) (m:aZ) (G:List (List aL)):Int:=sK j (bL G (fs j m)).done
def qX (j:b2) (m:aZ) (aT:List bb) (cG:Int) (Z:(Int×Int)×cn):cn×dz:=
 if Z.2.ok=false then (Z.2,iz Z.2.out) else if (hA j m Z.2.a7).ok=false then (hA j m Z.2.a7,iz (hA j m Z.2.a7).out)
 else (hA j m Z.2.a7,⟨0,Z.1.1,Z.1.2,jA j.lines cG aT,0⟩)
def ss (j:b2) (m:aZ) (C:cn):cn×dz:=
 if C.ok=false then (C,iz C.out) else if (fw j m C.a7).ok=false then (fw j m C.a7,iz (fw j m C.a7).out)
 else qX j m (j3 j m C.a7) (mR j m C.a7) (hB j m (j3 j m C.a7) (fw j m C.a7).a7)
def h1 (j:b2) (m:aZ) (G:List (List aL)):cn×dz:=
 if (hq j G).ok=false then (hq j G,iz (hq j G).out) else ss j m (hW j m (hq j G).a7)
structure o' (S:cn):Prop where
 out:S.out=(0,0)
 ask:S.ask=none
 dC:S.dC=false
theorem xH (h:(bL G vs).ok=true):o' (bL G vs):=by obtain ⟨a,b,c⟩:=oj h;exact ⟨a,b,c⟩
theorem Iq (h:(hW j m G).ok=true):o' (hW j m G):=by
 unfold hW at h ⊢;split at h
 ·rename_i e;rw [e] at h;cases h
 rename_i e;rw [if_neg e];split at h
 ·cases h
 rename_i a;rw [if_neg a];exact ⟨rfl,rfl,rfl⟩
theorem JC (h:(fw j m G).ok=true):o' (fw j m G):=by
 unfold fw rH at h ⊢;split at h
 ·rename_i e;rw [e] at h;cases h
 rename_i e;rw [if_neg e];split at h
 ·rename_i a;rw [if_pos a];exact ⟨rfl,rfl,rfl⟩
 ·split at h
  ·rename_i b;rw [b] at h;cases h
  ·cases h
theorem HY (h:(hB j m aT G).2.ok=true):o' (hB j m aT G).2:=by
 unfold hB at h ⊢;split at h
 ·rename_i e;rw [if_pos e];simp only at h ⊢;unfold pP at h ⊢;split at h
  ·rename_i a;rw [a] at h;cases h
  rename_i a;rw [if_neg a];unfold pj at h ⊢;split at h
  ·rename_i b;rw [b] at h;cases h
  rename_i b;rw [if_neg b];split at h
  ·rename_i c;rw [if_pos c];exact xH h
  rename_i c;rw [if_neg c];unfold qE at h ⊢;split at h
  ·rename_i d;rw [d] at h;cases h
  rename_i d;rw [if_neg d];exact xH h
 rename_i e;rw [if_neg e];split at h
 ·rename_i a;rw [if_pos a];exact xH h
 ·rename_i a;rw [if_neg a];exact ⟨rfl,rfl,rfl⟩
theorem Ir (h:(hq j G).ok=true):o' (hq j G):=by
 unfold hq ti at h ⊢;split at h
 ·rename_i e;rw [e] at h;cases h
 rename_i e;rw [if_neg e];split at h
 ·cases h
 rename_i b;rw [if_neg b];unfold oH at h ⊢;split at h
 ·rename_i a;rw [a] at h;cases h
 rename_i a;rw [if_neg a];split at h
 ·cases h
 rename_i c;rw [if_neg c];exact ⟨rfl,rfl,rfl⟩
def yT (G:List (List aL)):Prop:=∀ ds ∈ G,∀ d ∈ ds,∀ x ∈ d.words,b8 x
theorem O7 {w:ak} {a:al} (h:hG A w a G):yT G:=by obtain ⟨rows,n,_,_,j⟩:=h;intro ds b d ar x l;obtain ⟨i,f⟩:=eF.1 b;obtain ⟨k,g⟩:=eF.1 ar;obtain ⟨r,c⟩:∃ r,rows[i]?=some r:=⟨_,bF (by have:=ch f;omega)⟩;obtain ⟨_,_,e,_⟩:=j i r ds c f;obtain ⟨v,an⟩:∃ v,r.raw[k]?=some v:=⟨_,bF (by have:=ch g;have:=e.1;omega)⟩;exact (e.2 k v d an g).wf x l
theorem Nn (h:yT G):∀ d ∈ (bL G vs).done,∀ x ∈ d.words,b8 x:=by
 intro d ar;have:d ∈ (batch G vs).done:=by
  unfold bL cb at ar;split at ar
  ·simp at ar
  split at ar
  ·simp at ar
  ·exact ar
 unfold batch at this;split at this
 ·simp at this
 cases G with
 |nil=>simp at this
 |cons ds G=>
  simp only at this;split at this
  ·exact h ds e_ d this
  ·simp at this
theorem M7 (h:yT G):b8 (mR j m G):=by
 unfold mR sK dx dZ;rw [dD];cases ar:(bL G (fs j m)).done[2 * j.v.mem.length]? with
 |none=>exact hd
 |some d=>
  have:=Nn h d (cg ar);cases hw:d.words with
  |nil=>simp [hw];exact hd
  |cons x l=>simp [hw];exact this x (by rw [hw];exact e_)
theorem M8 (h:(fw j m G).ok=true):(bL G (fs j m)).ok=true:=by
 unfold fw rH at h;split at h
 ·rename_i e;rw [e] at h;cases h
 ·rename_i e;simpa using e
theorem C9 (h:(bL G vs).ok=true):(bL G vs).done.length=vs.length:=by
 unfold bL cb at h ⊢;split at h
 ·cases h
 split at h
 ·cases h
 rename_i b e;rw [if_neg b,if_neg e];have a:(batch G vs).ok=true:=by simpa using b
 show (batch G vs).done.length=_;unfold batch at a ⊢;by_cases an:vs.length=0
 ·rw [if_pos an];exact an.symm
 rw [if_neg an] at a ⊢;cases G with
 |nil=>cases a
 |cons d f=>
  simp only at a ⊢;split at a
  ·rename_i c;rw [if_pos c];have:=xV c;simp only;omega
  ·cases a
theorem KW (h:(fw j m G).ok=true):(j3 j m G).length=j.v.mem.length/\∀ L ∈ j3 j m G,L.length=120:=by unfold j3 rv;refine ⟨by simp,λL d=>?_⟩;obtain ⟨i,b,rfl⟩:=cW.1 d;have b:=fE.1 b;have a:=M8 h;obtain ⟨bg,hm⟩:=Bd (m:=m) b;have hlen:=C9 a;obtain ⟨x,c⟩:∃ x,(bL G (fs j m)).done[2 * i+1]?=some x:=⟨_,bF (by have:=ch hm;omega)⟩;have:=DY a hm c;rw [dD,c];have e:(mD j bg (e4 j.dead) 120).v.iE=120:=rfl;show x.words.length=120;omega
section
variable {A:a5} {w0 u:ak} {aH tb:Nat} {r:dr} {m:aZ} {j:b2} {V:fZ} {T:gg} {G:List (List aL)}
theorem eG.uJ (h:eG A w0 u aH tb B r m j V S bq) (c:o' S):df w0 bq aH tb r m j V (0,0)/\∃ b,eO A w0 bq tb b S.a7/\fT b:=by have a:=h.eE;rw [c.out] at a;obtain ⟨b,f,d,e⟩:=h.fO;rw [c.ask] at e;rw [c.dC] at d;exact ⟨a,b,f,e,d⟩
theorem M9 (VH:df w0 u aH tb r m j ⟨none,0,0,0⟩ (0,0)) (VW:eO A w0 u tb T G) (VM:fT T) :
  a_ 129 [ptr aH] u λv bq=>v=.tuple #[]/\tD A w0 u aH tb u.heap.size r m (gl j.inc j.a3) (h1 j m G).1 (h1 j m G).2 bq:=by
 refine bc Tryz.func129 ?_;rw [ptr,RT];generalize VV:(λ(v:a4) (bq:ak)=>v=.tuple #[]/\tD A w0 u aH tb u.heap.size r m (gl j.inc j.a3) (h1 j m G).1 (h1 j m G).2 bq)=R;have stop:∀ {w:ak} (Vy:ax),R (.tuple #[]) w->Go.br.W prog (sub (bo m') [0,1]) (tS ⟨aH,0,none⟩ true Vy) (aV (λenv w=>Go.br.W prog (sub (bo m') [1]) env (dB prog m' R) w) (dB prog m' R)) w:=by intro w Vy h;refine g7 (fn:=m') (R:=R) (λ_ _=>rfl) ?_;rw [E9];exact eB rfl h
 have last:∀ {w:ak} {S:cn×dz},h1 j m G=S->tD A w0 u aH tb u.heap.size r m (gl j.inc j.a3) S.1 S.2 w->R (.tuple #[]) w:=by intro w S e h;rw [<-VV,e];exact ⟨rfl,h⟩
 refine aC (nY VH VW VM) ?_;rintro v bE ⟨rfl,q⟩;refine ⟨_,rfl,er (λVN=>stop _ (last (S:=(hq j G,iz (hq j G).out)) (if_pos VN) q.run)) (λVP=>?_)⟩
 have VB:h1 j m G=ss j m (hW j m (hq j G).a7):=if_neg (by rw [VP];simp);obtain ⟨VI,VY,O,X⟩:=q.uJ (Ir VP);refine aC (M5 VI O X) ?_;rintro v V2 ⟨rfl,J⟩;generalize VT:(hq j G).a7=p at J O VB;have f:=eG.seq q.az (ao.refl _ _) J q.az.size;refine ⟨_,rfl,er (λVN=>stop _ (last (S:=(hW j m p,iz (hW j m p).out)) (VB.trans (if_pos VN)) f.run)) (λVx=>?_)⟩
 obtain ⟨VJ,VZ,I,Y⟩:=J.uJ (Iq Vx);have VC:h1 j m G=if (fw j m (hW j m p).a7).ok=false then (fw j m (hW j m p).a7,iz (fw j m (hW j m p).a7).out) else qX j m (j3 j m (hW j m p).a7) (mR j m (hW j m p).a7) (hB j m (j3 j m (hW j m p).a7) (fw j m (hW j m p).a7).a7):=VB.trans (if_neg (by rw [Vx];simp));refine aC (ND VJ I Y) ?_;rintro v bu ⟨rfl,M,K,b⟩;generalize (hW j m p).a7=c at K b I VC;have g:=eG.seq f.az (ao.refl _ _) K f.az.size;refine ⟨_,rfl,?_⟩;cases d:(fw j m c).ok with
 |false=>exact stop _ (last (S:=(fw j m c,iz (fw j m c).out)) (VC.trans (if_pos d)) g.run)
 |true=>
  obtain ⟨VK,V0,VE,Vr⟩:=K.uJ (JC d);have N:h1 j m G=qX j m (j3 j m c) (mR j m c) (hB j m (j3 j m c) (fw j m c).a7):=VC.trans (if_neg (by rw [d];simp));obtain ⟨b,a⟩:=b d;have b:kM w0 bu aH tb M (j3 j m c):=b;have a:M.clock=mR j m c:=a;obtain ⟨Vv,B⟩:=KW d;have Vt:b8 (mR j m c):=M7 (O7 I.a7);refine g7 (fn:=m') (R:=R) (λ_ _=>rfl) ?_;rw [E9];refine cR rfl (eS (g7 (fn:=m') (R:=R) (λ_ _=>rfl) ?_));rw [QJ];generalize j3 j m c=aT at b N Vv B;generalize mR j m c=cG at a N Vt;refine aC (KV VK VE Vr b Vv) ?_;rintro v V3 ⟨rfl,s⟩;have H:(hB j m aT (fw j m c).a7).2.ok=true->o' (hB j m aT (fw j m c).a7).2:=HY;generalize hB j m aT (fw j m c).a7=Z at s N H;have l:=eG.seq g.az (ao.refl _ _) s g.az.size;have n:∀ {w:ak} {S:cn×dz} (Vy:ax) {Q:Exit->ax->aE},(∀ env w,Q .ret env w=dB prog m' R .ret env w)->h1 j m G=S->tD A w0 u aH tb u.heap.size r m (gl j.inc j.a3) S.1 S.2 w->∀ (x y:Int),(∀ env w,R (.tuple #[]) w->Q .normal env w)->Go.br.W prog (sub (bo m') [1,1,1]) (wz ⟨aH,0,none⟩ x y false Vy) (bG prog m' R Q) w:=by intro w S Vy Q dG e h x y VU;rw [E_];exact cR rfl (VU _ _ (last e h))
  refine ⟨_,_,_,rfl,fS (λVz=>?_) (λVz=>?_)⟩
  ·obtain ⟨VL,V1,VF,Vs⟩:=s.uJ (H Vz);have VD:h1 j m G=if (hA j m Z.2.a7).ok=false then (hA j m Z.2.a7,iz (hA j m Z.2.a7).out) else (hA j m Z.2.a7,⟨0,Z.1.1,Z.1.2,jA j.lines cG aT,0⟩):=N.trans (if_neg (by rw [Vz];simp));refine aC (Bw VL VF Vs) ?_;rintro v VQ ⟨rfl,t⟩;have z:(hA j m Z.2.a7).ok=true->o' (hA j m Z.2.a7):=xH;generalize hA j m Z.2.a7=E at t VD z;have F:=eG.seq l.az (ao.refl _ _) t l.az.size;refine ⟨_,rfl,?_⟩;cases ay:E.ok with
   |false=>exact n _ (λ_ _=>rfl) (S:=(E,iz E.out)) (VD.trans (if_pos ay)) F.run _ _ λ_ _ h=>h
   |true=>
    have VS:=VD.trans (if_neg (by rw [ay];simp));obtain ⟨U,VR,VG,C⟩:=t.uJ (z ay);rw [E_];refine eB rfl ?_;have Vu:ao (λk=>k=tb\/k=aH) bu VQ:=s.az.trans t.az λ_ _ e=>e
    refine aC (Jz U (b.az Vu λ_ e=>e) (by have:=VH.cj.mem;omega) B (by rw [a];exact Vt)) ?_;rintro v VX ⟨rfl,Vw⟩;have V:=U.bx Vw;refine ⟨_,rfl,f7 V.aj (cO 20) (dz.single ⟨0,Z.1.1,Z.1.2,_,0⟩),λVA L=>?_⟩;have VO:ao (λk=>k=aH) VX VA:=by rw [L];exact hT _ _ _ _ _
    have P:av VA aH (Gd r tb m (gl j.inc j.a3) M ⟨0,Z.1.1,Z.1.2,jA j.lines M.clock aT,0⟩) n8:=by rw [L];exact V.aj.ct (vs:=dz.cells ⟨0,Z.1.1,Z.1.2,_,0⟩) (o:=15) (i:=0)
    clear L;rw [a] at P;have D:ao (λk=>k=aH) VQ VA:=(ao.b3 Vw).trans VO λ_ _ e=>e
    show R (.tuple #[]) VA;refine last VS ⟨F.az.trans D λk _ e=>.inr e,⟨M,P⟩,VR,VG.az D λe=>VH.ne e.symm,by rw [C.dC,(z ay).dC],?_⟩;rw [(z ay).ask];exact C.c5
  ·exact n _ (λ_ _=>rfl) (S:=(Z.2,iz Z.2.out)) (N.trans (if_pos Vz)) l.run _ _ λ_ _ h=>h
end
end
section
open IntKind
variable (w:ak) (R:cA) {A:aU} {j:aq} {F G:Bool} {i k:Int}
def kA:Code->List Oper
 | .region _ ops _=>ops.toList
 | _=>[]
def FK (a:aU) (j:aq):aq:=ag j 0 1 (.pointer (some a)::ag j 1 119 [])
def wX (a:aU) (b:Bool) (j:aq):aq:=ag j 0 1 (.pointer (some a)::ag j 1 25 (ad b::ag j 26 93 []))
def FL (a:aU) (j:aq):aq:=ag j 0 1 (.pointer (some a)::ag j 1 119 [])
def wY (a:aU) (c d:Int) (s8 b:Bool) (j:aq):aq:=ag j 0 1 (.pointer (some a)::ag j 1 4 (ab c::ab d::ad s8::ag j 5 32 (ad b::ag j 37 79 [])))
def zT (a:aU) (b c:Int) (s8:Bool) (j:aq):aq:=ag j 0 1 (.pointer (some a)::ag j 1 4 (ab b::ab c::ad s8::ag j 5 112 []))
def wZ (a:aU) (c d:Int) (s8 b:Bool) (j:aq):aq:=ag j 0 1 (.pointer (some a)::ag j 1 4 (ab c::ab d::ad s8::ag j 5 41 (ad b::ag j 46 70 [])))
def zU (a:aU) (b c:Int) (s8:Bool) (j:aq):aq:=ag j 0 1 (.pointer (some a)::ag j 1 4 (ab b::ab c::ad s8::ag j 5 112 []))
def rX (a:aU) (c d:Int) (s8 b:Bool) (j:aq):aq:=ag j 0 1 (.pointer (some a)::ag j 1 4 (ab c::ab d::ad s8::ag j 5 54 (ad b::ag j 59 57 [])))
def wQ (a:aU) (b c:Int) (s8:Bool) (j:aq):aq:=ag j 0 1 (.pointer (some a)::ag j 1 4 (ab b::ab c::ad s8::ag j 5 112 []))
def zQ (a:aU) (c d:Int) (b:Bool) (j:aq):aq:=ag j 0 1 (.pointer (some a)::ag j 1 4 (ab c::ab d::ag j 5 77 (ad b::ag j 82 35 [])))
def zR (a:aU) (b c:Int) (j:aq):aq:=ag j 0 1 (.pointer (some a)::ag j 1 4 (ab b::ab c::ag j 5 113 []))
def qw (a:Bool) (j:aq):aq:=ag j 0 120 [ad a]
def nl (a:Bool) (j:aq):aq:=ag j 0 93 (ad a::ag j 93 27 [])
def qx  (j:aq):aq:=ag j 0 121 []
theorem Uy (f:dr):bf prog f127 [f.val] R w=(aR w f.cells.toArray 41 λe g=>bt g (af e 1) λa=>bt g (af e 0) λb=>hs 128 #[ab a,ab b] g λc d h=>cond (d != 0) (R (ab d) h) (W prog (sb f127 [1,1]) (FK (af e 0) (f.val::ab 0::ah c::ab d::bd 4 (.tuple #[ah c,ab d]::jp (af e 1)::ab a::jp (af e 0)::ab b::.tuple #[ah c,ab d]::ah c::ab d::ab d::ad ((d:Int) != 0)::bd 102 []))) (b0 f127 R) h)):=by kernel_rfl
theorem RU (env:aq) (w:ak) (Q:Exit->aq->aE):W prog (sub (bo f127) [1,1]) env Q w=W prog (sub (bo f127) [1,1,0]) env (aV (λenv w=>W prog (sub (bo f127) [1,1,1]) env Q w) Q) w:=by rw [show sub (bo f127) [1,1]=.seq (sub (bo f127) [1,1,0]) (sub (bo f127) [1,1,1]) by kernel_rfl];generalize sub (bo f127) [1,1,0]=a;generalize sub (bo f127) [1,1,1]=b;kernel_rfl
theorem Ry (env:aq) (w:ak) (Q:Exit->aq->aE):W prog (sub (bo f127) [1,1,0]) env Q w=W prog (sub (bo f127) [1,1,0,0]) env (aV (λenv w=>W prog (sub (bo f127) [1,1,0,1]) env Q w) Q) w:=by rw [show sub (bo f127) [1,1,0]=.seq (sub (bo f127) [1,1,0,0]) (sub (bo f127) [1,1,0,1]) by kernel_rfl];generalize sub (bo f127) [1,1,0,0]=a;generalize sub (bo f127) [1,1,0,1]=b;kernel_rfl
theorem SX (a:Exit->aq->aE):W prog (sb f127 [1,1,0,0]) (FK A j) (bG prog f127 R a) w=(bt w (bM A 5) λb=>cond (b<0) (a .normal (wX A true (ag j 0 19 (bI A 5::ab b::ad (b<0)::ad true::bd 3 (ag j 27 93 [])))) w) (bt w (bM A 5) λc=>a .normal (wX A (decide ((c:Int)>=6)) (ag j 0 19 (bI A 5::ab b::ad (b<0)::ad false::bI A 5::ab c::ad (c>=6)::ag j 27 93 []))) w)):=by kernel_rfl
theorem SY (a:Exit->aq->aE):W prog (sb f127 [1,1,0,1]) (wX A F j) (bG prog f127 R a) w=(cond F (R (ab 1) w) (a .normal (FL A (ag j 0 26 (ad F::ag j 26 93 []))) w)):=by kernel_rfl
theorem SZ (a:Exit->aq->aE):W prog (sb f127 [1,1,1]) (FL A j) (bG prog f127 R a) w=(lP w (bM A 3) λk=>cm 166 #[k.val,ab 5] w λb m=>cond (b != 0) (R (ab b) m) (dp m (bM A 7) λc=>Ab 177 #[ah c] m λd f g e=>bt e (bM A 2) λh=>cond (h<98) (W prog (sb f127 [1,1,1,1,1,0,0,1]) (wY A d f g true (ag j 0 4 (ab b::ag j 8 19 (bI A 3::k.val::ab b::ab b::ad ((b:Int) != 0)::aF j 32::.tuple #[ab d,ab f,ad g]::bI A 7::ah c::.tuple #[ab d,ab f,ad g]::ab d::ab f::ad g::bI A 2::ab h::ad (h<98)::ad true::bd 3 (ad true::ag j 49 71 []))))) (aO 0 (aV (λl w=>W prog (sb f127 [1,1,1,1,1,1]) l (bG prog f127 R a) w) (bG prog f127 R a))) e) (bt e (bM A 2) λi=>W prog (sb f127 [1,1,1,1,1,0,0,1]) (wY A d f g (decide ((i:Int)>256)) (ag j 0 4 (ab b::ag j 8 19 (bI A 3::k.val::ab b::ab b::ad ((b:Int) != 0)::aF j 32::.tuple #[ab d,ab f,ad g]::bI A 7::ah c::.tuple #[ab d,ab f,ad g]::ab d::ab f::ad g::bI A 2::ab h::ad (h<98)::ad false::bI A 2::ab i::ad (i>256)::ad (i>256)::ag j 49 71 [])))) (aO 0 (aV (λl w=>W prog (sb f127 [1,1,1,1,1,1]) l (bG prog f127 R a) w) (bG prog f127 R a))) e))):=by kernel_rfl
theorem S0 (a:Exit->aq->aE):W prog (sb f127 [1,1,1,1,1,0,0,1]) (wY A i k F G j) (bG prog f127 R a) w=(cond G (R (ab 18) w) (W prog (sb f127 [1,1,1,1,1,0,0,1,1]) (zT A i k F (ag j 0 37 (ad G::ag j 37 79 []))) (bG prog f127 R a) w)):=by kernel_rfl
theorem RV (env:aq) (w:ak) (Q:Exit->aq->aE):W prog (sub (bo f127) [1,1,1,1,1,0,0,1,1]) env Q w=W prog (sub (bo f127) [1,1,1,1,1,0,0,1,1,0]) env (aV (λenv w=>W prog (sub (bo f127) [1,1,1,1,1,0,0,1,1,1]) env Q w) Q) w:=by rw [show sub (bo f127) [1,1,1,1,1,0,0,1,1]=.seq (sub (bo f127) [1,1,1,1,1,0,0,1,1,0]) (sub (bo f127) [1,1,1,1,1,0,0,1,1,1]) by kernel_rfl];generalize sub (bo f127) [1,1,1,1,1,0,0,1,1,0]=a;generalize sub (bo f127) [1,1,1,1,1,0,0,1,1,1]=b;kernel_rfl
theorem S1 (a:Exit->aq->aE):W prog (sb f127 [1,1,1,1,1,0,0,1,1,0]) (zT A i k F j) (bG prog f127 R a) w=(bt w (bM A 5) λb=>bt w A λc=>cond (b == c) (bt w (bM A 6) λd=>bt w (bM A 1) λf=>a .normal (wZ A i k F ((d:Int) != f) (ag j 0 46 (bI A 5::ab b::jp A::ab c::ad ((b:Int) == c)::ad true::bI A 6::ab d::bI A 1::ab f::ad ((d:Int) != f)::ad ((d:Int) != f)::ag j 59 58 []))) w) (a .normal (wZ A i k F false (ag j 0 46 (bI A 5::ab b::jp A::ab c::ad ((b:Int) == c)::ad false::bd 5 (ad false::ag j 59 58 [])))) w)):=by kernel_rfl
theorem S2 (a:Exit->aq->aE):W prog (sb f127 [1,1,1,1,1,0,0,1,1,1]) (wZ A i k F G j) (bG prog f127 R a) w=(cond G (R (ab 1) w) (W prog (sb f127 [1,1,1,1,1,0,0,1,1,1,1]) (zU A i k F (ag j 0 46 (ad G::ag j 46 70 []))) (bG prog f127 R a) w)):=by kernel_rfl
theorem RW (env:aq) (w:ak) (Q:Exit->aq->aE):W prog (sub (bo f127) [1,1,1,1,1,0,0,1,1,1,1]) env Q w=W prog (sub (bo f127) [1,1,1,1,1,0,0,1,1,1,1,0]) env (aV (λenv w=>W prog (sub (bo f127) [1,1,1,1,1,0,0,1,1,1,1,1]) env Q w) Q) w:=by rw [show sub (bo f127) [1,1,1,1,1,0,0,1,1,1,1]=.seq (sub (bo f127) [1,1,1,1,1,0,0,1,1,1,1,0]) (sub (bo f127) [1,1,1,1,1,0,0,1,1,1,1,1]) by kernel_rfl];generalize sub (bo f127) [1,1,1,1,1,0,0,1,1,1,1,0]=a;generalize sub (bo f127) [1,1,1,1,1,0,0,1,1,1,1,1]=b;kernel_rfl
theorem S3 (a:Exit->aq->aE):W prog (sb f127 [1,1,1,1,1,0,0,1,1,1,1,0]) (zU A i k F j) (bG prog f127 R a) w=(bt w (bM A 5) λb=>bt w A λc=>cond (b != c) (bt w (bM A 6) λd=>cond (d<2) (a .normal (rX A i k F true (ag j 0 59 (bI A 5::ab b::jp A::ab c::ad ((b:Int) != c)::ad true::bI A 6::ab d::ad (d<2)::ad true::bd 3 (ad true::ad true::bd 4 (ad true::ad true::ag j 81 36 []))))) w) (bt w (bM A 6) λf=>cond (f>60) (a .normal (rX A i k F true (ag j 0 59 (bI A 5::ab b::jp A::ab c::ad ((b:Int) != c)::ad true::bI A 6::ab d::ad (d<2)::ad false::bI A 6::ab f::ad (f>60)::ad (f>60)::ad true::bd 4 (ad true::ad true::ag j 81 36 [])))) w) (bt w (bM A 6) λg=>a .normal (rX A i k F (((Int.tmod g 2):Int) != 0) (ag j 0 59 (bI A 5::ab b::jp A::ab c::ad ((b:Int) != c)::ad true::bI A 6::ab d::ad (d<2)::ad false::bI A 6::ab f::ad (f>60)::ad (f>60)::ad false::bI A 6::ab g::ab (Int.tmod g 2)::ad (((Int.tmod g 2):Int) != 0)::ad (((Int.tmod g 2):Int) != 0)::ad (((Int.tmod g 2):Int) != 0)::ag j 81 36 []))) w))) (a .normal (rX A i k F false (ag j 0 59 (bI A 5::ab b::jp A::ab c::ad ((b:Int) != c)::ad false::bd 14 (ad false::ag j 81 36 [])))) w)):=by kernel_rfl
theorem S4 (a:Exit->aq->aE):W prog (sb f127 [1,1,1,1,1,0,0,1,1,1,1,1]) (rX A i k F G j) (bG prog f127 R a) w=(cond G (R (ab 2) w) (W prog (sb f127 [1,1,1,1,1,0,0,1,1,1,1,1,1]) (wQ A i k F (ag j 0 59 (ad G::ag j 59 57 []))) (bG prog f127 R a) w)):=by kernel_rfl
theorem RX (env:aq) (w:ak) (Q:Exit->aq->aE):W prog (sub (bo f127) [1,1,1,1,1,0,0,1,1,1,1,1,1]) env Q w=W prog (sub (bo f127) [1,1,1,1,1,0,0,1,1,1,1,1,1,0]) env (aV (λenv w=>W prog (sub (bo f127) [1,1,1,1,1,0,0,1,1,1,1,1,1,1]) env Q w) Q) w:=by rw [show sub (bo f127) [1,1,1,1,1,0,0,1,1,1,1,1,1]=.seq (sub (bo f127) [1,1,1,1,1,0,0,1,1,1,1,1,1,0]) (sub (bo f127) [1,1,1,1,1,0,0,1,1,1,1,1,1,1]) by kernel_rfl];generalize sub (bo f127) [1,1,1,1,1,0,0,1,1,1,1,1,1,0]=a;generalize sub (bo f127) [1,1,1,1,1,0,0,1,1,1,1,1,1,1]=b;kernel_rfl
theorem S5 (a:Exit->aq->aE):W prog (sb f127 [1,1,1,1,1,0,0,1,1,1,1,1,1,0]) (wQ A i k F j) (bG prog f127 R a) w=(dp w (bM A 7) λb=>cond (b != 0) (a .normal (zQ A i k (!F) (ag j 0 5 (ad F::ag j 5 76 (bI A 7::ah b::ad ((b:Int) != 0)::ad true::ad F::ad (!F)::ad (!F)::ag j 89 28 [])))) w) (a .normal (zQ A i k false (ag j 0 5 (ad F::ag j 5 76 (bI A 7::ah b::ad ((b:Int) != 0)::ad false::bd 2 (ad false::ag j 89 28 []))))) w)):=by kernel_rfl
theorem Fy (a:Exit->aq->aE):W prog (sb f127 [1,1,1,1,1,0,0,1,1,1,1,1,1,1]) (zQ A i k F j) (bG prog f127 R a) w=(cond F (R (ab 1) w) (W prog (sb f127 [1,1,1,1,1,0,0,1,1,1,1,1,1,1,1]) (zR A i k (ag j 0 82 (ad F::ag j 82 35 []))) (bG prog f127 R a) w)):=by kernel_rfl
theorem Rz (env:aq) (w:ak) (Q:Exit->aq->aE):W prog (sub (bo f127) [1,1,1,1,1,0,0,1,1,1,1,1,1,1,1]) env Q w=W prog (sub (bo f127) [1,1,1,1,1,0,0,1,1,1,1,1,1,1,1,0]) env (aV (λenv w=>W prog (sub (bo f127) [1,1,1,1,1,0,0,1,1,1,1,1,1,1,1,1]) env Q w) Q) w:=by rw [show sub (bo f127) [1,1,1,1,1,0,0,1,1,1,1,1,1,1,1]=.seq (sub (bo f127) [1,1,1,1,1,0,0,1,1,1,1,1,1,1,1,0]) (sub (bo f127) [1,1,1,1,1,0,0,1,1,1,1,1,1,1,1,1]) by kernel_rfl];generalize sub (bo f127) [1,1,1,1,1,0,0,1,1,1,1,1,1,1,1,0]=a;generalize sub (bo f127) [1,1,1,1,1,0,0,1,1,1,1,1,1,1,1,1]=b;kernel_rfl
theorem Sk (e:Exit->aq->aE):W prog (sb f127 [1,1,1,1,1,0,0,1,1,1,1,1,1,1,1,0]) (zR A i k j) (bG prog f127 R e) w=(dp w (bM A 7) λb=>cond (b != 0) (bt w A λc=>cond (k == c) (bt w (bM A 1) λd=>cond (i>=d) (jE prog (kA (sb f127 [1,1,1,1,1,0,0,1,1,1,1,1,1,1,1,0])) ((kA (sb f127 [1,1,1,1,1,0,0,1,1,1,1,1,1,1,1,0])).drop 27) (qw true (aF j 0::jp A::ag j 1 4 (ab i::ab k::ag j 5 86 (bI A 7::ah b::ad ((b:Int) != 0)::ad true::ab k::jp A::ab c::ad ((k:Int) == c)::ad true::ab i::bI A 1::ab d::ad (i>=d)::ad (i>=d)::ad true::bd 10 [ad true])))) ((bG prog f127 R e) .normal) w) (bt w (bM A 5) λf=>cond (k == f) (bt w (bM A 6) λg=>jE prog (kA (sb f127 [1,1,1,1,1,0,0,1,1,1,1,1,1,1,1,0])) ((kA (sb f127 [1,1,1,1,1,0,0,1,1,1,1,1,1,1,1,0])).drop 27) (qw (decide ((i:Int)>=g)) (aF j 0::jp A::ag j 1 4 (ab i::ab k::ag j 5 86 [bI A 7,ah b,ad ((b:Int) != 0),ad true,ab k,jp A,ab c,ad ((k:Int) == c),ad true,ab i,bI A 1,ab d,ad (i>=d),ad (i>=d),ad false,ab k,bI A 5,ab f,ad ((k:Int) == f),ad true,ab i,bI A 6,ab g,ad (i>=g),ad (i>=g),ad (i>=g)]))) ((bG prog f127 R e) .normal) w) (jE prog (kA (sb f127 [1,1,1,1,1,0,0,1,1,1,1,1,1,1,1,0])) ((kA (sb f127 [1,1,1,1,1,0,0,1,1,1,1,1,1,1,1,0])).drop 27) (qw false (aF j 0::jp A::ag j 1 4 (ab i::ab k::ag j 5 86 (bI A 7::ah b::ad ((b:Int) != 0)::ad true::ab k::jp A::ab c::ad ((k:Int) == c)::ad true::ab i::bI A 1::ab d::ad (i>=d)::ad (i>=d)::ad false::ab k::bI A 5::ab f::ad ((k:Int) == f)::ad false::bd 4 [ad false,ad false])))) ((bG prog f127 R e) .normal) w))) (bt w (bM A 5) λh=>cond (k == h) (bt w (bM A 6) λa=>jE prog (kA (sb f127 [1,1,1,1,1,0,0,1,1,1,1,1,1,1,1,0])) ((kA (sb f127 [1,1,1,1,1,0,0,1,1,1,1,1,1,1,1,0])).drop 27) (qw (decide ((i:Int)>=a)) (aF j 0::jp A::ag j 1 4 (ab i::ab k::ag j 5 86 (bI A 7::ah b::ad ((b:Int) != 0)::ad true::ab k::jp A::ab c::ad ((k:Int) == c)::ad false::bd 4 [ad false,ad false,ab k,bI A 5,ab h,ad ((k:Int) == h),ad true,ab i,bI A 6,ab a,ad (i>=a),ad (i>=a),ad (i>=a)])))) ((bG prog f127 R e) .normal) w) (jE prog (kA (sb f127 [1,1,1,1,1,0,0,1,1,1,1,1,1,1,1,0])) ((kA (sb f127 [1,1,1,1,1,0,0,1,1,1,1,1,1,1,1,0])).drop 27) (qw false (aF j 0::jp A::ag j 1 4 (ab i::ab k::ag j 5 86 (bI A 7::ah b::ad ((b:Int) != 0)::ad true::ab k::jp A::ab c::ad ((k:Int) == c)::ad false::bd 4 (ad false::ad false::ab k::bI A 5::ab h::ad ((k:Int) == h)::ad false::bd 4 [ad false,ad false]))))) ((bG prog f127 R e) .normal) w))) (jE prog (kA (sb f127 [1,1,1,1,1,0,0,1,1,1,1,1,1,1,1,0])) ((kA (sb f127 [1,1,1,1,1,0,0,1,1,1,1,1,1,1,1,0])).drop 27) (qw false (aF j 0::jp A::ag j 1 4 (ab i::ab k::ag j 5 86 (bI A 7::ah b::ad ((b:Int) != 0)::ad false::bd 22 [])))) ((bG prog f127 R e) .normal) w)):=by kernel_rfl
theorem S' (a:Exit->aq->aE):jE prog (kA (sb f127 [1,1,1,1,1,0,0,1,1,1,1,1,1,1,1,0])) ((kA (sb f127 [1,1,1,1,1,0,0,1,1,1,1,1,1,1,1,0])).drop 27) (qw F j) ((bG prog f127 R a) .normal) w=(a .normal (nl F (ag j 0 93 (ag j 94 26 [ad F]))) w):=by kernel_rfl
theorem rg (a:Exit->aq->aE):W prog (sb f127 [1,1,1,1,1,0,0,1,1,1,1,1,1,1,1,1]) (nl F j) (bG prog f127 R a) w=(cond F (R (ab 1) w) (a .normal (qx  (ag j 0 93 (ad F::ag j 93 27 []))) w)):=by kernel_rfl
theorem Ta (a:Exit->aq->aE):W prog (sb f127 [1,1,1,1,1,1]) (qx  j) (bG prog f127 R a) w=(R (ab 0) w):=by kernel_rfl
end
end Go.Proofs.YtmkljjbioomepaaGreat
