import Derived.Test.YtmkljjbioomepaaGreata32
import Derived.Test.YtmkljjbioomepaaGreatProg
import Derived.Test.YtmkljjbioomepaaGreata03
import Derived.Test.YtmkljjbioomepaaGreata24
set_option linter.all false
set_option maxHeartbeats 4000000
set_option maxRecDepth 100000
namespace Go.Proofs.YtmkljjbioomepaaGreat
open Go.Proofs.Tryz Go.b8
variable {A:bB} {B:Nat} {G:List (List a_)} {L:bR} {bj:List bR} {P:Program} {Q:Exit->aH->aV} {R:dW} {S:dM} {c:Code} {env:aH} {fn:Func} {j:c8} {lines:Int} {m:bp} {r:fT} {b_ w:av} {vs:List bn}
section
structure Sj (R:Int×List a6):Prop where
 fg:jD R.1 R.2 256=0
 pl:De R.2
 u64:∀ x ∈ je R.1 R.2,dp x
theorem ZI (h:jY L lines=true) (hu:∀ x ∈ L,dp x):Sj (eS L lines):=by obtain ⟨af,al,aL⟩:=ako h hu;obtain ⟨_,aX,_⟩:=pM af;refine ⟨V2 af,⟨al,aL⟩,Y6 (by unfold dp;omega) al.hH λp ar=>?_⟩;obtain ⟨a,b,c,d,e⟩:=al.ok p ar;exact ⟨by unfold dp;omega,e,aL p ar⟩
theorem Zv {lines:Int} {P:(Int×List a6)->Prop}:∀ (bj:List bR) (b:(Int×List a6)×Bool),(∀ L ∈ bj,kK L lines=true->P (jf L lines))->(b.2=true->P b.1)->(bj.foldl (wB lines) b).2=true->P (bj.foldl (wB lines) b).1
 | [],_,_,ak=>ak
 |L::bj,b,h,ak=>by
  refine Zv bj _ (λzr bE=>h zr (jz _ bE)) ?_;unfold wB;split
  ·rename_i ab;exact λ_=>h L iA ab.1
  ·exact ak
theorem W4 (h:kK L lines=true):jY L lines=true/\jf L lines=eS L lines:=by refine ⟨?_,if_pos h⟩;unfold kK at h;exact (iz _ _▸h).1
theorem amA (hu:∀ L ∈ bj,∀ x ∈ L,dp x) (h:(g9 lines bj).2=true):Sj (g9 lines bj).1:=by refine Zv (P:=Sj) bj _ (λL bE ab=>?_) (λe=>by cases e) h;obtain ⟨af,al⟩:=W4 ab;rw [al];exact ZI af (hu L bE)
def m3 (j:c8) (m:bp) (bj:List bR) (G:List (List a_)):(Int×Int)×dM:=
 if (g9 j.lines bj).2=true then ((2,(g9 j.lines bj).1.1),CH j m (g9 j.lines bj).1.1 (g9 j.lines bj).1.2 bj G)
 else if jY (bj.getD 0 []) j.lines=true then ((3,(eS (bj.getD 0 []) j.lines).1),IU j m (eS (bj.getD 0 []) j.lines).2 G)
 else ((1,0),⟨true,[],(0,0),G,none,false⟩)
section
variable {A:bB} {w0 u:av} {a2 tb:Nat} {r:fT} {m:bp} {j:c8} {V:kv} {T:kb} {G:List (List a_)}
def RG (A:bB) (w0 u:av) (a2 tb:Nat) (r:fT) (m:bp) (j:c8) (V:kv) (S:(Int×Int)×dM) (v:bx) (b_:av):Prop:=
 v=.tuple #[.int .i64 S.1.1,.int .i64 S.1.2,.bool S.2.ok]/\hM A w0 u a2 tb u.heap.size r m j V S.2 b_
theorem ajY (ab:fy w0 u a2 tb r m j V (0,0)) (bq:h2 A w0 u tb T G) (c7:kl T) (pk:s4 w0 u a2 tb V bj) (DR:bj.length=j.v.mem.length) :
  bK 182 [ptr a2] u (RG A w0 u a2 tb r m j V (m3 j m bj G)):=by
 refine bO Tryz.func182 ?_;rw [ptr,avZ];have tv:=ab.an.lt;have yD:=bq.an.lt;have sh:=ab.du.mem;have D':=ab.cH.lines;obtain ⟨⟨ep,wg,pV,UT,yv⟩,pU⟩:=id pk;have hu:∀ L ∈ bj,∀ x ∈ L,dp x:=λL bE=>by obtain ⟨i,aD⟩:=hn.1 bE;obtain ⟨s,aX⟩:∃ s,ep[i]?=some s:=⟨_,cp (by have:=dy aD;omega)⟩;exact (yv i s L aX aD).u64
 refine aR (agV ab pk (by omega)) ?_;rintro v w1 ⟨pa,pc,rfl,a1,dH,iQ⟩;have fI:=a1.size;have DW:=amA (lines:=j.lines) hu;have abt:(g9 j.lines bj).2=true->m3 j m bj G=((2,(g9 j.lines bj).1.1),CH j m (g9 j.lines bj).1.1 (g9 j.lines bj).1.2 bj G):=λh=>if_pos h
 have abu:¬ (g9 j.lines bj).2=true->m3 j m bj G=if jY (bj.getD 0 []) j.lines=true then ((3,(eS (bj.getD 0 []) j.lines).1),IU j m (eS (bj.getD 0 []) j.lines).2 G) else ((1,0),⟨true,[],(0,0),G,none,false⟩):=λh=>if_neg h
 generalize g9 j.lines bj=uw at dH DW abt abu;refine c0.bd ⟨uw.1.1,pa,uw.1.2.length,pc⟩ ⟨_,rfl,?_⟩;refine g0 (vs:=c0.cells ⟨uw.1.1,pa,uw.1.2.length,pc⟩) rfl (c0.single _) λb1 aY bA bm bf=>?_
 have vZ:=a1.new bf;refine kk (λak=>?_) (λak=>?_)
 ·rw [abt ak];have J:=DW ak;rintro bZ eE;have bz:ai aY bZ:=by rw [eE];exact eh _
  clear eE;have pn:=vZ.new bz;have oQ:=ai.an bz bm;refine ⟨λy=>aF y b1 (c0.cells ⟨uw.1.1,pa,uw.1.2.length,pc⟩) ho,oQ,uw.1.1,λy az=>az.cell (i:=0) rfl,c0.bd ⟨uw.1.1,pa,uw.1.2.length,pc⟩ ⟨λy az=>cD az rfl,?_⟩⟩;refine aR (aiN (ab.ck pn) (bq.new pn) c7 (pk.new pn) DR (q:=⟨uw.1.1,pa,uw.1.2.length,pc⟩) (dH.new (bf.new bz)) (λk J=>?_) J.fg J.u64 J.pl) ?_
  ·have:=iQ k J;constructor<;>omega
  rintro v cK ⟨rfl,ar⟩;exact ⟨_,rfl,ar.aO.an oQ λe=>by rcases e with e | e<;>omega,rfl,ar.of pn pn.size⟩
 have ak:¬ uw.2=true:=by rw [ak];simp
 rw [abu ak];rintro dh kY;have cg:ai aY dh:=by rw [kY];exact eh _
 clear kY;have uR:=vZ.new cg;have oc:=ab.ck uR;obtain ⟨s,aX⟩:∃ s,ep[0]?=some s:=⟨_,cp (by omega)⟩;obtain ⟨L,bE⟩:∃ L,bj[0]?=some L:=⟨_,cp (by omega)⟩;have oM:=yv 0 s L aX bE;have Jr:bj.getD 0 []=L:=by rw [gd,bE];rfl
 rw [Jr];have b3:=ZI (L:=L) (lines:=j.lines) (hu:=oM.u64);refine ⟨λy=>ai dh y,ay.refl _ _,_,_,_,λy az=>(ai.an az oc.an).cell (i:=13) rfl,?_⟩;refine pw (cells:=wG) (sz:=1) (λ_=>rfl) (by decide) (wg.new uR) aX rfl pV λb' gk dG=>⟨s.a,s.n,s.c,λy az=>by simpa using dG y az 0 _ rfl,r.mB,λy az=>(ai.an az oc.an).cell (i:=2) rfl,?_⟩
 rw [D'];have fin:∀ {y:av} {aP:Nat} {pb:ax} {bo:Nat},ai u y->aF y aP (c0.cells ⟨(eS L j.lines).1,pb,(eS L j.lines).2.length,bo⟩) ho->u.heap.size<=aP->jd y pb (eS L j.lines).2.length (eS L j.lines).2->(∀ k,a7 pb k->u.heap.size<=k)->
   (bif (jY L j.lines) then (∀ hZ,hZ=y.drew->∃ hb:aV,hb hZ/\∃ Seq:Int,(∀ u,hb u->u.cell? ⟨aP,0,none⟩=some (.int .i64 Seq))/\c0.ex λr1=>(∀ u,hb u->df u ⟨aP,0,none⟩ 0 r1.cells)/\Calls prog 229 #[ptr a2,r1.val] hZ λe kq=>∃ b:Bool,e=.returned (.bool b)/\hb kq/\RG A w0 u a2 tb r m j V (if jY L j.lines=true then ((3,(eS L j.lines).1),IU j m (eS L j.lines).2 G) else ((1,0),⟨true,[],(0,0),G,none,false⟩)) (.tuple #[.int .i64 3,.int .i64 Seq,.bool b]) kq)
    else RG A w0 u a2 tb r m j V (if jY L j.lines=true then ((3,(eS L j.lines).1),IU j m (eS L j.lines).2 G) else ((1,0),⟨true,[],(0,0),G,none,false⟩)) (.tuple #[.int .i64 1,.int .i64 0,.bool true]) y):=by
  intro y aP pb bo kG bP cv El aD';refine kk (λhw=>?_) (λhw=>?_)
  ·rw [if_pos hw];have J:=b3 hw;rintro hZ yH;have lW:ai y hZ:=by rw [yH];exact eh _
   clear yH;have Kz:=kG.new lW;have tC:=ai.an lW bP;refine ⟨λy=>aF y aP (c0.cells ⟨(eS L j.lines).1,pb,(eS L j.lines).2.length,bo⟩) ho,tC,_,λy az=>az.cell (i:=0) rfl,c0.bd ⟨(eS L j.lines).1,pb,(eS L j.lines).2.length,bo⟩ ⟨λy az=>cD az rfl,?_⟩⟩;refine aR (anR (ab.ck Kz) (bq.new Kz) c7 (q:=⟨(eS L j.lines).1,pb,(eS L j.lines).2.length,bo⟩) (El.new lW) J.pl.wr) ?_;rintro v kq ⟨rfl,ar⟩;exact ⟨_,rfl,ar.aO.an tC λe=>by rcases e with e | e<;>omega,rfl,ar.of Kz Kz.size⟩
  ·rw [if_neg (by rw [hw];simp)];have q4:=bq.new kG;exact ⟨rfl,ay.db kG,ab.ck kG,T,q4,c7.gb,c7.fi⟩
 have adl:=uR.size;refine ⟨?_,?_⟩
 ·refine aR (MJ j.lines (oM.new oc.new)) ?_;rintro v cR ⟨pb,bo,rfl,dg,asL,asH⟩;refine c0.bd ⟨(eS L j.lines).1,pb,(eS L j.lines).2.length,bo⟩ ⟨_,rfl,dg,?_⟩;rintro aP e6 cv jn;obtain ⟨gN,eT⟩:=b4 cv jn;have gN:aF e6 aP o1.cells ho:=gN;clear jn;have adm:=dg.size;refine ⟨dg.new eT,gL (vs:=c0.cells ⟨(eS L j.lines).1,pb,(eS L j.lines).2.length,bo⟩) gN rfl (c0.single _) λhD kI fK=>?_⟩;have acN:ai cR hD:=eT.trans fK λk aK e=>by omega
  exact fin ((uR.new dg).new acN) kI (by omega) (asL.new acN) λk J=>by have:=asH k J;omega
 ·rintro bT mx ej tA;obtain ⟨gM,ja⟩:=b4 ej tA;have gM:aF mx bT o1.cells ho:=gM;clear tA;have UQ:=ja.size;have zW:=gM.lt;refine ⟨ja,aR (MJ j.lines (oM.new (oc.ck ja).new)) ?_⟩;rintro v nu ⟨pb,bo,rfl,OS,asJ,ac2⟩;have atl:=OS.size;refine c0.bd ⟨(eS L j.lines).1,pb,(eS L j.lines).2.length,bo⟩ ⟨_,rfl,ja.new OS,gL (vs:=c0.cells ⟨(eS L j.lines).1,pb,(eS L j.lines).2.length,bo⟩) (ai.an OS gM) rfl (c0.single _) λrH oQ z4=>?_⟩;exact fin ((uR.new (ja.new OS)).trans z4 λk aK e=>by omega) oQ (by omega) (Mz asJ z4 λk J e=>by have:=ac2 k J;omega) λk J=>by have:=ac2 k J;omega
end
end
section
noncomputable abbrev ya:Func:=f129
def afo (r:fT) (tb:Nat) (m:bp) (tag:Int) (V:kv) (o:f7):aH:=r.cells++(ptr tb::m.cells)++[.int .u64 tag,.slice V.jw V.rn V.lc,.int .u64 V.clock]++o.cells
structure I1 (A:bB) (w0 u:av) (a2 tb B:Nat) (r:fT) (m:bp) (tag:Int) (S:dM) (o:f7) (b_:av):Prop where
 aO:ay (λk=>k=tb\/k=a2) u b_
 an:∃ V,aF b_ a2 (afo r tb m tag V o) zD
 j9:∃ er:kb,h2 A w0 b_ tb er S.bD/\er.gb=S.gb/\(match S.ask with
  |none=>er.fi=0
  |some vs=>0<vs.length/\∃ w1,ai w0 w1/\B<=w1.heap.size/\cy w1 b_ er.aa er.fi er.ac vs)
theorem hM.run {w0 u:av} {a2 tb:Nat} {V:kv} (h:hM A w0 u a2 tb B r m j V S b_):I1 A w0 u a2 tb B r m (k4 j.inc j.bw) S (oW S.out) b_:=
 ⟨h.aO,⟨V,h.hK.an⟩,h.j9⟩
def rE (j:c8) (m:bp) (G:List (List a_)):List bR:=FI j (cE G (jE j m)).done
def xP (j:c8) (m:bp) (G:List (List a_)):Int:=H8 j (cE G (jE j m)).done
def E1 (j:c8) (m:bp) (bj:List bR) (et:Int) (Z:(Int×Int)×dM):dM×f7:=
 if Z.2.ok=false then (Z.2,oW Z.2.out) else if (m2 j m Z.2.bD).ok=false then (m2 j m Z.2.bD,oW (m2 j m Z.2.bD).out)
 else (m2 j m Z.2.bD,⟨0,Z.1.1,Z.1.2,qt j.lines et bj,0⟩)
def HJ (j:c8) (m:bp) (C:dM):dM×f7:=
 if C.ok=false then (C,oW C.out) else if (jJ j m C.bD).ok=false then (jJ j m C.bD,oW (jJ j m C.bD).out)
 else E1 j m (rE j m C.bD) (xP j m C.bD) (m3 j m (rE j m C.bD) (jJ j m C.bD).bD)
def n0 (j:c8) (m:bp) (G:List (List a_)):dM×f7:=
 if (mN j G).ok=false then (mN j G,oW (mN j G).out) else HJ j m (nS j m (mN j G).bD)
structure Bo (S:dM):Prop where
 out:S.out=(0,0)
 ask:S.ask=none
 gb:S.gb=false
theorem QD (h:(cE G vs).ok=true):Bo (cE G vs):=by obtain ⟨af,al,aL⟩:=Ap h;exact ⟨af,al,aL⟩
theorem aiO (h:(nS j m G).ok=true):Bo (nS j m G):=by
 unfold nS at h ⊢;split at h
 ·rename_i e;rw [e] at h;cases h
 rename_i e;rw [if_neg e];split at h
 ·cases h
 rename_i bg;rw [if_neg bg];exact ⟨rfl,rfl,rfl⟩
theorem ajN (h:(jJ j m G).ok=true):Bo (jJ j m G):=by
 unfold jJ F9 at h ⊢;split at h
 ·rename_i e;rw [e] at h;cases h
 rename_i e;rw [if_neg e];split at h
 ·rename_i bg;rw [if_pos bg];exact ⟨rfl,rfl,rfl⟩
 ·split at h
  ·rename_i dF;rw [dF] at h;cases h
  ·cases h
theorem ahQ (h:(m3 j m bj G).2.ok=true):Bo (m3 j m bj G).2:=by
 unfold m3 at h ⊢;split at h
 ·rename_i e;rw [if_pos e];simp only at h ⊢;unfold CH at h ⊢;split at h
  ·rename_i bg;rw [bg] at h;cases h
  rename_i bg;rw [if_neg bg];unfold Bx at h ⊢;split at h
  ·rename_i dF;rw [dF] at h;cases h
  rename_i dF;rw [if_neg dF];split at h
  ·rename_i kB;rw [if_pos kB];exact QD h
  rename_i kB;rw [if_neg kB];unfold DL at h ⊢;split at h
  ·rename_i l_;rw [l_] at h;cases h
  rename_i l_;rw [if_neg l_];exact QD h
 rename_i e;rw [if_neg e];split at h
 ·rename_i bg;rw [if_pos bg];exact QD h
 ·rename_i bg;rw [if_neg bg];exact ⟨rfl,rfl,rfl⟩
theorem aiP (h:(mN j G).ok=true):Bo (mN j G):=by
 unfold mN Iz at h ⊢;split at h
 ·rename_i e;rw [e] at h;cases h
 rename_i e;rw [if_neg e];split at h
 ·cases h
 rename_i bg;rw [if_neg bg];unfold wd at h ⊢;split at h
 ·rename_i dF;rw [dF] at h;cases h
 rename_i dF;rw [if_neg dF];split at h
 ·cases h
 rename_i kB;rw [if_neg kB];exact ⟨rfl,rfl,rfl⟩
def RR (G:List (List a_)):Prop:=∀ ds ∈ G,∀ d ∈ ds,∀ x ∈ d.words,dp x
theorem an_ {a:ax} (h:nh A w a G):RR G:=by obtain ⟨rows,au,_,_,aA⟩:=h;intro ds dX d aC x ao;obtain ⟨i,aD⟩:=hn.1 dX;obtain ⟨k,J⟩:=hn.1 aC;obtain ⟨r,UL⟩:∃ r,rows[i]?=some r:=⟨_,cp (by have:=dy aD;omega)⟩;obtain ⟨_,_,fs,_⟩:=aA i r ds UL aD;obtain ⟨v,aw⟩:∃ v,r.raw[k]?=some v:=⟨_,cp (by have:=dy J;have:=fs.1;omega)⟩;exact (fs.2 k v d aw J).wf x ao
theorem anW (h:RR G):∀ d ∈ (cE G vs).done,∀ x ∈ d.words,dp x:=by
 intro d aC;have:d ∈ (batch G vs).done:=by
  unfold cE dz at aC;split at aC
  ·simp at aC
  split at aC
  ·simp at aC
  ·exact aC
 unfold batch at this;split at this
 ·simp at this
 cases G with
 |nil=>simp at this
 |cons ds G=>
  simp only at this;split at this
  ·exact h ds iA d this
  ·simp at this
theorem al0 (h:RR G):dp (xP j m G):=by
 unfold xP H8 fY gZ;rw [gd];cases aC:(cE G (jE j m)).done[2 * j.v.mem.length]? with
 |none=>exact mw
 |some d=>
  have:=anW h d (dn aC);cases hw:d.words with
  |nil=>simp [hw];exact mw
  |cons x l=>simp [hw];exact this x (by rw [hw];exact iA)
theorem al1 (h:(jJ j m G).ok=true):(cE G (jE j m)).ok=true:=by
 unfold jJ F9 at h;split at h
 ·rename_i e;rw [e] at h;cases h
 ·rename_i e;simpa using e
theorem In (h:(cE G vs).ok=true):(cE G vs).done.length=vs.length:=by
 unfold cE dz at h ⊢;split at h
 ·cases h
 split at h
 ·cases h
 rename_i af al;rw [if_neg af,if_neg al];have b3:(batch G vs).ok=true:=by simpa using af
 show (batch G vs).done.length=_;unfold batch at b3 ⊢;by_cases aw:vs.length=0
 ·rw [if_pos aw];exact aw.symm
 rw [if_neg aw] at b3 ⊢;cases G with
 |nil=>cases b3
 |cons d gg=>
  simp only at b3 ⊢;split at b3
  ·rename_i aJ;rw [if_pos aJ];have:=QO aJ;simp only;omega
  ·cases b3
theorem aj2 (h:(jJ j m G).ok=true):(rE j m G).length=j.v.mem.length/\∀ L ∈ rE j m G,L.length=120:=by unfold rE FI;refine ⟨by simp,λL bE=>?_⟩;obtain ⟨i,aD,rfl⟩:=eQ.1 bE;have aD:=jT.1 aD;have b3:=al1 h;obtain ⟨bV,hm⟩:=W3 (m:=m) aD;have hlen:=In b3;obtain ⟨x,ao⟩:∃ x,(cE G (jE j m)).done[2 * i+1]?=some x:=⟨_,cp (by have:=dy hm;omega)⟩;have:=ZG b3 hm ao;rw [gd,ao];have e:(wW j bV (iR j.dead) 120).v.ow=120:=rfl;show x.words.length=120;omega
section
variable {A:bB} {w0 u:av} {a2 tb:Nat} {r:fT} {m:bp} {j:c8} {V:kv} {T:kb} {G:List (List a_)}
theorem hM.LI (h:hM A w0 u a2 tb B r m j V S b_) (aX:Bo S):fy w0 b_ a2 tb r m j V (0,0)/\∃ er,h2 A w0 b_ tb er S.bD/\kl er:=by have ju:=h.hK;rw [aX.out] at ju;obtain ⟨er,af,al,aL⟩:=h.j9;rw [aX.ask] at aL;rw [aX.gb] at al;exact ⟨ju,er,af,aL,al⟩
theorem al2 (ab:fy w0 u a2 tb r m j ⟨none,0,0,0⟩ (0,0)) (bq:h2 A w0 u tb T G) (c7:kl T) :
  bK 129 [ptr a2] u λv b_=>v=.tuple #[]/\I1 A w0 u a2 tb u.heap.size r m (k4 j.inc j.bw) (n0 j m G).1 (n0 j m G).2 b_:=by
 refine bO Tryz.func129 ?_;rw [ptr,awR];generalize cC:(λ(v:bx) (b_:av)=>v=.tuple #[]/\I1 A w0 u a2 tb u.heap.size r m (k4 j.inc j.bw) (n0 j m G).1 (n0 j m G).2 b_)=R;have stop:∀ {w:av} (aT:aH),R (.tuple #[]) w->Go.b8.W prog (sub (b6 ya) [0,1]) (Jk ⟨a2,0,none⟩ true aT) (bk (λenv w=>Go.b8.W prog (sub (b6 ya) [1]) env (ga prog ya R) w) (ga prog ya R)) w:=by intro w aT h;refine mb (fn:=ya) (R:=R) (λ_ _=>rfl) ?_;rw [ad4];exact g8 rfl h
 have last:∀ {w:av} {S:dM×f7},n0 j m G=S->I1 A w0 u a2 tb u.heap.size r m (k4 j.inc j.bw) S.1 S.2 w->R (.tuple #[]) w:=by intro w S e h;rw [<-cC,e];exact ⟨rfl,h⟩
 refine aR (IG ab bq c7) ?_;rintro v ct ⟨rfl,kh⟩;refine ⟨_,rfl,ht (λaJ=>stop _ (last (S:=(mN j G,oW (mN j G).out)) (if_pos aJ) kh.run)) (λaZ=>?_)⟩
 have bY:n0 j m G=HJ j m (nS j m (mN j G).bD):=if_neg (by rw [aZ];simp);obtain ⟨eC,aoN,oJ,JV⟩:=kh.LI (aiP aZ);refine aR (amz eC oJ JV) ?_;rintro v cS ⟨rfl,mI⟩;generalize aDr:(mN j G).bD=oA at mI oJ bY;have B5:=hM.seq kh.aO (ay.refl _ _) mI kh.aO.size;refine ⟨_,rfl,ht (λaJ=>stop _ (last (S:=(nS j m oA,oW (nS j m oA).out)) (bY.trans (if_pos aJ)) B5.run)) (λB8=>?_)⟩
 obtain ⟨gC,aoO,r8,zY⟩:=mI.LI (aiO B8);have bg:n0 j m G=if (jJ j m (nS j m oA).bD).ok=false then (jJ j m (nS j m oA).bD,oW (jJ j m (nS j m oA).bD).out) else E1 j m (rE j m (nS j m oA).bD) (xP j m (nS j m oA).bD) (m3 j m (rE j m (nS j m oA).bD) (jJ j m (nS j m oA).bD).bD):=bY.trans (if_neg (by rw [B8];simp));refine aR (anP gC r8 zY) ?_;rintro v b2 ⟨rfl,iK,g',pk⟩;generalize (nS j m oA).bD=iY at g' pk r8 bg;have Ac:=hM.seq B5.aO (ay.refl _ _) g' B5.aO.size;refine ⟨_,rfl,?_⟩;cases kg:(jJ j m iY).ok with
 |false=>exact stop _ (last (S:=(jJ j m iY,oW (jJ j m iY).out)) (bg.trans (if_pos kg)) Ac.run)
 |true=>
  obtain ⟨q7,aaE,Gz,zZ⟩:=g'.LI (ajN kg);have dF:n0 j m G=E1 j m (rE j m iY) (xP j m iY) (m3 j m (rE j m iY) (jJ j m iY).bD):=bg.trans (if_neg (by rw [kg];simp));obtain ⟨pk,BK⟩:=pk kg;have pk:s4 w0 b2 a2 tb iK (rE j m iY):=pk;have BK:iK.clock=xP j m iY:=BK;obtain ⟨Kl,Od⟩:=aj2 kg;have pO:dp (xP j m iY):=al0 (an_ r8.bD);refine mb (fn:=ya) (R:=R) (λ_ _=>rfl) ?_;rw [ad4];refine eX rfl (ia (mb (fn:=ya) (R:=R) (λ_ _=>rfl) ?_));rw [avv];generalize rE j m iY=bj at pk dF Kl Od;generalize xP j m iY=et at BK dF pO;refine aR (ajY q7 Gz zZ pk Kl) ?_;rintro v c6 ⟨rfl,oO⟩;have kW:(m3 j m bj (jJ j m iY).bD).2.ok=true->Bo (m3 j m bj (jJ j m iY).bD).2:=ahQ;generalize m3 j m bj (jJ j m iY).bD=Z at oO dF kW;have Uz:=hM.seq Ac.aO (ay.refl _ _) oO Ac.aO.size;have afK:∀ {w:av} {S:dM×f7} (aT:aH) {Q:Exit->aH->aV},(∀ env w,Q .ret env w=ga prog ya R .ret env w)->n0 j m G=S->I1 A w0 u a2 tb u.heap.size r m (k4 j.inc j.bw) S.1 S.2 w->∀ (x y:Int),(∀ env w,R (.tuple #[]) w->Q .normal env w)->Go.b8.W prog (sub (b6 ya) [1,1,1]) (NW ⟨a2,0,none⟩ x y false aT) (cw prog ya R Q) w:=by intro w S aT Q gi e h x y kE;rw [it];exact eX rfl (kE _ _ (last e h))
  refine ⟨_,_,_,rfl,kk (λaq=>?_) (λaq=>?_)⟩
  ·obtain ⟨m4,aC1,aqb,BJ⟩:=oO.LI (kW aq);have kB:n0 j m G=if (m2 j m Z.2.bD).ok=false then (m2 j m Z.2.bD,oW (m2 j m Z.2.bD).out) else (m2 j m Z.2.bD,⟨0,Z.1.1,Z.1.2,qt j.lines et bj,0⟩):=dF.trans (if_neg (by rw [aq];simp));refine aR (XC m4 aqb BJ) ?_;rintro v ff ⟨rfl,iw⟩;have eO:(m2 j m Z.2.bD).ok=true->Bo (m2 j m Z.2.bD):=QD;generalize m2 j m Z.2.bD=E at iw kB eO;have ac0:=hM.seq Uz.aO (ay.refl _ _) iw Uz.aO.size;refine ⟨_,rfl,?_⟩;cases aI:E.ok with
   |false=>exact afK _ (λ_ _=>rfl) (S:=(E,oW E.out)) (kB.trans (if_pos aI)) ac0.run _ _ λ_ _ h=>h
   |true=>
    have l_:=kB.trans (if_neg (by rw [aI];simp));obtain ⟨mH,aoP,aqc,yk⟩:=iw.LI (eO aI);rw [it];refine g8 rfl ?_;have arM:ay (λk=>k=tb\/k=a2) b2 ff:=oO.aO.trans iw.aO λ_ _ e=>e
    refine aR (ajK mH (pk.aO arM λ_ e=>e) (by have:=ab.du.mem;omega) Od (by rw [BK];exact pO)) ?_;rintro v jP ⟨rfl,cg⟩;have oc:=mH.ck cg;refine ⟨_,rfl,kA oc.an (eJ 20) (f7.single ⟨0,Z.1.1,Z.1.2,_,0⟩),λmU ri=>?_⟩;have eD:ay (λk=>k=a2) jP mU:=by rw [ri];exact nI _ _ _ _ _
    have jt:aF mU a2 (afo r tb m (k4 j.inc j.bw) iK ⟨0,Z.1.1,Z.1.2,qt j.lines iK.clock bj,0⟩) zD:=by rw [ri];exact oc.an.dO (vs:=f7.cells ⟨0,Z.1.1,Z.1.2,_,0⟩) (o:=15) (i:=0)
    clear ri;rw [BK] at jt;have z5:ay (λk=>k=a2) ff mU:=(ay.db cg).trans eD λ_ _ e=>e
    show R (.tuple #[]) mU;refine last l_ ⟨ac0.aO.trans z5 λk _ e=>.inr e,⟨iK,jt⟩,aoP,aqc.aO z5 λe=>ab.ne e.symm,by rw [yk.gb,(eO aI).gb],?_⟩;rw [(eO aI).ask];exact yk.fi
  ·exact afK _ (λ_ _=>rfl) (S:=(Z.2,oW Z.2.out)) (dF.trans (if_pos aq)) Uz.run _ _ λ_ _ h=>h
end
end
section
open IntKind
variable (w:av) (R:dW) {A:bh} {j:aB} {F G:Bool} {i k:Int}
def sK:Code->List Oper
 | .region _ ops _=>ops.toList
 | _=>[]
def aeH (a:bh) (j:aB):aB:=ag j 0 1 (.pointer (some a)::ag j 1 119 [])
def PI (a:bh) (b:Bool) (j:aB):aB:=ag j 0 1 (.pointer (some a)::ag j 1 25 (U b::ag j 26 93 []))
def aeI (a:bh) (j:aB):aB:=ag j 0 1 (.pointer (some a)::ag j 1 119 [])
def PJ (a:bh) (fM dE:Int) (s8 b:Bool) (j:aB):aB:=ag j 0 1 (.pointer (some a)::ag j 1 4 (I fM::I dE::U s8::ag j 5 32 (U b::ag j 37 79 [])))
def Vo (a:bh) (fM dE:Int) (s8:Bool) (j:aB):aB:=ag j 0 1 (.pointer (some a)::ag j 1 4 (I fM::I dE::U s8::ag j 5 112 []))
def Pz (a:bh) (fM dE:Int) (s8 b:Bool) (j:aB):aB:=ag j 0 1 (.pointer (some a)::ag j 1 4 (I fM::I dE::U s8::ag j 5 41 (U b::ag j 46 70 [])))
def Vp (a:bh) (fM dE:Int) (s8:Bool) (j:aB):aB:=ag j 0 1 (.pointer (some a)::ag j 1 4 (I fM::I dE::U s8::ag j 5 112 []))
def Gs (a:bh) (fM dE:Int) (s8 b:Bool) (j:aB):aB:=ag j 0 1 (.pointer (some a)::ag j 1 4 (I fM::I dE::U s8::ag j 5 54 (U b::ag j 59 57 [])))
def PA (a:bh) (fM dE:Int) (s8:Bool) (j:aB):aB:=ag j 0 1 (.pointer (some a)::ag j 1 4 (I fM::I dE::U s8::ag j 5 112 []))
def Vl (a:bh) (fM dE:Int) (b:Bool) (j:aB):aB:=ag j 0 1 (.pointer (some a)::ag j 1 4 (I fM::I dE::ag j 5 77 (U b::ag j 82 35 [])))
def Vm (a:bh) (fM dE:Int) (j:aB):aB:=ag j 0 1 (.pointer (some a)::ag j 1 4 (I fM::I dE::ag j 5 113 []))
def DB (a:Bool) (j:aB):aB:=ag j 0 120 [U a]
def aeC (a:Bool) (j:aB):aB:=ag j 0 93 (U a::ag j 93 27 [])
def DC  (j:aB):aB:=ag j 0 121 []
theorem aCn (f:fT):bS prog f127 [f.val] R w=(bb w f.cells.toArray 41 λe g=>cQ g (ae e 1) λa=>cQ g (ae e 0) λb=>mR 128 #[I a,I b] g λc d h=>cond (d != 0) (R (I d) h) (W prog (sb f127 [1,1]) (aeH (ae e 0) (f.val::I 0::ah c::I d::bQ 4 (.tuple #[ah c,I d]::jp (ae e 1)::I a::jp (ae e 0)::I b::.tuple #[ah c,I d]::ah c::I d::I d::U ((d:Int) != 0)::bQ 102 []))) (c3 f127 R) h)):=by kernel_rfl
theorem awS (env:aB) (w:av) (Q:Exit->aB->aV):W prog (sub (b6 f127) [1,1]) env Q w=W prog (sub (b6 f127) [1,1,0]) env (bk (λenv w=>W prog (sub (b6 f127) [1,1,1]) env Q w) Q) w:=by rw [show sub (b6 f127) [1,1]=.seq (sub (b6 f127) [1,1,0]) (sub (b6 f127) [1,1,1]) by kernel_rfl];generalize sub (b6 f127) [1,1,0]=a;generalize sub (b6 f127) [1,1,1]=b;kernel_rfl
theorem aws (env:aB) (w:av) (Q:Exit->aB->aV):W prog (sub (b6 f127) [1,1,0]) env Q w=W prog (sub (b6 f127) [1,1,0,0]) env (bk (λenv w=>W prog (sub (b6 f127) [1,1,0,1]) env Q w) Q) w:=by rw [show sub (b6 f127) [1,1,0]=.seq (sub (b6 f127) [1,1,0,0]) (sub (b6 f127) [1,1,0,1]) by kernel_rfl];generalize sub (b6 f127) [1,1,0,0]=a;generalize sub (b6 f127) [1,1,0,1]=b;kernel_rfl
theorem axT (a:Exit->aB->aV):W prog (sb f127 [1,1,0,0]) (aeH A j) (cw prog f127 R a) w=(cQ w (cX A 5) λb=>cond (b<0) (a .normal (PI A true (ag j 0 19 (cz A 5::I b::U (b<0)::U true::bQ 3 (ag j 27 93 [])))) w) (cQ w (cX A 5) λc=>a .normal (PI A (decide ((c:Int)>=6)) (ag j 0 19 (cz A 5::I b::U (b<0)::U false::cz A 5::I c::U (c>=6)::ag j 27 93 []))) w)):=by kernel_rfl
theorem axU (a:Exit->aB->aV):W prog (sb f127 [1,1,0,1]) (PI A F j) (cw prog f127 R a) w=(cond F (R (I 1) w) (a .normal (aeI A (ag j 0 26 (U F::ag j 26 93 []))) w)):=by kernel_rfl
theorem axV (a:Exit->aB->aV):W prog (sb f127 [1,1,1]) (aeI A j) (cw prog f127 R a) w=(u' w (cX A 3) λk=>dI 166 #[k.val,I 5] w λb m=>cond (b != 0) (R (I b) m) (fR m (cX A 7) λc=>VN 177 #[ah c] m λd f g e=>cQ e (cX A 2) λh=>cond (h<98) (W prog (sb f127 [1,1,1,1,1,0,0,1]) (PJ A d f g true (ag j 0 4 (I b::ag j 8 19 (cz A 3::k.val::I b::I b::U ((b:Int) != 0)::aW j 32::.tuple #[I d,I f,U g]::cz A 7::ah c::.tuple #[I d,I f,U g]::I d::I f::U g::cz A 2::I h::U (h<98)::U true::bQ 3 (U true::ag j 49 71 []))))) (a8 0 (bk (λl w=>W prog (sb f127 [1,1,1,1,1,1]) l (cw prog f127 R a) w) (cw prog f127 R a))) e) (cQ e (cX A 2) λi=>W prog (sb f127 [1,1,1,1,1,0,0,1]) (PJ A d f g (decide ((i:Int)>256)) (ag j 0 4 (I b::ag j 8 19 (cz A 3::k.val::I b::I b::U ((b:Int) != 0)::aW j 32::.tuple #[I d,I f,U g]::cz A 7::ah c::.tuple #[I d,I f,U g]::I d::I f::U g::cz A 2::I h::U (h<98)::U false::cz A 2::I i::U (i>256)::U (i>256)::ag j 49 71 [])))) (a8 0 (bk (λl w=>W prog (sb f127 [1,1,1,1,1,1]) l (cw prog f127 R a) w) (cw prog f127 R a))) e))):=by kernel_rfl
theorem axW (a:Exit->aB->aV):W prog (sb f127 [1,1,1,1,1,0,0,1]) (PJ A i k F G j) (cw prog f127 R a) w=(cond G (R (I 18) w) (W prog (sb f127 [1,1,1,1,1,0,0,1,1]) (Vo A i k F (ag j 0 37 (U G::ag j 37 79 []))) (cw prog f127 R a) w)):=by kernel_rfl
theorem awT (env:aB) (w:av) (Q:Exit->aB->aV):W prog (sub (b6 f127) [1,1,1,1,1,0,0,1,1]) env Q w=W prog (sub (b6 f127) [1,1,1,1,1,0,0,1,1,0]) env (bk (λenv w=>W prog (sub (b6 f127) [1,1,1,1,1,0,0,1,1,1]) env Q w) Q) w:=by rw [show sub (b6 f127) [1,1,1,1,1,0,0,1,1]=.seq (sub (b6 f127) [1,1,1,1,1,0,0,1,1,0]) (sub (b6 f127) [1,1,1,1,1,0,0,1,1,1]) by kernel_rfl];generalize sub (b6 f127) [1,1,1,1,1,0,0,1,1,0]=a;generalize sub (b6 f127) [1,1,1,1,1,0,0,1,1,1]=b;kernel_rfl
theorem axX (a:Exit->aB->aV):W prog (sb f127 [1,1,1,1,1,0,0,1,1,0]) (Vo A i k F j) (cw prog f127 R a) w=(cQ w (cX A 5) λb=>cQ w A λc=>cond (b == c) (cQ w (cX A 6) λd=>cQ w (cX A 1) λf=>a .normal (Pz A i k F ((d:Int) != f) (ag j 0 46 (cz A 5::I b::jp A::I c::U ((b:Int) == c)::U true::cz A 6::I d::cz A 1::I f::U ((d:Int) != f)::U ((d:Int) != f)::ag j 59 58 []))) w) (a .normal (Pz A i k F false (ag j 0 46 (cz A 5::I b::jp A::I c::U ((b:Int) == c)::U false::bQ 5 (U false::ag j 59 58 [])))) w)):=by kernel_rfl
theorem axY (a:Exit->aB->aV):W prog (sb f127 [1,1,1,1,1,0,0,1,1,1]) (Pz A i k F G j) (cw prog f127 R a) w=(cond G (R (I 1) w) (W prog (sb f127 [1,1,1,1,1,0,0,1,1,1,1]) (Vp A i k F (ag j 0 46 (U G::ag j 46 70 []))) (cw prog f127 R a) w)):=by kernel_rfl
theorem awU (env:aB) (w:av) (Q:Exit->aB->aV):W prog (sub (b6 f127) [1,1,1,1,1,0,0,1,1,1,1]) env Q w=W prog (sub (b6 f127) [1,1,1,1,1,0,0,1,1,1,1,0]) env (bk (λenv w=>W prog (sub (b6 f127) [1,1,1,1,1,0,0,1,1,1,1,1]) env Q w) Q) w:=by rw [show sub (b6 f127) [1,1,1,1,1,0,0,1,1,1,1]=.seq (sub (b6 f127) [1,1,1,1,1,0,0,1,1,1,1,0]) (sub (b6 f127) [1,1,1,1,1,0,0,1,1,1,1,1]) by kernel_rfl];generalize sub (b6 f127) [1,1,1,1,1,0,0,1,1,1,1,0]=a;generalize sub (b6 f127) [1,1,1,1,1,0,0,1,1,1,1,1]=b;kernel_rfl
theorem axZ (a:Exit->aB->aV):W prog (sb f127 [1,1,1,1,1,0,0,1,1,1,1,0]) (Vp A i k F j) (cw prog f127 R a) w=(cQ w (cX A 5) λb=>cQ w A λc=>cond (b != c) (cQ w (cX A 6) λd=>cond (d<2) (a .normal (Gs A i k F true (ag j 0 59 (cz A 5::I b::jp A::I c::U ((b:Int) != c)::U true::cz A 6::I d::U (d<2)::U true::bQ 3 (U true::U true::bQ 4 (U true::U true::ag j 81 36 []))))) w) (cQ w (cX A 6) λf=>cond (f>60) (a .normal (Gs A i k F true (ag j 0 59 (cz A 5::I b::jp A::I c::U ((b:Int) != c)::U true::cz A 6::I d::U (d<2)::U false::cz A 6::I f::U (f>60)::U (f>60)::U true::bQ 4 (U true::U true::ag j 81 36 [])))) w) (cQ w (cX A 6) λg=>a .normal (Gs A i k F (((Int.tmod g 2):Int) != 0) (ag j 0 59 (cz A 5::I b::jp A::I c::U ((b:Int) != c)::U true::cz A 6::I d::U (d<2)::U false::cz A 6::I f::U (f>60)::U (f>60)::U false::cz A 6::I g::I (Int.tmod g 2)::U (((Int.tmod g 2):Int) != 0)::U (((Int.tmod g 2):Int) != 0)::U (((Int.tmod g 2):Int) != 0)::ag j 81 36 []))) w))) (a .normal (Gs A i k F false (ag j 0 59 (cz A 5::I b::jp A::I c::U ((b:Int) != c)::U false::bQ 14 (U false::ag j 81 36 [])))) w)):=by kernel_rfl
theorem ax0 (a:Exit->aB->aV):W prog (sb f127 [1,1,1,1,1,0,0,1,1,1,1,1]) (Gs A i k F G j) (cw prog f127 R a) w=(cond G (R (I 2) w) (W prog (sb f127 [1,1,1,1,1,0,0,1,1,1,1,1,1]) (PA A i k F (ag j 0 59 (U G::ag j 59 57 []))) (cw prog f127 R a) w)):=by kernel_rfl
theorem awV (env:aB) (w:av) (Q:Exit->aB->aV):W prog (sub (b6 f127) [1,1,1,1,1,0,0,1,1,1,1,1,1]) env Q w=W prog (sub (b6 f127) [1,1,1,1,1,0,0,1,1,1,1,1,1,0]) env (bk (λenv w=>W prog (sub (b6 f127) [1,1,1,1,1,0,0,1,1,1,1,1,1,1]) env Q w) Q) w:=by rw [show sub (b6 f127) [1,1,1,1,1,0,0,1,1,1,1,1,1]=.seq (sub (b6 f127) [1,1,1,1,1,0,0,1,1,1,1,1,1,0]) (sub (b6 f127) [1,1,1,1,1,0,0,1,1,1,1,1,1,1]) by kernel_rfl];generalize sub (b6 f127) [1,1,1,1,1,0,0,1,1,1,1,1,1,0]=a;generalize sub (b6 f127) [1,1,1,1,1,0,0,1,1,1,1,1,1,1]=b;kernel_rfl
theorem ax1 (a:Exit->aB->aV):W prog (sb f127 [1,1,1,1,1,0,0,1,1,1,1,1,1,0]) (PA A i k F j) (cw prog f127 R a) w=(fR w (cX A 7) λb=>cond (b != 0) (a .normal (Vl A i k (!F) (ag j 0 5 (U F::ag j 5 76 (cz A 7::ah b::U ((b:Int) != 0)::U true::U F::U (!F)::U (!F)::ag j 89 28 [])))) w) (a .normal (Vl A i k false (ag j 0 5 (U F::ag j 5 76 (cz A 7::ah b::U ((b:Int) != 0)::U false::bQ 2 (U false::ag j 89 28 []))))) w)):=by kernel_rfl
theorem aeu (a:Exit->aB->aV):W prog (sb f127 [1,1,1,1,1,0,0,1,1,1,1,1,1,1]) (Vl A i k F j) (cw prog f127 R a) w=(cond F (R (I 1) w) (W prog (sb f127 [1,1,1,1,1,0,0,1,1,1,1,1,1,1,1]) (Vm A i k (ag j 0 82 (U F::ag j 82 35 []))) (cw prog f127 R a) w)):=by kernel_rfl
theorem awt (env:aB) (w:av) (Q:Exit->aB->aV):W prog (sub (b6 f127) [1,1,1,1,1,0,0,1,1,1,1,1,1,1,1]) env Q w=W prog (sub (b6 f127) [1,1,1,1,1,0,0,1,1,1,1,1,1,1,1,0]) env (bk (λenv w=>W prog (sub (b6 f127) [1,1,1,1,1,0,0,1,1,1,1,1,1,1,1,1]) env Q w) Q) w:=by rw [show sub (b6 f127) [1,1,1,1,1,0,0,1,1,1,1,1,1,1,1]=.seq (sub (b6 f127) [1,1,1,1,1,0,0,1,1,1,1,1,1,1,1,0]) (sub (b6 f127) [1,1,1,1,1,0,0,1,1,1,1,1,1,1,1,1]) by kernel_rfl];generalize sub (b6 f127) [1,1,1,1,1,0,0,1,1,1,1,1,1,1,1,0]=a;generalize sub (b6 f127) [1,1,1,1,1,0,0,1,1,1,1,1,1,1,1,1]=b;kernel_rfl
theorem ax9 (e:Exit->aB->aV):W prog (sb f127 [1,1,1,1,1,0,0,1,1,1,1,1,1,1,1,0]) (Vm A i k j) (cw prog f127 R e) w=(fR w (cX A 7) λb=>cond (b != 0) (cQ w A λc=>cond (k == c) (cQ w (cX A 1) λd=>cond (i>=d) (qF prog (sK (sb f127 [1,1,1,1,1,0,0,1,1,1,1,1,1,1,1,0])) ((sK (sb f127 [1,1,1,1,1,0,0,1,1,1,1,1,1,1,1,0])).drop 27) (DB true (aW j 0::jp A::ag j 1 4 (I i::I k::ag j 5 86 (cz A 7::ah b::U ((b:Int) != 0)::U true::I k::jp A::I c::U ((k:Int) == c)::U true::I i::cz A 1::I d::U (i>=d)::U (i>=d)::U true::bQ 10 [U true])))) ((cw prog f127 R e) .normal) w) (cQ w (cX A 5) λf=>cond (k == f) (cQ w (cX A 6) λg=>qF prog (sK (sb f127 [1,1,1,1,1,0,0,1,1,1,1,1,1,1,1,0])) ((sK (sb f127 [1,1,1,1,1,0,0,1,1,1,1,1,1,1,1,0])).drop 27) (DB (decide ((i:Int)>=g)) (aW j 0::jp A::ag j 1 4 (I i::I k::ag j 5 86 [cz A 7,ah b,U ((b:Int) != 0),U true,I k,jp A,I c,U ((k:Int) == c),U true,I i,cz A 1,I d,U (i>=d),U (i>=d),U false,I k,cz A 5,I f,U ((k:Int) == f),U true,I i,cz A 6,I g,U (i>=g),U (i>=g),U (i>=g)]))) ((cw prog f127 R e) .normal) w) (qF prog (sK (sb f127 [1,1,1,1,1,0,0,1,1,1,1,1,1,1,1,0])) ((sK (sb f127 [1,1,1,1,1,0,0,1,1,1,1,1,1,1,1,0])).drop 27) (DB false (aW j 0::jp A::ag j 1 4 (I i::I k::ag j 5 86 (cz A 7::ah b::U ((b:Int) != 0)::U true::I k::jp A::I c::U ((k:Int) == c)::U true::I i::cz A 1::I d::U (i>=d)::U (i>=d)::U false::I k::cz A 5::I f::U ((k:Int) == f)::U false::bQ 4 [U false,U false])))) ((cw prog f127 R e) .normal) w))) (cQ w (cX A 5) λh=>cond (k == h) (cQ w (cX A 6) λa=>qF prog (sK (sb f127 [1,1,1,1,1,0,0,1,1,1,1,1,1,1,1,0])) ((sK (sb f127 [1,1,1,1,1,0,0,1,1,1,1,1,1,1,1,0])).drop 27) (DB (decide ((i:Int)>=a)) (aW j 0::jp A::ag j 1 4 (I i::I k::ag j 5 86 (cz A 7::ah b::U ((b:Int) != 0)::U true::I k::jp A::I c::U ((k:Int) == c)::U false::bQ 4 [U false,U false,I k,cz A 5,I h,U ((k:Int) == h),U true,I i,cz A 6,I a,U (i>=a),U (i>=a),U (i>=a)])))) ((cw prog f127 R e) .normal) w) (qF prog (sK (sb f127 [1,1,1,1,1,0,0,1,1,1,1,1,1,1,1,0])) ((sK (sb f127 [1,1,1,1,1,0,0,1,1,1,1,1,1,1,1,0])).drop 27) (DB false (aW j 0::jp A::ag j 1 4 (I i::I k::ag j 5 86 (cz A 7::ah b::U ((b:Int) != 0)::U true::I k::jp A::I c::U ((k:Int) == c)::U false::bQ 4 (U false::U false::I k::cz A 5::I h::U ((k:Int) == h)::U false::bQ 4 [U false,U false]))))) ((cw prog f127 R e) .normal) w))) (qF prog (sK (sb f127 [1,1,1,1,1,0,0,1,1,1,1,1,1,1,1,0])) ((sK (sb f127 [1,1,1,1,1,0,0,1,1,1,1,1,1,1,1,0])).drop 27) (DB false (aW j 0::jp A::ag j 1 4 (I i::I k::ag j 5 86 (cz A 7::ah b::U ((b:Int) != 0)::U false::bQ 22 [])))) ((cw prog f127 R e) .normal) w)):=by kernel_rfl
theorem ax_ (a:Exit->aB->aV):qF prog (sK (sb f127 [1,1,1,1,1,0,0,1,1,1,1,1,1,1,1,0])) ((sK (sb f127 [1,1,1,1,1,0,0,1,1,1,1,1,1,1,1,0])).drop 27) (DB F j) ((cw prog f127 R a) .normal) w=(a .normal (aeC F (ag j 0 93 (ag j 94 26 [U F]))) w):=by kernel_rfl
theorem rt (a:Exit->aB->aV):W prog (sb f127 [1,1,1,1,1,0,0,1,1,1,1,1,1,1,1,1]) (aeC F j) (cw prog f127 R a) w=(cond F (R (I 1) w) (a .normal (DC  (ag j 0 93 (U F::ag j 93 27 []))) w)):=by kernel_rfl
theorem ax' (a:Exit->aB->aV):W prog (sb f127 [1,1,1,1,1,1]) (DC  j) (cw prog f127 R a) w=(R (I 0) w):=by kernel_rfl
end
section
def HR (r:fT) (ok:Bool) (p c:Int):Int:=if r.mV≠0/\ok=false then 1 else if r.mV≠0/\(c=r.Client/\r.n5<=p\/c=r.iq/\r.j'<=p) then 1 else 0
theorem tV (gH:∀ env w,Q .ret env w=ga P fn R .ret env w) (h:W P c env (cw P fn R Q) w):W P c env Q w:=(St gH).mp h
theorem Lo (gH:∀ env w,Q .ret env w=ga P fn R .ret env w) (h:W P c env Q w):W P c env (cw P fn R Q) w:=(St gH).mpr h
section
variable {R:dW} {u:av} {b1:Nat} {r:fT} {p c:Int} {ok:Bool} {Q:Exit->aH->aV}
 (aE:aF u b1 [.int .i64 r.Client,.int .i64 r.n5,.int .i64 r.mB,.int .i64 r.View.Number,.slice r.View.h1 r.View.h6 r.View.iJ,.int .i64 r.iq,.int .i64 r.j',.int .u64 r.mV] 41) (gi:∀ env w,Q .ret env w=ga prog f127 R .ret env w)
include aE gi
theorem aaI (af:r.mV≠0/\(c=r.Client/\r.n5<=p\/c=r.iq/\r.j'<=p)->R (.int .i64 1) u) (aN:¬ (r.mV≠0/\(c=r.Client/\r.n5<=p\/c=r.iq/\r.j'<=p))->∀ aT,Q .normal (DC aT) u) (aT:aH) :
  W prog (sub (b6 f127) [1,1,1,1,1,0,0,1,1,1,1,1,1,1,1]) (Vm ⟨b1,0,none⟩ p c aT) Q u:=by
 rw [awt];refine tV (P:=prog) (fn:=f127) (R:=R) gi ?_;rw [ax9];repeat' first
  |refine ⟨_,aE.cell rfl,?_⟩
  |refine gX (λ_=>?_) (λ_=>?_)
  |refine fX (λ_=>?_) (λ_=>?_)
  |refine bL (λ_=>?_) (λ_=>?_)
 all_goals
  try dsimp only
  rw [ax_];refine ia ?_;refine tV (P:=prog) (fn:=f127) (R:=R) gi ?_;rw [rt];refine kk (λak=>af ?_) (λak=>aN ?_ _)
 all_goals first | omega | (have ak:=of_decide_eq_true ak;omega) | (have ak:=of_decide_eq_false ak;omega) | (exact absurd ak (by simp))
theorem aoS (bA:r.mV≠0/\ok=false->R (.int .i64 1) u) (af:r.mV≠0/\(c=r.Client/\r.n5<=p\/c=r.iq/\r.j'<=p)->R (.int .i64 1) u)
  (aN:¬ (r.mV≠0/\ok=false)->¬ (r.mV≠0/\(c=r.Client/\r.n5<=p\/c=r.iq/\r.j'<=p))->∀ aT,Q .normal (DC aT) u) (aT:aH) :
  W prog (sub (b6 f127) [1,1,1,1,1,0,0,1,1,1,1,1,1]) (PA ⟨b1,0,none⟩ p c ok aT) Q u:=by
 rw [awV];refine tV (P:=prog) (fn:=f127) (R:=R) gi ?_;rw [ax1];refine ⟨_,aE.cell rfl,fX (λar=>?_) (λar=>?_)⟩
 ·refine ia ?_;refine tV (P:=prog) (fn:=f127) (R:=R) gi ?_;rw [aeu];refine ht (λak=>bA ⟨ar,ak⟩) (λak=>?_)
  exact Lo gi <| aaI aE gi af (aN (λe=>by rw [ak] at e;cases e.2)) _
 ·refine ia ?_;refine tV (P:=prog) (fn:=f127) (R:=R) gi ?_;rw [aeu];refine eX rfl ?_;exact Lo gi <| aaI aE gi af (aN (λe=>e.1 ar)) _
theorem aoR (cC:R (.int .i64 (if r.iq=r.Client/\r.j'≠r.n5 then 1 else if r.iq≠r.Client/\(r.j'<2\/60<r.j'\/Int.tmod r.j' 2≠0) then 2 else HR r ok p c)) u)
  (aN:R (.int .i64 0) u->∀ aT,Q .normal (DC aT) u) (aT:aH) :
  W prog (sub (b6 f127) [1,1,1,1,1,0,0,1,1]) (Vo ⟨b1,0,none⟩ p c ok aT) Q u:=by
 have aoT:∀ aT,R (.int .i64 (HR r ok p c)) u->W prog (sub (b6 f127) [1,1,1,1,1,0,0,1,1,1,1,1,1]) (PA ⟨b1,0,none⟩ p c ok aT) Q u:=λaT h=>by
  unfold HR at h;refine aoS aE gi (λe=>?_) (λe=>?_) (λbY bg=>aN ?_) aT
  ·rw [if_pos e] at h;exact h
  ·by_cases jj:r.mV≠0/\ok=false
   ·rw [if_pos jj] at h;exact h
   ·rw [if_neg jj,if_pos e] at h;exact h
  ·rw [if_neg bY,if_neg bg] at h;exact h
 rw [awT];refine tV (P:=prog) (fn:=f127) (R:=R) gi ?_;rw [axX];have aj0:∀ aT,¬ (r.iq=r.Client/\r.j'≠r.n5)->W prog (sub (b6 f127) [1,1,1,1,1,0,0,1,1,1,1]) (Vp ⟨b1,0,none⟩ p c ok aT) Q u:=λaT i'=>by
  rw [if_neg i'] at cC;rw [awU];refine tV (P:=prog) (fn:=f127) (R:=R) gi ?_;rw [axZ];have aj1:∀ (b:Bool) aT,(b=true↔r.iq≠r.Client/\(r.j'<2\/60<r.j'\/Int.tmod r.j' 2≠0))->W prog (sub (b6 f127) [1,1,1,1,1,0,0,1,1,1,1,1]) (Gs ⟨b1,0,none⟩ p c ok b aT) Q u:=λb aT ak=>by
   refine tV (P:=prog) (fn:=f127) (R:=R) gi ?_;rw [ax0];refine kk (λe=>?_) (λe=>Lo gi <| aoT _ ?_)
   ·rw [if_pos (ak.1 e)] at cC;exact cC
   ·rw [if_neg (λjj=>by rw [ak.2 jj] at e;cases e)] at cC;exact cC
  repeat' first
   |refine ⟨_,aE.cell rfl,?_⟩
   |refine gX (λ_=>?_) (λ_=>?_)
   |refine fX (λ_=>?_) (λ_=>?_)
   |refine bL (λ_=>?_) (λ_=>?_)
  all_goals
   refine ia (aj1 _ _ ?_)
  all_goals first | (simp;omega) | (simp only [bne_iff_ne];omega) | (constructor<;>intro _<;>first | rfl | omega)
 have ajZ:∀ (b:Bool) aT,(b=true↔r.iq=r.Client/\r.j'≠r.n5)->W prog (sub (b6 f127) [1,1,1,1,1,0,0,1,1,1]) (Pz ⟨b1,0,none⟩ p c ok b aT) Q u:=λb aT ak=>by refine tV (P:=prog) (fn:=f127) (R:=R) gi ?_;rw [axY];refine kk (λe=>?_) (λe=>Lo gi <| aj0 _ (λjj=>by rw [ak.2 jj] at e;cases e));rw [if_pos (ak.1 e)] at cC;exact cC
 repeat' first
  |refine ⟨_,aE.cell rfl,?_⟩
  |refine gX (λ_=>?_) (λ_=>?_)
  |refine fX (λ_=>?_) (λ_=>?_)
  |refine bL (λ_=>?_) (λ_=>?_)
 all_goals
  refine ia (ajZ _ _ ?_)
 all_goals first | (simp;omega) | (simp only [bne_iff_ne];omega) | (constructor<;>intro _<;>first | rfl | omega)
theorem aaJ {b:Bool} (ak:b=true↔r.mB<98\/256<r.mB) (cC:R (.int .i64 (if r.mB<98\/256<r.mB then 18 else if r.iq=r.Client/\r.j'≠r.n5 then 1 else if r.iq≠r.Client/\(r.j'<2\/60<r.j'\/Int.tmod r.j' 2≠0) then 2 else HR r ok p c)) u)
  (aN:R (.int .i64 0) u->∀ aT,Q .normal (DC aT) u) (aT:aH) :
  W prog (sub (b6 f127) [1,1,1,1,1,0,0,1]) (PJ ⟨b1,0,none⟩ p c ok b aT) Q u:=by
 refine tV (P:=prog) (fn:=f127) (R:=R) gi ?_;rw [axW];refine kk (λe=>?_) (λe=>Lo gi <| aoR aE gi ?_ aN _)
 ·rw [if_pos (ak.1 e)] at cC;exact cC
 ·rw [if_neg (λjj=>by rw [ak.2 jj] at e;cases e)] at cC;exact cC
end
abbrev xQ (w:av) (k:Int):dW:=λx w'=>x=.int .i64 k/\ai w w'
theorem aiQ (h:Fu w r j):bK 127 [r.val] w (xQ w j.valid):=by
 refine bO Tryz.func127 ?_;rw [aCn];rintro b1 w1 bA br;obtain ⟨aE,aj⟩:=b4 bA br;have aE:aF w1 b1 [.int .i64 r.Client,.int .i64 r.n5,.int .i64 r.mB,.int .i64 r.View.Number,.slice r.View.h1 r.View.h6 r.View.iJ,.int .i64 r.iq,.int .i64 r.j',.int .u64 r.mV] 41:=aE;clear br bA;obtain ⟨bY,bg,dF,⟨al',kX⟩,kB,l_,pK,hu⟩:=h;have il:j.valid=if kp r.n5 r.Client≠0 then kp r.n5 r.Client else if r.iq<0\/6<=r.iq then 1 else if j.v.valid 5≠0 then j.v.valid 5 else if r.mB<98\/256<r.mB then 18 else if r.iq=r.Client/\r.j'≠r.n5 then 1 else if r.iq≠r.Client/\(r.j'<2\/60<r.j'\/Int.tmod r.j' 2≠0) then 2 else HR r (wV r.mV) (sH r.mV) (pp r.mV):=by unfold c8.valid c8.tail HR;rw [bY,bg,dF,kB,l_,pK];cases hy:wV j.prev<;>by_cases ar:j.prev=0<;>simp [ar]
 rw [il];clear il bY bg dF kB l_ pK;refine ⟨_,aE.cell (i:=1) rfl,_,aE.cell (i:=0) rfl,?_⟩;refine aR (MV w1 r.n5 r.Client) ?_;rintro x aS ⟨rfl,rfl⟩;refine ⟨_,_,rfl,fX (λhe=>⟨by rw [if_pos he],aj⟩) (λhe=>?_)⟩
 rw [if_neg (λe=>e he),awS,aws];refine tV (λ_ _=>rfl) ?_;rw [axT];generalize zS:(if r.iq<0\/6<=r.iq then (1:Int) else _)=V;have Zy:∀ (b:Bool) aT,(b=true↔r.iq<0\/6<=r.iq)->W prog (sub (b6 f127) [1,1,0,1]) (PI ⟨b1,0,none⟩ b aT) (bk (λenv z=>W prog (sub (b6 f127) [1,1,1]) env (ga prog f127 (xQ w V)) z) (ga prog f127 (xQ w V))) aS:=λb aT ak=>by
  refine tV (P:=prog) (fn:=f127) (R:=xQ w V) (λ_ _=>rfl) ?_;rw [axU];refine kk (λe=>⟨by rw [<-zS,if_pos (ak.1 e)],aj⟩) (λe=>?_)
  rw [if_neg (λjj=>by rw [ak.2 jj] at e;cases e)] at zS;refine ia ?_;refine tV (P:=prog) (fn:=f127) (R:=xQ w V) (λ_ _=>rfl) ?_;rw [axV];refine e3.bd r.View ⟨cD aE rfl,?_⟩;refine aR (Yk (kX.new aj) 5) ?_;rintro x aY ⟨rfl,bf⟩;have aE:=ai.an bf aE;have aj:=aj.new bf;refine ⟨_,rfl,fX (λaw=>⟨by rw [<-zS,if_pos aw],aj⟩) (λaw=>⟨_,aE.cell (i:=7) rfl,?_⟩)⟩;rw [if_neg (λe=>e aw)] at zS;refine aR (agu aY hu) ?_;rintro x bZ ⟨rfl,rfl⟩;have fin:xQ w V (.int .i64 0) bZ->∀ aT,W prog (sub (b6 f127) [1,1,1,1,1,1]) (DC aT) (cw prog f127 (xQ w V) (ga prog f127 (xQ w V))) bZ:=λh aT=>by rw [ax'];exact h
  have q_:xQ w V (.int .i64 V) bZ:=⟨rfl,aj⟩;refine ⟨_,_,_,rfl,_,aE.cell (i:=2) rfl,bL (λau=>?_) (λau=>⟨_,aE.cell (i:=2) rfl,?_⟩)⟩
  ·refine aaJ (R:=xQ w V) aE ?_ ?_ ?_ ?_ _
   ·exact λ_ _=>rfl
   ·simp;omega
   ·rw [zS];exact q_
   ·exact λh aT=>Cp (ia (fin h aT))
  ·refine aaJ (R:=xQ w V) aE ?_ ?_ ?_ ?_ _
   ·exact λ_ _=>rfl
   ·simp;omega
   ·rw [zS];exact q_
   ·exact λh aT=>Cp (ia (fin h aT))
 refine ⟨_,aE.cell (i:=5) rfl,bL (λaC=>ia (Zy _ _ ?_)) (λaC=>⟨_,aE.cell (i:=5) rfl,ia (Zy _ _ ?_)⟩)⟩
 ·simp;omega
 ·simp;omega
end
end Go.Proofs.YtmkljjbioomepaaGreat
