import Derived.Test.YtmkljjbioomepaaGreata21
set_option linter.all false
namespace Go.Proofs.YtmkljjbioomepaaGreat
open Go.Proofs.Tryz Go.b8
variable {A B L:bB} {C:cT} {F ew Da:a9} {K:(bB)->Prop} {X:cF} {c a3 i j k q:Nat} {cf:Nat->Option a_} {l:eM} {n:bt} {p:fx} {u b_ w:av} {v x:bn} {vs xs:List bn} {ws:bR} {f0 aG:Nat->Tag}
section
structure jA (A:bB) (aG:Nat->Tag) (w:av) (a3:Nat) (L:bB) (u:av) (B:bB) (f0:Nat->Tag) (X:cF):Prop where
 next:Next A B aG f0 w u
 dt:c4 (λk=>B k\/L k) f0 u a3 X
 loc:∀ k,L k->w.heap.size<=k/\k<u.heap.size/\f0 k=.dR
theorem jA.start {aS:av} (h:c4 A aG w a3 X) (aj:ai w aS) (bE:∀ k,L k->w.heap.size<=k/\k<aS.heap.size):jA A aG w a3 L aS A aG X:=by
 refine ⟨h.refl aj,?_,λk J=>⟨(bE k J).1,(bE k J).2,h.fresh (bE k J).1⟩⟩;refine (h.V7 aj).wP (λk J=>?_) λk J=>.inl (h.iL k J)
 rcases J with J | J
 ·exact .inl J
 ·exact .inr (bE k J)
theorem jA.op (t:jA A aG w a3 L u B f0 X) (p:gQ (λk=>B k\/L k) f0 u a3 F b_ K) :
  ∃ B' lj eR,jA A aG w a3 L b_ B' lj eR/\eR.pure=F/\K (λk=>B' k\/L k)/\ay (λk=>B k\/L k) u b_/\(∀ k,k<u.heap.size->B' k\/L k->B k\/L k)/\(∀ k,L k->b_.heap[k]?=u.heap[k]?):=by
 obtain ⟨A',lj,eR,n,cM,q5,f'⟩:=p;have fB:A'=λk=>k0 A aG lj w k\/L k:=by
  funext k;apply propext;rw [n.iff k];constructor
  ·rintro (af | ⟨af,al | al,aL⟩)
   ·exact .inl (.inl af)
   ·rcases (t.next.iff k).1 al with ca | ca
    ·exact absurd aL ca
    ·exact .inl (.inr ca)
   ·exact .inr al
  ·rintro ((af | ⟨af,al,aL⟩) | af)
   ·exact .inl af
   ·refine .inr ⟨ks af t.next.aO.size,.inl ((t.next.iff k).2 (.inr ⟨af,al,aL⟩)),?_⟩;by_cases ab:f0 k=.dR
    ·exact ab
    ·exact absurd aL (t.next.grow k af ab)
   ·obtain ⟨_,al,aL⟩:=t.loc k af;exact .inr ⟨al,.inr af,aL⟩
 have ON:ay (λk=>B k\/L k) u b_:=n.aO.mono λk _ ab=>t.dt.iL k ab
 refine ⟨k0 A aG lj w,lj,eR,⟨⟨t.next.aO.trans n.aO λk J ab=>t.next.grow k J ab,λk J ab=>t.next.grow k J (n.grow k (ks J t.next.aO.size) ab),λk=>Iff.rfl⟩,fB▸cM,λk J=>?_⟩,q5,fB▸f',ON,λk J ab=>?_,λk J=>?_⟩
 ·obtain ⟨af,al,aL⟩:=t.loc k J;refine ⟨af,ks al n.aO.size,?_⟩;by_cases ab:lj k=.dR
  ·exact ab
  ·exact absurd aL (n.grow k al ab)
 ·have kd:A' k:=by rw [fB];exact ab
  rcases (n.iff k).1 kd with ca | ca
  ·exact t.dt.iL k (n.grow k J ca)
  ·exact ca.2.1
 ·obtain ⟨_,al,aL⟩:=t.loc k J;exact n.aO.block k al λab=>ab aL
theorem jA.local (t:jA A aG w a3 L u B f0 X) {S:bB} (J:ay S u b_) (gl:∀ k,S k->L k):jA A aG w a3 L b_ B f0 X:=by refine ⟨⟨t.next.aO.trans J λk aK aX=>?_,t.next.grow,t.next.iff⟩,t.dt.other J λk aX=>⟨.inr (gl k aX),(t.loc k (gl k aX)).2.2⟩,λk au=>⟨(t.loc k au).1,ks (t.loc k au).2.1 J.size,(t.loc k au).2.2⟩⟩;have:=(t.loc k (gl k aX)).1;omega
theorem jA.new (t:jA A aG w a3 L u B f0 X) (aj:ai u b_):jA A aG w a3 L b_ B f0 X:=
 t.local aj λ_ h=>h.elim
theorem jA.done (t:jA A aG w a3 L u B f0 X) (f':K B):gQ A aG w a3 X.pure u K:=
 ⟨B,f0,X,t.next,t.dt.wP (λk J=>.inl J) (λk J=>(t.next.iff k).2 (.inl J)),rfl,f'⟩
theorem kR.aO {A':bB} {a:ax} {xs:aH} (aA:bW w a xs) (aq:xs=[]\/kR A a) (c1:∀ k,k<w.heap.size->A' k->A k):xs=[]\/kR A' a:=by
 rcases aq with aq | aq
 ·exact .inl aq
 ·by_cases ao:xs=[]
  ·exact .inl ao
  ·refine .inr ?_;cases a with
   |none=>trivial
   |some a=>intro hm;exact aq (c1 _ (aA.lt ao) hm)
theorem nh.aO {A A':bB} {w w':av} {a:ax} {G:List (List a_)} (h:nh A w a G) (J:ay A w w') (c1:∀ k,k<w.heap.size->A' k->A k):nh A' w' a G:=by obtain ⟨rows,au,aA,aq,aC⟩:=h;refine ⟨rows,au,aA.aO J aq,kR.aO aA aq c1,λi r ds c9 e8=>?_⟩;obtain ⟨af,al,aL,ca⟩:=aC i r ds c9 e8;exact ⟨af.aO J al,kR.aO af al c1,aL.aO J c1,ca⟩
abbrev Bl:TypeId:=42
abbrev So:TypeId:=100
theorem ahe (rows:List Row):∀ u ∈ sP rows,single u=true:=by intro u hu;simp only [sP,eQ] at hu;obtain ⟨r,_,rfl⟩:=hu;rfl
theorem aj_ {z:av} {lv:ax} {gc:Nat} {G:List (List a_)} (a':nh B z lv G) (au:G.length<=1000000) {b:Nat} {raw:List cL} {ds:List a_} (ak:aF z b (j6 raw).flatten o9) (dX:lN B z raw ds) (uS:¬ B b) (j0:ds.length<=1024) (oe:∀ k,B k->k<z.heap.size) {n:Nat} (aj:n=raw.length)
  {K:Nat->ax->Nat->Nat->aV} (J:∀ bT ap cap cZ,z.heap.size<=bT->nh B cZ ap (G++[ds])->G.length+1<=cap->ai z cZ->K bT ap (G.length+1) cap cZ) :
  ∃ (ap:ax) (h_ h9:Nat),∃ hD,(Builtin.append_ #[Bl,Bl] Bl #[(.slice none 0 0),(.slice lv G.length gc)]).run prog z=.ok (.slice ap h_ h9) hD/\∀ bT hZ,bT=hD.heap.size->hZ=hD.alloc (.cells #[.slice (some ⟨b,0,none⟩) n c] So)->
   ∃ (Bq:ax) (aaN aaM:Nat),∃ kq,(Builtin.append_ #[Bl,Bl] Bl #[(.slice ap h_ h9),(.slice (some ⟨bT,0,none⟩) 1 1)]).run prog hZ=.ok (.slice Bq aaN aaM) kq/\K bT Bq aaN aaM kq:=by
 obtain ⟨inf,aD,aE,cr,gm⟩:=j5 (T:=So) (z:=.slice none 0 0) (n:=1) (m:=24) (by kernel_rfl);obtain ⟨rows,ik,aA,aq,aC⟩:=a';have O3:bu z So inf.size none 0 0 []:=bu.nil _ _ _;have uX:(sP rows).length=G.length:=by simp [sP,ik]
 obtain ⟨ap,fU,y9,fV,cV,fK,fC⟩:=bu.append (P:=prog) (t:=Bl) (ty:=Bl) Tryz.underlying42 aD aE (by rw [cr];rfl) (by omega) O3 (s:=lv) (m:=G.length) (c:=gc) (news:=sP rows) (by rw [cr,uX];omega) aA (ahe rows) (by omega) (by rw [gm];omega);have gJ:ai z y9:=fK.mono λk _ ak=>by obtain ⟨o,aq⟩:=ak;cases aq
 have acg:∀ k,a7 ap k->z.heap.size<=k:=λk J=>by
  rcases fC with e | e
  ·rw [e] at J;obtain ⟨o,aq⟩:=J;cases aq
  ·rw [e] at J;obtain ⟨o,aq⟩:=J;simp at aq <;> omega
 refine ⟨ap,0+G.length,fU,y9,fV,?_⟩;rw [l6,xN] at cV;rw [l6];refine As Tryz.underlying42 aD aE (by rw [cr];rfl) (by omega) cV (vs:=[.slice (some ⟨b,0,none⟩) n c]) (by rw [cr];rfl) (by intro v aw;simp at aw;subst aw;rfl) (by omega) (by omega) ?_;intro bT Bq SA L7 ej acU tn Tc;have nN:ai z L7:=Hr gJ tn acg;have Pb:=gJ.size;refine J bT Bq SA L7 (by omega) ?_ acU.le nN;have ari:∀ k,a7 Bq k->z.heap.size<=k:=λk J=>by
  rcases Tc k J with af | af
  ·exact acg k af
  ·omega
 have UN:sP rows++[.slice (some ⟨b,0,none⟩) n c]=sP (rows++[⟨some ⟨b,0,none⟩,c,raw⟩]):=by simp [sP,aj]
 have dw:bW L7 Bq (sP (rows++[⟨some ⟨b,0,none⟩,c,raw⟩])):=by rw [<-UN];exact acU.rd
 refine ⟨rows++[⟨some ⟨b,0,none⟩,c,raw⟩],by simp [ik],dw,mK dw λk J ak=>?_,λi r es c9 e8=>?_⟩
 ·have af:=ari k J;have al:=oe k ak;omega
 ·rw [CY] at c9 e8;rw [ik] at c9;split at c9
  ·rename_i aK;rw [if_pos aK] at e8;obtain ⟨af,al,aL,ca⟩:=aC i r es c9 e8;exact ⟨af.new nN,al,aL.aO (ay.db nN) (λ_ _ h=>h),ca⟩
  ·rename_i aK;rw [if_neg aK] at e8;have D4:i - G.length=0:=by have:=(uh.1 c9).1;simp at this <;> omega
   rw [D4] at c9 e8;simp at c9 e8;subst c9 e8;refine ⟨jk (ai.an nN ak) (by rw [Mg];exact ny (eJ _)),.inr uS,dX.aO (ay.db nN) (λ_ _ h=>h),j0⟩
end
section
def tQ (C:cT):Nat:=if C.alive then 1 else 0
def a9.fi (F:a9):Nat:=(F.bl.map tQ).sum
def vt (F:a9):Prop:=F.cN.length+5 * F.fi<=1000
theorem RV:∀ {cs:List cT} {i:Nat} {C C':cT},cs[i]?=some C->((cs.set i C').map tQ).sum+tQ C=(cs.map tQ).sum+tQ C'
 | [],i,C,C',h=>by simp at h
 |a::cs,0,C,C',h=>by simp at h;subst h;simp;omega
 |a::cs,i+1,C,C',h=>by have:=RV (cs:=cs) (i:=i) (C:=C) (C':=C') (by simpa using h);simp at this ⊢;omega
structure dK (F:a9):Prop where
 du:Good F
 kM:vt F
theorem dK.le (h:dK F):F.cN.length<=1000:=by have:=h.kM;unfold vt at this;omega
theorem vt.jy (h:vt F) {C':cT} (ab:F.bl[i]?=some C) (bc:C'.alive=C.alive):vt { F with bl:=F.bl.set i C' }:=by
 have:=RV (C':=C') ab;have e:tQ C'=tQ C:=by unfold tQ;rw [bc]
 unfold vt a9.fi at *;dsimp only;omega
theorem dK.take {F:a9} (h:dK F) (c:Int):dK (F.take c).2:=by
 refine ⟨h.du.take c,?_⟩;unfold a9.take;cases ab:F.fE c with
 |none=>exact h.kM
 |some C=>
  obtain ⟨aN,af⟩:=a9.zI ab;dsimp only;split
  ·exact h.kM
  ·cases ak:C.batch with
   |none=>exact h.kM
   |some ds=>
    dsimp only;split
    ·exact h.kM
    ·exact h.kM.jy af rfl
theorem dK.post {F:a9} (h:dK F) (c:Int) (vs:List bn):dK (F.post c vs).2:=by
 refine ⟨h.du.post c vs,?_⟩;unfold a9.post;cases ab:F.fE c with
 |none=>exact h.kM
 |some C=>
  obtain ⟨aN,af⟩:=a9.zI ab;dsimp only;repeat' split
  all_goals first | exact h.kM | exact h.kM.jy af (rg vs 0 C).1
theorem dK.pz {F:a9} (h:dK F) (i:Nat):dK (F.pz i).2:=by
 refine ⟨h.du.pz i,?_⟩;unfold a9.pz;split
 ·exact h.kM
 ·split
  ·exact h.kM
  ·dsimp only;have:=h.kM;unfold vt a9.fi at *;dsimp only;have au:∀ (x:fx) (b:Prop) [Decidable b],(if b then F.cN.eraseIdx i else F.cN.set i x).length<=F.cN.length:=by
    intro x b _;split
    ·exact List.length_eraseIdx_le _ _
    ·simp
   exact ud (Nat.add_le_add_right (au _ _) _) this
theorem dK.step {F:a9} (h:dK F) (x:js):dK (F.step x).2:=by
 refine ⟨h.du.step x,?_⟩;unfold a9.step;split
 ·exact (h.pz _).kM
 split
 ·exact h.kM
 split
 ·exact h.kM
 rename_i C ab;obtain ⟨aN,af⟩:=a9.zI ab;split
 ·exact h.kM
 split
 ·rename_i l n au aj;split
  ·exact h.kM
  dsimp only;refine vt.jy (F:={ F with nodes:=_ }) h.kM af ?_;cases (l.pair.step n).2.2<;>rfl
 ·exact h.kM
theorem dK.drop {F:a9} (h:dK F) (c:Int):dK (F.drop c).2:=by
 refine ⟨h.du.drop c,?_⟩;unfold a9.drop;split
 ·exact h.kM
 ·have:=h.kM;unfold vt a9.fi at *;exact ud (Nat.add_le_add_right (List.length_eraseIdx_le _ _) _) this
theorem dK.die {F:a9} (h:dK F) (c:Int):dK (F.die c).2:=by
 refine ⟨h.du.die c,?_⟩;unfold a9.die;cases ab:F.fE c with
 |none=>exact h.kM
 |some C=>
  obtain ⟨aN,af⟩:=a9.zI ab;have b0:=h.du.ok.bw _ _ af;dsimp only;split
  ·exact h.kM
  ·rename_i bc;have oK:C.alive=true:=by simpa using bc
   have al:=RV (C':={ C with alive:=false,aU:=[],batch:=none,waiting:=0 }) af;have bY:tQ C=1:=by unfold tQ;rw [oK];rfl
   have bg:tQ { C with alive:=false,aU:=[],batch:=none,waiting:=0 }=0:=rfl;have dF:((C.aU.map eM.pair).filter (λp=>decide (0<p.bN.length))).length<=C.aU.length:=by have:=Mj (λp:fx=>decide (0<p.bN.length)) (C.aU.map eM.pair);simpa using this
   have kB:C.aU.length<=5:=by rw [b0.aU,oK];exact h.du.ok.nodes.2
   have:=h.kM;unfold vt a9.fi at *;dsimp only;rw [gp];omega
theorem dK.yV {F:a9} (h:dK F) (i:Nat) {n':bt} (aj:n'.words.length=F.lines * 8):dK { F with nodes:=F.nodes.set i n' }:=⟨h.du.yV i aj,h.kM⟩
theorem dK.fresh {n c lines:Nat} (aj:1<=n/\n<=5) (ab:1<=c/\c<=6) (au:98<=lines/\lines<=256):dK (a9.fresh n c lines):=by
 refine ⟨Good.fresh aj ab au,?_⟩;have:∀ (c:Nat),(((List.range c).map (ng n)).map tQ).sum=c:=by
  intro c;induction c with
  |zero=>rfl
  |succ c c5=>rw [rK,pB,pB,List.sum_append,c5];rfl
 unfold vt a9.fi;show 0+5 * (((List.range c).map (ng n)).map tQ).sum<=1000;rw [this];omega
def t' (F:a9) (sch:bR) (n:Nat):Nat:=if n<sch.length then (sch.getD n 0 % (F.gz.length:Int)).toNat else 0
def mv (F:a9) (sch:bR) (n:Nat):Bool×a9:=match F.gz[t' F sch n]? with
 |none=>(false,F)
 |some x=>F.step x
theorem dK.mv {F:a9} (h:dK F) (sch:bR) (n:Nat):dK (mv F sch n).2:=by
 unfold Go.Proofs.YtmkljjbioomepaaGreat.mv;split
 ·exact h
 ·exact h.step _
theorem Xe (h:y' F):F.gz.length<=30+F.cN.length:=by
 unfold a9.gz;rw [gp,Vw];have af:=Vv (n:=5) 0 F.bl λC b0=>by obtain ⟨i,aD⟩:=hn.1 b0;have al:=(h.bw i C aD).aU;have aL:=h.nodes.2;split at al<;>omega
 have ca:=h.bl.2;omega
theorem amk (h:c4 A aG w a3 X) (aJ:dK X.pure) {sch:bR} {sa:ax} {sc:Nat} (aX:bW w sa (is sch)) (aD:∀ x ∈ sch,gF x) (n:Nat) :
  bK 35 [ptr a3,.slice sa sch.length sc,.int .i64 n] w λv w'=>v=.bool (mv X.pure sch n).1/\gQ A aG w a3 (mv X.pure sch n).2 w' λ_=>True:=by
 have G3:X.cN.length<=100000000:=by have:=aJ.le;simp [cF.pure] at this;omega
 refine bO Tryz.func35 ?_;rw [ptr,azn];refine aR (WB h aJ.du.ok G3) ?_;rintro v w1 ⟨a,cap,rfl,uI⟩;have mc:=h.new uI.new;refine ⟨_,_,_,rfl,gX (λaN=>?_) (λaN=>?_)⟩
 ·have Uj:X.pure.gz=[]:=jR (by omega);have:mv X.pure sch n=(false,X.pure):=by unfold mv;rw [Uj];rfl
  rw [this];exact ⟨rfl,gQ.same h uI.new trivial⟩
 ·refine bL (λar=>?_) (λar=>?_)
  ·have aK:n<sch.length:=by omega
   have a':sch[n]?=some sch[n]:=cp aK;have qw:(is sch)[n]?=some (.int .i64 sch[n]):=by simp [is,a']
   have arC:=aD _ (dn a');rcases aX.new uI.new with he | ⟨b,o,rfl,ab⟩
   ·rw [he] at qw;simp at qw
   refine hc (by omega) (by omega) ⟨sch[n],by simpa using ab n _ qw,?_⟩;have hlen:X.pure.gz.length<=1000000000:=by have af:=aJ.le;have al:=Xe aJ.du.ok;omega
   refine aR (FV _ _ _ arC (by omega)) ?_;rintro v aS ⟨rfl,rfl⟩;have ac4:0<=sch[n] % (X.pure.gz.length:Int)/\sch[n] % (X.pure.gz.length:Int)<X.pure.gz.length:=⟨L' _ (by omega),Mp _ (by omega)⟩;rw [if_neg (by omega)];refine ⟨_,rfl,?_⟩;have qx:t' X.pure sch n=(sch[n] % (X.pure.gz.length:Int)).toNat:=by unfold t';rw [if_pos aK,gd,a'];rfl
   have fc:X.pure.gz[t' X.pure sch n]?=some X.pure.gz[t' X.pure sch n]:=cp (by omega);have cq:mv X.pure sch n=X.pure.step X.pure.gz[t' X.pure sch n]:=by unfold mv;rw [fc]
   obtain ⟨lP,fZ,rfl,m5,_⟩:=uI.own.rd.row (W8 _) (by omega) (W9 fc);refine hc ac4.1 ac4.2 ?_;rw [<-qx];refine ⟨_,_,_,m5,?_⟩;refine aR (Rv mc aJ.du.ok X.pure.gz[t' X.pure sch n]) ?_;rintro v aY ⟨rfl,g'⟩;rw [cq];exact ⟨_,rfl,rfl,gQ.trans (h.refl uI.new) g'⟩
  ·have qx:t' X.pure sch n=0:=by unfold t';rw [if_neg (by omega)]
   have fc:X.pure.gz[0]?=some X.pure.gz[0]:=cp (by omega);have cq:mv X.pure sch n=X.pure.step X.pure.gz[0]:=by unfold mv;rw [qx,fc]
   obtain ⟨lP,fZ,rfl,m5,_⟩:=uI.own.rd.row (W8 _) (by omega) (W9 fc);refine hc (by omega) (by omega) ?_;refine ⟨_,_,_,m5,?_⟩;refine aR (Rv mc aJ.du.ok X.pure.gz[0]) ?_;rintro v aY ⟨rfl,g'⟩;rw [cq];exact ⟨_,rfl,rfl,gQ.trans (h.refl uI.new) g'⟩
structure rC where
 at_:Int
 kind:Int
 a:Int
def rC.cells (e:rC):aH:=[.int .i64 e.at_,.int .i64 e.kind,.int .i64 e.a]
def rC.val (e:rC):bx:=.agg e.cells.toArray
structure rC.IX (e:rC):Prop where
 at_:gF e.at_
 kind:gF e.kind
 a:gF e.a
def a9.yV (F:a9) (i:Nat) (f:bt->bt):a9:=match F.nodes[i]? with
 |none=>F
 |some n=>{ F with nodes:=F.nodes.set i (f n) }
def aoM (n:bt):bt:={ n with down:=true }
def Sd (n:bt):bt:=n.back.1
theorem ai3 (n:bt):(Sd n).words.length=n.words.length:=by unfold Sd bt.back;split<;>simp
theorem dK.afB (h:dK F) (i:Nat) {f:bt->bt} (aJ:∀ n,(f n).words.length=n.words.length):dK (F.yV i f):=by
 unfold a9.yV;split
 ·exact h
 ·rename_i n aj;exact h.yV i (by rw [aJ];exact h.du.ok.words n (dn aj))
def a9.JJ (F:a9) (cs:bR) (e:rC):a9:=
 if e.kind % 4=0 then (if cs.length=0 then F else (F.die (cs.getD (e.a % (cs.length:Int)).toNat 0)).2)
 else if e.kind % 4=1 then F.yV (e.a % (F.nodes.length:Int)).toNat aoM
 else if e.kind % 4=2 then F.yV (e.a % (F.nodes.length:Int)).toNat Sd
 else (F.drop (e.a % 3)).2
theorem dK.JJ {F:a9} (h:dK F) (cs:bR) (e:rC):dK (F.JJ cs e):=by
 unfold a9.JJ;split
 ·split
  ·exact h
  ·exact h.die _
 ·split
  ·exact h.afB _ λ_=>rfl
  ·split
   ·exact h.afB _ ai3
   ·exact h.drop _
end
section
structure Conv where
 bG:Type
 O:Type
 next:bG->List (List a_)->List bn×O×Bool
structure dB (c:Conv) where
 bw:Int
 cH:c.bG
 bD:List (List a_)
 ix:Bool
 bad:Bool
 out:c.O
section
variable {c:Conv}
def dB.told (t:dB c):dB c:={ t with ix:=(c.next t.cH t.bD).2.2,out:=(c.next t.cH t.bD).2.1 }
def dB.ST (t:dB c):Option (List a_)->dB c
 |none=>t
 |some d=>{ t with bD:=t.bD++[d] }
def dB.fail (t:dB c):dB c:={ t with ix:=true,bad:=true }
def sS (F:a9) (t:dB c):a9×dB c:=
 if 200<t.bD.length then (F,t.fail) else if (c.next t.cH t.bD).2.2=true then (F,t.told)
 else if (F.post t.bw (c.next t.cH t.bD).1).1≠0 then ((F.post t.bw (c.next t.cH t.bD).1).2,t.told.fail) else ((F.post t.bw (c.next t.cH t.bD).1).2,t.told)
def eW (F:a9) (t:dB c):a9×dB c:=
 if t.ix=true\/F.alive t.bw=false\/0<F.waiting t.bw then (F,t) else sS (F.take t.bw).2 (t.ST (F.take t.bw).1)
def turns:a9->List (dB c)->a9×List (dB c)
 |F,[]=>(F,[])
 |F,t::ts=>((turns (eW F t).1 ts).1,(eW F t).2::(turns (eW F t).1 ts).2)
def r' (F:a9) (cs:bR) (n:Nat):List rC->a9
 | []=>F
 |e::es=>r' (if e.at_ % 60=n then F.JJ cs e else F) cs n es
def m0 (cs sch:bR) (es:List rC):Nat->Nat->a9->List (dB c)->a9×List (dB c)
 | 0,_,F,l=>(F,l)
 |f+1,n,F,l=>
  if (mv (turns (r' F cs n es) l).1 sch n).1=true then m0 cs sch es f (n+1) (mv (turns (r' F cs n es) l).1 sch n).2 (turns (r' F cs n es) l).2
  else ((mv (turns (r' F cs n es) l).1 sch n).2,(turns (r' F cs n es) l).2)
def ib (F:a9) (l:List (dB c)) (sch:bR) (es:List rC) (most:Nat):a9×List (dB c):=
 turns (m0 (l.map dB.bw) sch es most 0 F l).1 (m0 (l.map dB.bw) sch es most 0 F l).2
def xG (F:a9) (t:dB c):a9×List (dB c):=ib F [t] [] [] 20000
theorem dK.tail (h:dK F) (t:dB c):dK (sS F t).1:=by
 unfold sS;split
 ·exact h
 ·split
  ·exact h
  ·split
   ·exact h.post _ _
   ·exact h.post _ _
theorem dK.eW {F:a9} (h:dK F) (t:dB c):dK (eW F t).1:=by
 unfold Go.Proofs.YtmkljjbioomepaaGreat.eW;split
 ·exact h
 ·exact (h.take _).tail _
theorem dK.turns:∀ (l:List (dB c)) {F:a9},dK F->dK (turns F l).1
 | [],_,h=>h
 |t::l,F,h=>by unfold Go.Proofs.YtmkljjbioomepaaGreat.turns;exact dK.turns l (h.eW t)
theorem dK.r' {cs:bR} {n:Nat}:∀ (es:List rC) {F:a9},dK F->dK (r' F cs n es)
 | [],F,h=>h
 |e::es,F,h=>by
  unfold Go.Proofs.YtmkljjbioomepaaGreat.r';refine dK.r' es ?_;split
  ·exact h.JJ cs e
  ·exact h
theorem dK.m0 (cs sch:bR) (es:List rC):∀ (f n:Nat) {F:a9} (l:List (dB c)),dK F->dK (m0 cs sch es f n F l).1
 | 0,_,_,_,h=>h
 |f+1,n,F,l,h=>by
  unfold Go.Proofs.YtmkljjbioomepaaGreat.m0;have al:=(dK.turns l (dK.r' (cs:=cs) (n:=n) es h)).mv sch n;split
  ·exact dK.m0 cs sch es f (n+1) _ al
  ·exact al
theorem dK.ib {F:a9} (h:dK F) (l:List (dB c)) (sch:bR) (es:List rC) (most:Nat):dK (ib F l sch es most).1:=dK.turns _ (dK.m0 _ _ _ _ _ _ h)
def xH (t:dB c):Prop:=t.ix=false->t.bD.length<=200
theorem aiD {t:dB c}:xH (sS F t).2:=by
 unfold sS;split
 ·intro e;cases e
 ·rename_i ab;split
  ·intro _;show t.bD.length<=200;omega
  ·split
   ·intro e;cases e
   ·intro _;show t.bD.length<=200;omega
theorem aiE {t:dB c} (h:xH t):xH (eW F t).2:=by
 unfold eW;split
 ·exact h
 ·exact aiD
structure vx (Da:a9) (eU:List (dB c)) (i:Nat) (F:a9) (l:List (dB c)):Prop where
 dt:(turns F (l.drop i)).1=(turns Da eU).1
 rest:l.take i++(turns F (l.drop i)).2=(turns Da eU).2
 len:l.length=eU.length
theorem vx.start (F:a9) (l:List (dB c)):vx F l 0 F l:=⟨rfl,rfl,rfl⟩
theorem vx.step {eU l:List (dB c)} (h:vx Da eU i F l) {t:dB c} (aD:l[i]?=some t):vx Da eU (i+1) (eW F t).1 (l.set i (eW F t).2):=by
 obtain ⟨aK,he⟩:=uh.1 aD;obtain ⟨af,al,aL⟩:=h;rw [A2 aK,he,turns] at af al;refine ⟨?_,?_,by rw [C0];exact aL⟩
 ·rw [List.drop_set_of_lt (by omega)];exact af
 ·rw [List.drop_set_of_lt (by omega),<-al];rw [agF (by simpa using aK)];have e:List.take i (l.set i (eW F t).2)=List.take i l:=by
   apply rL;intro q;rw [A3,A3];split
   ·rw [nC (by omega)]
   ·rfl
  rw [e];simp
theorem vx.done {eU l:List (dB c)} (h:vx Da eU i F l) (aD:i=l.length):turns Da eU=(F,l):=by obtain ⟨af,al,aL⟩:=h;subst aD;rw [Fy,turns] at af al;rw [nx,qd] at al;exact Prod.ext af.symm al.symm
theorem Qx:∀ (F:a9) (l:List (dB c)),(turns F l).2.length=l.length
 | _,[]=>rfl
 |F,t::ts=>by simp [turns,Qx]
theorem agw (cs sch:bR) (es:List rC):∀ (f n:Nat) (F:a9) (l:List (dB c)),(m0 cs sch es f n F l).2.length=l.length
 | 0,_,_,_=>rfl
 |f+1,n,F,l=>by
  unfold m0;split
  ·rw [agw,Qx]
  ·exact Qx _ _
theorem ai4 (F:a9) (t:dB c):∃ hC,(xG F t).2=[hC]:=by
 have:(xG F t).2.length=1:=by unfold xG ib;rw [Qx,agw];rfl
 exact Ih.1 this
end
def Bd (A:bB) (u:av) (a:ax) (xs:aH):Prop:=bW u a xs/\(xs=[]\/kR A a)
theorem Bd.aO {A A':bB} {w w':av} {a:ax} {xs:aH} (h:Bd A w a xs) (J:ay A w w') (c1:∀ k,k<w.heap.size->A' k->A k):Bd A' w' a xs:=⟨h.1.aO J h.2,kR.aO h.1 h.2 c1⟩
theorem bu.aw8 {e sz n cap g:Nat} {rows:List aH} (h:bu w e sz (some ⟨g,0,none⟩) n cap rows.flatten) (aX:∀ r ∈ rows,r.length=sz) (aj:rows.length=n) (aD:i<n) {vs:aH} (aw:vs.length=sz) (af:∀ v ∈ vs,single v=true) :
  ha w ⟨g,i * sz,none⟩ 0 vs/\bu (dO w ⟨g,i * sz,none⟩ 0 vs) e sz (some ⟨g,0,none⟩) n cap (rows.set i vs).flatten:=by
 subst aj;rcases h.2 with ⟨he,_⟩ | ⟨cU,cur,he,ak,ab,hm,au,aZ⟩
 ·cases he
 ·simp at he;subst he;have JZ:=vP aX;have gE:i * sz+sz<=rows.length * sz:=by rw [<-nz];exact Ib _ aD
  have BY:rows.length * sz<=cap * sz:=Ib _ ab;refine ⟨kA ak (by omega) af,?_⟩;have ar:=ak.dO (o:=i * sz) (i:=0) (vs:=vs);refine ⟨?_,.inr ⟨g,_,rfl,ar,ab,hm,?_,?_⟩⟩
  ·rw [vP (sz:=sz),C0];intro r aA;rcases zi aA with aL | rfl
   ·exact aX r aL
   ·exact aw
  ·rw [Ck (by omega)];simp;omega
  ·rw [<-agB aX (by omega) aw,vp,Ck (by omega),Ck (by omega),<-aZ];apply rL;intro q;simp only [A3,CY,o2,gp,uf];repeat' split
   all_goals first | rfl | omega | (congr 1;omega) | skip
   all_goals first | rfl | (exfalso;omega) | skip
end
section
section
variable {S bF:Type} (st:bF->S->Option S) (ok:S->Prop)
variable {st ok}
end
def wT (c j:Nat) (F:a9):Option a9:=match F.bl[c]? with
 |none=>none
 |some C=>match C.aU[j]?,F.nodes[j]? with
  |some l,some n=>if l.pair.bN.length=0 then none else some { F with nodes:=F.nodes.set j (l.pair.step n).2.1,bl:=F.bl.set c (C.comes j l (l.pair.step n).1 (l.pair.step n).2.2) }
  | _,_=>none
theorem Hv:wT c j F=some ew↔∃ C l n,F.bl[c]?=some C/\C.aU[j]?=some l/\F.nodes[j]?=some n/\l.pair.bN.length≠0/\ew={ F with nodes:=F.nodes.set j (l.pair.step n).2.1,bl:=F.bl.set c (C.comes j l (l.pair.step n).1 (l.pair.step n).2.2) }:=by
 unfold wT;constructor
 ·intro h;cases b0:F.bl[c]? with
  |none=>rw [b0] at h;cases h
  |some C=>
   rw [b0] at h;simp only at h;cases au:C.aU[j]? with
   |none=>rw [au] at h;cases h
   |some l=>
    rw [au] at h;cases aj:F.nodes[j]? with
    |none=>rw [aj] at h;cases h
    |some n=>
     rw [aj] at h;simp only at h;split at h
     ·cases h
     ·rename_i aw;exact ⟨C,l,n,rfl,au,rfl,aw,(zf h).symm⟩
 ·rintro ⟨C,l,n,b0,au,aj,aw,rfl⟩;rw [b0];simp only [au,aj,if_neg aw]
theorem V3 (h:wT c j F=some ew):F.step ⟨-1,c,j⟩=(true,ew):=by
 obtain ⟨C,l,n,b0,au,aj,aw,rfl⟩:=Hv.1 h;unfold a9.step;have af:F.fE (c:Int)=some C:=by unfold a9.fE;rw [if_neg (by omega)];simpa using b0
 simp only [show ¬ (0:Int)<=-1 by omega,show ¬ (-1:Int) < -1 by omega,if_false,af,show ¬ ((j:Nat):Int)<0 by omega,j_,au,aj,if_neg aw]
theorem Cg {d:Option a_} (h:i≠j):(C.comes j l p d).aU[i]?=C.aU[i]?:=by cases d<;>simp [cT.comes,nC (λe=>h e.symm)]
end
section
theorem PT {x:js} {i:Nat}:∀ {ls:List eM} {j:Nat},x ∈ s_ i j ls↔∃ q l,ls[q]?=some l/\0<l.pair.bN.length/\x=⟨-1,i,(j+q:Nat)⟩
 | [],j=>by simp [s_]
 |l::ls,j=>by
  unfold s_;rw [qT,PT (ls:=ls) (j:=j+1)];constructor
  ·rintro (h | ⟨q,l',af,al,aL⟩)
   ·split at h
    ·rename_i aw;simp at h;exact ⟨0,l,rfl,aw,by rw [h];simp⟩
    ·cases h
   ·exact ⟨q+1,l',by simpa using af,al,by rw [aL];congr 2;omega⟩
  ·rintro ⟨q,l',af,al,aL⟩;cases q with
   |zero=>left;simp at af;subst af;rw [if_pos al,aL];simp
   |succ q=>exact .inr ⟨q,l',by simpa using af,al,by rw [aL];congr 2;omega⟩
theorem PU {x:js}:∀ {cs:List cT} {i:Nat},x ∈ q1 i cs↔∃ q C,cs[q]?=some C/\x ∈ s_ (i+q) 0 C.aU
 | [],i=>by simp [q1]
 |C::cs,i=>by
  unfold q1;rw [qT,PU (cs:=cs) (i:=i+1)];constructor
  ·rintro (h | ⟨q,C',af,al⟩)
   ·exact ⟨0,C,rfl,h⟩
   ·exact ⟨q+1,C',by simpa using af,by rw [show i+(q+1)=i+1+q by omega];exact al⟩
  ·rintro ⟨q,C',af,al⟩;cases q with
   |zero=>left;simp at af;subst af;exact al
   |succ q=>exact .inr ⟨q,C',by simpa using af,by rw [show i+1+q=i+(q+1) by omega];exact al⟩
end
section
def Below (C:cT) (k:Nat):Prop:=∀ (i:Nat) (l:eM),C.aU[i]?=some l->∀ q ∈ l.cP,q<k
theorem ahC (h:(C.k3 k v).aU[i]?=some l):∃ eU,C.aU[i]?=some eU/\((l.cP=eU.cP/\l.pair.bN=eU.pair.bN/\v.node.toNat≠i)\/(l.cP=eU.cP++[k]/\l.pair.bN=eU.pair.bN++[v]/\v.node.toNat=i)):=by
 unfold cT.k3 at h;simp only [Ic] at h;cases au:C.aU[i]? with
 |none=>rw [au] at h;simp at h
 |some eU=>
  rw [au] at h;refine ⟨eU,rfl,?_⟩;by_cases e:v.node.toNat=i
  ·right;simp [e] at h;subst h;exact ⟨rfl,rfl,e⟩
  ·left;simp [e] at h;subst h;exact ⟨rfl,rfl,e⟩
theorem Xx {qm:Conv} {t:dB qm} (h:0<F.waiting t.bw):eW F t=(F,t):=by unfold eW;rw [if_pos (.inr (.inr h))]
end
section
theorem qC (F:a9) (c:Nat):F.fE (c:Int)=F.bl[c]?:=by unfold a9.fE;rw [if_neg (by omega)];simp
end
section
section
variable {qm:Conv}
theorem dK.wT (h:dK F) (aX:wT c j F=some ew):dK ew:=by have af:=h.step ⟨-1,c,j⟩;rw [V3 aX] at af;exact af
end
end
section
def jh (cf:Nat->Option a_) (q:Nat) (d:a_):Nat->Option a_:=λk=>if k=q then some d else cf k
theorem HQ (cf:Nat->Option a_) (q:Nat) (d:a_):jh cf q d q=some d:=if_pos rfl
theorem FX {d:a_} (h:k≠q):jh cf q d k=cf k:=if_neg h
structure R7 (vs:List bn) (cf:Nat->Option a_) (j:Nat) (l:eM):Prop where
 len:l.cP.length=l.pair.bN.length
 Nt:l.cP.Pairwise (·<·)
 at_:∀ (t q:Nat),l.cP[t]?=some q->∃ v,vs[q]?=some v/\l.pair.bN[t]?=some v/\v.node.toNat=j/\cf q=none
structure lk (C:cT) (vs:List bn) (cf:Nat->Option a_):Prop where
 live:C.alive=true
 ds:∃ ds,C.batch=some ds/\ds.length=vs.length/\∀ q d,cf q=some d->ds[q]?=some d
 lane:∀ (j:Nat) (l:eM),C.aU[j]?=some l->R7 vs cf j l
 left:∀ q,q<vs.length->cf q=none->∃ (j:Nat) (l:eM),C.aU[j]?=some l/\q ∈ l.cP
theorem R7.head (h:R7 vs cf j l) (aw:l.pair.bN=x::xs):∃ q dA,l.cP=q::dA/\vs[q]?=some x/\x.node.toNat=j/\cf q=none:=by
 have au:=h.len;rw [aw] at au;cases ar:l.cP with
 |nil=>rw [ar] at au;cases au
 |cons q dA=>obtain ⟨v,af,al,aL,ca⟩:=h.at_ 0 q (by rw [ar];rfl);rw [aw] at al;cases al;exact ⟨q,dA,rfl,af,aL,ca⟩
theorem lk.more (h:lk C vs cf) (au:C.aU[j]?=some l) (ar:p.bN=l.pair.bN):lk (C.comes j l p none) vs cf:=by
 have aK:=dy au;refine ⟨h.live,h.ds,λi l' aD=>?_,λq aM aC=>?_⟩
 ·by_cases e:i=j
  ·subst e;simp [cT.comes,aK] at aD;subst aD;have bE:=h.lane _ l au;exact ⟨by show l.cP.length=p.bN.length;rw [ar];exact bE.len,bE.Nt,λt q aZ=>by obtain ⟨v,bs,bI,dd,ic⟩:=bE.at_ t q aZ;exact ⟨v,bs,by show p.bN[t]?=some v;rw [ar];exact bI,dd,ic⟩⟩
  ·rw [Cg e] at aD;exact h.lane i l' aD
 ·obtain ⟨i,l',aD,hm⟩:=h.left q aM aC;by_cases e:i=j
  ·subst e;rw [au] at aD;cases aD;exact ⟨i,{ l with pair:=p },by simp [cT.comes,aK],hm⟩
  ·exact ⟨i,l',by rw [Cg e];exact aD,hm⟩
theorem lk.done (h:lk C vs cf) (au:C.aU[j]?=some l) (aw:l.pair.bN=x::xs) (ar:p.bN=xs) {dA:eI} (aM:l.cP=q::dA) (d:a_) :
  lk (C.comes j l p (some d)) vs (jh cf q d):=by
 have aK:=dy au;have bE:=h.lane j l au;obtain ⟨ds,ak,hlen,dX⟩:=h.ds;have ao:vs[q]?=some x/\x.node.toNat=j:=by obtain ⟨dZ,aET,e,bs,bI,_⟩:=bE.head aw;rw [aM] at e;cases e;exact ⟨bs,bI⟩
 have UK:q<vs.length:=dy ao.1;have GC:=bE.Nt;rw [aM,WM] at GC;refine ⟨h.live,⟨ds.set q d,?_,by rw [C0];exact hlen,λk e J=>?_⟩,λi l' aD=>?_,λk J aC=>?_⟩
 ·simp [cT.comes,ak,aM]
 ·by_cases bg:k=q
  ·subst bg;rw [HQ] at J;cases J;rw [qe (by omega)]
  ·rw [FX bg] at J;rw [nC (λdF=>bg dF.symm)];exact dX k e J
 ·by_cases e:i=j
  ·subst e;simp [cT.comes,aK] at aD;subst aD;refine ⟨?_,?_,λt k aZ=>?_⟩
   ·show l.cP.tail.length=p.bN.length;have:=bE.len;rw [aM,aw] at this;rw [aM,ar];simpa using this
   ·show l.cP.tail.Pairwise (·<·);rw [aM];exact GC.2
   ·have lz:dA[t]?=some k:=by have:l.cP.tail[t]?=some k:=aZ;rw [aM] at this;exact this
    obtain ⟨v,bs,bI,dd,ic⟩:=bE.at_ (t+1) k (by rw [aM];simpa using lz);have cj:k≠q:=by have:=GC.1 k (dn lz);omega
    refine ⟨v,bs,?_,dd,by rw [FX cj];exact ic⟩;show p.bN[t]?=some v;rw [aw] at bI;rw [ar];simpa using bI
  ·rw [Cg e] at aD;have JA:=h.lane i l' aD;refine ⟨JA.len,JA.Nt,λt k aZ=>?_⟩;obtain ⟨v,bs,bI,dd,ic⟩:=JA.at_ t k aZ;have cj:k≠q:=λbg=>by subst bg;rw [ao.1] at bs;cases bs;exact e (dd.symm.trans ao.2)
   exact ⟨v,bs,bI,dd,by rw [FX cj];exact ic⟩
 ·have cj:k≠q:=λe=>by rw [e,HQ] at aC;cases aC
  rw [FX cj] at aC;obtain ⟨i,l',aD,hm⟩:=h.left k J aC;by_cases e:i=j
  ·subst e;rw [au] at aD;cases aD;rw [aM] at hm;rcases iF.1 hm with bg | bg
   ·exact absurd bg cj
   ·exact ⟨i,⟨p,l.cP.tail⟩,by simp [cT.comes,aK],by show k ∈ l.cP.tail;rw [aM];exact bg⟩
  ·exact ⟨i,l',by rw [Cg e];exact aD,hm⟩
theorem lk.all (h:lk C vs cf) (he:∀ (j:Nat) (l:eM),C.aU[j]?=some l->l.pair.bN=[]):∃ ds,C.batch=some ds/\ds.length=vs.length/\(∀ q d,cf q=some d->ds[q]?=some d)/\∀ q,q<vs.length->∃ d,cf q=some d:=by
 obtain ⟨ds,af,al,aL⟩:=h.ds;refine ⟨ds,af,al,aL,λq aM=>?_⟩;cases aC:cf q with
 |some d=>exact ⟨d,rfl⟩
 |none=>obtain ⟨j,l,au,hm⟩:=h.left q aM aC;have:=(h.lane j l au).len;rw [he j l au] at this;rw [zh.1 this] at hm;cases hm
structure zy (vs:List bn) (k:Nat) (C:cT):Prop where
 lane:∀ (j:Nat) (l:eM),C.aU[j]?=some l->l.cP.length=l.pair.bN.length/\l.cP.Pairwise (·<·)/\∀ (t q:Nat),l.cP[t]?=some q->q<k/\∃ v,vs[q]?=some v/\l.pair.bN[t]?=some v/\v.node.toNat=j
 left:∀ q,q<k->∃ (j:Nat) (l:eM),C.aU[j]?=some l/\q ∈ l.cP
theorem zy.one (h:zy vs k C) (aw:vs[k]?=some v) (aj:v.node.toNat<C.aU.length):zy vs (k+1) (C.k3 k v):=by
 refine ⟨λj l au=>?_,λq aM=>?_⟩
 ·obtain ⟨eU,aN,ab⟩:=ahC au;obtain ⟨bs,bI,dd⟩:=h.lane j eU aN;rcases ab with ⟨bY,bg,_⟩ | ⟨bY,bg,dF⟩
  ·rw [bY,bg];exact ⟨bs,bI,λt q aZ=>by obtain ⟨a,b⟩:=dd t q aZ;exact ⟨by omega,b⟩⟩
  ·rw [bY,bg];refine ⟨by simp [bs],?_,λt q aZ=>?_⟩
   ·rw [List.pairwise_append];refine ⟨bI,List.pairwise_singleton _ _,λa bc b ak=>?_⟩;obtain ⟨t,aZ⟩:=hn.1 bc;have:=(dd t a aZ).1;simp at ak <;> omega
   ·by_cases aK:t<eU.cP.length
    ·rw [nA aK] at aZ;obtain ⟨a,u,b1,aP,bT⟩:=dd t q aZ;exact ⟨by omega,u,b1,by rw [nA (by omega)];exact aP,bT⟩
    ·rw [nB (by omega)] at aZ;have adr:t - eU.cP.length=0:=by have:=dy aZ;simp at this <;> omega
     rw [adr] at aZ;simp at aZ;subst aZ;exact ⟨by omega,v,aw,by rw [nB (by omega),<-bs,adr];rfl,dF⟩
 ·have z3:∀ i,(C.k3 k v).aU[i]?=(C.aU[i]?).map λl=>if v.node.toNat=i then (⟨{ l.pair with bN:=l.pair.bN++[v] },l.cP++[k]⟩:eM) else l:=λi=>by
   unfold cT.k3;simp only [Ic];cases C.aU[i]? with
   |none=>rfl
   |some l=>by_cases e:v.node.toNat=i<;>simp [e]
  by_cases e:q=k
  ·subst e;refine ⟨v.node.toNat,_,by rw [z3,cp aj];rfl,?_⟩;simp
  ·obtain ⟨j,l,au,hm⟩:=h.left q (by omega);refine ⟨j,_,by rw [z3,au];rfl,?_⟩;split
   ·exact Mo _ hm
   ·exact hm
theorem zy.from {vs:List bn}:∀ (us:List bn) {k:Nat} {C:cT},zy vs k C->(∀ i,us[i]?=vs[k+i]?)->(∀ v ∈ us,v.node.toNat<C.aU.length)->zy vs (k+us.length) (C.lF k us)
 | [],k,C,h,hu,aj=>h
 |u::us,k,C,h,hu,aj=>by
  have af:=h.one (v:=u) (by have:=hu 0;simpa using this.symm) (aj u iA);have au:(C.k3 k u).aU.length=C.aU.length:=by simp [cT.k3]
  have al:=zy.from us af (λi=>by have:=hu (i+1);rw [zg] at this;rw [this];congr 1;omega) (λv aw=>by rw [au];exact aj v (jz _ aw));rw [l8,show k+(us.length+1)=k+1+us.length by omega];exact al
theorem lk.post (bc:C.alive=true) (he:∀ (j:Nat) (l:eM),C.aU[j]?=some l->l.pair.bN=[]/\l.cP=[]) (aj:∀ v ∈ vs,v.node.toNat<C.aU.length):lk (C.sI vs) vs λ_=>none:=by
 have aN:zy vs 0 C:=⟨λj l au=>by obtain ⟨bY,bg⟩:=he j l au;rw [bY,bg];exact ⟨rfl,List.Pairwise.nil,λt q aZ=>by simp at aZ⟩,λq aM=>by omega⟩
 have h:=zy.from vs aN (λi=>by rw [l6]) aj;rw [l6] at h;refine ⟨?_,⟨List.replicate vs.length ⟨0,[]⟩,rfl,by simp,λq d e=>by cases e⟩,λj l au=>?_,λq aM _=>h.left q aM⟩
 ·have:∀ (us:List bn) (D:cT) (k:Nat),(D.lF k us).alive=D.alive:=λus=>by
   induction us with
   |nil=>intro D k;rfl
   |cons v vs c5=>intro D k;exact (c5 (D.k3 k v) (k+1)).trans rfl
  exact (this vs C 0).trans bc
 ·obtain ⟨bs,bI,dd⟩:=h.lane j l au;exact ⟨bs,bI,λt q aZ=>by obtain ⟨_,v,b1,aP,bT⟩:=dd t q aZ;exact ⟨v,b1,aP,bT,rfl⟩⟩
end
section
theorem ahp (C:cT) (j:Nat) (l:eM) (p:fx) (d:Option a_):(C.comes j l p d).alive=C.alive:=by cases d<;>rfl
theorem Xy {a:Nat} (h:a+ws.length<=n.words.length):(n.write a ws).words.length=n.words.length:=by unfold bt.write;simp;omega
theorem Hw {a:Nat} (h:a+ws.length<=n.words.length) (i:Nat):(n.write a ws).get i=if a<=i/\i<a+ws.length then ws.getD (i - a) 0 else n.get i:=by
 unfold bt.write bt.get;simp only [gd];by_cases af:i<a
 ·rw [if_neg (by omega),ue,nA (by simp;omega),Ig af]
 ·by_cases al:i<a+ws.length
  ·rw [if_pos ⟨by omega,al⟩,ue,nB (by simp;omega),nA (by simp;omega)];congr 2;simp;omega
  ·rw [if_neg (by omega),nB (by simp;omega),uf];congr 2;simp;omega
theorem aml {a:Nat} (h:a<n.words.length) (v:Int) (i:Nat):({ n with words:=n.words.set a v }:bt).get i=if i=a then v else n.get i:=by
 unfold bt.get;simp only [gd];by_cases e:i=a
 ·subst e;rw [if_pos rfl,qe h];rfl
 ·rw [if_neg e,nC (λbg=>e bg.symm)]
theorem aj' {a:Nat} (h:a<n.words.length):n.read a 1=[n.get a]:=by unfold bt.read;simp only [j_];rw [A2 h];have aX:=bt.get_some h;rw [cp h] at aX;simp at aX;simp [aX]
theorem EH {v:a0} (af:1<=v.count) (al:v.cY % 8+v.count<=8) (aN:0<=v.cY):v.pieces=[(v.cY,v.count)]:=by
 unfold a0.pieces;obtain ⟨f,aJ⟩:∃ f,v.count.toNat=f+1:=⟨v.count.toNat - 1,by omega⟩;rw [aJ,mW,if_neg (by omega)];have e:(if 8 - v.cY % 8<v.count then 8 - v.cY % 8 else v.count)=v.count:=by
  split
  ·omega
  ·rfl
 rw [e];cases f with
 |zero=>rfl
 |succ f=>rw [mW,if_pos (by omega)]
structure n7 (N L:Nat) (x:bn):Prop where
 valid:∀ m:Int,N<=m->m<=5->x.v.valid m L=0
 node:0<=x.node/\x.node<N
 key:x.key=1
 hd:x.hd=1
theorem L4 (aw:p.bN=x::xs) (aA:p.refusal x n=0) :
  p.step n=if p.cu+1<x.v.pieces.length then ({ p with cu:=p.cu+1,words:=p.words++(exec x (x.v.pieces.getD p.cu (0,0)) n).2 },(exec x (x.v.pieces.getD p.cu (0,0)) n).1,none)
   else (p.done,(exec x (x.v.pieces.getD p.cu (0,0)) n).1,some ⟨0,p.words++(exec x (x.v.pieces.getD p.cu (0,0)) n).2⟩):=by
 unfold fx.step;rw [aw];simp only;rw [if_neg (by rw [aA];simp)]
theorem Yw (fO:jW p) (aw:p.bN=x::xs) (aA:p.refusal x n=0) {pc:Int×Int} (af:x.v.pieces=[pc]):p.step n=(p.done,(exec x pc n).1,some ⟨0,(exec x pc n).2⟩):=by
 have au:=fO.nr x xs aw;rw [af] at au;have he:p.cu=0:=by simp at au;exact au
 rw [L4 aw aA,af,he];simp [fO.zero he]
structure Bh (a k:Nat) (n n':bt):Prop where
 len:n'.words.length=n.words.length
 down:n'.down=n.down
 get:∀ i,i<a\/a+k<=i->n'.get i=n.get i
theorem aka (J:x.kind=3) (pc:Int×Int):exec x pc n=(n.kS x.at_ x.old x.new,[n.get x.at_.toNat]):=by unfold exec;rw [if_neg (by omega),if_neg (by omega),if_pos J]
theorem aiF (J:x.kind=1) (aN:0<=x.at_) (au:x.at_.toNat<n.words.length):exec x (x.at_,1) n=(n,[n.get x.at_.toNat]):=by
 unfold exec;rw [if_pos J];have:n.read x.at_ 1=[n.get x.at_.toNat]:=by have h:=aj' au;rw [show ((x.at_.toNat:Nat):Int)=x.at_ by omega] at h;exact h
 simp only [this]
end
end Go.Proofs.YtmkljjbioomepaaGreat
