import Derived.Test.YtmkljjbioomepaaGreata18
set_option linter.all false
set_option maxHeartbeats 4000000
set_option maxRecDepth 100000
namespace Go.Proofs.YtmkljjbioomepaaGreat
open Go.Proofs.Tryz Go.b8
variable {A M:bB} {G:List (List a_)} {K:ax->Nat->Nat->aV} {T:kb} {a c2:ax} {b n9 cap bo n j8 tb:Nat} {j:eP} {m:bp} {o:cl} {r:fW} {u ct b2 w w' w0:av} {vs HX:List bn}
section
theorem alk {r:c0} {W:List a6} (h:jd w r.hO r.gO W) (aw:jD r.Seq W 256≠0):bK 210 [r.val] w λv w'=>v=.slice none 0 0/\ai w w':=by refine bO Tryz.func210 ?_;rw [ut];rintro b1 w1 bA br;obtain ⟨aE,a1⟩:=b4 bA br;have aE:aF w1 b1 r.cells 271:=aE;clear br;refine c0.bd r ⟨cD aE rfl,?_⟩;refine aR (QN (h.new a1) 256) ?_;rintro v aS ⟨rfl,a5⟩;exact ⟨_,rfl,fX (λe=>⟨rfl,a1.new a5⟩) (λe=>absurd e aw)⟩
theorem ai1 (w:av) (s:Int):bK 214 [.int .i64 s] w λv w'=>∃ x e:Int,v=.tuple #[.int .u64 x,.int .i64 e]/\w'=w/\(1<=s/\s<1073741824->x=j7 s):=by
 refine bO Tryz.func214 ?_;rw [VS];refine aR (HP w s 1 1073741823) ?_;rintro v w1 ⟨rfl,rfl⟩;refine ⟨_,rfl,ht (λaJ=>⟨_,_,rfl,rfl,λe=>absurd (of_decide_eq_false aJ) (by omega)⟩) (λ_=>⟨_,_,rfl,rfl,λe=>?_⟩)⟩
 rw [rJ (x:=s) (by omega) (by omega)];rfl
theorem Y6 {seq:Int} {W:List a6} (aX:dp seq) (au:W.length<=12) (ig:∀ p ∈ W,dp p.b5/\dp p.Head/\∀ x ∈ mZ p,dp x):∀ x ∈ je seq W,dp x:=by
 intro x ao;unfold je yS at ao;rcases qT.1 ao with ao | ao
 ·rcases iF.1 ao with rfl | ao
  ·exact aX
  rcases iF.1 ao with rfl | ao
  ·unfold dp;omega
  obtain ⟨l,g3,ao⟩:=A4.1 ao;obtain ⟨p,ar,rfl⟩:=eQ.1 g3;obtain ⟨af,al,aL⟩:=ig p ar;rcases iF.1 ao with rfl | ao
  ·exact af
  rcases iF.1 ao with rfl | ao
  ·exact al
  exact aL x ao
 ·simp at ao;subst ao;exact akL _
def Bc (j:eP):Prop:=∀ p ∈ j.writes,∀ x ∈ mZ p,dp x
theorem amB (ab:iS w0 u bo tb r m j) (aC:Bc j) (bq:h2 A w0 u tb T G) (c7:kl T) :
  bK 172 [ptr bo] u (sR A w0 u tb u.heap.size (F1 j G)):=by
 refine bO Tryz.func172 ?_;rw [ptr,axp];rintro b1 ct bA gx;obtain ⟨bm,a1⟩:=b4 bA gx;have bm:aF ct b1 (cl.cells ⟨0,0⟩) h7:=bm;clear gx;rintro cS ki;have a5:ai ct cS:=by rw [ki];exact eh _
 clear ki;have gI:=a1.new a5;have gC:=ab.ck gI;have r8:=bq.new gI;have fI:=a1.size;have jc:=a5.size;have g3:=bm.lt;have lY:=bq.an.lt;have J_:=ab.cH.bw;have OI:=ab.cH.seq;have a':=ab.du;have od:=a'.bw;have GP:=a'.H3;refine ⟨λy=>aF y bo (uA r tb m) vv,gC.an,_,λy az=>az.cell (i:=0) rfl,fW.bd r ⟨λy az=>cD az rfl,?_⟩⟩;refine aR (Y4 cS (by omega)) ?_;rintro v b2 ⟨rfl,rfl⟩;refine ⟨_,rfl,gC.an,?_⟩;refine aR (Yo b2 r) ?_;rintro v c6 ⟨rfl,bz⟩;refine c0.bd _ ⟨rfl,(gC.ck bz).an,?_⟩;have m4:=gC.ck bz;have dH:jd c6 r.hO r.gO j.writes:=ab.cH.cO.new m4.new;have fin:∀ {ff:av} {a:ax} {n cap:Nat},ai c6 ff->(j.writes≠[]->bW ff a (us (je j.seq j.writes))/\n=(je j.seq j.writes).length/\n<=cap/\(a=none->je j.seq j.writes=[])/\(∀ x ∈ je j.seq j.writes,dp x)/\(je j.seq j.writes).length<=1000000)->
   Calls prog 208 #[(.pointer (some ⟨bo,0,none⟩)),(.int .i64 (iR r.Client+8)),(.slice a n cap),(.int .i64 1)] ff λe dh=>cl.ex λo=>∃ b:Bool,e=.returned (.tuple #[o.val,(.bool b)])/\aF dh bo (uA r tb m) vv/\ha dh ⟨b1,0,none⟩ 0 o.cells/\∀ cR,cR=dO dh ⟨b1,0,none⟩ 0 o.cells->cl.ex λres=>df cR ⟨b1,0,none⟩ 0 res.cells/\cR=cR/\sR A w0 u tb u.heap.size (F1 j G) (.tuple #[res.val,(.bool b)]) cR:=by
  intro ff a n cap bH hw;have mh:=bz.new bH;have ij:=aac (A:=A) (gC.ck mh) (r8.new mh) c7 (at_:=iR j.bw+8) hw 1;rw [J_];refine aR ij ?_;rintro v jP ⟨rfl,hT⟩;have nQ:=mh.size;refine cl.bd _ ⟨_,rfl,hT.aO.an (gC.ck mh).an ab.ne,?_⟩;exact vI (hT.aO.an (ai.an (a5.new mh) bm) (by omega)) rfl _ _ λmU eD=>⟨rfl,hT.put (gI.new mh) (ay.refl _ _) eD (by omega) (by omega) (by omega) (by omega)⟩
 by_cases mJ:j.writes=[]
 ·have cj:jD r.Seq j.writes 256≠0:=λe=>by have:=(pM e).2.1.2.2.1;rw [mJ] at this;simp at this
  refine aR (alk (r:=⟨r.Seq,r.hO,r.gO,r.mC⟩) dH cj) ?_;rintro v ff ⟨rfl,bH⟩;exact ⟨_,_,_,rfl,(m4.ck bH).an,fin bH λe=>absurd mJ e⟩
 ·obtain ⟨aw,aX⟩:=a'.wr mJ;rw [<-OI] at aw aX;refine aR (Rk (r:=⟨r.Seq,r.hO,r.gO,r.mC⟩) dH aw aX GP a'.wl) ?_;rintro v ff ⟨a,cap,rfl,bH,cV,fH⟩;refine ⟨_,_,_,rfl,(m4.ck bH).an,fin bH λ_=>?_⟩
  have cV:bu ff 30 1 a (3+9 * j.writes.length) cap (us (je j.seq j.writes)):=by rw [<-OI];exact cV
  refine ⟨cV.rd,(Cm _ _).symm,bu.le cV,λe=>?_,Y6 (by unfold dp;omega) GP λp ar=>?_,by rw [Cm];omega⟩
  ·rcases cV.2 with ⟨aj,_,_⟩ | ⟨g,cur,a',_⟩
   ·omega
   ·rw [a'] at e;cases e
  ·have:=a'.wl p ar;exact ⟨by unfold dp;omega,dH.u64 p ar,aC p ar⟩
theorem alm (ab:iS w0 u bo tb r m j) (bq:h2 A w0 u tb T G) (c7:kl T) :
  bK 174 [ptr bo] u (sR A w0 u tb u.heap.size (IM j G)):=by
 refine bO Tryz.func174 ?_;rw [ptr,axG];rintro b1 ct bA gx;obtain ⟨bm,a1⟩:=b4 bA gx;have bm:aF ct b1 (cl.cells ⟨0,0⟩) h7:=bm;clear gx;have eC:=ab.ck a1;have fI:=a1.size;have g3:=bm.lt;have lY:=bq.an.lt;have J_:=ab.cH.bw;have OI:=ab.cH.seq;have a':=ab.du;have od:=a'.bw;refine ⟨_,eC.an.cell (i:=1) rfl,?_⟩;refine aR (ai1 ct r.Seq) ?_;rintro v cS ⟨x,e,rfl,rfl,ao⟩;refine ⟨_,_,rfl,_,eC.an.cell (i:=0) rfl,?_⟩;refine aR (Ry cS (by omega)) ?_;rintro v b2 ⟨rfl,rfl⟩;refine ⟨_,rfl,?_⟩;rintro aP c6 cv adw;obtain ⟨dk,bz⟩:=b4 cv adw;have dk:aF c6 aP (us [x]) zF:=dk;clear adw;have pq:=bz.size;rw [J_];have ij:=aac (A:=A) (eC.ck bz) ((bq.new a1).new bz) c7 (a:=some ⟨aP,0,none⟩) (n:=1) (cap:=1) (at_:=iR j.bw) (ws:=[j7 j.seq]) (λhw=>by obtain ⟨_,aX⟩:=a'.wr hw;have Aj:=ao (by omega);rw [Aj,OI] at dk;exact ⟨jk dk rfl,rfl,by omega,(λe=>by cases e),(λy az=>by simp at az;subst az;exact Rx _),by simp⟩) 2
 refine aR ij ?_;rintro v jP ⟨rfl,hT⟩;refine cl.bd _ ⟨_,rfl,?_⟩;exact vI (hT.aO.an (ai.an bz bm) (by omega)) rfl _ _ λmU eD=>⟨rfl,hT.put (a1.new bz) (ay.refl _ _) eD (by omega) (by omega) (by omega) (by omega)⟩
theorem Qw (l:List a0):(l.map a0.cells).flatten=(gG l).flatten:=rfl
theorem cy.I7 {V5:av} (h:cy w0 ct a n cap vs) (aN:ai w0 ct) (al:cy V5 ct c2 j8 n9 HX) (aK:∀ k,a7 a k->k<V5.heap.size) (U7:w0.heap.size<=V5.heap.size) (aJ:n+j8<=100000)
  (J:∀ ap bU aY,cy w0 aY ap (n+j8) bU (vs++HX)->ay (a7 a) ct aY->ai w0 aY->K ap (n+j8) bU aY) :
  ∃ (ap:ax) (h_ h9:Nat),∃ aY,(Builtin.append_ #[k7,k7] k7 #[(.slice a n cap),(.slice c2 j8 n9)]).run prog ct=.ok (.slice ap h_ h9) aY/\K ap h_ h9 aY:=by
 obtain ⟨⟨dD,aq,eb⟩,au,fH⟩:=h;obtain ⟨⟨HG,re,Es⟩,nM,aDO⟩:=al;obtain ⟨inf,aD,aE,cr,gm⟩:=j5 (T:=d8) (z:=.agg #[.int .i64 0,.int .i64 0,.int .i64 0,.int .i64 0,.int .u64 0,.int .u64 0,.slice none 0 0,.int .u64 0,.int .i64 0]) (n:=9) (m:=88) (by kernel_rfl);have Pa:=aN.size;refine Fp (cells:=a0.cells) (sz:=9) a0.len a0.single Tryz.underlying125 aD aE (by rw [cr];rfl) cr (by decide) (by rw [gm];decide) (l:=dD) (by rw [Qw];exact aq) (l2:=HG) (m:=j8) (by rw [Qw];exact re.rd) (by rw [Es.1];exact nM) (by omega) λap bU aY af ek fC=>?_
 have BE:∀ k,a7 ap k->w0.heap.size<=k:=λk J=>by
  rcases fC k J with e | e
  ·exact fH k e
  ·omega
 refine J ap bU aY ⟨⟨dD++HG,af,?_⟩,by rw [gp,au,nM],BE⟩ ek (aN.trans ek λk aK e=>by have:=fH k e;omega);have cq:∀ k,k<ct.heap.size->(k<w0.heap.size\/a7 ap k)->(k<w0.heap.size\/a7 a k):=λk aK e=>e.imp id λe=>by
  rcases fC k e with e | e
  ·exact e
  ·omega
 refine hp.app (eb.aO (ek.mono λk _ e=>.inr e) cq) ?_;have oP:hp (λk=>k<w0.heap.size\/a7 a k) ct HG HX:=Es.aO (ay.refl _ _) λk _ e=>by
  rcases e with e | e
  ·left;omega
  ·left;exact aK k e
 exact oP.aO (ek.mono λk _ e=>.inr e) cq
def rp (j:eP) (m:bp):List bn:=if j.writes=[] then [] else j.writes.map (qa j m)++[tW j m]
def C6 (j:eP):List bn:=(j.v.mem.tail.map (rp j)).flatten
def zn (j:eP) (G:List (List a_)):dM:=dz G (C6 j) 3
theorem aj5 (j:eP) (m:bp):(rp j m).length<=j.writes.length+1:=by
 unfold rp;split
 ·simp
 ·simp
theorem Rz {α:Type} {b:Nat}:∀ (l:List (List α)),(∀ x ∈ l,x.length<=b)->l.flatten.length<=l.length * b
 | [],_=>by simp
 |x::l,h=>by
  have af:=h x iA;have al:=Rz l λy az=>h y (jz _ az)
  rw [l7,gp,l8,nz];omega
theorem aln {cI:bp} (ab:iS w0 u bo tb r cI j) (aC:Bc j) (bq:h2 A w0 u tb T G) (c7:kl T) :
  bK 175 [ptr bo] u (sR A w0 u tb u.heap.size (zn j G)):=by
 refine bO Tryz.func175 ?_;rw [ptr,avQ];rintro b1 ct bA gx;obtain ⟨bm,a1⟩:=b4 bA gx;have bm:aF ct b1 (cl.cells ⟨0,0⟩) h7:=bm;clear gx;have eC:=ab.ck a1;have fI:=a1.size;have g3:=bm.lt;have lY:=bq.an.lt;have a':=ab.du;have sh:=a'.mem;have GP:=a'.H3;have hlen:=ab.cH.cO.len;obtain ⟨zw,kX⟩:=ab.cH.view;refine e3.bd r.View ⟨cD eC.an rfl,?_⟩;refine aR (XV (kX.new eC.new) sh.1) ?_;rintro v cS ⟨lP,iZ,rfl,a5,vU⟩;refine ⟨_,_,_,rfl,?_⟩;have gC:=eC.ck a5;have jc:=a5.size;have aEw:j.v.mem.tail.length=j.v.mem.length - 1:=FD;refine e2 mix (λq env z=>∃ (i n:Nat) (pa:ax) (pc:Nat) (aT:aH),q=j.v.mem.tail.length - i/\i<=j.v.mem.tail.length/\env=Jd ⟨bo,0,none⟩ ⟨b1,0,none⟩ pa n pc lP (j.v.mem.length - 1) iZ ((j.v.mem.length - 1:Nat):Int) i aT/\ai cS z/\cy cS z pa n pc (((j.v.mem.tail.take i).map (rp j)).flatten)) j.v.mem.tail.length
  ⟨0,0,none,0,_,rfl,by omega,rfl,ay.refl _ _,cy.nil _ _⟩ ?_
 rintro q env z ⟨i,n,pa,pc,aT,rfl,aD,rfl,da,d'⟩;rw [auQ];have hP:=gC.ck da;have cr:=da.size;have Cc:=d'.len;have aD6:n<=1000:=by
  have af:=Rz (b:=j.writes.length+1) ((j.v.mem.tail.take i).map (rp j)) λx ao=>by obtain ⟨m,_,rfl⟩:=eQ.1 ao;exact aj5 j m
  rw [jS,o2] at af;have al:min i j.v.mem.tail.length * (j.writes.length+1)<=5 * 13:=CW (by omega) (by omega);omega
 refine bL (λaK=>?_) (λhQ=>?_)
 ·obtain ⟨m,hm⟩:∃ m,j.v.mem.tail[i]?=some m:=⟨_,cp (by omega)⟩;have tp:=a'.hd m (Il (dn hm));have fb:gF m.dJ:=by unfold gF;omega
  have N1:((j.v.mem.tail.take (i+1)).map (rp j)).flatten=((j.v.mem.tail.take i).map (rp j)).flatten++rp j m:=by rw [iW,hm];simp
  refine hq (cells:=bp.cells) bp.len (by omega) (vU.new da) hm rfl (by omega) λb o gD _=>bp.bd m ⟨gD,?_⟩
  refine g0 (vs:=m.cells) rfl (bp.single _) λbT dq ej cx bf=>⟨_,_,_,(hP.ck bf).an.cell (i:=6) rfl,?_⟩
  have j2:=bf.size;rw [cn (x:=(i:Int)+1) (by omega) (by omega)];refine bL (λhw=>?_) (λhw=>?_)
  ·have mJ:j.writes≠[]:=λe=>by rw [e] at hlen;simp at hlen <;> omega
   obtain ⟨_,pr⟩:=a'.wr mJ;refine bp.bd m ⟨cD cx rfl,?_⟩;refine aR (Yt (hP.ck bf) aC fb) ?_;rintro v hh ⟨lv,gc,rfl,U1,bz⟩;refine ⟨_,_,_,rfl,?_⟩;have UB:∀ k,a7 pa k->k<dq.heap.size:=λk J=>by obtain ⟨dD,aq,_⟩:=d'.ex;have:=aq.lt J;omega
   refine cy.I7 ((d'.new bf).new bz) ((da.new bf).new bz) U1 UB (by omega) (by omega) λap bU gK c9 g_ bH=>?_
   have TD:iS w0 gK bo tb r cI j:=((hP.ck bf).ck bz).aO g_ λk J=>by
    have h4:=d'.kD k J;have zP:=gC.new.size;refine ⟨by omega,λe=>?_⟩
    obtain ⟨dD,aq,_⟩:=d'.ex;obtain ⟨cs,dG⟩:=jX aq J;exact absurd (e▸dG |>.ne hP.an (by decide)) (λed=>ed rfl)
   have Vf:aF gK bT m.cells hN:=g_.an (ai.an bz cx) λe=>by obtain ⟨dD,aq,_⟩:=d'.ex;have:=aq.lt e;omega
   refine bp.bd m ⟨cD Vf rfl,?_⟩;refine aR (Ys TD pr fb) ?_;rintro v jq ⟨bX,rfl,d_,cg⟩;refine a0.bd bX ⟨rfl,?_⟩;rintro ec nw iO fQ;refine cy.u9 c9 bH cg d_ (by omega) iO fQ λDr mF o0 hj fe eT=>?_
   have rZ:((j.v.mem.tail.take i).map (rp j)).flatten++j.writes.map (qa j m)++[tW j m]=((j.v.mem.tail.take (i+1)).map (rp j)).flatten:=by rw [N1];unfold rp;rw [if_neg mJ,ue]
   rw [rZ] at hj;exact ⟨j.v.mem.tail.length - (i+1),by omega,i+1,_,Dr,mF,_,rfl,by omega,rfl,eT,hj⟩
  ·have mJ:j.writes=[]:=jR (by omega);refine ⟨j.v.mem.tail.length - (i+1),by omega,i+1,n,pa,pc,_,rfl,by omega,rfl,da.new bf,?_⟩;have rZ:rp j m=[]:=by unfold rp;rw [if_pos mJ]
   rw [N1,rZ,qd];exact d'.new bf
 ·have g2:i=j.v.mem.tail.length:=by omega
  subst g2;rw [au0];rw [nx] at d';have d':cy cS z pa n pc (C6 j):=d';have aEC:=d'.len;have acL:=(a1.new a5).new da;have ij:=FW (A:=A) hP (bq.new acL) c7 gC.new (w1:=cS) (by omega) d' (by omega) 3;refine aR ij ?_;rintro v c6 ⟨f8,dc,raw,rfl,hT,_⟩;refine ⟨_,_,_,cl.bd ⟨(zn j G).out.1,(zn j G).out.2⟩ ⟨(zn j G).ok,rfl,?_⟩⟩;have dk:aF c6 b1 (cl.cells ⟨0,0⟩) h7:=hT.aO.an (ai.an (a5.new da) bm) (by omega);refine aab dk rfl _ λff jP bH eu=>⟨rfl,hT.put acL bH eu (by omega) (by omega) (by omega) (by omega)⟩
end
section
theorem q3 {k mo mq:Nat} (h:(some ⟨b,mo,none⟩:ax)=some ⟨k,mq,none⟩):b=k/\mo=mq:=by injection h with h;injection h with af al;exact ⟨af,al⟩
theorem aF.get {i:Nat} {cs:aH} {T:TypeId} {v:bx} (h:aF w b cs T) (ab:w.cell? ⟨b,i,none⟩=some v):cs[i]?=some v:=by unfold World.cell? at ab;simp only [show w.heap[(⟨b,i,none⟩:bh).block]?=_ from h] at ab;simpa using ab
theorem cy.auP {b_:av} (h:cy w0 u a n cap vs) (ak:aF u b o.cells h7) (J:ay (λk=>k=b) u b_):cy w0 b_ a n cap vs:=by
 obtain ⟨⟨dD,aq,aw⟩,au,aJ⟩:=h;have zU:¬ a7 a b:=λe=>by obtain ⟨cs,dG⟩:=jX aq e;exact dG.ne ak (by decide) rfl
 refine ⟨⟨dD,aq.aO J λk J e=>zU (e▸J),aw.1,λi v x af al=>?_⟩,au,aJ⟩;have ao:=aw.2 i v x af al;have hg:ei (λk=>k=b\/(k<w0.heap.size\/a7 a k)) u v x:=by
  refine ⟨ao.eq,ao.rd,ao.nil,?_,ao.wf,ao.new,ao.old,ao.key,ao.hd,ao.cap,ao.sU⟩;by_cases he:x.words=[]
  ·exact .inl he
  ·right;have pU:=ao.off.resolve_left he;have dw:=ao.rd;cases hw:v.Words with
   |none=>trivial
   |some ch=>
    rw [hw] at pU dw;rintro (e | e)
    ·obtain ⟨y,ys,Hd⟩:=Fz he;rcases dw with aA | ⟨b',gk,bg,ab⟩
     ·rw [Hd] at aA;cases aA
     ·simp only [iX] at bg;subst bg;have e:b'=b:=e;subst e;have aN:=ab 0 (.int .u64 y) (by rw [Hd];rfl);rw [vp] at aN;have af:=aF.get ak aN;rcases gk with _ | _ | gk
      ·cases af
      ·cases af
      ·cases af
    ·exact pU e
 exact (hg.aO (J.mono λk _ e=>.inl e) λ_ _ e=>e).mono λk e=>.inr e
theorem k'.aw9 {cS c6:av} {B B':Nat} {R:dM} (h:k' A w0 ct tb B R cS) (aj:ai u ct) (a5:ai cS b2) (aq:aF b2 b o.cells h7) (J:ay (λk=>k=b) b2 c6) (ak:u.heap.size<=b) (fb:b≠tb) (hy:B'<=B):k' A w0 u tb B' R c6:=by
 obtain ⟨hk,er,aZ,hw,bc⟩:=h;refine ⟨(((ay.db aj).trans hk λ_ _ e=>e).new a5).trans J λk aK e=>by omega,er,(aZ.new a5).aO J λe=>fb e.symm,hw,?_⟩;cases cC:R.ask with
 |none=>rw [cC] at bc;exact bc
 |some vs=>rw [cC] at bc;obtain ⟨aN,w1,af,al,aL⟩:=bc;exact ⟨aN,w1,af,by omega,(aL.new a5).auP aq J⟩
def rP (M:bB) (w:av) (a:ax) (n:Nat) (vs:List bn):Prop:=∃ dD:List a0,bW w a (gG dD).flatten/\hp M w dD vs/\n=vs.length
theorem rP.new {M:bB} {w w':av} {a:ax} {n:Nat} {vs:List bn} (h:rP M w a n vs) (aj:ai w w'):rP M w' a n vs:=by obtain ⟨dD,af,al,aL⟩:=h;exact ⟨dD,af.new aj,al.aO (ay.db aj) λ_ _ e=>e,aL⟩
theorem cy.np (h:cy w0 u a n cap vs) (c1:∀ k,k<u.heap.size->M k->k<w0.heap.size):rP M u a n vs:=by obtain ⟨⟨dD,aq,aw⟩,au,aJ⟩:=h;exact ⟨dD,aq.rd,aw.aO (ay.refl _ _) λk aK e=>.inl (c1 k aK e),au⟩
theorem rP.wide {M':bB} (h:rP M w a n vs) (aj:ai w w') (c1:∀ k,k<w.heap.size->M' k->M k):rP M' w' a n vs:=by obtain ⟨dD,af,al,aL⟩:=h;refine ⟨dD,af.new aj,?_,aL⟩;have ca:hp M' w dD vs:=al.aO (ay.refl _ _) c1;exact ca.aO (ay.db aj) λ_ _ e=>e
theorem cy.aaO (h:cy w0 ct a n cap vs) (aN:ai w0 ct) (al:rP (λk=>k<w0.heap.size\/a7 a k) ct c2 j8 HX) (aJ:n+j8<=100000)
  (J:∀ ap bU aY,cy w0 aY ap (n+j8) bU (vs++HX)->ay (a7 a) ct aY->ai w0 aY->K ap (n+j8) bU aY) :
  ∃ (ap:ax) (h_ h9:Nat),∃ aY,(Builtin.append_ #[k7,k7] k7 #[(.slice a n cap),(.slice c2 j8 n9)]).run prog ct=.ok (.slice ap h_ h9) aY/\K ap h_ h9 aY:=by
 obtain ⟨⟨dD,aq,eb⟩,au,fH⟩:=h;obtain ⟨HG,re,Es,nM⟩:=al;obtain ⟨inf,aD,aE,cr,gm⟩:=j5 (T:=d8) (z:=.agg #[.int .i64 0,.int .i64 0,.int .i64 0,.int .i64 0,.int .u64 0,.int .u64 0,.slice none 0 0,.int .u64 0,.int .i64 0]) (n:=9) (m:=88) (by kernel_rfl);have Pa:=aN.size;refine Fp (cells:=a0.cells) (sz:=9) a0.len a0.single Tryz.underlying125 aD aE (by rw [cr];rfl) cr (by decide) (by rw [gm];decide) (l:=dD) (by rw [Qw];exact aq) (l2:=HG) (m:=j8) (by rw [Qw];exact re) (by rw [Es.1];exact nM) (by omega) λap bU aY af ek fC=>?_
 have BE:∀ k,a7 ap k->w0.heap.size<=k:=λk J=>by
  rcases fC k J with e | e
  ·exact fH k e
  ·omega
 have cq:∀ k,k<ct.heap.size->(k<w0.heap.size\/a7 ap k)->(k<w0.heap.size\/a7 a k):=λk aK e=>e.imp id λe=>by
  rcases fC k e with e | e
  ·exact e
  ·omega
 exact J ap bU aY ⟨⟨dD++HG,af,hp.app (eb.aO (ek.mono λk _ e=>.inr e) cq) (Es.aO (ek.mono λk _ e=>.inr e) cq)⟩,by rw [gp,au,nM],BE⟩ ek (aN.trans ek λk aK e=>by have:=fH k e;omega)
theorem cy.box {v:a0} {x:bn} (aj:ai b2 w) (aw:ei (λk=>k<b2.heap.size) w v x) (ak:b=w.heap.size) (hw:w'=w.alloc (.cells v.cells.toArray d8)):cy b2 w' (some ⟨b,0,none⟩) 1 1 [x]/\ai w w':=by
 obtain ⟨aE,jH⟩:=b4 ak hw;have aE:aF w' b v.cells d8:=aE;have aX:=aj.size;refine ⟨⟨⟨[v],⟨rfl,.inr ⟨b,_,rfl,aE,by omega,by decide,rfl,by rw [show (gG [v]).flatten=v.cells by simp [gG]];rfl⟩⟩,hp.one ?_⟩,rfl,λk J=>by obtain ⟨o,aq⟩:=J;simp at aq <;> omega⟩,jH⟩;have af:ei (λk=>k<b2.heap.size\/a7 (some ⟨b,0,none⟩) k) w v x:=aw.aO (ay.refl _ _) λk aK e=>by
  rcases e with e | ⟨o,aq⟩
  ·exact e
  ·exfalso;have vS:b=k/\0=o:=q3 aq;omega
 exact af.aO (ay.db jH) λ_ _ e=>e
def nJ (j:eP):List bn:=match j.v.mem with
 |m::_=>tW j m::j.writes.map (qa j m)
 | []=>[]
def yc (j:eP) (G:List (List a_)):dM:=if j.writes=[] then F0 G else dz G (nJ j) 3
structure FS (A:bB) (w0 b2:av) (bo tb b1:Nat) (r:fW) (cI:bp) (j:eP) (T:kb) (G:List (List a_)) (w:av):Prop where
 fz:iS w0 w bo tb r cI j
 j9:h2 A w0 w tb T G
 b1:aF w b1 (cl.cells ⟨0,0⟩) h7
 new:ai b2 w
theorem FS.ck {A:bB} {w0 b2 w w':av} {bo tb b1:Nat} {r:fW} {cI:bp} {j:eP} {T:kb} {G:List (List a_)} (h:FS A w0 b2 bo tb b1 r cI j T G w) (aj:ai w w'):FS A w0 b2 bo tb b1 r cI j T G w':=
 ⟨h.fz.ck aj,h.j9.new aj,ai.an aj h.b1,h.new.new aj⟩
theorem FS.aO {A:bB} {w0 b2 w w':av} {bo tb b1:Nat} {r:fW} {cI:bp} {j:eP} {T:kb} {G:List (List a_)} (h:FS A w0 b2 bo tb b1 r cI j T G w) {M:bB} (J:ay M w w') (c1:∀ k,M k->b2.heap.size<=k) (ab:bo<b2.heap.size) (aZ:tb<b2.heap.size) (ak:b1<b2.heap.size) (aN:w0.heap.size<=b2.heap.size):FS A w0 b2 bo tb b1 r cI j T G w':=
 ⟨h.fz.aO J λk e=>by have:=c1 k e;omega,h.j9.aO J λe=>by have:=c1 _ e;omega,J.an h.b1 λe=>by have:=c1 _ e;omega,h.new.trans J λk aK e=>by have:=c1 k e;omega⟩
section
variable {A:bB} {w0 u b2:av} {bo tb b1:Nat} {r:fW} {cI:bp} {j:eP} {T:kb} {G:List (List a_)}
theorem amC (aN:ai u b2) (ab:bo<b2.heap.size) (aZ:tb<b2.heap.size) (ak:b1<b2.heap.size) (aqE:u.heap.size<=b1) (fb:b1≠tb) (dY:ai w0 b2) (c7:kl T) {R:dW} (cC:∀ v w',sR A w0 u tb u.heap.size (dz G (nJ j) 3) v w'->R v w') {w:av} (aJ:FS A w0 b2 bo tb b1 r cI j T G w) {a:ax} {n cap:Nat} (aw:cy b2 w a n cap (nJ j)) (au:n<=100000) :
  Calls prog 213 #[(.pointer (some ⟨bo,0,none⟩)),(.slice a n cap),(.int .i64 3)] w λe e6=>∃ (k:ax) (l m:Nat),cl.ex λDA=>∃ (n:Bool),e=.returned (.tuple #[(.slice k l m),DA.val,(.bool n)])/\aF e6 bo (uA r tb cI) vv/\∀ bT hD,bT=e6.heap.size->hD=e6.alloc (.cells #[(.int .i64 0),(.int .i64 0)] h7)->aF hD bo (uA r tb cI) vv/\ha hD ⟨bT,0,none⟩ 0 DA.cells/\∀ d9,d9=dO hD ⟨bT,0,none⟩ 0 DA.cells->cl.ex λr=>df d9 ⟨bT,0,none⟩ 0 r.cells/\ha d9 ⟨b1,0,none⟩ 0 r.cells/\∀ ea,ea=dO d9 ⟨b1,0,none⟩ 0 r.cells->cl.ex λn9=>df ea ⟨b1,0,none⟩ 0 n9.cells/\ea=ea/\R (.tuple #[n9.val,(.bool n)]) ea:=by
 have ij:=FW (A:=A) aJ.fz aJ.j9 c7 dY aZ aw (by have:=aw.len;omega) 3;refine aR ij ?_;rintro v e6 ⟨f8,dc,raw,rfl,hT,_⟩;refine ⟨_,_,_,cl.bd ⟨(dz G (nJ j) 3).out.1,(dz G (nJ j) 3).out.2⟩ ⟨_,rfl,?_⟩⟩;have abU:aF e6 bo (uA r tb cI) vv:=hT.aO.an aJ.fz.an aJ.fz.ne;refine ⟨abU,?_⟩;rintro bT hD ej uZ;obtain ⟨kI,gJ⟩:=b4 ej uZ;have kI:aF hD bT (cl.cells ⟨0,0⟩) h7:=kI;clear uZ;have UR:=hT.aO.size;have UU:=aJ.new.size;have Pa:=aN.size;refine ⟨ai.an gJ abU,gL kI rfl (cl.single _) λd9 Ex Kb=>cl.bd _ ⟨cD Ex rfl,?_⟩⟩;have Td:aF d9 b1 (cl.cells ⟨0,0⟩) h7:=Kb.an (ai.an gJ (hT.aO.an aJ.b1 fb)) (by omega);refine gL Td rfl (cl.single _) λea bm hk=>cl.bd _ ⟨cD bm rfl,rfl,cC _ _ ⟨rfl,?_⟩⟩
 have BZ:ai e6 d9:=gJ.trans Kb λk aK e=>by omega
 exact hT.put (aN.new aJ.new) BZ hk (by omega) ak (by omega) (by omega)
theorem aoI (aN:ai u b2) (ab:bo<b2.heap.size) (aZ:tb<b2.heap.size) (ak:b1<b2.heap.size) (aqE:u.heap.size<=b1) (fb:b1≠tb) (dY:ai w0 b2) (c7:kl T) {R:dW} (cC:∀ v w',sR A w0 u tb u.heap.size (dz G (nJ j) 3) v w'->R v w') {w:av} (aJ:FS A w0 b2 bo tb b1 r cI j T G w) {a:ax} {n cap:Nat} (aw:cy b2 w a n cap (nJ j)) (au:n<=100000) {ec:Nat} (dk:aF w ec (cl.cells ⟨0,0⟩) h7) (iO:b2.heap.size<=ec) :
  Calls prog 213 #[(.pointer (some ⟨bo,0,none⟩)),(.slice a n cap),(.int .i64 3)] w λe Bt=>∃ (k:ax) (l m:Nat),cl.ex λDA=>∃ (n:Bool),e=.returned (.tuple #[(.slice k l m),DA.val,(.bool n)])/\aF Bt bo (uA r tb cI) vv/\ha Bt ⟨ec,0,none⟩ 0 DA.cells/\∀ d9,d9=dO Bt ⟨ec,0,none⟩ 0 DA.cells->cl.ex λr=>df d9 ⟨ec,0,none⟩ 0 r.cells/\ha d9 ⟨b1,0,none⟩ 0 r.cells/\∀ ea,ea=dO d9 ⟨b1,0,none⟩ 0 r.cells->cl.ex λn9=>df ea ⟨b1,0,none⟩ 0 n9.cells/\ea=ea/\R (.tuple #[n9.val,(.bool n)]) ea:=by
 have ij:=FW (A:=A) aJ.fz aJ.j9 c7 dY aZ aw (by have:=aw.len;omega) 3;refine aR ij ?_;rintro v e6 ⟨f8,dc,raw,rfl,hT,_⟩;refine ⟨_,_,_,cl.bd ⟨(dz G (nJ j) 3).out.1,(dz G (nJ j) 3).out.2⟩ ⟨_,rfl,?_⟩⟩;have UR:=hT.aO.size;have UU:=aJ.new.size;have Pa:=aN.size;have adT:aF e6 ec (cl.cells ⟨0,0⟩) h7:=hT.aO.an dk (by omega);refine ⟨hT.aO.an aJ.fz.an aJ.fz.ne,gL adT rfl (cl.single _) λd9 Ex Kb=>cl.bd _ ⟨cD Ex rfl,?_⟩⟩;have Td:aF d9 b1 (cl.cells ⟨0,0⟩) h7:=Kb.an (hT.aO.an aJ.b1 fb) (by omega);refine gL Td rfl (cl.single _) λea bm hk=>cl.bd _ ⟨cD bm rfl,rfl,cC _ _ ⟨rfl,?_⟩⟩
 have atp:=hT.aw9 (u:=u) (B':=b2.heap.size) (aN.new aJ.new) (ay.refl _ _) adT Kb (by omega) (by omega) (eJ _);exact atp.put (ay.refl _ _) (ay.refl _ _) hk (by omega) ak (by omega) (by omega)
theorem aj6 (gu:iS w0 u bo tb r cI j) (aC:Bc j) (bq:h2 A w0 u tb T G) (c7:kl T) :
  bK 176 [ptr bo] u (sR A w0 u tb u.heap.size (yc j G)):=by
 refine bO Tryz.func176 ?_;rw [ptr,awm];rintro b1 ct bA gx;obtain ⟨bm,a1⟩:=b4 bA gx;have bm:aF ct b1 (cl.cells ⟨0,0⟩) h7:=bm;clear gx;have eC:=gu.ck a1;have oJ:=bq.new a1;have hlen:=gu.cH.cO.len;have fI:=a1.size;have g3:=bm.lt;have lY:=bq.an.lt;have th:=gu.an.lt;have a':=gu.du;have GP:=a'.H3;have lx:=gu.mem;have tp:=a'.hd cI (dn lx);have JQ:gF cI.dJ:=by unfold gF;omega
 have aps:nJ j=[tW j cI]++j.writes.map (qa j cI):=by
  unfold nJ;cases pT:j.v.mem with
  |nil=>rw [pT] at lx;cases lx
  |cons x xs=>rw [pT] at lx;simp at lx;subst lx;rfl
 unfold yc;refine ⟨_,_,_,eC.an.cell (i:=6) rfl,gX (λe=>?_) (λe=>?_)⟩
 ·have mJ:j.writes=[]:=jR (by omega);rw [if_pos mJ];exact vI bm rfl 0 0 λc6 dv=>⟨rfl,(k'.skip (B:=ct.heap.size) oJ c7 (ay.refl _ _)).put a1 (ay.refl _ _) dv (by omega) g3 (by omega) fI⟩
 ·have mJ:j.writes≠[]:=λbg=>by rw [bg] at hlen;simp at hlen <;> omega
  rw [if_neg mJ];obtain ⟨_,pr⟩:=a'.wr mJ;rintro b2 oi;have bf:ai ct b2:=by rw [oi];exact eh _
  clear oi;have abf:=a1.new bf;have j2:=bf.size;have GK:FS A w0 b2 bo tb b1 r cI j T G b2:=⟨eC.ck bf,oJ.new bf,ai.an bf bm,ay.refl _ _⟩;have dY:=GK.fz.new;have aEE:=dY.size;have so:=@amC A w0 u b2 bo tb b1 r cI j T G abf (by omega) (by omega) (by omega) (by omega) (by omega) dY c7 (sR A w0 u tb u.heap.size (dz G (nJ j) 3)) (λ_ _ h=>h);have yW:=@aoI A w0 u b2 bo tb b1 r cI j T G abf (by omega) (by omega) (by omega) (by omega) (by omega) dY c7 (sR A w0 u tb u.heap.size (dz G (nJ j) 3)) (λ_ _ h=>h);have app:∀ {w:av} {aP:Nat} {d:ax} {n g:Nat},FS A w0 b2 bo tb b1 r cI j T G w->cy b2 w (some ⟨aP,0,none⟩) 1 1 [tW j cI]->n=j.writes.length->rP (λk=>k<b2.heap.size\/a7 (some ⟨aP,0,none⟩) k) w d n (j.writes.map (qa j cI))->∀ {K:ax->Nat->Nat->aV},(∀ ap m c w',FS A w0 b2 bo tb b1 r cI j T G w'->cy b2 w' ap m c (nJ j)->m<=100000->ay (a7 (some ⟨aP,0,none⟩)) w w'->K ap m c w')->
    ∃ (ap:ax) (h i:Nat),∃ cR,(Builtin.append_ #[k7,k7] k7 #[(.slice (some ⟨aP,0,none⟩) 1 1),(.slice d n g)]).run prog w=.ok (.slice ap h i) cR/\K ap h i cR:=by
   intro w aP d n g aJ d' aj fP K f';refine cy.aaO d' aJ.new fP (by omega) λap bU aY i' eD dg=>?_
   rw [<-aps] at i';exact f' ap _ bU aY (aJ.aO eD (λk J=>d'.kD k J) (by omega) (by omega) (by omega) (by omega)) i' (by omega) eD
  have Cr:∀ {w w':av} {b:Nat},FS A w0 b2 bo tb b1 r cI j T G w->b=w.heap.size->w'=w.alloc (.cells #[(.int .i64 0),(.int .i64 0)] h7)->FS A w0 b2 bo tb b1 r cI j T G w'/\ai w w'/\aF w' b (cl.cells ⟨0,0⟩) h7/\b2.heap.size<=b:=by intro w w' b aJ ak hw;obtain ⟨aE,aj⟩:=b4 ak hw;have:=aJ.new.size;exact ⟨aJ.ck aj,aj,aE,by omega⟩
  have et:∀ {w:av} {K:Ending->aV},FS A w0 b2 bo tb b1 r cI j T G w->(∀ (bX:a0) w',FS A w0 b2 bo tb b1 r cI j T G w'->ai w w'->ei (λk=>k<b2.heap.size) w' bX (tW j cI)->K (.returned bX.val) w')->Calls prog 218 #[(.pointer (some ⟨bo,0,none⟩)),cI.val] w K:=by intro w K aJ f';refine aR (Ys aJ.fz pr JQ) ?_;rintro v w' ⟨bX,rfl,d_,aj⟩;have:=aJ.new.size;exact f' bX w' (aJ.ck aj) aj (d_.mono λk J=>by omega)
  have p2:∀ {w:av} {K:Ending->aV},FS A w0 b2 bo tb b1 r cI j T G w->(∀ (a:ax) (c:Nat) w',FS A w0 b2 bo tb b1 r cI j T G w'->ai w w'->cy w w' a j.writes.length c (j.writes.map (qa j cI))->K (.returned (.slice a j.writes.length c)) w')->Calls prog 217 #[(.pointer (some ⟨bo,0,none⟩)),cI.val] w K:=by intro w K aJ f';refine aR (Yt aJ.fz aC JQ) ?_;rintro v w' ⟨a,c,rfl,d_,aj⟩;exact f' a c w' (aJ.ck aj) aj d_
  have GD:∀ {w:av} {aP k:Nat},aP<w.heap.size->(k<b2.heap.size\/a7 (some ⟨aP,0,none⟩) k)->b2.heap.size<=w.heap.size->k<w.heap.size:=by
   intro w aP k af al aL;rcases al with e | ⟨o,aq⟩
   ·omega
   ·have:aP=k/\0=o:=q3 aq;omega
  have PY:∀ {w:av} {aP n c:Nat} {vs:List bn},cy b2 w (some ⟨aP,0,none⟩) n c vs->aP<w.heap.size:=by intro w aP n c vs h;obtain ⟨dD,aq,_⟩:=h.ex;exact aq.lt ⟨0,rfl⟩
  refine ⟨λy=>aF y bo (uA r tb cI) vv,GK.fz.an,bp.bd cI ⟨λy az=>cD az rfl,bp.bd cI ⟨λy az=>cD az rfl,?_⟩⟩⟩;refine ⟨et GK λbX bZ tj bz wi=>a0.bd bX ⟨rfl,tj.fz.an,?_,?_,?_⟩,?_⟩
  ·
   rintro aP cK cv eO;obtain ⟨pY,bH⟩:=cy.box tj.new wi cv eO;have nK:=tj.ck bH;have nQ:=nK.new.size;have ih:=PY pY;refine ⟨nK.fz.an,?_,?_⟩
   ·refine p2 nK λd c dh ke cg jI=>⟨_,_,_,rfl,ke.fz.an,?_,?_⟩
    ·refine app ke (pY.new cg) rfl (jI.np λk _ e=>GD ih e nQ) λap m x8 cR kU uY yt _=>⟨kU.fz.an,so kU uY yt,?_⟩
     rintro ec vH iO q7;obtain ⟨oL,eT,gN,mf⟩:=Cr kU iO q7;exact ⟨oL.fz.an,yW oL (uY.new eT) yt gN mf⟩
    ·rintro jB aaW JL JR;obtain ⟨oL,eT,gN,mf⟩:=Cr ke JL JR;refine ⟨oL.fz.an,?_⟩;have UR:=cg.size;refine app oL (pY.new (cg.new eT)) rfl ((jI.np λk _ e=>GD ih e nQ).new eT) λap m x8 cR kU uY yt eD=>⟨kU.fz.an,yW kU uY yt (eD.an gN λe=>?_) mf⟩
     obtain ⟨o,aq⟩:=e;have:aP=jB/\0=o:=q3 aq;omega
   ·rintro fJ aDd me aq2;obtain ⟨oL,eT,gN,mf⟩:=Cr nK me aq2;have UR:=eT.size;have at':=gN.lt;refine ⟨oL.fz.an,p2 oL λd c dh ke cg jI=>⟨_,_,_,rfl,ke.fz.an,?_⟩⟩;refine app ke (pY.new (eT.new cg)) rfl (jI.np λk _ e=>by have:=GD ih e nQ;omega) λap m x8 cR kU uY yt eD=>⟨kU.fz.an,yW kU uY yt (eD.an (ai.an cg gN) λe=>?_) mf⟩
    obtain ⟨o,aq⟩:=e;have:aP=fJ/\0=o:=q3 aq;omega
  ·
   refine p2 tj λd c dh ke cg jI=>⟨_,_,_,rfl,ke.fz.an,?_,?_⟩
   ·rintro kz DD jt z1;obtain ⟨wk,dg⟩:=cy.box ke.new (wi.aO (ay.db cg) λ_ _ e=>e) jt z1;have kU:=ke.ck dg;have pq:=tj.new.size;have yB:=ke.new.size;have B6:rP (λk=>k<b2.heap.size\/a7 (some ⟨kz,0,none⟩) k) DD d j.writes.length (j.writes.map (qa j cI)):=(jI.np (M:=λk=>k<b2.heap.size) λk _ e=>by omega).wide dg λk aK e=>by
     rcases e with e | ⟨o,aq⟩
     ·exact e
     ·exfalso;have:kz=k/\0=o:=q3 aq;omega
    refine ⟨kU.fz.an,?_,?_⟩
    ·refine app kU wk rfl B6 λap m x8 cR oL KW acx _=>⟨oL.fz.an,so oL KW acx,?_⟩
     rintro ec vH iO q7;obtain ⟨sg,gJ,kI,JM⟩:=Cr oL iO q7;exact ⟨sg.fz.an,yW sg (KW.new gJ) acx kI JM⟩
    ·rintro jB aaW JL JR;obtain ⟨oL,eT,gN,mf⟩:=Cr kU JL JR;refine ⟨oL.fz.an,?_⟩;have aDE:=PY wk;refine app oL (wk.new eT) rfl (B6.new eT) λap m x8 cR sg wj D_ fK=>⟨sg.fz.an,yW sg wj D_ (fK.an gN λe=>?_) mf⟩
     obtain ⟨o,aq⟩:=e;have:kz=jB/\0=o:=q3 aq;omega
   ·rintro jB aaW JL JR;obtain ⟨oL,eT,gN,mf⟩:=Cr ke JL JR;refine ⟨oL.fz.an,?_⟩;rintro kz DD jt z1;obtain ⟨wk,dg⟩:=cy.box oL.new (wi.aO (ay.db (cg.new eT)) λ_ _ e=>e) jt z1;have kU:=oL.ck dg;have pq:=tj.new.size;have yB:=ke.new.size;have at':=gN.lt;have B6:rP (λk=>k<b2.heap.size\/a7 (some ⟨kz,0,none⟩) k) DD d j.writes.length (j.writes.map (qa j cI)):=((jI.np (M:=λk=>k<b2.heap.size) λk _ e=>by omega).new eT).wide dg λk aK e=>by
     rcases e with e | ⟨o,aq⟩
     ·exact e
     ·exfalso;have:kz=k/\0=o:=q3 aq;omega
    refine ⟨kU.fz.an,?_⟩;refine app kU wk rfl B6 λap m x8 cR sg wj D_ fK=>⟨sg.fz.an,yW sg wj D_ (fK.an (ai.an dg gN) λe=>?_) mf⟩
    obtain ⟨o,aq⟩:=e;have:kz=jB/\0=o:=q3 aq;omega
  ·
   rintro nG af5 JM U6;obtain ⟨BN,acQ,Hg,JN⟩:=Cr tj JM U6;have adx:ei (λk=>k<b2.heap.size) af5 bX (tW j cI):=wi.aO (ay.db acQ) λ_ _ e=>e
   refine ⟨BN.fz.an,?_⟩;refine ⟨?_,?_⟩
   ·rintro aP cK cv eO;obtain ⟨pY,bH⟩:=cy.box BN.new adx cv eO;have nK:=BN.ck bH;have nQ:=nK.new.size;have ih:=PY pY;have yI:=Hg.lt;refine ⟨nK.fz.an,p2 nK λd c dh ke cg jI=>⟨_,_,_,rfl,ke.fz.an,?_⟩⟩;refine app ke (pY.new cg) rfl (jI.np λk _ e=>GD ih e nQ) λap m x8 cR kU uY yt eD=>⟨kU.fz.an,yW kU uY yt (eD.an (ai.an (bH.new cg) Hg) λe=>?_) JN⟩
    obtain ⟨o,aq⟩:=e;have:aP=nG/\0=o:=q3 aq;omega
   ·refine p2 BN λd c dh ke cg jI=>⟨_,_,_,rfl,ke.fz.an,?_⟩
    rintro kz DD jt z1;obtain ⟨wk,dg⟩:=cy.box ke.new (adx.aO (ay.db cg) λ_ _ e=>e) jt z1;have kU:=ke.ck dg;have pq:=BN.new.size;have yB:=cg.size;have yI:=Hg.lt;have B6:rP (λk=>k<b2.heap.size\/a7 (some ⟨kz,0,none⟩) k) DD d j.writes.length (j.writes.map (qa j cI)):=(jI.np (M:=λk=>k<b2.heap.size) λk _ e=>by omega).wide dg λk aK e=>by
     rcases e with e | ⟨o,aq⟩
     ·exact e
     ·exfalso;have:kz=k/\0=o:=q3 aq;omega
    refine ⟨kU.fz.an,?_⟩;refine app kU wk rfl B6 λap m x8 cR sg wj D_ fK=>⟨sg.fz.an,yW sg wj D_ (fK.an (ai.an (cg.new dg) Hg) λe=>?_) JN⟩
    obtain ⟨o,aq⟩:=e;have:kz=nG/\0=o:=q3 aq;omega
  ·rintro nG af5 JM U6;obtain ⟨BN,acQ,Hg,JN⟩:=Cr GK JM U6;refine ⟨BN.fz.an,et BN λbX bZ tj bz wi=>a0.bd bX ⟨rfl,tj.fz.an,?_⟩⟩;have Px:=ai.an bz Hg;refine ⟨?_,?_⟩
   ·rintro aP cK cv eO;obtain ⟨pY,bH⟩:=cy.box tj.new wi cv eO;have nK:=tj.ck bH;have nQ:=nK.new.size;have ih:=PY pY;have yI:=Px.lt;refine ⟨nK.fz.an,p2 nK λd c dh ke cg jI=>⟨_,_,_,rfl,ke.fz.an,?_⟩⟩;refine app ke (pY.new cg) rfl (jI.np λk _ e=>GD ih e nQ) λap m x8 cR kU uY yt eD=>⟨kU.fz.an,yW kU uY yt (eD.an (ai.an (bH.new cg) Px) λe=>?_) JN⟩
    obtain ⟨o,aq⟩:=e;have:aP=nG/\0=o:=q3 aq;omega
   ·refine p2 tj λd c dh ke cg jI=>⟨_,_,_,rfl,ke.fz.an,?_⟩
    rintro kz DD jt z1;obtain ⟨wk,dg⟩:=cy.box ke.new (wi.aO (ay.db cg) λ_ _ e=>e) jt z1;have kU:=ke.ck dg;have pq:=tj.new.size;have yB:=cg.size;have yI:=Px.lt;have B6:rP (λk=>k<b2.heap.size\/a7 (some ⟨kz,0,none⟩) k) DD d j.writes.length (j.writes.map (qa j cI)):=(jI.np (M:=λk=>k<b2.heap.size) λk _ e=>by omega).wide dg λk aK e=>by
     rcases e with e | ⟨o,aq⟩
     ·exact e
     ·exfalso;have:kz=k/\0=o:=q3 aq;omega
    refine ⟨kU.fz.an,?_⟩;refine app kU wk rfl B6 λap m x8 cR sg wj D_ fK=>⟨sg.fz.an,yW sg wj D_ (fK.an (ai.an (cg.new dg) Px) λe=>?_) JN⟩
    obtain ⟨o,aq⟩:=e;have:kz=nG/\0=o:=q3 aq;omega
end
end
end Go.Proofs.YtmkljjbioomepaaGreat
