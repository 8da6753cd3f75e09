import Derived.Test.YtmkljjbioomepaaGreatf18
import Derived.Test.YtmkljjbioomepaaGreatf12
import Derived.Test.YtmkljjbioomepaaGreatProg
import Derived.Test.YtmkljjbioomepaaGreatf02
set_option linter.all false
set_option maxHeartbeats 4000000
set_option maxRecDepth 100000
namespace Go.Proofs.YtmkljjbioomepaaGreat
open Go.Proofs.Tryz Go.bd
variable {A:a6}{B dc kr i lc gR aN tb:Nat}{iR:Exit->au->aK}{R:bg}{dB iX fs a2 pb:an}{flag:Bool}{u bp b3 w0 z:aj}
section
theorem LY {r:c3}{m:aU}{j:bM}{V:eI}{ds:cw}{raw:List bR}(bV:ds.length=j.v.mem.length * (c_ j).length)
  (bX:bh u iX (nZ (c_ j)).flatten) (a1:bh w0 dB (fL raw).flatten) (P:gX A w0 raw ds) (cm:i<=ds.length) {n pc:Nat} (B:n9 w0 u z aN tb r m j V a2 n pc pb gR (h0 j ds i)) (aZ:n<=i) (H:au)
  (ae:∀ env w,iR .ret env w=cS prog g1 R .ret env w)
  (N:i<ds.length->jz j ds i=true->∀ ab E,ai z ab->ao (λk=>k=aN) ab E->dt w0 E aN tb r m j V (11,0)->R (.bool false) E)
  (aW:i<ds.length->jz j ds i=false->∀ E a2 n pc pb gR H,n9 w0 u E aN tb r m j V a2 n pc pb gR (h0 j ds (i+1))->n<=i+1->iR .normal (qM ⟨aN,0,none⟩ iX (c_ j).length kr a2 n pc pb n gR dB ds.length dc ds.length (i+1:Nat) H) E)
  (S:i=ds.length->∀ H,iR (.exit 4) (xH ⟨aN,0,none⟩ a2 n pc pb n gR H) z) :
  Go.bd.W prog (sub (ay g1) [1,1,1,1,1,1,1,1,0,1,0,0]) (qM ⟨aN,0,none⟩ iX (c_ j).length kr a2 n pc pb n gR dB ds.length dc ds.length i H) iR z:=by
 have a4:=B.eD;obtain⟨ah,bY⟩:=zI j;have b5:=a4.ct.mem;have a7:raw.length=ds.length:=P.1;have bK:ds.length<=10:=by
  grind[c_,Nat.mul_le_mul]
 refine ha (fn:=g1) (R:=R) ae ?_;rw[T8];have G:=B.eD.new;refine a5 (λT=>?_) (λb4=>S (by omega) _);have F:i<ds.length:=by omega
 obtain⟨d,bG⟩:∃ d,raw[i]?=some d:=⟨_,bW (by omega)⟩;obtain⟨x,ca⟩:∃ x,ds[i]?=some x:=⟨_,bW F⟩;have O:=P.2 i d x bG ca;have Q:dE ds i=d_ x:=by grind[dE]
 refine ei (cells:=bR.cells) bR.len (by omega) (a1.new G) bG rfl a7.symm λb o ag _=>bR.aT d ⟨ag,?_⟩
 refine dP (vs:=d.cells) rfl (bR.single _) λb1 ab bO a' aR=>?_
 rintro M Y;have U:ai ab M:=by rw[Y];exact cC _
 clear Y;have f:=aR.new U;have bL:i % (c_ j).length<(c_ j).length:=Nat.mod_lt _ ah;have aB:(c_ j)[i % (c_ j).length]?=some (gk j i):=by
  grind[gk,List.getElem?_eq_getElem]
 have a8:Int.tmod (i:Int) ((c_ j).length:Int)=((i % (c_ j).length:Nat):Int):=rfl;have bb:=ai.ak U a';refine⟨λy=>ai M y,ao.refl _ _,rfl,by omega,?_⟩;rw[a8];refine io (cells:=dq.cells) dq.len (by omega) (bX.new (B.new.new f)) aB rfl rfl λaz cu bQ=>dq.aT (gk j i) ⟨λy L=>jk (i:=0) λq v ar=>by grind,bR.aT d ⟨λy L=>bJ (ai.ak L bb) rfl,?_⟩⟩
 have D:∀ {y:aj},ai M y->a9 196 [d.val] y λv w'=>v=.int .u64 (dE ds i)/\ai y w':=by intro y L;rw[Q];exact rA (O.aC (ao.b7 (G.new (f.new L))) λ_ _ e=>e)
 have hu:ch (dE ds i):=by
  rw[Q];unfold d_;cases hw:x.words with
  |nil=>exact gU
  |cons a l=>exact O.wf a (by grind)
 have one:∀ {y:aj} {Z:Nat},ai M y->aq y Z (gk j i).cells ji->M.heap.size<=Z->∀ (flag:Bool),flag=jz j ds i->∀ (H:au),Go.bd.W prog (sub (ay g1) [1,1,1,1,1,1,1,1,0,1,0,0,1,1,0,0,1,1,0,1]) (qN ⟨aN,0,none⟩ iX (c_ j).length kr a2 n pc pb n gR i ⟨Z,0,none⟩ (dE ds i) dB ds.length dc ds.length i flag H) (aL 6 (aL 5 (aM (λenv w=>Go.bd.W prog (sub (ay g1) [1,1,1,1,1,1,1,1,0,1,0,0,1,1,1]) env (aV prog g1 R iR) w) (aV prog g1 R iR)))) y:=by
  intro y Z L af bD flag J H;have cq:=f.size;have b_:=B.new.size;refine M7 (B.j5 (f.new L)) (by omega) aZ af ⟨by omega,λaP=>?_⟩ hu J (λ_ _=>rfl) (λbx E aI X=>N F bx y E (f.new L) aI X) (λbx E cf n' ck cj bN cd bH b6=>?_)
  ·have:=B.sR.lt aP;omega
  ·refine k9 (k9 (cb ?_));rw[UZ,bq (x:=(i:Int)+1) (by omega) (by omega)]
   grind
 have bs:∀ {t:Bool},(gk j i).exact=true->t=decide (dE ds i>(gk j i).least)->t=jz j ds i:=λhe cr=>by grind[jz]
 have br:(gk j i).exact=false->false=jz j ds i:=λhe=>by grind[jz]
 refine⟨?_,?_⟩
 ·refine aE (D (ao.refl _ _)) ?_;rintro v cl ⟨rfl,g⟩;refine⟨_,rfl,g,?_⟩;rintro ad bk I C;obtain⟨s,h⟩:=bo I C;have s:aq bk ad q8.cells ji:=s;clear C;have b9:=g.size;refine⟨g.new h,dI (vs:=(gk j i).cells) s rfl (dq.single _) λbm c K=>?_⟩;have p:ai M bm:=(g.new h).trans K λk T e=>by omega
  exact⟨p,_,c.cell (i:=2) rfl,ek (λhe=>⟨_,c.cell (i:=1) rfl,one p c (by omega) _ (bs he rfl) _⟩) (λhe=>one p c (by omega) _ (br he) _)⟩
 ·rintro ad bk I C;obtain⟨s,h⟩:=bo I C;have s:aq bk ad q8.cells ji:=s;clear C;refine⟨h,?_⟩;refine aE (D h) ?_;rintro v cl ⟨rfl,g⟩;refine⟨_,rfl,h.new g,dI (vs:=(gk j i).cells) (ai.ak g s) rfl (dq.single _) λbm c K=>?_⟩;have p:ai M bm:=(h.new g).trans K λk T e=>by omega
  exact⟨p,_,c.cell (i:=2) rfl,ek (λhe=>⟨_,c.cell (i:=1) rfl,one p c (by omega) _ (bs he rfl) _⟩) (λhe=>one p c (by omega) _ (br he) _)⟩
theorem Ll {r:c3}{m:aU}{j:bM}{V:eI}(f:dt w0 u aN tb r m j V (0,0)){ds:cw}{raw:List bR}(s:ds.length=j.v.mem.length * (c_ j).length)
  (L:bh u iX (nZ (c_ j)).flatten) (G:bh w0 dB (fL raw).flatten) (t:gX A w0 raw ds) (b:au) {QX:Exit->au->aK} (p:∀ env w,QX .ret env w=cS prog g1 R .ret env w)
  (c:(List.range ds.length).any (jz j ds)=true->∀ z a,ai u z->ao (λk=>k=aN) z a->dt w0 a aN tb r m j V (11,0)->R (.bool false) a)
  (o:(List.range ds.length).any (jz j ds)=false->∀ a a2 n pc pb gR b,n9 w0 u a aN tb r m j V a2 n pc pb gR (h0 j ds ds.length)->n<=ds.length->
   Go.bd.W prog (sub (ay g1) [1,1,1,1,1,1,1,1,1]) (xH ⟨aN,0,none⟩ a2 n pc pb n gR b) QX a) :
  cj prog (.loop (sub (ay g1) [1,1,1,1,1,1,1,1,0,1,0,0])) (qM ⟨aN,0,none⟩ iX (c_ j).length kr none 0 0 none 0 0 dB ds.length dc ds.length 0 b)
   (aL 4 (aM (λenv w=>Go.bd.W prog (sub (ay g1) [1,1,1,1,1,1,1,1,1]) env QX w) QX)) u:=by
 refine cP mix (λq env z=>∃ (i:Nat) (a2:an) (n pc:Nat) (pb:an) (gR:Nat) (b:au),q=ds.length-i/\i<=ds.length/\env=qM ⟨aN,0,none⟩ iX (c_ j).length kr a2 n pc pb n gR dB ds.length dc ds.length i b/\n9 w0 u z aN tb r m j V a2 n pc pb gR (h0 j ds i)/\n<=i/\∀ k,k<i->jz j ds k=false) ds.length
  ⟨0,none,0,0,none,0,_,by omega,by omega,rfl,⟨f,ao.refl _ _,bO.nil _ _,aZ.nil _ _ _,λk o=>b_ o nK,f.new.size⟩,by omega,λk o=>by omega⟩ ?_
 rintro q env z ⟨i,a2,n,pc,pb,gR,b,rfl,M,rfl,d,F,x⟩;refine LY s L G t M d F b (R:=R) p (λC K N a E B g=>c ?_ N a (d.new.new E) B g) (λC K a H n' J I l h e D=>?_) (λy h=>?_)
 ·grind
 ·exact cb ⟨ds.length - (i+1),by omega,i+1,H,n',J,I,l,h,rfl,by omega,rfl,e,D,λk o=>by
   grind⟩
 ·subst y;refine j9 (j0 (cb ?_))
  grind
end
section
theorem eE.vA {bF:aj}{r:c3}{m:aU}{j:bM}{V g:eI}{R a:cq}(i:eE A w0 u aN tb B r m j V R bp)(b:R.ask=none)(p:R.dC=false)(h:ao (λk=>k=aN) bp bF)(c:dt w0 bF aN tb r m j g a.out)(n:a.a_=R.a_)(q:a.ask=none)(s:a.dC=false):eE A w0 u aN tb B r m j g a bF:=by
 obtain⟨l,d,o,f⟩:=i.fN;rw[b]at f;refine⟨i.aC.trans h λk _ e=>.inr e,c,l,?_,by grind,?_⟩
 ·rw[n];exact d.aC h λe=>c.ne e.symm
 grind
theorem eE.seq {b:Nat}{r:c3}{m:aU}{j:bM}{V:eI}{R:cq}(c:ao (λk=>k=tb\/k=aN) u bp)(d:ai bp z)(a:eE A w0 z aN tb b r m j V R b3)(l:B<=b):eE A w0 u aN tb B r m j V R b3:=by
 refine⟨(c.new d).trans a.aC λ_ _ e=>e,a.eD,?_⟩;obtain⟨f,g,h,i⟩:=a.fN
 grind
def H3:bE:=⟨0,0,0,0,0,0,[],0,0⟩
def mw (p:bE×dq)(a:Int):Bool:=decide (a≠p.1.old) && (decide (a≠p.2.least) && (p.2.exact || decide (a<p.2.least)))
def nx (L:List (bE×dq))(ds:cw)(i:Nat):Bool:=mw (L.getD i (H3,q8)) (dE ds i)
theorem Lm {r:c3}{m:aU}{j:bM}{V:eI}{L:List (bE×dq)}{ds:cw}{raw:List bR}(b9:L.length=ds.length)(bH:ds.length<=100)
  (U:dt w0 z aN tb r m j V (0,0)) (a':bh w0 dB (fL raw).flatten) (P:gX A w0 raw ds) (b_:i<=ds.length) {n pc:Nat} (ca:n=L.length) (bm:bO u z a2 n pc (L.map Prod.fst)) (a1:bh z pb (nZ (L.map Prod.snd)).flatten) (H:au)
  (ah:∀ env w,iR .ret env w=cS prog g1 R .ret env w)
  (O:i<ds.length->nx L ds i=true->∀ ad I,ai z ad->ao (λk=>k=aN) ad I->dt w0 I aN tb r m j V (11,0)->R (.bool false) I)
  (M:i<ds.length->nx L ds i=false->∀ I H,ai z I->iR .normal (sw ⟨aN,0,none⟩ a2 n pc pb n gR dB ds.length dc ds.length (i+1:Nat) H) I)
  (Q:i=ds.length->∀ H,iR (.exit 7) (By H) z) :
  Go.bd.W prog (sub (ay g1) [1,1,1,1,1,1,1,1,1,1,1,0,1,0,0]) (sw ⟨aN,0,none⟩ a2 n pc pb n gR dB ds.length dc ds.length i H) iR z:=by
 have bb:raw.length=ds.length:=P.1;refine ha (fn:=g1) (R:=R) ah ?_;rw[T9];have F:=U.new;refine a5 (λS=>?_) (λbV=>Q (by omega) _);have C:i<ds.length:=by omega
 obtain⟨d,bG⟩:∃ d,raw[i]?=some d:=⟨_,bW (by omega)⟩;obtain⟨x,b4⟩:∃ x,ds[i]?=some x:=⟨_,bW C⟩;obtain⟨p,cd⟩:∃ p,L[i]?=some p:=⟨_,bW (by omega)⟩;have bX:L.getD i (H3,q8)=p:=by grind
 have aR:=P.2 i d x bG b4;have aW:dE ds i=d_ x:=by grind[dE]
 obtain⟨t,G,Z⟩:=bm.ex;have bL:t.length=L.length:=by rw[Z.1,jc]
 obtain⟨v,ar⟩:∃ v,t[i]?=some v:=⟨_,bW (by omega)⟩;have bk:=Z.2 i v p.1 ar (by grind);have Y:v.Old=p.1.old:=by rw[bk.eq];rfl
 refine ei (cells:=bR.cells) bR.len (by omega) (a'.new F) bG rfl bb.symm λb o aP _=>bR.aT d ⟨aP,?_⟩
 refine dP (vs:=d.cells) rfl (bR.single _) λb1 ad bN br a8=>?_
 rintro N ab;have T:ai ad N:=by rw[ab];exact cC _
 clear ab;have a:=a8.new T;have bs:=ai.ak T br;refine⟨λy=>ai N y,ao.refl _ _,bR.aT d ⟨λy c=>bJ (ai.ak c bs) rfl,?_⟩⟩;have a4:(L.map Prod.snd)[i]?=some p.2:=by grind
 refine io (cells:=dq.cells) dq.len (by omega) (a1.new a) a4 rfl (by grind) λaz cf bQ=>dq.aT p.2 ⟨λy c=>jk (i:=0) λq v ar=>by grind,?_⟩
 have E:∀ {y:aj},ai N y->a9 196 [d.val] y λv w'=>v=.int .u64 (dE ds i)/\ai y w':=by intro y c;rw[aW];exact rA (aR.aC (ao.b7 (F.new (a.new c))) λ_ _ e=>e)
 have one:∀ {y:aj},ai N y->∀ (flag:Bool),flag=nx L ds i->∀ (H:au),Go.bd.W prog (sub (ay g1) [1,1,1,1,1,1,1,1,1,1,1,0,1,0,0,1,1,0,0,1,1,1]) (nv ⟨aN,0,none⟩ a2 n pc pb n gR dB ds.length dc ds.length i flag H) (aL 8 (aM (λenv w=>Go.bd.W prog (sub (ay g1) [1,1,1,1,1,1,1,1,1,1,1,0,1,0,0,1,1,1]) env (aV prog g1 R iR) w) (aV prog g1 R iR))) y:=by
  intro y c flag B H;refine ha (fn:=g1) (R:=R) (λ_ _=>rfl) ?_;rw[U0];cases flag with
  |true=>refine fq rfl ?_;refine aE (wo (U.bK (a.new c)) 11) ?_;rintro v I ⟨rfl,a7,X⟩;exact⟨_,rfl,O C B.symm y I (a.new c) a7 X⟩
  |false=>refine dm rfl (k9 (cb ?_));rw[UJ,bq (x:=(i:Int)+1) (by omega) (by omega)];exact M C B.symm y _ (a.new c)
 have b6:nx L ds i=mw p (dE ds i):=by grind[nx]
 refine⟨?_,?_⟩
 ·refine aE (E (ao.refl _ _)) ?_;rintro v b5 ⟨rfl,f⟩;refine⟨_,rfl,f,?_⟩;rintro ae bx J D;obtain⟨h,g⟩:=bo J D;have h:aq bx ae q8.cells ji:=h;clear D;have bY:=f.size;refine⟨f.new g,dI (vs:=p.2.cells) h rfl (dq.single _) λbD s K=>?_⟩;have c:ai N bD:=(f.new g).trans K λk S e=>by omega
  refine ei (cells:=aI.cells) aI.len (by omega) (l:=t) (aZ.new (a.new c) G).rd ar rfl (by omega) λb o _ aB=>⟨_,aB 4 _ rfl,?_⟩
  rw[Y];refine dw (λaf=>⟨_,s.cell (i:=1) rfl,dw (λag=>⟨_,s.cell (i:=2) rfl,ek (λhe=>one c _ ?_ _) (λhe=>⟨_,s.cell (i:=1) rfl,one c _ ?_ _⟩)⟩) (λag=>one c _ ?_ _)⟩) (λaf=>one c _ ?_ _)
  ·grind[mw,decide_eq_true]
  ·grind[mw,decide_eq_true]
  ·grind[mw,decide_eq_true,decide_eq_false]
  grind[mw,decide_eq_false]
 ·rintro ae bx J D;obtain⟨h,g⟩:=bo J D;have h:aq bx ae q8.cells ji:=h;clear D;refine⟨g,?_⟩;refine aE (E g) ?_;rintro v b5 ⟨rfl,f⟩;refine⟨_,rfl,g.new f,dI (vs:=p.2.cells) (ai.ak f h) rfl (dq.single _) λbD s K=>?_⟩;have c:ai N bD:=(g.new f).trans K λk S e=>by omega
  refine ei (cells:=aI.cells) aI.len (by omega) (l:=t) (aZ.new (a.new c) G).rd ar rfl (by omega) λb o _ aB=>⟨_,aB 4 _ rfl,?_⟩
  rw[Y];refine dw (λaf=>⟨_,s.cell (i:=1) rfl,dw (λag=>⟨_,s.cell (i:=2) rfl,ek (λhe=>one c _ ?_ _) (λhe=>⟨_,s.cell (i:=1) rfl,one c _ ?_ _⟩)⟩) (λag=>one c _ ?_ _)⟩) (λaf=>one c _ ?_ _)
  ·grind[mw,decide_eq_true]
  ·grind[mw,decide_eq_true]
  ·grind[mw,decide_eq_true,decide_eq_false]
  grind[mw,decide_eq_false]
end
section
def n7 (L:List (bE×dq))(a:cq):cq:=
 if a.ok=false then a else if(List.range a.done.length).any (nx L a.done)=true then⟨false,[],(11,0),a.a_,none,false⟩else⟨true,[],(0,0),a.a_,none,false⟩
def um (j:bM)(a:cq):cq:=
 if a.ok=false then a else if(List.range a.done.length).any (jz j a.done)=true then⟨false,[],(11,0),a.a_,none,false⟩
 else n7 (h0 j a.done a.done.length) (bQ a.a_ ((h0 j a.done a.done.length).map Prod.fst))
def hr (j:bM)(G:bn):cq:=um j (bQ G (hq j))
theorem CS (j:bM):(hq j).length=j.v.mem.length*(c_ j).length:=by
 unfold hq;induction j.v.mem with
 |nil=>simp
 |cons a l b=>grind
theorem t_ {r:c3}{m:aU}{j:bM}{V:eI}{T:eG}{G:bn}(aI:dt w0 u aN tb r m j V (0,0))(bD:eJ A w0 u tb T G)(aZ:f8 T) :
  a9 179 [ptr aN] u (lC A w0 u aN tb r m j V (hr j G)):=by
 refine a' Tryz.func179 ?_;rw[ptr,W2];have bR:=aI.ak.lt;have bW:=bD.ak.lt;have b9:=aI.ct.mem;obtain⟨b4,b5⟩:=zI j;have bH:j.v.mem.length*(c_ j).length<=10:=by
  grind[c_,Nat.mul_le_mul]
 refine aE (Pn aI) ?_;rintro v bp ⟨iX,kr,rfl,J,bG,b6⟩;have B:=aI.bK J;have br:=J.size;refine⟨_,_,_,rfl,_,_,_,B.ak.cell (i:=4) rfl,?_⟩;refine M5 B bG _ λb3 a2 n pc aL K bs=>?_
 refine ha (fn:=g1) (R:=lC A w0 u aN tb r m j V (hr j G)) (λ_ _=>rfl) ?_;rw[UU];have E:=J.new K;refine aE (nM (B.bK K) (bD.new E) aZ B.new (by omega) (by omega) bs (by grind[CS])) ?_;rintro v bz ⟨dB,dc,raw,rfl,d,bq,o,C⟩;have ab:=d.aC;have d:eE A w0 u aN tb u.heap.size r m j V (bQ G (hq j)) bz:=eE.of d E br;have o:gX A w0 raw (bQ G (hq j)).done:=o;have C:(bQ G (hq j)).ok=true->raw.length=(hq j).length:=C;refine⟨_,_,_,_,rfl,eu (λg=>?_) (λx=>?_)⟩
 ·have g:(bQ G (hq j)).ok=false:=g;have s:hr j G=bQ G (hq j):=bm g
  grind
 have x:(bQ G (hq j)).ok=true:=x;obtain ⟨bL,W,M⟩:=oL x;have f:=d.eD;rw [bL] at f;have s:hr j G=if (List.range (bQ G (hq j)).done.length).any (jz j (bQ G (hq j)).done)=true then ⟨false,[],(11,0),(bQ G (hq j)).a_,none,false⟩
   else n7 (h0 j (bQ G (hq j)).done (bQ G (hq j)).done.length) (bQ (bQ G (hq j)).a_ ((h0 j (bQ G (hq j)).done (bQ G (hq j)).done.length).map Prod.fst)):=by
  unfold hr um
  grind
 have S:(bQ G (hq j)).done.length=j.v.mem.length*(c_ j).length:=by rw[<-o.1,C x,CS]
 have D:=bG.new K;have a1:bh bz iX (nZ (c_ j)).flatten:=D.aC ab (gF D λk X e=>by grind);rw[o.1];generalize bQ G (hq j)=p at d o S s W M f;clear C x bL;refine Ll f S a1 bq o _ (R:=lC A w0 u aN tb r m j V (hr j G)) (QX:=aV prog g1 (lC A w0 u aN tb r m j V (hr j G)) (cS prog g1 (lC A w0 u aN tb r m j V (hr j G)))) (λ_ _=>rfl) (λQ z bY c a8 af=>?_) (λQ z pb fB aB bX bx ca a bJ=>?_)
 ·rw[s,bm Q];exact⟨rfl,d.vA W M ((ao.b7 c).trans a8 λ_ _ e=>e) af rfl rfl rfl⟩
 rw[aW (by grind)]at s;generalize h0 j p.done p.done.length=L at a s;rw[UY];obtain⟨cd,O,ah,P⟩:=d.fN;rw[W]at P;rw[M]at ah;have bN:=f.ak.lt;have bV:=O.ak.lt;have aT:fB=L.length:=by have:=a.j_.len;grind
 refine aE (nM a.eD (O.new a.new) ⟨P,ah⟩ f.new (by omega) (by omega) a.j_ (by grind)) ?_;rintro v aM ⟨aP,aR,H,rfl,h,ad,b,t⟩;have F:=h.aC;have h:eE A w0 u aN tb u.heap.size r m j V (bQ p.a_ (L.map Prod.fst)) aM:=eE.seq d.aC a.new h (by have:=d.aC.size;omega);have b:gX A w0 H (bQ p.a_ (L.map Prod.fst)).done:=b;have t:(bQ p.a_ (L.map Prod.fst)).ok=true->H.length=(L.map Prod.fst).length:=t;refine⟨_,_,_,_,rfl,eu (λg=>?_) (λx=>?_)⟩
 ·have g:(bQ p.a_ (L.map Prod.fst)).ok=false:=g;rw[s,show n7 L (bQ p.a_ (L.map Prod.fst))=bQ p.a_ (L.map Prod.fst) from bm g]
  grind
 have x:(bQ p.a_ (L.map Prod.fst)).ok=true:=x;obtain⟨bo,I,w⟩:=oL x;have l:=h.eD;rw[bo]at l;have N:L.length=(bQ p.a_ (L.map Prod.fst)).done.length:=by rw[<-b.1,t x,jc]
 unfold n7 at s;rw[aW (by grind)]at s;rw[b.1];generalize bQ p.a_ (L.map Prod.fst)=y at h b s I w l N;have ag:bO bz aM pb fB aB (L.map Prod.fst):=a.j_.aC F λk e=>by grind
 have U:bh aM bX (nZ (L.map Prod.snd)).flatten:=a.sR.rd.aC F (gF a.sR.rd λk X e=>by have:=a.gB k X;grind);refine cP mix (λq env z=>∃ (i:Nat) (aL:au),q=y.done.length-i/\i<=y.done.length/\env=sw ⟨aN,0,none⟩ pb fB aB bX fB bx aP y.done.length aR y.done.length i aL/\ai aM z/\∀ k,k<i->nx L y.done k=false) y.done.length
  ⟨0,_,by omega,by omega,rfl,ao.refl _ _,λk W=>by omega⟩ ?_
 rintro q env z ⟨i,aL,rfl,b_,rfl,c,a4⟩;refine Lm N (by omega) (l.bK c) ad b b_ aT (ag.new c) (U.new c) aL (R:=lC A w0 u aN tb r m j V (hr j G)) (λ_ _=>rfl) (λY Q cf bY Z a7 ae=>?_) (λY Q bY aq bb=>?_) (λa5 aq=>?_)
 ·rw[s,bm (Ck.2 ⟨i,jd.2 Y,Q⟩)];exact⟨rfl,h.vA I w ((ao.b7 (c.new Z)).trans a7 λ_ _ e=>e) ae rfl rfl rfl⟩
 ·exact cb ⟨y.done.length - (i+1),by omega,i+1,aq,rfl,by omega,rfl,c.new bb,λk W=>by
   grind⟩
 ·subst a5;refine j9 (j0 (cb ?_));rw [UI];have bk:¬ (List.range y.done.length).any (nx L y.done)=true:=by
   grind
  rw[s,aW bk];exact⟨rfl,h.vA I w (ao.b7 c) (l.bK c) rfl rfl rfl⟩
end
section
theorem bO.two {bz:aj}{v1 v2:aI}{h l:bE}{b:Nat}(d:ai u bp)(f:cQ (λk=>k<u.heap.size) bp v1 h)(a:ai bp b3)(g:cQ (λk=>k<bp.heap.size) b3 v2 l)(r:b=b3.heap.size)(ax:aq bz b (v1.cells++v2.cells) cK)(j:ai b3 bz):bO u bz (some ⟨b,0,none⟩) 2 2 [h,l]:=by
 have p:=d.size;have q:=a.size;have n:∀ k,aP (some ⟨b,0,none⟩) k->k=b:=λk i=>by
  obtain⟨o,s⟩:=i
  grind
 refine⟨⟨[v1,v2],⟨by simp[dQ];rfl,.inr ⟨b,v1.cells++v2.cells,rfl,ax,dr 2,by decide,by grind[List.length_append,aI.len],by grind[dQ,List.take_of_length_le,List.length_append,aI.len]⟩⟩,er.app (r1:=[v1]) (v1:=[h]) (er.one ?_) (er.one ?_)⟩,rfl,λk i=>by grind⟩
 ·exact f.aC (ao.b7 (a.new j)) λk c e=>by
   grind
 ·exact g.aC (ao.b7 j) λk c e=>by
   grind
noncomputable abbrev iV:Func:=f181
def ob (j:bM)(bD:aU):bu:=[m0 j bD (24+j.dead) 1,m0 j bD (fl j.dead) 120]
def fx (j:bM)(m:aU):bu:=(j.v.mem.map (ob j)).flatten++[m0 j m (32+j.dead) 1]
section
variable {A:a6}{w0 u:aj}{aN tb:Nat}{r:c3}{m:aU}{j:bM}{V:eI}
theorem Po {o:Int×Int}(A:dt w0 u aN tb r m j V o)(K:au)
  (a4:∀ bF a2 n pc K,ai u bF->n=2*j.v.mem.length->bO u bF a2 n pc ((j.v.mem.map (ob j)).flatten)->Go.bd.W prog (sub (ay iV) [1,1,1]) (BF ⟨aN,0,none⟩ a2 n pc K) (cS prog iV R) bF) :
  cj prog (.loop (sub (ay iV) [1,1,0,1,0,0])) (uX ⟨aN,0,none⟩ none 0 0 r.View.fr r.View.e_ r.View.fS r.View.e_ 0 K)
   (aL 0 (aM (λenv w=>Go.bd.W prog (sub (ay iV) [1,1,1]) env (cS prog iV R) w) (cS prog iV R))) u:=by
 obtain ⟨b5,d⟩:=A.job.view;have hlen:=d.len;have bN:=A.ct.mem;have P:=A.ct.dead;have bH:=A.job.dead;have a7:=A.ak.lt;refine cP mix (λq env z=>∃ (i:Nat) (a2:an) (pc:Nat) (K:au),q=j.v.mem.length - i/\i<=j.v.mem.length/\env=uX ⟨aN,0,none⟩ a2 (2 * i) pc r.View.fr r.View.e_ r.View.fS r.View.e_ i K/\ai u z/\
   bO u z a2 (2*i) pc ((j.v.mem.take i).map (ob j)).flatten) j.v.mem.length
  ⟨0,none,0,_,by omega,by omega,rfl,ao.refl _ _,bO.nil _ _⟩ ?_
 rintro q env z ⟨i,a2,pc,K,rfl,b7,rfl,s,Y⟩;refine ha (fn:=iV) (R:=R) (λ_ _=>rfl) ?_;rw[mt,hlen];have S:=A.new.new s;refine a5 (λbQ=>?_) (λbL=>?_)
 ·obtain⟨bD,hm⟩:∃ bD,j.v.mem[i]?=some bD:=⟨_,bW (by omega)⟩;have bR:=A.ct.eS bD (cu hm);refine ei (cells:=aU.cells) aU.len (by omega) (d.rd.new S) hm rfl rfl λb a8 ad _=>aU.aT bD ⟨ad,?_⟩
  refine dP (vs:=bD.cells) rfl (aU.single _) λbk bY bG aZ ah=>?_
  rintro a' Z;have U:ai bY a':=by rw[Z];exact cC _
  clear Z;have B:=ah.new U;have H:=ai.ak U aZ;have N:=A.bK (s.new B);refine⟨λy=>aq y bk bD.cells eF/\iS r tb m j aN y,⟨H,_,_,N.ak⟩,aU.aT bD ⟨λy f=>bJ f.1 rfl,r.eX,λy f=>by obtain⟨_,bh,a8,f⟩:=f;exact f.cell (i:=5) rfl,aU.aT bD ⟨λy f=>bJ f.1 rfl,r.eX,λy f=>by obtain⟨_,bh,a8,f⟩:=f;exact f.cell (i:=5) rfl,?_⟩⟩⟩;rw[bH];refine aE (Am a' P) ?_;rintro v b_ ⟨rfl,h⟩;have E:=N.bK h;refine⟨_,rfl,⟨ai.ak h H,_,_,E.ak⟩,?_⟩;refine aE (tM E (m:=bD) (by grind[eb]) (24+j.dead) 1) ?_;rintro v b4 ⟨v1,rfl,aR,l⟩;have g:=E.bK l;have I:=ai.ak (h.new l) H;refine aI.aT v1 ⟨rfl,⟨I,_,_,g.ak⟩,?_⟩;refine aE (AE b4 P) ?_;rintro v ca ⟨rfl,rfl⟩;refine⟨_,rfl,⟨I,_,_,g.ak⟩,?_⟩;refine aE (tM g (m:=bD) (by grind[eb]) (fl j.dead) 120) ?_;rintro v cd ⟨v2,rfl,aV,p⟩;have O:=g.bK p;have t:=ai.ak p I;refine aI.aT v2 ⟨rfl,⟨t,_,_,O.ak⟩,?_⟩;rintro bm bb M ab;obtain⟨J,a⟩:=bo M ab;have J:aq bb bm (v1.cells++v2.cells) cK:=J;clear ab;have aW:=bO.two l aR p aV M J a;have C:=(l.new p).new a;have c:=B.new h;have F:=O.bK a;have D:=Y.new (c.new C);obtain⟨a9,X,_⟩:=D.ex;have bV:=c.size;have bX:=s.size;refine⟨⟨ai.ak a t,_,_,F.ak⟩,bO.uQ D (s.new (c.new C)) aW (λk ag=>by obtain⟨a1,G,_⟩:=Y.ex;have:=G.lt ag;omega) (by omega) (by omega) λap L b9 b6 Q aB=>?_⟩;have off:∀ {b:Nat} {cs:au} {T:bU},T≠cK->aq bb b cs T->¬ aP a2 b:=λbs bx a4=>by obtain⟨br,ae⟩:=gj X a4;exact ae.ne bx (λe=>bs e.symm) rfl
  refine⟨⟨Q.ak (ai.ak a t) (off (by decide) (ai.ak a t)),_,_,Q.ak F.ak (off (by decide) F.ak)⟩,cb ?_⟩;rw[bq (x:=(i:Int)+1) (by omega) (by omega)];refine⟨j.v.mem.length-(i+1),by omega,i+1,ap,L,_,rfl,by omega,by rw[<-hlen,show 2*(i+1)=2*i+2 by omega];rfl,aB,?_⟩
  grind[ob,List.take_add_one]
 ·have af:i=j.v.mem.length:=by omega
  subst af;refine j9 (j0 (cb ?_))
  grind
end
end
section
structure nq where
 a:an
 n:Nat
 c:Nat
def mM (s:nq):au:=[.slice s.a s.n s.c]
def tf (d:bR):nq:=⟨d.Words,d.dd,d.c0⟩
abbrev xt:bU:=94
structure og (w0 u z:aj)(aN tb:Nat)(r:c3)(m:aU)(j:bM)(fs:an)(lc:Nat)(p1:List nq):Prop where
 eD:dt w0 z aN tb r m j ⟨fs,p1.length,lc,0⟩ (0,0)
 aC:ao (λk=>k=aN) u z
 own:aZ z xt 1 fs p1.length lc (p1.map mM).flatten
 gB:∀ k,aP fs k->u.heap.size<=k
 le:w0.heap.size<=u.heap.size
theorem og.j5 {c:aj}{r:c3}{m:aU}{j:bM}{a:List nq}(h:og w0 u z aN tb r m j fs lc a)(b:ai z c):og w0 u c aN tb r m j fs lc a:=
 ⟨h.eD.bK b,h.aC.new b,aZ.new b h.own,h.gB,h.le⟩
theorem Pp {r:c3}{m:aU}{j:bM}{c:List nq}(h:og w0 u z aN tb r m j fs lc c)(Z:aN<u.heap.size)(Y:c.length<=100){raw:List bR}{bC:Nat}(M:bh w0 dB (fL raw).flatten)(H:bC=raw.length){d:bR}(aM:raw[2 * c.length+1]?=some d)
  {gA:Int} {P:au} {Q:Exit->au->aK} (c4:∀ env w,Q .ret env w=cS prog iV R .ret env w)
  (aR:∀ ab U S P,og w0 u ab aN tb r m j U S (c++[tf d])->Q .normal (BH ⟨aN,0,none⟩ dB bC dc flag gA c.length P) ab) :
  Go.bd.W prog (sub (ay iV) [1,1,1,1,1,1,1,0,1,0,0,1,1,0,0,1,1]) (uY ⟨aN,0,none⟩ dB bC dc flag c.length gA c.length P) Q z:=by
 refine ha (fn:=iV) (R:=R) c4 ?_;rw[ol];rintro aV C;have K:ai z aV:=by rw[C];exact cC _
 clear C;have X:=h.j5 K;refine⟨λy=>dt w0 y aN tb r m j ⟨fs,c.length,lc,0⟩ (0,0),X.eD,fs,c.length,lc,λy N=>N.ak.cell (i:=13) rfl,?_⟩;refine io (cells:=bR.cells) (sz:=2) bR.len (by omega) M aM (by rw[bq (x:=2*(c.length:Int)) (by omega) (by omega),bq (by omega) (by omega)];omega) H λb o aL=>⟨d.Words,d.dd,d.c0,λy N=>aL y N.new 1 _ rfl,?_⟩
 rintro az ad F D;obtain⟨s,L⟩:=bo F D;have s:aq ad az (mM (tf d)) xt:=s;clear D;have l:=X.j5 L;obtain⟨inf,I,O,B,aI⟩:=ft (T:=xt) (z:=.slice none 0 0) (n:=1) (m:=24) (by kernel_rfl);refine⟨l.eD,qn (cells:=mM) (sz:=1) (λ_=>rfl) (λx v ar=>by simp[mM]at ar;subst ar;rfl) Tryz.underlying218 I O (by rw[B];rfl) B (by decide) (by grind) l.own (l2:=[tf d]) (m:=1) (e6 s rfl) rfl (by omega) λap g aW af V ag=>?_⟩;have off:∀ {b:Nat} {cs:au} {T:bU},T≠xt->aq ad b cs T->¬ aP fs b:=λah aB f=>by obtain⟨ae,G⟩:=gj l.own f;exact G.ne aB (λe=>ah e.symm) rfl
 have hle:=h.le;have a:=l.eD.aC V λk f=>⟨by have:=h.gB k f;omega,λe=>off (by decide) l.eD.ak (e▸f)⟩
 refine⟨a,⟨_,a.ak.cell (i:=13) rfl⟩,a.ak.frozen,?_⟩;rintro E q;have p:ao (λk=>k=aN) aW E:=by rw[q];exact eY _ _ _ _
 have aE:aq E aN (pY r tb m (gv j.inc j.a3) ⟨ap,c.length+1,g,0⟩ (0,0)) ou:=by rw[q];exact a.ak.setCell (i:=13) _
 clear q;have aT:=l.aC.size;have t:∀ k,aP ap k->u.heap.size<=k:=λk f=>by
  rcases ag k f with e | e
  ·exact h.gB k e
  ·omega
 have A:ao (λk=>k=aN) u E:=(l.aC.trans V λk J e=>by have:=h.gB k e;omega).trans p λ_ _ e=>e
 refine aR E ap g _ ⟨⟨by grind,a.job,a.ct,a.mem,a.new.trans p λk J e=>by have:=a.pX;omega,a.pX,a.kJ,a.ne⟩,A,?_,t,hle⟩;rw[hi];exact af.aC p λk f e=>by grind
end
section
def mN (j:bM)(ds:cw)(n:Nat):Bool:=(List.range n).all λi=>dE ds (2*i) == j.fk
theorem CF (j:bM)(ds:cw)(n:Nat):mN j ds (n+1)=(mN j ds n && (dE ds (2*n) == j.fk)):=by
 grind[mN,List.range_succ]
theorem M8 {r:c3}{m:aU}{j:bM}{a:List nq}(h:og w0 u z aN tb r m j fs lc a)(p:aN<u.heap.size){gA:Nat}(S:gA<=100)(ag:a.length<=gA){ds:cw}{raw:List bR}(s:bh w0 dB (fL raw).flatten)(k:gX A w0 raw ds)(V:ds.length=2 * gA+1)
  (f:flag=mN j ds a.length) (c:au) (G:∀ env w,iR .ret env w=cS prog iV R .ret env w)
  (N:a.length<gA->∀ d,raw[2*a.length+1]?=some d->∀ O E D c,og w0 u O aN tb r m j E D (a++[tf d])->iR .normal (sx ⟨aN,0,none⟩ dB ds.length dc (mN j ds (a.length+1)) gA (a.length+1:Nat) c) O)
  (l:a.length=gA->∀ c,iR (.exit 2) (BG ⟨aN,0,none⟩ dB ds.length dc flag c) z) :
  Go.bd.W prog (sub (ay iV) [1,1,1,1,1,1,1,0,1,0,0]) (sx ⟨aN,0,none⟩ dB ds.length dc flag gA a.length c) iR z:=by
 have t:raw.length=ds.length:=k.1;refine ha (fn:=iV) (R:=R) G ?_;rw[Uy];refine a5 (λZ=>?_) (λY=>l (by omega) _);have T:a.length<gA:=by omega
 obtain⟨d,P⟩:∃ d,raw[2*a.length]?=some d:=⟨_,bW (by omega)⟩;obtain⟨x,ab⟩:∃ x,ds[2*a.length]?=some x:=⟨_,bW (by omega)⟩;obtain⟨d1,H⟩:∃ d1,raw[2*a.length+1]?=some d1:=⟨_,bW (by omega)⟩;have I:=k.2 _ d x P ab;have K:dE ds (2*a.length)=d_ x:=by grind[dE]
 rintro ae B;have M:ai z ae:=by rw[B];exact cC _
 clear B;have g:=h.j5 M;have one:∀ {y:aj},og w0 u y aN tb r m j fs lc a->∀ (F:Bool),F=mN j ds (a.length+1)->∀ (c:au),Go.bd.W prog (sub (ay iV) [1,1,1,1,1,1,1,0,1,0,0,1,1,0,0,1,1]) (uY ⟨aN,0,none⟩ dB ds.length dc F a.length gA a.length c) (aL 3 (aM (λenv w=>Go.bd.W prog (sub (ay iV) [1,1,1,1,1,1,1,0,1,0,0,1,1,1]) env (aV prog iV R iR) w) (aV prog iV R iR))) y:=by
  intro y C F L c;refine Pp C p (by omega) s t.symm H (R:=R) (λ_ _=>rfl) (λO E D ad af=>?_);refine k9 (cb ?_);rw[Vn,bq (x:=(a.length:Int)+1) (by omega) (by omega),L]
  grind
 have J:=h.eD.job.fk;have X:=h.eD.ct.fk;refine⟨λy=>dt w0 y aN tb r m j ⟨fs,a.length,lc,0⟩ (0,0),g.eD,ek (λQ=>?_) (λQ=>one g false (by grind[CF]) _)⟩;refine io (cells:=bR.cells) (sz:=2) bR.len (by omega) s P (by rw[bq (x:=2*(a.length:Int)) (by omega) (by omega)];omega) t.symm λb o U=>bR.aT d ⟨λy C=>jk (i:=0) λq v ar=>by simpa using U y C.new q v ar,r.fR,λy C=>C.ak.cell (i:=6) rfl,?_⟩
 refine aE (rA (I.aC (ao.b7 g.eD.new) λ_ _ e=>e)) ?_;rintro v ah ⟨rfl,n⟩;refine⟨_,rfl,(g.j5 n).eD,one (g.j5 n) _ ?_ _⟩;rw[CF,<-f,Q,K,J,jx (x:=j.fk) (by omega) (by omega),vY]
end
section
theorem Ln:∀ {l:cw},ho l=0->∀ d ∈ l,d.code=0:=λ{l}=>by
 induction l with
 |nil=>grind
 |cons x l a=>
  grind[ho]
theorem RM {vs:bu}{ds:cw}(h:ks vs ds=true)(b:ho ds=0){v:bE}{d:cW}(ar:vs[i]?=some v)(a:ds[i]?=some d):(d.words.length:Int)=v.v.iK:=by
 have c:=Ln b d (cu a);unfold ks at h;rw[fP,iz]at h;have hm:(v,d) ∈ vs.zip ds:=cu (i:=i) (Cn.2 ⟨ar,a⟩);have:=h.2 _ hm;unfold sP at this
 grind
theorem Gh {G:bn}{vs:bu}(h:(bQ G vs).ok=true){v:bE}{d:cW}(ar:vs[i]?=some v)(b:(bQ G vs).done[i]?=some d):(d.words.length:Int)=v.v.iK:=by
 have f:vs.length≠0:=by grind
 unfold bQ cm at h b;split at h
 ·cases h
 rename_i c;split at h
 ·cases h
 rename_i a;rw[aW c,aW a]at b;have a:ho (batch G vs).done=0:=by grind
 unfold batch at c a b;rw[aW f]at c a b;cases G with
 |nil=>grind
 |cons e j=>
  simp only at c a b;split at c
  ·rename_i g;rw[bm g]at a b
   grind[RM]
  grind
def rU (j:bM)(ds:cw):fO:=(List.range j.v.mem.length).map λi=>(ds.getD (2*i+1) ⟨0,[]⟩).words
def rR (j:bM)(ds:cw):Int:=dE ds (2*j.v.mem.length)
def sk (j:bM)(m:aU)(R:cq):cq:=
 if R.ok=false then R else if mN j R.done j.v.mem.length=true then⟨true,[],(0,0),R.a_,none,false⟩
 else if(hF j m R.a_).ok=false then hF j m R.a_ else⟨false,[],(11,0),(hF j m R.a_).a_,none,false⟩
def fy (j:bM)(m:aU)(G:bn):cq:=sk j m (bQ G (fx j m))
structure k1 (w0 w:aj)(aN tb:Nat)(V:eI)(aX:fO):Prop where
 ex:∃ p1:List nq,bh w V.fs (p1.map mM).flatten/\V.j2=p1.length/\p1.length=aX.length/\∀ (i:Nat) (s:nq) (L:ba),p1[i]?=some s->aX[i]?=some L->sh w0 s.a s.n s.c L
 off:∀ k,aP V.fs k->k≠tb/\k≠aN
theorem k1.new {w0 w w':aj}{aN tb:Nat}{V:eI}{aX:fO}(h:k1 w0 w aN tb V aX)(g:ai w w'):k1 w0 w' aN tb V aX:=by obtain⟨⟨a,b,c,d,e⟩,f⟩:=h;exact⟨⟨a,b.new g,c,d,e⟩,f⟩
theorem k1.aC {w0 w w':aj}{aN tb:Nat}{V:eI}{aX:fO}(h:k1 w0 w aN tb V aX){M:a6}(i:ao M w w')(l:∀ k,M k->k=tb\/k=aN):k1 w0 w' aN tb V aX:=by
 obtain⟨⟨a,b,c,d,f⟩,g⟩:=h;refine⟨⟨a,b.aC i (gF b λk j e=>?_),c,d,f⟩,g⟩
 grind
theorem CT (j:bM)(m:aU):(fx j m).length=2*j.v.mem.length+1:=by
 unfold fx;rw[hi];have:((j.v.mem.map (ob j)).flatten).length=2*j.v.mem.length:=by
  induction j.v.mem with
  |nil=>rfl
  |cons a l b=>grind[List.flatten_cons,List.length_append,ob]
 grind
theorem CU {j:bM}{m:aU}(d:i<j.v.mem.length):∃ bD,(fx j m)[2*i+1]?=some (m0 j bD (fl j.dead) 120):=by
 have key:∀ (l:List aU) (i:Nat),i<l.length->∃ bD,((l.map (ob j)).flatten)[2*i+1]?=some (m0 j bD (fl j.dead) 120):=by
  intro l;induction l with
  |nil=>grind
  |cons a l b=>
   intro i h;rw[jT,kR];cases i with
   |zero=>exact⟨a,rfl⟩
   |succ i=>
    obtain⟨bD,c⟩:=b i (by grind)
    grind[List.getElem?_append_right,ob,List.length_cons,List.length_nil]
 grind[fx,List.getElem?_append_left,dk]
end
section
abbrev AM (A:a6)(w0 u:aj)(aN tb:Nat)(r:c3)(m:aU)(j:bM)(G:bn)(v:bl)(bF:aj):Prop:=
 v=.bool (fy j m G).ok/\∃ a,eE A w0 u aN tb u.heap.size r m j a (fy j m G) bF/\((fy j m G).ok=true->k1 w0 bF aN tb a (rU j (bQ G (fx j m)).done)/\a.clock=rR j (bQ G (fx j m)).done)
theorem RN {r:c3}{m:aU}{j:bM}{T:eG}{G:bn}(w:dt w0 u aN tb r m j ⟨none,0,0,0⟩ (0,0))(cX:eJ A w0 u tb T G)(cf:f8 T) :
  a9 181 [ptr aN] u (AM A w0 u aN tb r m j G):=by
 refine a' Tryz.func181 ?_;rw[ptr,Xl];have c5:=w.ak.lt;have c9:=cX.ak.lt;have dm:=w.ct.mem;have cm:=w.ct.dead;have aB:=w.job.dead;refine⟨_,_,_,w.ak.cell (i:=4) rfl,?_⟩;refine Po w _ λb3 a2 n pc bN a1 dq W=>?_
 refine ha (fn:=iV) (R:=AM A w0 u aN tb r m j G) (λ_ _=>rfl) ?_;rw[Ve];rintro w1 bo;have p:ai b3 w1:=by rw[bo];exact cC _
 clear bo;have aV:=a1.new p;have ag:=w.bK aV;refine⟨iS r tb m j aN,⟨_,_,ag.ak⟩,aU.aT m ⟨λy Z=>by obtain⟨df,dz,Z⟩:=Z;exact bJ Z rfl,r.eX,λy Z=>by obtain⟨df,dz,Z⟩:=Z;exact Z.cell (i:=5) rfl,?_⟩⟩;rw[aB];refine aE (wH w1 cm) ?_;rintro v dK ⟨rfl,a4⟩;have F:=ag.bK a4;refine⟨_,rfl,⟨_,_,F.ak⟩,?_⟩;refine aE (tM F w.eS (32+j.dead) 1) ?_;rintro v dD ⟨dA,rfl,cL,H⟩;refine aI.aT dA ⟨rfl,⟨_,_,(F.bK H).ak⟩,?_⟩;rintro b1 dF b6 br;have cG:ai dD dF:=by rw[br];exact hn _ _
 have ca:=F.bK H;have C:=p.new a4;refine⟨⟨_,_,(ca.bK cG).ak⟩,bO.lX (W.new C) (a1.new C) H cL (by omega) b6 br λap ae da bV dn D=>?_⟩;obtain⟨c_,cZ,_⟩:=(W.new (C.new H)).ex;have dk:=W.gB;have off:¬ aP a2 aN:=λad=>by grind
 have ah:dt w0 da aN tb r m j ⟨none,0,0,0⟩ (0,0):=w.bK D;have dy:(j.v.mem.map (ob j)).flatten++[m0 j m (32+j.dead) 1]=fx j m:=rfl;have bV:bO u da ap (n+1) ae (fx j m):=bV;refine⟨⟨_,_,ah.ak⟩,?_⟩;refine aE (nM ah (cX.new D) cf w.new (by omega) (by omega) bV (by grind[CT])) ?_;rintro v cQ ⟨dB,dc,raw,rfl,K,a7,g,bb⟩;have K:eE A w0 u aN tb u.heap.size r m j ⟨none,0,0,0⟩ (bQ G (fx j m)) cQ:=K.of D (dr _);have g:gX A w0 raw (bQ G (fx j m)).done:=g;have bb:(bQ G (fx j m)).ok=true->raw.length=(fx j m).length:=bb;refine⟨_,_,_,_,rfl,eu (λS=>?_) (λbk=>?_)⟩
 ·have S:(bQ G (fx j m)).ok=false:=S;have E:fy j m G=bQ G (fx j m):=bm S
  grind
 have bk:(bQ G (fx j m)).ok=true:=bk;obtain⟨dv,ad,Y⟩:=oL bk;have f:=K.eD;rw[dv]at f;have hlen:raw.length=2*j.v.mem.length+1:=by grind[CT]
 have J:∀ i,i<j.v.mem.length->∀ x,(bQ G (fx j m)).done[2*i+1]?=some x->x.words.length=120:=by intro i cq x cM;obtain⟨bD,cD⟩:=CU (m:=m) cq;have:=Gh bk cD cM;have e:(m0 j bD (fl j.dead) 120).v.iK=120:=rfl;omega
 have E:fy j m G=if mN j (bQ G (fx j m)).done j.v.mem.length=true then ⟨true,[],(0,0),(bQ G (fx j m)).a_,none,false⟩
   else if(hF j m (bQ G (fx j m)).a_).ok=false then hF j m (bQ G (fx j m)).a_ else⟨false,[],(11,0),(hF j m (bQ G (fx j m)).a_).a_,none,false⟩:=by
  unfold fy sk
  grind
 obtain⟨dI,X⟩:=w.job.view;have cA:=X.len;refine⟨_,_,_,f.ak.cell (i:=4) rfl,?_⟩;have Q:(bQ G (fx j m)).done.length=2*j.v.mem.length+1:=by rw[<-g.1,hlen]
 rw[g.1,cA];show cj prog _ _ _ _;generalize bY:bQ G (fx j m)=P at K g E J Q ad Y f bk;have a5:=f.ak.lt;have c6:=K.aC.size;refine cP mix (λq env z=>∃ (c:List nq) (fs:an) (lc:Nat) (bN:au),q=j.v.mem.length-c.length/\c.length<=j.v.mem.length/\env=sx ⟨aN,0,none⟩ dB P.done.length dc (mN j P.done c.length) j.v.mem.length c.length bN/\og w0 cQ z aN tb r m j fs lc c/\∀ (k:Nat) (s:nq),c[k]?=some s->∃ d,raw[2*k+1]?=some d/\s=tf d) j.v.mem.length
  ⟨[],none,0,_,by simp,by simp,rfl,⟨f,ao.refl _ _,aZ.nil _ _ _,λk ad=>b_ ad nK,f.new.size⟩,λk s h=>by grind⟩ ?_
 rintro q env z ⟨c,fs,lc,bN,rfl,cq,rfl,l,cK⟩;refine M8 l a5 (by omega) cq a7 g Q rfl bN (R:=AM A w0 u aN tb r m j G) (λ_ _=>rfl) (λcy d aB dM cO cN bG aR=>?_) (λcr bG=>?_)
 ·refine cb ⟨j.v.mem.length-(c.length+1),by omega,c++[tf d],cO,cN,bG,by simp,by grind,by grind,aR,λk s dp=>?_⟩
  grind
 ·obtain⟨d,aB⟩:∃ d,raw[2*j.v.mem.length]?=some d:=⟨_,bW (by omega)⟩;obtain⟨x,cM⟩:∃ x,P.done[2*j.v.mem.length]?=some x:=⟨_,bW (by omega)⟩;have ck:=g.2 _ d x aB cM;have cl:rR j P.done=d_ x:=by grind[rR,dE]
  refine j9 (j0 (cb ?_));rw[Vm,cr];refine ei (cells:=bR.cells) bR.len (by omega) (a7.new l.eD.new) aB (by rw[Q,bq (by omega) (by omega)];omega) g.1.symm λb o cd _=>bR.aT d ⟨cd,?_⟩
  refine aE (rA (ck.aC (ao.b7 l.eD.new) λ_ _ e=>e)) ?_;rintro v dG ⟨rfl,p⟩;have a:=l.eD.bK p;refine⟨_,rfl,⟨_,a.ak.cell (i:=14) rfl⟩,a.ak.frozen,?_⟩;rintro bL ab;have U:ao (λk=>k=aN) dG bL:=by rw[ab];exact eY _ _ _ _
  have b9:aq bL aN (pY r tb m (gv j.inc j.a3) ⟨fs,c.length,lc,d_ x⟩ (0,0)) ou:=by rw[ab];exact a.ak.setCell (i:=14) _
  clear ab;have M:dt w0 bL aN tb r m j ⟨fs,c.length,lc,d_ x⟩ (0,0):=⟨b9,a.job,a.ct,a.mem,a.new.trans U λk cy e=>by have:=a.pX;omega,a.pX,a.kJ,a.ne⟩;have B:ao (λk=>k=aN) cQ bL:=(l.aC.new p).trans U λ_ _ e=>e
  obtain⟨dJ,b5,O,af⟩:=K.fN;rw[ad]at af;rw[Y]at O;have b4:=b5.aC B λe=>w.ne e.symm
  have aM:ao (λk=>k=tb\/k=aN) u bL:=K.aC.trans B λk _ e=>.inr e
  have bh:=aM.size;refine eu (λcY=>?_) (λcY=>?_)
  ·rw[aW (by grind)]at E;refine aE (D1 M b4 ⟨af,O⟩) ?_;rintro v dH ⟨rfl,I⟩;have I:eE A w0 u aN tb u.heap.size r m j ⟨fs,c.length,lc,d_ x⟩ (hF j m P.a_) dH:=eE.seq aM (ao.refl _ _) I bh;refine⟨_,rfl,ek (λc1=>?_) (λc1=>?_)⟩
   ·obtain⟨cH,cu,bs⟩:=oL c1;have N:=I.eD;rw[show(hF j m P.a_).out=(0,0) from cH]at N;rw[aW (by grind)]at E;refine aE (wo N 11) ?_;rintro v dN ⟨rfl,cv,a8⟩;refine⟨_,rfl,by rw[E],_,by rw[E];exact I.vA cu bs cv a8 rfl rfl rfl,λh=>?_⟩
    grind
   grind
  ·rw[bm cY]at E;refine⟨by rw[E],_,by rw[E];exact K.vA ad Y B M rfl rfl rfl,λ_=>?_⟩
   rw[bY];refine⟨⟨⟨c,?_,rfl,?_,?_⟩,?_⟩,cl.symm⟩
   ·exact(aZ.new p l.own).rd.aC U (gF (aZ.new p l.own).rd λk V e=>by have:=l.gB k V;omega)
   ·grind[rU,List.length_map,List.length_range]
   ·intro i s L dw dh;obtain⟨d1,ch,rfl⟩:=cK i s dw;have aL:i<j.v.mem.length:=by grind
    obtain⟨bH,bx⟩:∃ bH,P.done[2*i+1]?=some bH:=⟨_,bW (by omega)⟩;have t:=g.2 _ d1 bH ch bx;have bX:L=bH.words:=by
     unfold rU at dh
     grind
    rw[bX];have cS:=J i aL bH bx;have cx:=t.len;exact⟨t.rd,cx,t.cap,t.wf,by show d1.dd<=1000;omega⟩
   ·intro k V;have:=l.gB k V
    grind
end
section
open IntKind
variable (w:aj)(R:bg){a b c d e f:Nat}{A B C D:aw}{F:Bool}{s t u:an}{i k l m:Int}{j:al}
def py (e s2:aw)(g:Bool)(a:an)(b c:Nat)(d f:Int)(j:al):al:=.pointer (some e)::ae j 0 1 (.pointer (some s2)::ad g::ae j 1 7 (af a b c::ab d::ab f::ae j 8 25 []))
def i0 (a:aw)(b:Bool)(j:al):al:=ae j 0 2 (.pointer (some a)::ad b::ae j 2 35 [])
theorem Vo:bc prog f226 [bb a] R w=(aR w #[ab 0,a4] 271 λf e=>bY e (ah a 13) λd b c=>cj prog (cN f226 [1,0,1,0,0]) (py (ah a 0) (ah f 0) false d b c (b:Nat) 0 (a1 5 (jp (ah a 0)::jp (ah a 0)::jp (ah a 13)::a1 25 []))) (aL 0 (aS f226 [1,1] R)) e):=by kernel_rfl
theorem TO (p:al->aK):W prog (sb f226 [1,0,1,0,0]) (py A B F s a b i k j) (aM p (aL 0 (aS f226 [1,1] R))) w=(cond (k<i) (bk s a k 1 λq=>bY w q λx g h=>bN w (br A 2) λc=>Calls prog 246 #[af x g h,ab c] w λe v=>bX.ex λn=>∃ (d:Bool),e=.returned (.tuple #[n.val,ad d])/\aR v #[ab 0,a4] 271 λf u=>a8 u (ah f 0) 0 n.cells λo=>cond d (bN o (ah f 0) λl=>bN o B λm=>cond (l>m) (hK o (ah f 0) λr=>a8 o B 0 r.cells λt=>p (py A B true s a b i (i64.wrap (k+1)) [aB j 0,aB j 1,af x g h,jp (ah f 0),ad d,aB j 5,aB j 6,aB j 7,ad (k<i),jp q,af x g h,.tuple #[n.val,ad d],af x g h,jp A,jp A,jp A,a7 A 2,ab c,.tuple #[n.val,ad d],n.val,ad d,ad d,ad true,jp (ah f 0),ab l,jp B,ab m,ad (l>m),ad (l>m),r.val,ab (i64.wrap (k+1)),aB j 31,aB j 32]) t) (p (py A B F s a b i (i64.wrap (k+1)) [aB j 0,aB j 1,af x g h,jp (ah f 0),ad d,aB j 5,aB j 6,aB j 7,ad (k<i),jp q,af x g h,.tuple #[n.val,ad d],af x g h,jp A,jp A,jp A,a7 A 2,ab c,.tuple #[n.val,ad d],n.val,ad d,ad d,ad true,jp (ah f 0),ab l,jp B,ab m,ad (l>m),ad (l>m),aB j 29,ab (i64.wrap (k+1)),aB j 31,aB j 32]) o)) (p (py A B F s a b i (i64.wrap (k+1)) (aB j 0::aB j 1::af x g h::jp (ah f 0)::ad d::aB j 5::aB j 6::aB j 7::ad (k<i)::jp q::af x g h::.tuple #[n.val,ad d]::af x g h::jp A::jp A::jp A::a7 A 2::ab c::.tuple #[n.val,ad d]::n.val::ad d::ad d::ad false::a1 5 [ad false,aB j 29,ab (i64.wrap (k+1)),aB j 31,aB j 32])) o)) (W prog (sb f226 [1,1]) (i0 B F (jp A::ae j 0 8 (af s a b::ab i::ab k::ad (k<i)::ae j 9 24 []))) (bV f226 R) w)):=by kernel_rfl
theorem TZ:W prog (sb f226 [1,1]) (i0 A F j) (bV f226 R) w=(hK w A λr=>a8 w A 0 r.cells λa=>hK a A λb=>a=a/\R (.tuple #[b.val,ad F]) a):=by kernel_rfl
def uS (e i:aw)(k:Int)(l:an)(a b:Nat)(c:an)(d f:Nat)(g h:Int)(j:al):al:=.pointer (some e)::ae j 0 2 (.pointer (some i)::ae j 2 1 (ag k::ae j 3 1 (af l a b::ae j 4 18 (af c d f::ab g::ab h::ae j 22 65 []))))
def Hh (a b:aw)(e:Int)(n:an)(c d:Nat)(s8:Int)(f:aw)(g:an)(h i:Nat)(k l:Int)(j:al):al:=.pointer (some a)::ae j 0 2 (.pointer (some b)::ae j 2 1 (ag e::ae j 3 1 (af n c d::ab s8::.pointer (some f)::ae j 4 16 (af g h i::ab k::ab l::ae j 20 65 []))))
def Hi (a:aw)(d:an)(b c:Nat)(j:al):al:=.pointer (some a)::ae j 0 6 (af d b c::ae j 6 86 [])
def xP (a b:aw)(e:Int)(o:an)(c d:Nat)(f g:aw)(h:Bool)(i:an)(k l:Nat)(m n:Int)(j:al):al:=.pointer (some a)::ae j 0 2 (.pointer (some b)::ae j 2 1 (ag e::ae j 3 1 (af o c d::ae j 4 1 (.pointer (some f)::.pointer (some g)::ad h::ae j 5 14 (af i k l::ab m::ab n::ae j 19 65 [])))))
def xR (a b:aw)(e:Int)(n:an)(c d:Nat)(f:aw)(g:an)(h i:Nat)(k l:Int)(m:Bool)(j:al):al:=.pointer (some a)::ae j 0 2 (.pointer (some b)::ae j 2 1 (ag e::ae j 3 1 (af n c d::ae j 4 1 (.pointer (some f)::ae j 5 16 (af g h i::ab k::ab l::ae j 21 25 (ad m::ae j 46 39 []))))))
def lQ (a b:aw)(e:Int)(l:an)(c d:Nat)(f:an)(g h:Nat)(i k:Int)(j:al):al:=.pointer (some a)::ae j 0 2 (.pointer (some b)::ae j 2 1 (ag e::ae j 3 1 (af l c d::ae j 4 18 (af f g h::ab i::ab k::ae j 22 65 []))))
def Bz (a b:aw)(e:Int)(n:an)(c d:Nat)(f:aw)(g:an)(h i:Nat)(k l:Int)(j:al):al:=.pointer (some a)::ae j 0 2 (.pointer (some b)::ae j 2 1 (ag e::ae j 3 1 (af n c d::ae j 4 1 (.pointer (some f)::ae j 5 16 (af g h i::ab k::ab l::ae j 21 65 [])))))
theorem V7 (h:bX):bc prog f247 [bb a,h.val] R w=(aR w h.cells.toArray 271 λi j=>bN j (ah i 0) λe=>g6 214 #[ab e] j λb c k=>bY k (ah a 4) λd f g=>cj prog (cN f247 [1,1,1,0,1,0,0]) (uS (ah a 0) (ah i 0) b none 0 0 d f g (f:Nat) 0 (h.val::undef::ad false::ab c::a1 7 (.tuple #[ag b,ab c]::jp (ah i 0)::ab e::.tuple #[ag b,ab c]::ag b::ab c::jp (ah a 0)::jp (ah a 0)::jp (ah a 0)::jp (ah a 3)::jp (ah a 4)::a1 65 []))) (aL 0 (aS f247 [1,1,1,1] R)) k):=by kernel_rfl
theorem T0 (e:bH):W prog (sb f247 [1,1,1,0,1,0,0]) (uS A B i s a b t c d k l j) (aV prog f247 R e) w=(cond (l<k) (bk t c l 3 λf=>iq w f λr=>aR w #[ab 0,ab 0,ad false] 116 λg m=>a8 m (ah g 0) 0 r.cells λn=>W prog (sb f247 [1,1,1,0,1,0,0,1,1,0,0,1]) (Hh A B i s a b l (ah g 0) t c d k l (ae j 0 4 (ae j 6 16 (ad (l<k)::ab l::jp f::r.val::ae j 26 61 [])))) (aL 1 (aM (λh w=>W prog (sb f247 [1,1,1,0,1,0,0,1,1,1]) h (aV prog f247 R e) w) (aV prog f247 R e))) n) (e (.exit 0) (Hi A s a b (aB j 0::aB j 1::jp B::aB j 2::ag i::ae j 3 19 (af t c d::ab k::ab l::ad (l<k)::ae j 23 64 []))) w)):=by kernel_rfl
theorem T1 (env:al)(w:aj)(Q:bH):W prog (sub (ay f247) [1,1,1,0,1,0,0,1,1,0,0,1]) env Q w=W prog (sub (ay f247) [1,1,1,0,1,0,0,1,1,0,0,1,0]) env (aM (λenv w=>W prog (sub (ay f247) [1,1,1,0,1,0,0,1,1,0,0,1,1]) env Q w) Q) w:=by rw[show sub (ay f247) [1,1,1,0,1,0,0,1,1,0,0,1]=.seq (sub (ay f247) [1,1,1,0,1,0,0,1,1,0,0,1,0]) (sub (ay f247) [1,1,1,0,1,0,0,1,1,0,0,1,1]) by kernel_rfl];generalize sub (ay f247) [1,1,1,0,1,0,0,1,1,0,0,1,0]=a;generalize sub (ay f247) [1,1,1,0,1,0,0,1,1,0,0,1,1]=b;kernel_rfl
theorem Up (z:bH):W prog (sb f247 [1,1,1,0,1,0,0,1,1,0,0,1,0]) (Hh A B i s a b k C t c d l m j) (aV prog f247 R z) w=(ck w λI h=>dS h (br A 13) λu n o=>bk u n k 1 λD=>dS h D λx p q=>cA h (br A 2) λr=>(Calls prog 246 #[af x p q,ab r] I λe H=>bX.ex λv=>∃ (f:Bool),e=.returned (.tuple #[v.val,ad f])/\h H/\aR H #[ab 0,a4] 271 λF K=>h K/\a8 K (ah F 0) 0 v.cells λL=>W prog (sb f247 [1,1,1,0,1,0,0,1,1,0,0,1,0,1]) (xP A B i s a b C (ah F 0) f t c d l m (ae j 0 4 (ab k::ae j 6 18 (.tuple #[v.val,ad f]::jp A::jp A::a7 A 13::af u n o::ab k::jp D::af x p q::jp A::jp A::jp A::a7 A 2::ab r::.tuple #[v.val,ad f]::v.val::ad f::ae j 40 45 [])))) (aV prog f247 R z) L)/\aR I #[ab 0,a4] 271 λE bf=>h bf/\Calls prog 246 #[af x p q,ab r] bf λe G=>bX.ex λy=>∃ (g:Bool),e=.returned (.tuple #[y.val,ad g])/\h G/\a8 G (ah E 0) 0 y.cells λM=>W prog (sb f247 [1,1,1,0,1,0,0,1,1,0,0,1,0,1]) (xP A B i s a b C (ah E 0) g t c d l m (ae j 0 4 (ab k::ae j 6 18 (.tuple #[y.val,ad g]::jp A::jp A::a7 A 13::af u n o::ab k::jp D::af x p q::jp A::jp A::jp A::a7 A 2::ab r::.tuple #[y.val,ad g]::y.val::ad g::ae j 40 45 [])))) (aV prog f247 R z) M):=by kernel_rfl
theorem Uq (c:bH):W prog (sb f247 [1,1,1,1]) (Hi A s a b j) (aV prog f247 R c) w=(h4 221 #[.pointer (some A),af s a b] w λd f g h e=>R (ad h) e):=by kernel_rfl
theorem T2 (env:al)(w:aj)(Q:bH):W prog (sub (ay f247) [1,1,1,0,1,0,0,1,1,0,0,1,0,1]) env Q w=W prog (sub (ay f247) [1,1,1,0,1,0,0,1,1,0,0,1,0,1,0]) env (aM (λenv w=>W prog (sub (ay f247) [1,1,1,0,1,0,0,1,1,0,0,1,0,1,1]) env Q w) Q) w:=by rw[show sub (ay f247) [1,1,1,0,1,0,0,1,1,0,0,1,0,1]=.seq (sub (ay f247) [1,1,1,0,1,0,0,1,1,0,0,1,0,1,0]) (sub (ay f247) [1,1,1,0,1,0,0,1,1,0,0,1,0,1,1]) by kernel_rfl];generalize sub (ay f247) [1,1,1,0,1,0,0,1,1,0,0,1,0,1,0]=a;generalize sub (ay f247) [1,1,1,0,1,0,0,1,1,0,0,1,0,1,1]=b;kernel_rfl
theorem Ur (e:bH):W prog (sb f247 [1,1,1,0,1,0,0,1,1,0,0,1,0,1,0]) (xP A B i s a b C D F t c d k l j) (aV prog f247 R e) w=(cond F (hK w B λr=>hK w D λf=>c6 252 #[r.val,f.val] w λo g=>e .normal (xR A B i s a b C t c d k l o (ae j 0 5 (jp D::ad F::ae j 5 34 (ad F::ad true::r.val::f.val::ad o::ae j 45 39 [])))) g) (e .normal (xR A B i s a b C t c d k l false (ae j 0 5 (jp D::ad F::ae j 5 34 (ad F::ad false::a1 3 (ae j 45 39 []))))) w)):=by kernel_rfl
theorem Us (e:bH):W prog (sb f247 [1,1,1,0,1,0,0,1,1,0,0,1,0,1,1]) (xR A B i s a b C t c d k l F j) (aV prog f247 R e) w=(cond F (e (.exit 1) (lQ A B i s a b t c d k l (ae j 0 5 (jp C::ae j 5 41 (ad F::ae j 46 39 [])))) w) (e .normal (Bz A B i s a b C t c d k l (ae j 0 46 (ad F::ae j 46 39 []))) w)):=by kernel_rfl
theorem Ut (e:bH):W prog (sb f247 [1,1,1,0,1,0,0,1,1,1]) (lQ A B i s a b t c d k l j) (aV prog f247 R e) w=(e .normal (uS A B i s a b t c d k (i64.wrap (l+1)) (ae j 0 79 (ab (i64.wrap (l+1))::ae j 80 7 []))) w):=by kernel_rfl
theorem Uu (X:bH):W prog (sb f247 [1,1,1,0,1,0,0,1,1,0,0,1,1]) (Bz A B i s a b C t c d k l j) (aV prog f247 R X) w=(bN w (br A 5) λm=>cx 215 #[ab m] w λn c_=>ck c_ λdq h=>hf h C λr=>hf h C λN=>cA h (br A 5) λo=>s_ h B λJ=>hf h C λT=>(aR dq #[ag 0] 30 λV c6=>h c6/\(eH 250 #[.pointer (some A),r.val,ab n,af (bs V) 1 1] c6 λu Z=>h Z/\(cx 209 #[ab o] Z λp Y=>h Y/\(eV 210 #[J.val] Y λq e f c9=>h c9/\(eH 250 #[.pointer (some A),N.val,ab p,af q e f] c9 λO b6=>h b6/\aR b6 #[ag i] 30 λa1 cj=>h cj/\eH 250 #[.pointer (some A),T.val,ab n,af (bs a1) 1 1] cj λK bX=>h bX/\aR bX #[ab u.Kind,ab u.Node,ab u.cI,ab u.N,ag u.Old,ag u.ai,af u.Words u.dd u.c0,ag u.Key,ab u.cB,ab O.Kind,ab O.Node,ab O.cI,ab O.N,ag O.Old,ag O.ai,af O.Words O.dd O.c0,ag O.Key,ab O.cB,ab K.Kind,ab K.Node,ab K.cI,ab K.N,ag K.Old,ag K.ai,af K.Words K.dd K.c0,ag K.Key,ab K.cB] 158 λaE a'=>h a'/\da 125 (af s a b) (af (bs aE) 3 3) a' λbG v x bb=>h bb/\X .normal (lQ A B i bG v x t c d k l (ae j 0 5 (jp C::aB j 5::aB j 6::ab n::ae j 8 39 (jp A::jp A::jp A::a7 A 5::ab m::ab n::af s a b::jp A::r.val::ab n::af (bs V) 1 1::u.val::jp A::N.val::jp A::jp A::jp A::a7 A 5::ab o::ab p::J.val::af q e f::O.val::jp A::T.val::ab n::ag i::af (bs a1) 1 1::K.val::af (bs aE) 3 3::af bG v x::ae j 78 8 [])))) bb)/\aR c9 #[ag i] 30 λcq bh=>h bh/\eH 250 #[.pointer (some A),N.val,ab p,af q e f] bh λP bL=>h bL/\eH 250 #[.pointer (some A),T.val,ab n,af (bs cq) 1 1] bL λH cQ=>h cQ/\aR cQ #[ab u.Kind,ab u.Node,ab u.cI,ab u.N,ag u.Old,ag u.ai,af u.Words u.dd u.c0,ag u.Key,ab u.cB,ab P.Kind,ab P.Node,ab P.cI,ab P.N,ag P.Old,ag P.ai,af P.Words P.dd P.c0,ag P.Key,ab P.cB,ab H.Kind,ab H.Node,ab H.cI,ab H.N,ag H.Old,ag H.ai,af H.Words H.dd H.c0,ag H.Key,ab H.cB] 158 λaT a8=>h a8/\da 125 (af s a b) (af (bs aT) 3 3) a8 λy z cH c1=>h c1/\X .normal (lQ A B i y z cH t c d k l (ae j 0 5 (jp C::aB j 5::aB j 6::ab n::ae j 8 39 (jp A::jp A::jp A::a7 A 5::ab m::ab n::af s a b::jp A::r.val::ab n::af (bs V) 1 1::u.val::jp A::N.val::jp A::jp A::jp A::a7 A 5::ab o::ab p::J.val::af q e f::P.val::jp A::T.val::ab n::ag i::af (bs cq) 1 1::H.val::af (bs aT) 3 3::af y z cH::ae j 78 8 [])))) c1)/\aR Y #[ag i] 30 λad bm=>h bm/\eV 210 #[J.val] bm λcS a4 cb bV=>h bV/\eH 250 #[.pointer (some A),N.val,ab p,af cS a4 cb] bV λE aZ=>h aZ/\eH 250 #[.pointer (some A),T.val,ab n,af (bs ad) 1 1] aZ λD cv=>h cv/\aR cv #[ab u.Kind,ab u.Node,ab u.cI,ab u.N,ag u.Old,ag u.ai,af u.Words u.dd u.c0,ag u.Key,ab u.cB,ab E.Kind,ab E.Node,ab E.cI,ab E.N,ag E.Old,ag E.ai,af E.Words E.dd E.c0,ag E.Key,ab E.cB,ab D.Kind,ab D.Node,ab D.cI,ab D.N,ag D.Old,ag D.ai,af D.Words D.dd D.c0,ag D.Key,ab D.cB] 158 λcX a5=>h a5/\da 125 (af s a b) (af (bs cX) 3 3) a5 λcM bQ cu bo=>h bo/\X .normal (lQ A B i cM bQ cu t c d k l (ae j 0 5 (jp C::aB j 5::aB j 6::ab n::ae j 8 39 (jp A::jp A::jp A::a7 A 5::ab m::ab n::af s a b::jp A::r.val::ab n::af (bs V) 1 1::u.val::jp A::N.val::jp A::jp A::jp A::a7 A 5::ab o::ab p::J.val::af cS a4 cb::E.val::jp A::T.val::ab n::ag i::af (bs ad) 1 1::D.val::af (bs cX) 3 3::af cM bQ cu::ae j 78 8 [])))) bo)/\aR Z #[ag i] 30 λbq ah=>h ah/\cx 209 #[ab o] ah λb4 b7=>h b7/\eV 210 #[J.val] b7 λcO cy ao iN=>h iN/\eH 250 #[.pointer (some A),N.val,ab b4,af cO cy ao] iN λL bY=>h bY/\eH 250 #[.pointer (some A),T.val,ab n,af (bs bq) 1 1] bY λbf df=>h df/\aR df #[ab u.Kind,ab u.Node,ab u.cI,ab u.N,ag u.Old,ag u.ai,af u.Words u.dd u.c0,ag u.Key,ab u.cB,ab L.Kind,ab L.Node,ab L.cI,ab L.N,ag L.Old,ag L.ai,af L.Words L.dd L.c0,ag L.Key,ab L.cB,ab bf.Kind,ab bf.Node,ab bf.cI,ab bf.N,ag bf.Old,ag bf.ai,af bf.Words bf.dd bf.c0,ag bf.Key,ab bf.cB] 158 λbD U=>h U/\da 125 (af s a b) (af (bs bD) 3 3) U λg b5 ca aL=>h aL/\X .normal (lQ A B i g b5 ca t c d k l (ae j 0 5 (jp C::aB j 5::aB j 6::ab n::ae j 8 39 (jp A::jp A::jp A::a7 A 5::ab m::ab n::af s a b::jp A::r.val::ab n::af (bs V) 1 1::u.val::jp A::N.val::jp A::jp A::jp A::a7 A 5::ab o::ab b4::J.val::af cO cy ao::L.val::jp A::T.val::ab n::ag i::af (bs bq) 1 1::bf.val::af (bs bD) 3 3::af g b5 ca::ae j 78 8 [])))) aL)/\aR c6 #[ag i] 30 λcP cL=>h cL/\eH 250 #[.pointer (some A),r.val,ab n,af (bs V) 1 1] cL λS bJ=>h bJ/\cx 209 #[ab o] bJ λaM dn=>h dn/\eV 210 #[J.val] dn λcD b9 c5 aP=>h aP/\eH 250 #[.pointer (some A),N.val,ab aM,af cD b9 c5] aP λG cr=>h cr/\eH 250 #[.pointer (some A),T.val,ab n,af (bs cP) 1 1] cr λF dh=>h dh/\aR dh #[ab S.Kind,ab S.Node,ab S.cI,ab S.N,ag S.Old,ag S.ai,af S.Words S.dd S.c0,ag S.Key,ab S.cB,ab G.Kind,ab G.Node,ab G.cI,ab G.N,ag G.Old,ag G.ai,af G.Words G.dd G.c0,ag G.Key,ab G.cB,ab F.Kind,ab F.Node,ab F.cI,ab F.N,ag F.Old,ag F.ai,af F.Words F.dd F.c0,ag F.Key,ab F.cB] 158 λa9 cY=>h cY/\da 125 (af s a b) (af (bs a9) 3 3) cY λbR bW cm bx=>h bx/\X .normal (lQ A B i bR bW cm t c d k l (ae j 0 5 (jp C::aB j 5::aB j 6::ab n::ae j 8 39 (jp A::jp A::jp A::a7 A 5::ab m::ab n::af s a b::jp A::r.val::ab n::af (bs V) 1 1::S.val::jp A::N.val::jp A::jp A::jp A::a7 A 5::ab o::ab aM::J.val::af cD b9 c5::G.val::jp A::T.val::ab n::ag i::af (bs cP) 1 1::F.val::af (bs a9) 3 3::af bR bW cm::ae j 78 8 [])))) bx)/\aR dq #[ag i] 30 λaW cZ=>h cZ/\aR cZ #[ag 0] 30 λcd dm=>h dm/\eH 250 #[.pointer (some A),r.val,ab n,af (bs cd) 1 1] dm λM cN=>h cN/\cx 209 #[ab o] cN λcl dp=>h dp/\eV 210 #[J.val] dp λbk ch aq cf=>h cf/\eH 250 #[.pointer (some A),N.val,ab cl,af bk ch aq] cf λQ bK=>h bK/\eH 250 #[.pointer (some A),T.val,ab n,af (bs aW) 1 1] bK λI b_=>h b_/\aR b_ #[ab M.Kind,ab M.Node,ab M.cI,ab M.N,ag M.Old,ag M.ai,af M.Words M.dd M.c0,ag M.Key,ab M.cB,ab Q.Kind,ab Q.Node,ab Q.cI,ab Q.N,ag Q.Old,ag Q.ai,af Q.Words Q.dd Q.c0,ag Q.Key,ab Q.cB,ab I.Kind,ab I.Node,ab I.cI,ab I.N,ag I.Old,ag I.ai,af I.Words I.dd I.c0,ag I.Key,ab I.cB] 158 λcC dk=>h dk/\da 125 (af s a b) (af (bs cC) 3 3) dk λcK bO cG aI=>h aI/\X .normal (lQ A B i cK bO cG t c d k l (ae j 0 5 (jp C::aB j 5::aB j 6::ab n::ae j 8 39 (jp A::jp A::jp A::a7 A 5::ab m::ab n::af s a b::jp A::r.val::ab n::af (bs cd) 1 1::M.val::jp A::N.val::jp A::jp A::jp A::a7 A 5::ab o::ab cl::J.val::af bk ch aq::Q.val::jp A::T.val::ab n::ag i::af (bs aW) 1 1::I.val::af (bs cC) 3 3::af cK bO cG::ae j 78 8 [])))) aI):=by kernel_rfl
def xF (e l:aw)(n:an)(a b:Nat)(o:an)(c d:Nat)(f:an)(g h:Nat)(i k:Int)(j:al):al:=.pointer (some e)::ae j 0 2 (.pointer (some l)::af n a b::ae j 2 1 (af o c d::ae j 3 8 (af f g h::ab i::ab k::ae j 11 62 [])))
def He (a b:aw)(e:an)(c d:Nat)(h:an)(f g:Nat)(j:al):al:=.pointer (some a)::ae j 0 2 (.pointer (some b)::af e c d::ae j 2 1 (af h f g::ae j 3 73 []))
def qL (e i:aw)(k:an)(a b:Nat)(l:Bool)(c:an)(d f:Nat)(g h:Int)(j:al):al:=.pointer (some e)::ae j 0 2 (.pointer (some i)::af k a b::ad l::ae j 2 34 (af c d f::ab g::ab h::ae j 36 37 []))
def Hf (c:an)(a b:Nat)(d:Bool)(j:al):al:=ae j 0 4 (af c a b::ad d::ae j 4 74 [])
theorem VK (e:bX):bc prog f248 [bb a,e.val] R w=(aR w e.cells.toArray 271 λf g=>bY g (ah f 1) λd b c=>cj prog (cN f248 [1,1,0,1,0,0]) (xF (ah a 0) (ah f 0) none 0 0 none 0 0 d b c (b:Nat) 0 (e.val::undef::ad false::a1 7 (jp (ah f 1)::a1 62 []))) (aL 0 (aS f248 [1,1,1] R)) g):=by kernel_rfl
theorem T' (x:al->aK):W prog (sb f248 [1,1,0,1,0,0]) (xF A B s a b t c d u e f i k j) (aM x (aL 0 (aS f248 [1,1,1] R))) w=(cond (k<i) (bk u e k 9 λF=>hJ w F λr=>aR w #[ab 0,ag 0,ag 0,ag 0,ag 0,ag 0,ag 0,ag 0,ag 0] 73 λh bf=>a8 bf (ah h 0) 0 r.cells λG=>ck G λH g=>hf g (br A 9) λp=>cA g (ah h 0) λl=>cx 108 #[ab l] H λm y=>g y/\eH 220 #[.pointer (some A),p.val,ab m,ab 1] y λq E=>g E/\aR E q.cells.toArray 158 λz C=>g C/\da 125 (af t c d) (af (bs z) 1 1) C λv n o D=>g D/\x (xF A B s a b v n o u e f i (i64.wrap (k+1)) (ae j 0 4 (jp (ah h 0)::ae j 5 6 (ad (k<i)::jp F::r.val::af t c d::jp A::jp A::jp A::a7 A 9::p.val::jp (ah h 0)::ab l::ab m::q.val::af (bs z) 1 1::af v n o::ab (i64.wrap (k+1))::ae j 27 46 [])))) D) (W prog (sb f248 [1,1,1]) (He A B s a b t c d (ae j 0 11 (af u e f::ab i::ab k::ad (k<i)::ae j 12 61 []))) (bV f248 R) w)):=by kernel_rfl
theorem Uz:W prog (sb f248 [1,1,1]) (He A B s a b t c d j) (bV f248 R) w=(h4 221 #[.pointer (some A),af t c d] w λh i k l e=>cj prog (cN f248 [1,1,1,1,0,1,0,0]) (qL A B s a b l h i k (i:Nat) 0 (aB j 0::aB j 1::af t c d::aB j 3::aB j 4::af h i k::ae j 6 24 (.tuple #[af h i k,ad l]::jp A::af t c d::.tuple #[af h i k,ad l]::af h i k::ad l::ae j 39 37 []))) (aL 2 (aS f248 [1,1,1,1,1] R)) e):=by kernel_rfl
theorem lm (G:al->aK):W prog (sb f248 [1,1,1,1,0,1,0,0]) (qL A B s a b F t c d i k j) (aM G (aL 2 (aS f248 [1,1,1,1,1] R))) w=(cond (k<i) (bk t c k 2 λI=>pU w I λr=>aR w #[ab 0,a4] 131 λu S=>a8 S (ah u 0) 0 r.cells λP=>ck P λQ H=>dS H (br B 1) λf C l=>bk f C k 9 λy=>rh H y λE=>cA H (br A 5) λm=>g6 211 #[E.val,ab m] Q λn o D=>H D/\cond (o == 0) (pU D (ah u 0) λK=>iJ 196 #[K.val] D λp bf=>cond (p == n) (bY bf (br B 1) λq e g=>bk q e k 9 λz=>hJ bf z λM=>aR bf M.cells.toArray 73 λL N=>da 37 (af s a b) (af (bs L) 1 1) N λh v x O=>G (qL A B h v x F t c d i (i64.wrap (k+1)) (ae j 0 6 (ab k::jp (ah u 0)::ag n::ab o::ae j 10 26 [ad (k<i),ab k,jp I,r.val,.tuple #[ag n,ab o],a7 B 1,af f C l,ab k,jp y,E.val,jp A,jp A,jp A,a7 A 5,ab m,.tuple #[ag n,ab o],ag n,ab o,ab o,ad ((o:Int) == 0),ad true,K.val,ag p,ag n,ad ((p:Int) == n),ad ((p:Int) == n),af s a b,a7 B 1,af q e g,ab k,jp z,M.val,af (bs L) 1 1,af h v x,ab (i64.wrap (k+1)),aB j 71,aB j 72]))) O) (G (qL A B s a b F t c d i (i64.wrap (k+1)) (ae j 0 6 (ab k::jp (ah u 0)::ag n::ab o::ae j 10 26 (ad (k<i)::ab k::jp I::r.val::.tuple #[ag n,ab o]::a7 B 1::af f C l::ab k::jp y::E.val::jp A::jp A::jp A::a7 A 5::ab m::.tuple #[ag n,ab o]::ag n::ab o::ab o::ad ((o:Int) == 0)::ad true::K.val::ag p::ag n::ad ((p:Int) == n)::ad ((p:Int) == n)::ae j 62 8 [ab (i64.wrap (k+1)),aB j 71,aB j 72])))) bf)) (G (qL A B s a b F t c d i (i64.wrap (k+1)) (ae j 0 6 (ab k::jp (ah u 0)::ag n::ab o::ae j 10 26 (ad (k<i)::ab k::jp I::r.val::.tuple #[ag n,ab o]::a7 B 1::af f C l::ab k::jp y::E.val::jp A::jp A::jp A::a7 A 5::ab m::.tuple #[ag n,ab o]::ag n::ab o::ab o::ad ((o:Int) == 0)::ad false::a1 4 (ad false::ae j 62 8 [ab (i64.wrap (k+1)),aB j 71,aB j 72]))))) D)) (W prog (sb f248 [1,1,1,1,1]) (Hf s a b F (jp A::aB j 0::aB j 1::jp B::ae j 2 34 (af t c d::ab i::ab k::ad (k<i)::ae j 37 36 []))) (bV f248 R) w)):=by kernel_rfl
theorem UA:W prog (sb f248 [1,1,1,1,1]) (Hf s a b F j) (bV f248 R) w=(R (.tuple #[af s a b,ad F]) w):=by kernel_rfl
end
end Go.Proofs.YtmkljjbioomepaaGreat
