import Derived.Test.YtmkljjbioomepaaGreatf28
import Derived.Test.YtmkljjbioomepaaGreatProg
import Derived.Test.YtmkljjbioomepaaGreatf02
import Derived.Test.YtmkljjbioomepaaGreatf26
import Derived.Test.YtmkljjbioomepaaGreatf03
import Derived.Test.YtmkljjbioomepaaGreatf08
import Derived.Test.YtmkljjbioomepaaGreatf09
import Derived.Test.YtmkljjbioomepaaGreatf15
set_option linter.all false
set_option maxHeartbeats 4000000
set_option maxRecDepth 100000
namespace Go.Proofs.YtmkljjbioomepaaGreat
open Go.Proofs.Tryz Go.bd
namespace gW
structure gb (A:a6)(av:bI)(w:aj)(aJ:Nat)(la:an)(lc:Nat)(ds:List (an×au))(u:aj)(B:a6)(v5:bI)(X:bt)(ts:List (dH×ca conv)):Prop where
 jw:fa A av w aJ (aP la) u B v5 X
 own:aZ u gp 36 la ts.length lc (hz ts).flatten
 kL:∀ x ∈ ts,gE (λk=>B k\/aP la k) u x.1 x.2/\ma x.2
 jX:∀ d ∈ ds,m' (λk=>B k\/aP la k) u d.1 d.2
 eA:cy X.pure
theorem gb.new {A:a6}{av:bI}{w u bF:aj}{aJ:Nat}{la:an}{lc:Nat}{ds:List (an×au)}{B:a6}{c:bI}{X:bt}{ts:List (dH×ca conv)}(h:gb A av w aJ la lc ds u B c X ts)(a:ai u bF):gb A av w aJ la lc ds bF B c X ts:=
 ⟨h.jw.new a,aZ.new a h.own,λx b=>⟨(h.kL x b).1.aC (ao.b7 a) λ_ _ e=>e,(h.kL x b).2⟩,λd dR=>(h.jX d dR).aC (ao.b7 a) λ_ _ e=>e,h.eA⟩
theorem gb.op {A:a6}{av:bI}{w u bF:aj}{aJ:Nat}{la:an}{lc:Nat}{ds:List (an×au)}{B:a6}{o:bI}{X:bt}{ts:List (dH×ca conv)}(h:gb A av w aJ la lc ds u B o X ts){F:aH}{K:(a6)->Prop}(p:dV (λk=>B k\/aP la k) o u aJ F bF K)(s:cy F) :
  ∃ B' j c,gb A av w aJ la lc ds bF B' j c ts/\c.pure=F/\K (λk=>B' k\/aP la k):=by
 obtain⟨B',j,c,q,i,e,b,a,f⟩:=h.jw.op p;refine⟨B',j,c,⟨q,?_,λx n=>⟨(h.kL x n).1.aC b a,(h.kL x n).2⟩,λd dR=>(h.jX d dR).aC b a,by grind⟩,i,e⟩;refine⟨h.own.1,?_⟩;rcases h.own.2 with t | ⟨g,cur,l,r,rest⟩
 ·grind
 ·exact .inr ⟨g,cur,l,(f g ⟨0,l⟩).trans r,rest⟩
theorem gb.B8 {A:a6}{av:bI}{w u w1:aj}{aJ lb:Nat}{lc:Nat}{ds:List (an×au)}{B:a6}{s:bI}{X:bt}{ts:List (dH×ca conv)}(h:gb A av w aJ (some ⟨lb,0,none⟩) lc ds u B s X ts){i:Nat}{x:dH×ca conv}(r:ts[i]?=some x){v:bl}
  (t:sn (λk=>B k\/aP (some ⟨lb,0,none⟩) k) s u aJ (b5 X.pure x.2) v w1) :
  ∃ B' n f a,v=a.val/\dT w1 ⟨lb,i*36,none⟩ 0 a.cells/\
   gb A av w aJ (some ⟨lb,0,none⟩) lc ds (cv w1 ⟨lb,i*36,none⟩ 0 a.cells) B' n f (ts.set i (a,(b5 X.pure x.2).2))/\f.pure=(b5 X.pure x.2).1:=by
 obtain⟨B',n,f,c,g,a,ar,l⟩:=h.op t (h.eA.b5 _);have j:=(rG.1 r).1;obtain⟨hw,C⟩:=aZ.VX c.own (oI ts) (by simp[hz]) j (vs:=a.cells) rfl (cr.single a);have q:ao (λk=>k=lb) w1 (cv w1 ⟨lb,i*36,none⟩ 0 a.cells):=hD _ _ _ _ _;have p:∀ k,k=lb->aP (some ⟨lb,0,none⟩) k:=λk e=>⟨0,by rw[e]⟩
 have b:ao (λk=>B' k\/aP (some ⟨lb,0,none⟩) k) w1 (cv w1 ⟨lb,i*36,none⟩ 0 a.cells):=q.mono λk _ e=>.inr (p k e)
 refine⟨B',n,f,a,ar,hw,⟨c.jw.local q p,?_,λy z=>?_,λd dR=>(c.jX d dR).aC b λ_ _ e=>e,c.eA⟩,g⟩
 ·rw[tH];have e:hz (ts.set i (a,(b5 X.pure x.2).2))=(hz ts).set i a.cells:=by simp[hz,m4]
  grind
 ·rcases m5 z with o | rfl
  ·exact⟨(c.kL y o).1.aC b λ_ _ e=>e,(c.kL y o).2⟩
  ·exact⟨l.aC b λ_ _ e=>e,LS (h.kL x (cu r)).2⟩
theorem gb.la {A:a6}{av:bI}{w u:aj}{aJ:Nat}{la:an}{lc:Nat}{ds:List (an×au)}{B:a6}{a:bI}{X:bt}{ts:List (dH×ca conv)}(h:gb A av w aJ la lc ds u B a X ts)(c:0<ts.length):∃ lb,la=some ⟨lb,0,none⟩:=by
 rcases h.own.2 with⟨_,d,_⟩ | ⟨g,cur,b,_⟩
 ·omega
 grind
def DS (A:a6)(av:bI)(w:aj)(aJ:Nat)(r:aH×List (ca conv))(v:bl)(w':aj):Prop:=
 dV A av w aJ r.1 w' λB=>∃ la lc a,v=.slice la r.2.length lc/\a.map Prod.snd=r.2/\aZ w' gp 36 la r.2.length lc (hz a).flatten/\(∀ k,aP la k->¬ B k)/\∀ x ∈ a,gE B w' x.1 x.2
theorem Fw (ts:List (dH×ca conv))(i:Nat)(r:dH)(t:ca conv):(ts.set i (r,t)).map Prod.snd=(ts.map Prod.snd).set i t:=by simp_all
theorem Fx {A:a6}{av:bI}{w:aj}{aJ:Nat}{X:bt}(h:b4 A av w aJ X)(cl:cy X.pure){ts:List (dH×ca conv)}{a2:an}{pc:Nat}(bG:bh w a2 (hz ts).flatten)(Q:∀ x ∈ ts,gE A w x.1 x.2/\ma x.2)(cK:ts.length<=1000)
  {sch:ba} {sa:an} {sc:Nat} (bD:m' A w sa (is sch)) (b6:∀ x ∈ sch,eb x) {most:Nat} (hm:most<=1000000) :
  a9 15 [ptr aJ,.slice a2 ts.length pc,.slice sa sch.length sc,.slice none 0 0,.int .i64 most] w (DS A av w aJ (iD X.pure (ts.map Prod.snd) sch [] most)):=by
 refine a' Tryz.func15 ?_;rw[ptr,ZS];obtain⟨inf,bL,ax,y,a8⟩:=ft (T:=gp) (z:=.agg #[(.int .i64 0),(.int .i64 0),(.int .i64 0),(.int .i64 0),(.int .i64 0),(.int .i64 0),(.int .i64 0),(.int .u64 0),(.int .i64 0),(.int .i64 0),(.int .i64 0),(.int .i64 0),(.slice none 0 0),(.slice none 0 0),(.slice none 0 0),(.int .i64 0),(.int .i64 0),(.int .i64 0),(.int .i64 0),(.slice none 0 0),(.int .i64 0),(.int .i64 0),(.int .u64 0),(.slice none 0 0),(.bool false),(.bool false),(.int .i64 0),(.int .i64 0),(.slice none 0 0),(.int .i64 0),(.slice none 0 0),(.int .u64 0),(.int .i64 0),(.int .i64 0),(.int .i64 0),(.int .i64 0)]) (n:=36) (m:=392) (by kernel_rfl);have bs:aZ w gp inf.size none 0 0 []:=aZ.nil _ _ _;obtain⟨ap,cT,w1,K,f,bo,a4⟩:=aZ.append (P:=prog) (t:=xr) (ty:=xr) Tryz.underlying46 bL ax (by rw[y];rfl) (by omega) bs (s:=a2) (m:=ts.length) (c:=pc) (news:=(hz ts).flatten) (by rw[y,lT (oI ts)];simp[hz]) bG (CG ts) (by omega) (by grind);rw[h_,qc,y]at f;rw[h_]at K;have N:ai w w1:=bo.mono λk _ ab=>by obtain⟨o,aB⟩:=ab;cases aB
 have bk:∀ k,aP ap k->w.heap.size<=k:=λk q=>by
  rcases a4 with e | e
  ·rw[e]at q;obtain⟨o,aB⟩:=q;cases aB
  ·rw[e]at q;obtain⟨o,aB⟩:=q;grind
 have H:∀ k,k<w.heap.size->A k\/aP ap k->A k:=λk r bQ=>bQ.elim id λab=>by grind
 have ch:fa A av w aJ (aP ap) w1 A av X:=fa.start h N λk q=>⟨bk k q,f.lt q⟩
 have aM:gb A av w aJ ap cT [(sa,is sch)] w1 A av X ts:=by refine⟨ch,f,λx L=>⟨(Q x L).1.aC (ao.b7 N) H,(Q x L).2⟩,λd dR=>?_,cl⟩;simp at dR;subst dR;exact bD.aC (ao.b7 N) H
 refine⟨ap,ts.length,cT,w1,K,?_⟩;clear K bo ch bs ax a8 y bL inf a4;obtain⟨inf,bL,ax,y,a8⟩:=ft (T:=mo) (z:=.int .i64 0) (n:=1) (m:=8) (by kernel_rfl);generalize cG:(ts.map Prod.snd).map ca.a3=cs;refine cP mix (λm env u=>∃ (i:Nat) (C:an) (cc:Nat) (g:au),m=ts.length-i/\i<=ts.length/\env=ya ⟨aJ,0,none⟩ ap ts.length cT sa sch.length sc none 0 0 most C i cc i g/\ai w1 u/\aZ u mo 1 C i cc (is (cs.take i))/\(∀ k,aP C k->w1.heap.size<=k)) ts.length
  ⟨0,none,0,_,rfl,by omega,rfl,ao.refl _ _,aZ.nil _ _ _,λk q=>by obtain⟨o,aB⟩:=q;cases aB⟩ ?_
 rintro m env u ⟨i,C,cc,g,rfl,G,rfl,I,O,ae⟩;rw[V_];refine a5 (λaI=>?_) (λaI=>?_)
 ·have r:i<ts.length:=by omega
  have M:ts[i]?=some ts[i]:=bW r;obtain⟨cd,f9,b,bb,l⟩:=(aZ.new I f).rd.row (oI ts) (by omega) (z1 M);have ck:cs[i]?=some ts[i].2.a3:=by grind
  rw[b];refine dM (by omega) (by omega) ⟨ts[i].2.a3,by rw[<-(Q _ (vX r)).1.a3];simpa using l 1 _ rfl,?_⟩;have br:aZ u mo inf.size C i cc (is (cs.take i)):=by grind
  refine oN Tryz.underlying22 bL ax (by rw[y];rfl) (by omega) br (vs:=[.int .i64 ts[i].2.a3]) (by grind) (by intro v ar;simp at ar;subst ar;rfl) (by omega) (by omega) ?_;intro cM bO aL b3 cC b5 bV a7;rw[y]at b5;rw[bq (by omega) (by omega),<-b];refine⟨ts.length-(i+1),by omega,i+1,bO,aL,_,rfl,by omega,rfl,ti I bV ae,?_,?_⟩
  ·grind[is,List.take_add_one]
  ·intro k q;rcases a7 k q with cf | cf
   ·grind
   ·have:=I.size;omega
 have af:i=ts.length:=by omega
 subst af;have cD:cs.length=ts.length:=by grind
 rw[rM (by omega)]at O;rw[XO];clear aI G;have aR:gb A av w aJ ap cT [(C,is cs),(sa,is sch)] u A av X ts:=by
  have dR:=aM.new I;refine⟨dR.jw,dR.own,dR.kL,λd ad=>?_,cl⟩;rcases gw.1 ad with rfl | ad
  ·refine⟨O.rd,gF O.rd λk q e=>?_⟩;have cf:=ae k q;rcases e with e | e
   ·have:=h.low k e;have:=N.size;omega
   ·have:=f.lt e;omega
  ·exact dR.jX d ad
 have D:iD X.pure (ts.map Prod.snd) sch [] most=turns (iU cs sch [] most 0 X.pure (ts.map Prod.snd)).1 (iU cs sch [] most 0 X.pure (ts.map Prod.snd)).2:=by grind[iD]
 rw[D];generalize S:iU cs sch [] most 0 X.pure (ts.map Prod.snd)=bK;have aW:=S;clear D aM O ae I bG Q bD;have cj:cs.length<=1000:=by omega
 have bX:∀ (z:aj) (B:a6) (j:bI) (Y:bt) (ys:List (dH×ca conv)) (g:au),gb A av w aJ ap cT [(C,is cs),(sa,is sch)] z B j Y ys->ys.length=ts.length->(Y.pure,ys.map Prod.snd)=bK->
   W prog (sub (ay f15) [1,1,1,1,1]) (yc ⟨aJ,0,none⟩ ap ts.length cT g) (cS prog f15 (DS A av w aJ (turns bK.1 bK.2))) z:=by
  intro z B j Y ys g a ah a1;rw[XP];rw[<-a1];dsimp only;refine cP mix (λm env z=>∃ (i:Nat) (B:a6) (j:bI) (Z:bt) (zs:List (dH×ca conv)) (g:au),m=ts.length-i/\i<=ts.length/\env=yd ⟨aJ,0,none⟩ ap ts.length cT i g/\gb A av w aJ ap cT [(C,is cs),(sa,is sch)] z B j Z zs/\zs.length=ts.length/\mq Y.pure (ys.map Prod.snd) i Z.pure (zs.map Prod.snd)) ts.length
   ⟨0,B,j,Y,ys,_,rfl,by omega,rfl,a,ah,mq.start _ _⟩ ?_
  clear a a1;rintro m env z ⟨i,B,j,Z,zs,g,rfl,G,rfl,a,bH,F⟩;rw[Wb];refine a5 (λaI=>?_) (λaI=>?_)
  ·have r:i<zs.length:=by omega
   have M:zs[i]?=some zs[i]:=bW r;obtain⟨lb,ag⟩:=a.la (by omega);rw[ag]at a ⊢;obtain⟨cd,f9,b,bb,l⟩:=a.own.rd.row (oI zs) (by omega) (z1 M);simp at b;obtain⟨rfl,rfl⟩:=b;have L:=a.kL _ (cu M);refine dM (by omega) (by omega) ?_;refine cr.aT zs[i].1 ⟨by grind,?_⟩;refine aE (AR a.jw.cn a.eA.ct L.1 L.2) ?_;rintro v cq J;obtain⟨B',bJ,bN,cb,rfl,hw,E,U⟩:=a.B8 M J;refine cr.aT cb ⟨rfl,?_⟩;refine dM (by omega) (by omega) ?_;have R:0+Int.toNat (i:Int)*36=i*36:=by omega
   rw[R];refine⟨hw,?_⟩;rintro cL aq;rw[bq (by omega) (by omega)];refine⟨ts.length-(i+1),by omega,i+1,B',bJ,bN,_,_,rfl,by omega,rfl,by rw[aq];exact E,by grind,?_⟩;rw[Fw,U];exact F.step (by grind)
  ·have af:i=ts.length:=by omega
   rw[XR];have p:=F.done (by grind);rw[p];refine a.jw.done ⟨ap,cT,zs,by grind,rfl,by simpa using a.own,λk q ab=>?_,λx L=>(a.kL x L).1.aC (ao.refl _ _) λ_ _ e=>.inl e⟩;obtain⟨hb,l2,jJ⟩:=a.jw.loc k q;rcases(a.jw.next.iff k).1 ab with bQ | bQ
   ·grind
   ·omega
 refine cP mix (λm env z=>∃ (n:Nat) (B:a6) (j:bI) (Y:bt) (ys:List (dH×ca conv)) (g:au),m=most-n/\n<=most/\env=yb ⟨aJ,0,none⟩ ap ts.length cT sa sch.length sc none 0 0 most C ts.length cc n g/\gb A av w aJ ap cT [(C,is cs),(sa,is sch)] z B j Y ys/\ys.length=ts.length/\iU cs sch [] (most-n) n Y.pure (ys.map Prod.snd)=bK) most
  ⟨0,A,av,X,ts,_,rfl,by omega,rfl,aR,rfl,S⟩ ?_
 clear aR S aW;rintro m env z ⟨n,B,j,Y,ys,g,rfl,cH,rfl,a,ah,aV⟩;rw[V'];refine a5 (λaI=>?_) (λaI=>?_)
 ·have bY:most-n=(most-(n+1))+1:=by omega
  rw[bY,iU]at aV;refine cP mix (λm env z=>∃ (B:a6) (j:bI) (Z:bt) (g:au),m=0/\env=ve ⟨aJ,0,none⟩ ap ts.length cT sa sch.length sc none 0 0 most C ts.length cc n (0:Nat) g/\gb A av w aJ ap cT [(C,is cs),(sa,is sch)] z B j Z ys/\Z.pure=Y.pure) 0
   ⟨B,j,Y,_,rfl,rfl,a,rfl⟩ ?_
  clear a;rintro m env z ⟨B,j,Z,g,rfl,rfl,a,cA⟩;rw[Wa];refine a5 (λbx=>b_ bx (by omega)) (λbx=>?_)
  have bR:k8 Y.pure cs n []=Y.pure:=rfl;rw[bR]at aV;rw[XQ];rw[<-cA]at aV;refine cP mix (λm env z=>∃ (i:Nat) (B:a6) (j:bI) (V:bt) (zs:List (dH×ca conv)) (g:au),m=ts.length-i/\i<=ts.length/\env=ye ⟨aJ,0,none⟩ ap ts.length cT sa sch.length sc none 0 0 most C ts.length cc n i g/\gb A av w aJ ap cT [(C,is cs),(sa,is sch)] z B j V zs/\zs.length=ts.length/\mq Z.pure (ys.map Prod.snd) i V.pure (zs.map Prod.snd)) ts.length
   ⟨0,B,j,Z,ys,_,rfl,by omega,rfl,a,ah,mq.start _ _⟩ ?_
  clear a bx;rintro m env z ⟨i,B,j,V,zs,g,rfl,G,rfl,a,bH,F⟩;rw[Wc];refine a5 (λbx=>?_) (λbx=>?_)
  ·have r:i<zs.length:=by omega
   have M:zs[i]?=some zs[i]:=bW r;obtain⟨lb,ag⟩:=a.la (by omega);rw[ag]at a ⊢;obtain⟨cd,f9,b,bb,l⟩:=a.own.rd.row (oI zs) (by omega) (z1 M);simp at b;obtain⟨rfl,rfl⟩:=b;have L:=a.kL _ (cu M);refine dM (by omega) (by omega) ?_;refine cr.aT zs[i].1 ⟨by grind,?_⟩;refine aE (AR a.jw.cn a.eA.ct L.1 L.2) ?_;rintro v cq J;obtain⟨B',bJ,bN,cb,rfl,hw,E,U⟩:=a.B8 M J;refine cr.aT cb ⟨rfl,?_⟩;refine dM (by omega) (by omega) ?_;have R:0+Int.toNat (i:Int)*36=i*36:=by omega
   rw[R];refine⟨hw,?_⟩;rintro cL aq;rw[bq (by omega) (by omega)];refine⟨ts.length-(i+1),by omega,i+1,B',bJ,bN,_,_,rfl,by omega,rfl,by rw[aq];exact E,by grind,?_⟩;rw[Fw,U];exact F.step (by grind)
  ·have af:i=ts.length:=by omega
   have p:=F.done (by grind);rw[p]at aV;rw[XS];have b9:=(a.jX (sa,is sch) (by simp)).1;refine aE (E_ a.jw.cn a.eA b9 b6 n) ?_;rintro v cq ⟨rfl,J⟩;obtain⟨B',bJ,cv,E,cx,_⟩:=a.op J (a.eA.dX _ _);refine⟨_,rfl,eu (λab=>?_) (λab=>?_)⟩
   ·grind
   ·rw[bm ab]at aV;rw[bq (by omega) (by omega)];exact⟨most-(n+1),by omega,n+1,B',bJ,cv,zs,_,rfl,by omega,rfl,E,bH,by grind⟩
 ·have cm:most-n=0:=by omega
  grind[iU]
theorem wD {l:List (dH×ca conv)}{t:ca conv}(h:l.map Prod.snd=[t]):∃ r,l=[(r,t)]:=by
 simp_all
theorem NH (F:aH)(r:dH)(t:ca conv):iD F ([(r,t)].map Prod.snd) [] [] 20000=l_ F t:=rfl
section
attribute [local irreducible] iD l_
theorem QH {A:a6}{av:bI}{w:aj}{aJ:Nat}{X:bt}(h:b4 A av w aJ X)(aI:cy X.pure){r:dH}{t:ca conv}(Z:gE A w r t)(W:ma t) :
  a9 26 [ptr aJ,r.val] w λv w'=>dV A av w aJ (l_ X.pure t).1 w' λB=>∃ n b,(l_ X.pure t).2=[n]/\v=b.val/\gE B w' b n:=by
 refine a' Tryz.func26 ?_;rw[ptr,ZT];rintro b1 w1 N z az a1 O C;obtain⟨F,s⟩:=bo N z;obtain⟨H,u⟩:=bo O C;have G:aq a1 b1 r.cells gp:=ai.ak u F;have ae:=s.size;have aV:=H.lt;clear z C F;refine cr.aT r ⟨bJ G rfl,?_⟩;rintro ab I P D;obtain⟨l,j⟩:=bo P D;have l:aq I ab r.cells gp:=l;clear D;have d:=(s.new u).new j;have aW:=j.size;have ad:fa A av w aJ (λk=>k=az) I A av X:=fa.start h d λk a8=>by omega
 have f:∀ k,k<w.heap.size->A k\/k=az->A k:=λk aM ah=>ah.elim id λe=>by omega
 have S:m' (λk=>A k\/k=az) I none ([]:au):=⟨.inl rfl,.inl rfl⟩;have V:bh I (some ⟨ab,0,none⟩) (hz [(r,t)]).flatten:=e6 l (by simp[hz,cr.cells]);have T:=Fx ad.cn aI (ts:=[(r,t)]) (pc:=1) V (λx E=>by simp at E;rw[E];exact⟨Z.aC (ao.b7 d) f,W⟩) (by simp) (sch:=[]) (sa:=none) (sc:=0) S (λx Z=>by cases Z) (most:=20000) (by omega);refine aE T ?_;rintro v bb aR;obtain⟨B',bm,a4,af,o,J,aL,ag,K⟩:=ad.op aR;obtain⟨la,lc,aZ,rfl,a,c,aP,y⟩:=J;have M:=NH X.pure r t;rw[M]at o a c ⊢;obtain⟨n,Y⟩:=Nc X.pure t;rw[Y]at a c ⊢;obtain⟨b,rfl⟩:=wD a;refine⟨_,_,_,rfl,?_⟩;obtain⟨a5,f9,L,aB,R⟩:=c.rd.row (oI [(b,n)]) (by omega) (i:=0) rfl;have U:f9=0:=by
  rcases c.2 with⟨he,_⟩ | ⟨g,cur,a7,_⟩
  ·grind
  grind
 subst U;rw[L];refine dM (by omega) (by simp) ?_;have p:=(K az rfl).trans (ai.ak j H);refine cr.aT b ⟨by grind,?_⟩;refine dI (vs:=b.cells) p rfl (cr.single b) λbk Q q=>?_
 refine cr.aT b ⟨bJ Q rfl,rfl,?_⟩;rw[<-o];refine(af.local q λ_ e=>e).done ⟨n,b,rfl,rfl,?_⟩;exact(y (b,n) (by simp)).aC (q.mono λ_ _ e=>.inr e) λk _ e=>.inl e
end
end gW
section
open gW
structure nm (c:Nat)(lines:Int)(W:List aD)(ns:List aO):Prop where
 ord:AX c lines 1 W ns
 ej:ns.length<=3
 Uf:∀ x ∈ ns,x.words.length=808
def n3 (b:List aO->Prop)(sch:ba)(die:Int)(K:aH×ca conv->Prop):Nat->Nat->aH->ca conv->Prop
 | 0,_,F,t=>K (b5 F t)
 |m+1,n,F,t=>∀ a,a=(if(n:Int)=die then((b5 F t).1.die (b5 F t).2.a3).2 else(b5 F t).1)->
  ((dX a sch n).1=false->K (b5 (dX a sch n).2 (b5 F t).2))/\((dX a sch n).1=true->b (dX a sch n).2.nodes/\n3 b sch die K m (n+1) (dX a sch n).2 (b5 F t).2)
def DT (A:a6)(av:bI)(w:aj)(aJ:Nat)(E:aH×ca conv)(v:bl)(w':aj):Prop:=
 dV A av w aJ E.1 w' λB=>∃ la lc a,v=.tuple #[.slice la 1 lc,.bool true]/\aZ w' gp 36 la 1 lc a.cells/\(∀ k,aP la k->¬ B k)/\gE B w' a E.2
structure GG (c:Nat)(job:cE)(W:List aD):Prop where
 len:job.dj=W.length
 cR:job.Client=c
 qO:c<6
 seq:job.Seq=1
 ej:W.length<=100
 lines:∀ q ∈ W,96<=q.bw/\q.bw<101
theorem Ec (r:dH)(t:ca conv):(hz [(r,t)]).flatten=r.cells:=by simp[hz]
theorem Fy {A:a6}{av:bI}{w:aj}{aJ:Nat}{X:bt}(h:b4 A av w aJ X)(dD:cy X.pure){r:dH}{t:ca conv}(dI:gE A w r t)(cM:ma t){a2:an}{pc:Nat}(cH:bh w a2 r.cells)
  {sch:ba} {sa:an} {sc:Nat} (cL:m' A w sa (is sch)) (cN:∀ x ∈ sch,eb x) {c:Nat} {job:cE} {W:List aD} (cm:m' A w job.de (ef W).flatten) (br:GG c job W) {die:Int} {most:Nat} (hm:most<=1000000)
  {K:aH×ca conv->Prop} (bK:n3 (nm c job.et W) sch die K most 0 X.pure t) :
  a9 25 [ptr aJ,.slice a2 1 pc,job.val,.slice sa sch.length sc,.int .i64 die,.int .i64 most] w λv w'=>∃ E,K E/\DT A av w aJ E v w':=by
 refine a' Tryz.func25 ?_;rw[ptr,ZU];rintro b1 w0 cf bR;obtain⟨aW,a8⟩:=bo cf bR;have aW:aq w0 b1 job.cells 39:=aW;clear bR;obtain⟨inf,dp,ax,aV,cj⟩:=ft (T:=gp) (z:=.agg #[(.int .i64 0),(.int .i64 0),(.int .i64 0),(.int .i64 0),(.int .i64 0),(.int .i64 0),(.int .i64 0),(.int .u64 0),(.int .i64 0),(.int .i64 0),(.int .i64 0),(.int .i64 0),(.slice none 0 0),(.slice none 0 0),(.slice none 0 0),(.int .i64 0),(.int .i64 0),(.int .i64 0),(.int .i64 0),(.slice none 0 0),(.int .i64 0),(.int .i64 0),(.int .u64 0),(.slice none 0 0),(.bool false),(.bool false),(.int .i64 0),(.int .i64 0),(.slice none 0 0),(.int .i64 0),(.slice none 0 0),(.int .u64 0),(.int .i64 0),(.int .i64 0),(.int .i64 0),(.int .i64 0)]) (n:=36) (m:=392) (by kernel_rfl);have bO:aZ w0 gp inf.size none 0 0 []:=aZ.nil _ _ _;obtain⟨ap,cT,w1,ae,ab,bN,bH⟩:=aZ.append (P:=prog) (t:=xr) (ty:=xr) Tryz.underlying46 dp ax (by rw[aV];rfl) (by omega) bO (s:=a2) (m:=1) (c:=pc) (news:=(hz [(r,t)]).flatten) (by rw[aV,lT (oI [(r,t)])];simp[hz]) (by rw[Ec];exact cH.new a8) (CG [(r,t)]) (by omega) (by grind);rw[h_,qc,aV]at ab;rw[h_]at ae;have a1:ai w0 w1:=bN.mono λk _ Q=>by obtain⟨o,bX⟩:=Q;cases bX
 have aR:ai w w1:=a8.new a1;have dq:=aW.lt;have dn:∀ k,aP ap k->w0.heap.size<=k:=λk O=>by
  rcases bH with e | e
  ·rw[e]at O;obtain⟨o,bX⟩:=O;cases bX
  ·rw[e]at O;obtain⟨o,bX⟩:=O;grind
 have dG:=a8.size;have bJ:∀ k,aP ap k->w.heap.size<=k:=λk O=>by grind
 have G:∀ k,k<w.heap.size->A k\/aP ap k->A k:=λk cA ck=>ck.elim id λQ=>by grind
 have dk:fa A av w aJ (aP ap) w1 A av X:=fa.start h aR λk O=>⟨bJ k O,ab.lt O⟩
 have ch:¬ (A b1\/aP ap b1):=λe=>e.elim (λe=>by have:=h.low _ e;omega) λe=>by grind
 have bD:gb A av w aJ ap cT [(sa,is sch),(some ⟨b1,0,none⟩,job.cells),(job.de,(ef W).flatten)] w1 A av X [(r,t)]:=by
  refine⟨dk,ab,λx ah=>?_,λd bW=>?_,dD⟩
  ·simp at ah;rw[ah];exact⟨dI.aC (ao.b7 aR) G,cM⟩
  ·simp at bW;rcases bW with rfl | rfl | rfl
   ·exact cL.aC (ao.b7 aR) G
   ·exact⟨e6 (ai.ak a1 aW) (by rfl),.inr ch⟩
   ·exact cm.aC (ao.b7 aR) G
 refine ⟨ap,1,cT,w1,ae,?_⟩;clear ae bN dk bO ax cj aV dp inf bH;generalize cd:(λ(v:bl) (w':aj)=>∃ E,K E/\DT A av w aJ E v w')=R;have ag:∀ {z:aj} {B:a6} {l:bI} {Y:bt} {y:dH} {t2:ca conv} (N:aw->dH->dH->aw->aK) (i:Int),i=0->gb A av w aJ ap cT [(sa,is sch),(some ⟨b1,0,none⟩,job.cells),(job.de,(ef W).flatten)] z B l Y [(y,t2)]->
   (∀ (I:aj) (B':a6) (J:bI) (g:bt) (bb:dH) (bm D:aw) (r1 cY:dH),gb A av w aJ ap cT [(sa,is sch),(some ⟨b1,0,none⟩,job.cells),(job.de,(ef W).flatten)] I B' J g [(bb,(b5 Y.pure t2).2)]->g.pure=(b5 Y.pure t2).1->N bm r1 cY D I)->
   bk ap 1 i 36 λbm=>cr.ex λr=>b6 z bm 0 r.cells/\Calls prog 34 #[(.pointer (some ⟨aJ,0,none⟩)),r.val] z λe w1=>cr.ex λu=>e=.returned u.val/\bk ap 1 i 36 λD=>dT w1 D 0 u.cells/\∀ bx,bx=cv w1 D 0 u.cells->N bm r u D bx:=by
  intro z B l Y y t2 N i U a dh;subst U;obtain⟨lb,aM⟩:=a.la (by simp);rw[aM]at a ⊢;obtain⟨dv,dK,M,cl,S⟩:=a.own.rd.row (oI [(y,t2)]) (by omega) (i:=0) rfl;simp at M;obtain⟨rfl,rfl⟩:=M;have ah:=a.kL _ (Cp _);refine dM (by omega) (by omega) ?_;refine cr.aT y ⟨by grind,?_⟩;refine aE (AR a.jw.cn a.eA.ct ah.1 ah.2) ?_;rintro v c5 ad;obtain⟨B',J,dP,bb,rfl,hw,f,dA⟩:=a.B8 (i:=0) rfl ad;refine cr.aT bb ⟨rfl,?_⟩;refine dM (by omega) (by omega) ?_
  grind
 have cu:∀ (z:aj) (B:a6) (l:bI) (Y:bt) (y:dH) (t2:ca conv) (H:au),gb A av w aJ ap cT [(sa,is sch),(some ⟨b1,0,none⟩,job.cells),(job.de,(ef W).flatten)] z B l Y [(y,t2)]->K (b5 Y.pure t2)->
   Go.bd.W prog (sub (ay f25) [1,1,1]) (qR ⟨aJ,0,none⟩ ap 1 cT H) (cS prog f25 R) z:=by
  intro z B l Y y t2 H a cb;rw[XT];refine cP mix (λm env z=>∃ (i:Nat) (B:a6) (l:bI) (Z:bt) (aB:dH) (C:ca conv) (H:au),m=1-i/\i<=1/\env=yg ⟨aJ,0,none⟩ ap 1 cT i H/\gb A av w aJ ap cT [(sa,is sch),(some ⟨b1,0,none⟩,job.cells),(job.de,(ef W).flatten)] z B l Z [(aB,C)]/\(i=0->K (b5 Z.pure C))/\(i=1->K (Z.pure,C))) 1
   ⟨0,B,l,Y,y,t2,_,rfl,by omega,rfl,a,λ_=>cb,λe=>by cases e⟩ ?_
  clear a cb;rintro m env z ⟨i,B,l,Z,aB,C,H,rfl,bL,rfl,a,df,b_⟩;rw[Wf];refine a5 (λcG=>?_) (λcG=>?_)
  ·have U:i=0:=by omega
   subst U;refine ag _ _ (by rfl) a ?_;rintro I B' J g bb bm D r1 cY f F;rw[bq (by omega) (by omega)];refine⟨0,by omega,1,B',J,g,bb,_,_,rfl,by omega,rfl,f,λe=>(by cases e),λ_=>?_⟩
   grind
  ·have a7:i=1:=by omega
   subst a7;rw[XV,<-cd];refine⟨(Z.pure,C),b_ rfl,a.jw.done ⟨ap,cT,aB,rfl,by have:=a.own;grind[Ec],λk O Q=>?_,(a.kL _ (Cp _)).1.aC (ao.refl _ _) λ_ _ e=>.inl e⟩⟩;obtain⟨dR,l2,dS⟩:=a.jw.loc k O;rcases(a.jw.next.iff k).1 Q with ck | ck
   ·grind
   ·omega
 have af:∀ {z:aj} {B:a6} {l:bI} {Y:bt} {y:dH} {t2:ca conv} {n:Nat} (N:Bool->cE->Bool->aK) (c9:Bool->au),n<most->gb A av w aJ ap cT [(sa,is sch),(some ⟨b1,0,none⟩,job.cells),(job.de,(ef W).flatten)] z B l Y [(y,t2)]->
   ((dX Y.pure sch n).1=false->K (b5 (dX Y.pure sch n).2 t2))->((dX Y.pure sch n).1=true->nm c job.et W (dX Y.pure sch n).2.nodes)->
   (∀ (b b':Bool) (c1:cE) (I:aj) (B':a6) (J:bI) (g:bt),gb A av w aJ ap cT [(sa,is sch),(some ⟨b1,0,none⟩,job.cells),(job.de,(ef W).flatten)] I B' J g [(y,t2)]->g.pure=(dX Y.pure sch n).2->(dX Y.pure sch n).1=true->N b c1 b' I)->
   Calls prog 35 #[(.pointer (some ⟨aJ,0,none⟩)),(.slice sa sch.length sc),(.int .i64 n)] z λe bx=>∃ p,e=.returned (.bool p)/\(bif (!p)then(Go.bd.W prog (sub (ay f25) [1,1,1]) (qR ⟨aJ,0,none⟩ ap 1 cT (c9 p)) (cS prog f25 R) bx)else(cE.ex λr=>b6 bx ⟨b1,0,none⟩ 0 r.cells/\
    Calls prog 48 #[(.pointer (some ⟨aJ,0,none⟩)),r.val] bx λe dt=>∃ cZ,e=.returned (.bool cZ)/\(bif (!cZ)then(R (.tuple #[(.slice ap 1 cT),(.bool false)]) dt)else(N p r cZ dt)))):=by
  intro z B l Y y t2 n N c9 cA a cb dy dh;have cO:=(a.jX (sa,is sch) (by simp)).1;refine aE (E_ a.jw.cn a.eA cO cN n) ?_;rintro v c5 ⟨rfl,ad⟩;obtain⟨B',J,g,f,F,_⟩:=a.op ad (a.eA.dX _ _);refine⟨_,rfl,eu (λQ=>?_) (λQ=>?_)⟩
  ·grind
  ·have bs:=dy Q;rw[<-F]at bs;have dF:g.pure.nodes=g.nodes.map d'.n:=rfl;have cq:=(f.jX (some ⟨b1,0,none⟩,job.cells) (by simp)).1;refine cE.aT job ⟨jk λj v ar=>by have:=cq.cell ar;grind,?_⟩;have cx:∀ x ∈ g.nodes,x.n.words.length=808:=λx ah=>bs.Uf _ (by grind)
   have dz:A9 c job W c5 g:=⟨(f.jX (job.de,(ef W).flatten) (by simp)).1,br.len,br.cR,br.qO,br.seq,by have:=bs.ej;grind,λx ah=>by grind,λx ah q cK=>by
    have:=br.lines q cK
    grind,br.ej,bs.ord⟩
   refine aE (NG f.jw.cn dz) ?_;rintro v dN ⟨rfl,cD⟩;refine⟨true,rfl,dm rfl ?_⟩;exact dh _ _ _ dN B' J g (f.new cD) F Q
 refine cP mix (λm env z=>∃ (n:Nat) (B:a6) (l:bI) (Y:bt) (y:dH) (t2:ca conv) (H:au),m=most-n/\n<=most/\env=pC ⟨aJ,0,none⟩ ap 1 cT sa sch.length sc die most ⟨b1,0,none⟩ n H/\gb A av w aJ ap cT [(sa,is sch),(some ⟨b1,0,none⟩,job.cells),(job.de,(ef W).flatten)] z B l Y [(y,t2)]/\n3 (nm c job.et W) sch die K (most-n) n Y.pure t2) most
  ⟨0,A,av,X,r,t,_,rfl,by omega,rfl,bD,bK⟩ ?_
 clear bD bK;rintro m env z ⟨n,B,l,Y,y,t2,H,rfl,dE,rfl,a,bG⟩;rw[Wd];refine a5 (λcG=>?_) (λcG=>?_)
 ·have cC:most-n=(most-(n+1))+1:=by omega
  rw[cC,n3]at bG;refine cP mix (λm env z=>∃ (i:Nat) (B:a6) (l:bI) (Z:bt) (aB:dH) (C:ca conv) (H:au),m=1-i/\i<=1/\env=yf ⟨aJ,0,none⟩ ap 1 cT sa sch.length sc die most ⟨b1,0,none⟩ n i H/\gb A av w aJ ap cT [(sa,is sch),(some ⟨b1,0,none⟩,job.cells),(job.de,(ef W).flatten)] z B l Z [(aB,C)]/\(i=0->Z.pure=Y.pure/\C=t2)/\(i=1->(Z.pure,C)=b5 Y.pure t2)) 1
   ⟨0,B,l,Y,y,t2,_,rfl,by omega,rfl,a,λ_=>⟨rfl,rfl⟩,λe=>by cases e⟩ ?_
  clear a;rintro m env z ⟨i,B,l,Z,aB,C,H,rfl,bL,rfl,a,df,b_⟩;rw[We];refine a5 (λbs=>?_) (λbs=>?_)
  ·have U:i=0:=by omega
   subst U;obtain⟨dQ,rfl⟩:=df rfl;refine ag _ _ (by rfl) a ?_;rintro I B' J g bb bm D r1 cY f F;rw[bq (by omega) (by omega)];refine⟨0,by omega,1,B',J,g,bb,_,_,rfl,by omega,rfl,f,λe=>(by cases e),λ_=>?_⟩
   grind
  ·have a7:i=1:=by omega
   subst a7;have cQ:=b_ rfl;rw [<-cQ] at bG;simp only at bG;rw [XU];have V:∀ (bV:aH),bV=(if (n:Int)=die then (Z.pure.die C.a3).2 else Z.pure)->∀ (I:aj) (B':a6) (J:bI) (g:bt) (H:au),gb A av w aJ ap cT [(sa,is sch),(some ⟨b1,0,none⟩,job.cells),(job.de,(ef W).flatten)] I B' J g [(aB,C)]->g.pure=(dX bV sch n).2->(dX bV sch n).1=true->
     ∃ m,m<most-n/\∃ (n':Nat) (B:a6) (l:bI) (Y:bt) (y:dH) (t2:ca conv) (cX:au),m=most-n'/\n'<=most/\pC ⟨aJ,0,none⟩ ap 1 cT sa sch.length sc die most ⟨b1,0,none⟩ ((n+1:Nat):Int) H=pC ⟨aJ,0,none⟩ ap 1 cT sa sch.length sc die most ⟨b1,0,none⟩ n' cX/\gb A av w aJ ap cT [(sa,is sch),(some ⟨b1,0,none⟩,job.cells),(job.de,(ef W).flatten)] I B l Y [(y,t2)]/\n3 (nm c job.et W) sch die K (most-n') n' Y.pure t2:=by
    intro bV L I B' J g H f F Q;refine⟨most-(n+1),by omega,n+1,B',J,g,aB,C,H,rfl,by omega,rfl,f,?_⟩
    grind
   refine dJ (λbW=>?_) (λbW=>?_)
   ·refine fq rfl ?_;have L:(Z.pure.die C.a3).2=if(n:Int)=die then(Z.pure.die C.a3).2 else Z.pure:=by grind
    obtain⟨lb,aM⟩:=a.la (by simp);have bQ:=a.own.rd.row (oI [(aB,C)]) (by omega) (i:=0) rfl;obtain⟨dv,dK,M,cl,S⟩:=bQ;rw[aM]at M;simp at M;obtain⟨rfl,rfl⟩:=M;have ah:=a.kL _ (Cp _);have dw:∀ (K:aw->Prop),K ⟨lb,0+Int.toNat 0*36,none⟩->bk ap 1 0 36 K:=λK O=>by rw[aM];exact dM (by omega) (by omega) O
    refine dw _ ⟨aB.Client,by simpa using S 1 _ rfl,?_⟩;rw[ah.1.a3];refine aE (A7 a.jw.cn a.eA.ct.ok (by have:=a.eA.le;grind[bt.pure]) _) ?_;rintro v c5 ⟨rfl,ad⟩;obtain⟨B',J,g,f,F,_⟩:=a.op ad (a.eA.die _);refine⟨_,rfl,?_⟩;obtain⟨c_,da⟩:=bG _ L;refine af (n:=n) _ _ (by omega) f (by grind) (by grind) ?_;rintro b b' c1 I bY c6 b9 a4 aI aL;rw[bq (x:=(n:Int)+1) (by omega) (by omega)];rw[F]at aI aL;exact V _ L I bY c6 b9 _ a4 aI aL
   ·have L:Z.pure=if(n:Int)=die then(Z.pure.die C.a3).2 else Z.pure:=by grind
    obtain⟨c_,da⟩:=bG _ L;refine af (n:=n) _ _ (by omega) a c_ (λQ=>(da Q).1) ?_;rintro b b' c1 I bY c6 b9 a4 aI aL;rw[bq (x:=(n:Int)+1) (by omega) (by omega)];exact V _ L I bY c6 b9 _ a4 aI aL
 ·have dr:most-n=0:=by omega
  grind[n3]
end
section
open IntKind
variable (w:aj)(R:bg){i k l:Int}{s:an}{a b c:Nat}{j:al}{A B C:aw}
theorem ZV  : bc prog f14 [] R w=(Is 23 #[ab 1,ab 2,ab 101] w λa b w1=>cond (!b) (R (ad false) w1) (aR w1 #[ab 96] 3 λb1 H=>Calls prog 24 #[.pointer a,ab 1,ab 0,ab 1,af (bs b1) 1 1] H λe I=>cr.ex λs=>∃ (c:Bool),e=.returned (.tuple #[s.val,ad c])/\aR I #[ab 0,ab 0,ab 0,ab 0,ab 0,ab 0,ab 0,ag 0,ab 0,ab 0,ab 0,ab 0,a4,a4,a4,ab 0,ab 0,ab 0,ab 0,a4,ab 0,ab 0,ag 0,a4,ad false,ad false,ab 0,ab 0,a4,ab 0,a4,ag 0,ab 0,ab 0,ab 0,ab 0] 45 λaz J=>a8 J (ah az 0) 0 s.cells λu=>cond (!c) (R (ad false) u) (eN u (ah az 0) λr=>aR u r.cells.toArray 45 λG K=>eV 15 #[.pointer a,af (bs G) 1 1,a4,a4,ab 3] K λd f g L=>Calls prog 30 #[.pointer a,ab 0,ab 96] L λe M=>aD.ex λt=>∃ (h:Bool),e=.returned (.tuple #[t.val,ad h])/\aR M #[ab 0,ag 0,ag 0,ag 0,ag 0,ag 0,ag 0,ag 0,ag 0] 73 λB N=>a8 N (ah B 0) 0 t.cells λv=>cond (!h) (R (ad false) v) (dp v (ah B 1) λi=>cond (i != 257) (R (ad false) v) (c6 22 #[.pointer a,ab 0] v λk x=>cond (!k) (R (ad false) x) (pV 16 #[ab 1,ab 1,ag 0] x λz y=>pV 26 #[.pointer a,z.val] y λD aa=>a8 aa (ah az 0) 0 D.cells λac=>Calls prog 30 #[.pointer a,ab 0,ab 96] ac λe E=>aD.ex λA=>∃ (l:Bool),e=.returned (.tuple #[A.val,ad l])/\aR E #[ab 0,ag 0,ag 0,ag 0,ag 0,ag 0,ag 0,ag 0,ag 0] 73 λC F=>a8 F (ah C 0) 0 A.cells λj=>js j (ah az 24) λm=>cond m (bN j (ah az 26) λn=>cond (n == 0) (bN j (ah az 33) λo=>cond (o == 3) (bN j (ah az 35) λp=>cond (p == 2) (cond l (dp j (ah C 1) λq=>R (ad ((q:Int) == 256)) j) (R (ad false) j)) (R (ad false) j)) (R (ad false) j)) (R (ad false) j)) (R (ad false) j))))))):=by kernel_rfl
theorem JS:bc prog f16 [ab i,ab k,ag l] R w=(aR w #[ab 0,ab 0,ab 0,ab 0,ab 0,ab 0,ab 0,ag 0,ab 0,ab 0,ab 0,ab 0,a4,a4,a4,ab 0,ab 0,ab 0,ab 0,a4,ab 0,ab 0,ag 0,a4,ad false,ad false,ab 0,ab 0,a4,ab 0,a4,ag 0,ab 0,ab 0,ab 0,ab 0] 45 λd e=>It 28 #[ab i] e λa f=>a8 f (ah d 0) 0 [ab 4,ab k,ab 0,ab 0,ab 0,ab 0,ab 0,ag 0,ab 0,ab 0,ab 0,ab 0,a4,a4,a4,ab k,ab 1,ab 101,ab a.Number,af a.fr a.e_ a.fS,ab 0,ab 2,ag l,a4,ad false,ad false,ab 0,ab 0,a4,ab 0,a4,ag 0,ab 0,ab 0,ab 0,ab 0] λc=>eN c (ah d 0) λb=>c=c/\R b.val c):=by kernel_rfl
def vc (c:Int)(d:an)(a b:Nat)(e:Int)(j:al):al:=ab c::ae j 0 2 (af d a b::ab e::ae j 2 18 [])
def HD (c:an)(a b:Nat)(j:al):al:=ae j 0 3 (af c a b::ae j 3 19 [])
theorem Zf:bc prog f19 [ab i] R w=(cj prog (cN f19 [1,1,0,1,0,0]) (vc i none 0 0 0 (undef::a4::a1 18 [])) (aL 0 (aS f19 [1,1,1] R)) w):=by kernel_rfl
theorem Wu (g:al->aK):W prog (sb f19 [1,1,0,1,0,0]) (vc i s a b k j) (aM g (aL 0 (aS f19 [1,1,1] R))) w=(cond (k<4) (cx 12 #[ab i,ab 14] w λc l=>0<=(u64.wrap k)/\cond (((ee .i64 (cD .i64 (i64.wrap (c+1)) (u64.wrap k)) 1):Int) == 1) (aR l #[ab (i64.wrap (96+k))] 3 λh n=>da 22 (af s a b) (af (bs h) 1 1) n λe d f m=>g (vc i e d f (i64.wrap (k+1)) [aB j 0,aB j 1,ab k,ad (k<4),ab k,ab (i64.wrap (k+1)),ab i,ab c,ab (i64.wrap (c+1)),ab k,ag (u64.wrap k),ab (cD .i64 (i64.wrap (c+1)) (u64.wrap k)),ab (ee .i64 (cD .i64 (i64.wrap (c+1)) (u64.wrap k)) 1),ad (((ee .i64 (cD .i64 (i64.wrap (c+1)) (u64.wrap k)) 1):Int) == 1),af s a b,ab k,ab (i64.wrap (96+k)),af (bs h) 1 1,af e d f,aB j 19]) m) (g (vc i s a b (i64.wrap (k+1)) (aB j 0::aB j 1::ab k::ad (k<4)::ab k::ab (i64.wrap (k+1))::ab i::ab c::ab (i64.wrap (c+1))::ab k::ag (u64.wrap k)::ab (cD .i64 (i64.wrap (c+1)) (u64.wrap k))::ab (ee .i64 (cD .i64 (i64.wrap (c+1)) (u64.wrap k)) 1)::ad (((ee .i64 (cD .i64 (i64.wrap (c+1)) (u64.wrap k)) 1):Int) == 1)::ae j 14 6 [])) l)) (W prog (sb f19 [1,1,1]) (HD s a b (ab i::aB j 0::aB j 1::ab k::ab k::ad (k<4)::ae j 4 16 [])) (bV f19 R) w)):=by kernel_rfl
theorem Xp:W prog (sb f19 [1,1,1]) (HD s a b j) (bV f19 R) w=(R (af s a b) w):=by kernel_rfl
def x6 (e:aw)(s2:Int)(g:an)(a b:Nat)(c d:aw)(f:Int)(j:al):al:=.pointer (some e)::ae j 0 1 (ab s2::ae j 1 1 (af g a b::ae j 2 5 (.pointer (some c)::ae j 7 1 (.pointer (some d)::ab f::ae j 8 44 []))))
def HN (s2:Int)(a b:aw)(j:al):al:=ae j 0 2 (ab s2::ae j 2 7 (.pointer (some a)::ae j 9 1 (.pointer (some b)::ae j 10 45 [])))
theorem Ze:bc prog f24 [bb a,ab i,ab k,ab l,af s b c] R w=(aR w #[ab 0,ab 0,ab 0,ab 0,ab 0,ab 0,ab 0,ag 0,ab 0,ab 0,ab 0,ab 0,a4,a4,a4,ab 0,ab 0,ab 0,ab 0,a4,ab 0,ab 0,ag 0,a4,ad false,ad false,ab 0,ab 0,a4,ab 0,a4,ag 0,ab 0,ab 0,ab 0,ab 0] 45 λf j=>It 28 #[ab i] j λd m=>aR m #[ab 0,ab 0,ab 0,ab 0,a4,a4,a4] 39 λe g=>a8 g (ah e 0) 0 [ab k,ab l,ab 101,ab d.Number,af d.fr d.e_ d.fS,a4,a4] λh=>cj prog (cN f24 [1,1,0,1,0,0]) (x6 (ah a 0) k s b c (ah f 0) (ah e 0) 0 (ab i::ab l::a1 5 (ad false::a1 2 (ab k::ab l::ab i::d.val::.agg #[ab k,ab l,ab 101,ab d.Number,af d.fr d.e_ d.fS,a4,a4]::a1 37 [])))) (aL 0 (aS f24 [1,1,1] R)) h):=by kernel_rfl
theorem Vy (E:al->aK):W prog (sb f24 [1,1,0,1,0,0]) (x6 A i s a b B C k j) (aM E (aL 0 (aS f24 [1,1,1] R))) w=(cond (k<(a:Nat)) (bk s a k 1 λH=>bN w H λx=>Calls prog 30 #[.pointer (some A),ab 0,ab x] w λe L=>aD.ex λo=>∃ (g:Bool),e=.returned (.tuple #[o.val,ad g])/\aR L #[ab 0,ag 0,ag 0,ag 0,ag 0,ag 0,ag 0,ag 0,ag 0] 73 λf K=>a8 K (ah f 0) 0 o.cells λD=>cond (!g) (a8 D B 0 [ab 0,ab 0,ab 0,ab 0,ab 0,ab 0,ab 0,ag 0,ab 0,ab 0,ab 0,ab 0,a4,a4,a4,ab 0,ab 0,ab 0,ab 0,a4,ab 0,ab 0,ag 0,a4,ad false,ad false,ab 0,ab 0,a4,ab 0,a4,ag 0,ab 0,ab 0,ab 0,ab 0] λu=>eN u B λp=>u=u/\R (.tuple #[p.val,ad false]) u) (dp D (ah f 1) λh=>cM D (ah f 1) (ag (uv .u64 h 255)) λG=>gC (ah f 2) 7 0 1 λq=>dp G q λz=>gC (ah f 2) 7 0 1 λd=>cM G d (ag (u64.wrap (z+1))) λv=>bY v (br C 6) λc y l=>hJ v (ah f 0) λr=>aR v r.cells.toArray 73 λF I=>da 37 (af c y l) (af (bs F) 1 1) I λt m n M=>cM M (br C 6) (af t m n) λbf=>E (x6 A i s a b B C (i64.wrap (k+1)) (ae j 0 8 (jp (ah f 0)::ad g::ae j 10 5 [ab k,af s a b,cd a,ad (k<(a:Nat)),ab k,ab (i64.wrap (k+1)),.tuple #[o.val,ad g],jp A,af s a b,ab k,jp H,ab x,.tuple #[o.val,ad g],o.val,ad g,ad g,ad (!g),aB j 32,jp (ah f 1),ag h,ag (uv .u64 h 255),jp (ah f 1),jp (ah f 2),jp q,ag z,ag (u64.wrap (z+1)),jp (ah f 2),jp d,a7 C 6,af c y l,r.val,af (bs F) 1 1,af t m n,a7 C 6,aB j 49,aB j 50,aB j 51]))) bf)) (W prog (sb f24 [1,1,1]) (HN i B C (jp A::aB j 0::aB j 1::af s a b::ae j 2 6 (ab k::ae j 8 7 (ab k::af s a b::cd a::ad (k<(a:Nat))::ae j 19 33 [])))) (bV f24 R) w)):=by kernel_rfl
theorem XD:W prog (sb f24 [1,1,1]) (HN i A B j) (bV f24 R) w=(s7 w B λr=>a8 w A 0 [ab 3,ab i,ab 0,ab 0,ab 0,ab 0,ab 0,ag 0,ab r.Client,ab r.Seq,ab r.et,ab r.View.Number,af r.View.fr r.View.e_ r.View.fS,af r.Reads r.k3 r.po,af r.de r.dj r.fG,ab 0,ab 0,ab 0,ab 0,a4,ab 0,ab 0,ag 0,a4,ad false,ad false,ab 0,ab 0,a4,ab 0,a4,ag 0,ab 0,ab 0,ab 0,ab 0] λa=>eN a A λc=>a=a/\R (.tuple #[c.val,ad true]) a):=by kernel_rfl
end
section
open gW
theorem OS {w:aj}{x:Int}(E:eb x):a9 19 [.int .i64 x] w λv u=>∃ a c,v=.slice a (dy (x % 14).toNat).length c/\bh u a (is (ns (dy (x % 14).toNat)))/\ai w u:=by
 refine a' Tryz.func19 ?_;rw[Zf];obtain⟨y,F,h⟩:∃ y:Nat,x % 14=y/\y<14:=⟨(x % 14).toNat,by omega,by omega⟩;refine cP mix (λm env u=>∃ (i:Nat) (a:an) (n c:Nat) (r:au),m=4-i/\i<=4/\n=(nN y i).length/\env=vc x a n c i r/\ai w u/\aZ u 3 1 a n c (is (ns (nN y i)))/\∀ k,aP a k->w.heap.size<=k) 4
  ⟨0,none,0,0,_,rfl,by omega,rfl,rfl,ao.refl _ _,aZ.nil _ _ _,λk q=>(oP q).elim⟩ ?_
 rintro m env u ⟨i,a,n,c,r,rfl,G,rfl,rfl,j,d,f⟩;rw[Wu];refine a5 (λg=>?_) (λB=>?_)
 ·have g:i<4:=by omega
  refine aE (Fn _ _ _ E (by omega)) ?_;rintro v bp ⟨rfl,rfl⟩;rw[aW (by omega),F];refine⟨_,rfl,?_⟩;have hlen:=Ld y i;have s:IntKind.i64.wrap ((y:Int)+1)=((y+1:Nat):Int):=by rw[bq (by omega) (by omega)];omega
  have t:IntKind.u64.wrap (i:Int)=(i:Int):=kT (by omega) (by omega);dsimp only;rw[s,t,LM y h i g,bq (x:=(i:Int)+1) (by omega) (by omega),bq (x:=96+(i:Int)) (by omega) (by omega)];refine⟨by omega,ek (λp=>?_) (λp=>?_)⟩
  ·refine Qo d (x:=96+(i:Int)) (by omega) ?_;intro b ap cap bz A C o z;have D:=j.size;have l:=Cs y i;rw[bm p]at l;refine⟨4-(i+1),by omega,i+1,ap,_,cap,_,rfl,by omega,by grind,rfl,ti j o f,?_,λk q=>?_⟩
   ·grind[is,ns,nN]
   grind
  ·have l:=Cs y i;rw[aW (by grind),lE]at l;exact⟨4-(i+1),by omega,i+1,a,_,c,_,rfl,by omega,by rw[l],rfl,j,by grind,f⟩
 ·have:i=4:=by omega
  subst this;rw[Xp];have e:(x % 14).toNat=y:=by omega
  rw[e];exact⟨a,c,rfl,d.rd,j⟩
def vN:cr:=⟨0,0,⟨0⟩,⟨0,0,0,0,0⟩,⟨0,0,0,⟨0,none,0,0⟩,none,0,0,none,0,0⟩,⟨0,0,0,⟨0,none,0,0⟩,0,0,0⟩,none,0,0,false,false,0,⟨0,none,0,0⟩,0,none,0,0,0,0,0,0,0⟩
def h1 (c seq lines:Int)(a:c1)(b:an)(wl d:Nat):cr:={vN with Kind:=3,Client:=c,iQ:=⟨c,seq,lines,a,none,0,0,b,wl,d⟩}
def s' (c prev:Int)(a:c1):cr:={vN with Kind:=4,Client:=c,Recover:=⟨c,1,101,a,0,2,prev⟩}
def uR (p:aD):aD:={p with Head:=uv .u64 p.Head 255,qo:=IntKind.u64.wrap (p.qo+1)}
def pD (n:aO)(L:cV):List aD:=L.map λl=>uR (n.eM l)
theorem DU {A:a6}{av:bI}{w:aj}{aJ:Nat}{X:bt}(h:b4 A av w aJ X){n:Nat}(bK:1<=n/\n<=5){x:d'}(cd:X.nodes[0]?=some x)(bX:x.n.down=false)
  {L:cV} (bQ:∀ l ∈ L,96<=l/\l<256/\l*8+8<=x.n.words.length) (hlen:L.length<=1000) {a:an} {cc:Nat} (b7:bh w a (is (ns L))) (c seq:Int) :
  a9 24 [ptr aJ,.int .i64 n,.int .i64 c,.int .i64 seq,.slice a L.length cc] w λv u=>∃ s t C,v=.tuple #[(h1 c seq 101 s t L.length C).val,.bool true]/\ai w u/\gi A u s (ke n)/\aZ u eo 9 t L.length C (ef (pD x.n L)).flatten/\∀ k,aP t k->w.heap.size<=k:=by
 refine a' Tryz.func24 ?_;rw[ptr,Ze];rintro b1 w1 aI W;obtain⟨d,R⟩:=bo aI W;have d:aq w1 b1 vN.cells 45:=d;clear W;refine aE (E2 _ (n:=n) (by omega) (by omega)) ?_;rintro v aB ⟨s,cm,rfl,ar,f,_,rfl⟩;have b6:=d.lt;have b9:=R.size;have b_:=f.size;have ar:gi (λk=>k<w1.heap.size\/aB.heap.size<=k) aB s (ke n):=ar.mono λk p g=>g.resolve_right (by omega)
 refine c1.aT s ⟨rfl,?_⟩;rintro az cq M Y;obtain⟨ae,I⟩:=bo M Y;have F:=ai.ak (f.new I) d;clear Y;refine dI (vs:=cE.cells ⟨c,seq,101,s,none,0,0,none,0,0⟩) ae rfl (cE.single ⟨c,seq,101,s,none,0,0,none,0,0⟩) λbO af j=>?_
 have G:=j.ak F (by omega);have y:ai aB bO:=I.trans j λk p e=>by omega
 have J:ai w bO:=(R.new f).new y;have O:az=aB.heap.size:=M;have bb:=ar.new y;clear d F ae j I y;refine cP mix (λq env z=>∃ (i:Nat) (t:an) (C:Nat) (bL:au),q=L.length-i/\i<=L.length/\env=x6 ⟨aJ,0,none⟩ c a L.length cc ⟨b1,0,none⟩ ⟨az,0,none⟩ i bL/\ai w z/\gi (λk=>k<w1.heap.size\/aB.heap.size<=k) z s (ke n)/\aq z b1 vN.cells 45/\aq z az (cE.cells ⟨c,seq,101,s,none,0,0,t,i,C⟩) 39/\aZ z eo 9 t i C (ef (pD x.n (L.take i))).flatten/\∀ k,aP t k->az<k) L.length
  ⟨0,none,0,_,rfl,by omega,rfl,J,bb,G,af,aZ.nil _ _ _,λk g=>(oP g).elim⟩ ?_
 clear G af;rintro q env z ⟨i,t,C,bL,rfl,cj,rfl,Q,V,d,K,B,bY⟩;rw[Vy];refine a5 (λp=>?_) (λb5=>?_)
 ·have P:i<L.length:=by omega
  obtain⟨a1,O,a4⟩:=bQ L[i] (vX P);have bG:(ns L)[i]?=some (L[i]:Int):=by grind[ns]
  have T:pD x.n (L.take (i+1))=pD x.n (L.take i)++[uR (x.n.eM L[i])]:=by
   grind[pD,List.take_succ_eq_append_getElem]
  generalize L[i]=l at a1 O a4 bG T;refine W9 (b7.new Q) bG rfl (by simp[ns]) λb o bW=>⟨_,bW _ (ao.refl _ _),?_⟩
  refine aE (w6 (h.new Q) cd (l:=l) (by omega) (by omega) bX) ?_;rintro v b3 ⟨rfl,f⟩;refine aD.aT (x.n.eM l) ⟨true,rfl,?_⟩;rintro bx bz aL U;obtain⟨ah,S⟩:=bo aL U;clear U;refine dI (vs:=(x.n.eM l).cells) ah rfl (aD.single _) λcf ax j=>?_
  have J:ai z cf:=(f.new S).trans j λk p e=>by have:=f.size;omega
  have bD:z.heap.size<=bx:=by have:=f.size;omega
  clear ah S j;refine dm rfl ⟨_,ax.cell (i:=1) rfl,?_⟩;refine nX ax (o:=1) (by simp[aD.cells]) λck ag aV=>?_
  refine iY (by omega) (by omega) ⟨_,ag.cell (i:=2) rfl,?_⟩;refine iY (by omega) (by omega) ?_;refine nX ag (o:=2) (by simp[aD.cells]) λbN bm aW=>?_
  have br:aq bN bx (uR (x.n.eM l)).cells eo:=bm;have r:ai z bN:=J.trans (aV.trans aW λ_ _ h=>h) λk p e=>by omega
  have Z:=ai.ak r d;have H:=ai.ak r K;refine⟨_,_,_,H.cell (i:=6) rfl,?_⟩;refine aD.aT (uR (x.n.eM l)) ⟨bJ br rfl,?_⟩;refine Fh (B.new r) (by omega) ?_;intro ch ap cap u8 bV a8 D bR;have ab:=D.ak Z (λe=>by grind);have ad:=D.ak H (λe=>by grind);have bH:=K.lt;have ca:=r.size;have cb:=Q.size;have N:∀ k,aP ap k->az<k:=λk g=>by
   grind
  refine nX (b:=az) ad (o:=6) (by simp[cE.cells]) λcl bs E=>?_
  rw[bq (x:=(i:Int)+1) (by omega) (by omega)];have a7:ai w u8:=ti (Q.new r) D λk g=>by grind
  have bk:=((V.new r).aC D λk g=>.inr (by grind)).aC E λk e=>.inr (by omega)
  exact⟨L.length-(i+1),by omega,i+1,ap,cap,_,rfl,by omega,rfl,a7.trans E λk p e=>by omega,bk,E.ak ab (by omega),bs,by rw[T];exact a8.aC E λk g e=>by grind,N⟩
 ·have aM:i=L.length:=by omega
  subst aM;rw[XD];rw[jC]at B;refine cE.aT ⟨c,seq,101,s,none,0,0,t,L.length,C⟩ ⟨bJ K rfl,?_⟩;refine dI (vs:=(h1 c seq 101 s t L.length C).cells) d rfl (cr.single _) λbp ax g=>?_
  refine cr.aT (h1 c seq 101 s t L.length C) ⟨bJ ax rfl,rfl,s,t,C,rfl,Q.trans g λk p e=>by omega,?_,B.aC g λk aR e=>by grind,λk aR=>by grind⟩;exact(V.aC g λk e=>.inl (by omega)).mono λk _ g=>.inl (by have:=h.low k g;omega)
theorem GR {A:a6}{w:aj}(r:∀ k,A k->k<w.heap.size){n:Nat}(l:1<=n/\n<=5)(c prev:Int) :
  a9 16 [.int .i64 n,.int .i64 c,.int .u64 prev] w λv u=>∃ b,v=(s' c prev b).val/\ai w u/\gi A u b (ke n):=by
 refine a' Tryz.func16 ?_;rw[JS];rintro b1 w1 i h;obtain⟨a,f⟩:=bo i h;have a:aq w1 b1 vN.cells 45:=a;clear h;refine aE (E2 _ (n:=n) (by omega) (by omega)) ?_;rintro v x ⟨b,t,rfl,ar,g,_,rfl⟩;have q:=f.size;refine c1.aT b ⟨rfl,?_⟩;refine dI (vs:=(s' c prev b).cells) (ai.ak g a) rfl (cr.single _) λy j d=>?_
 refine cr.aT (s' c prev b) ⟨bJ j rfl,rfl,b,rfl,(f.new g).trans d λk p e=>by omega,?_⟩;have o:=a.lt;exact(ar.aC d λk e=>(by grind)).mono λk _ s=>(by grind)
end
section
open gW
def A_ (c:Int)(j:cJ):ca gW.conv:=⟨c,.inl j,[],false,false,.inl (0,0)⟩
def GS (c:Int)(j:bM):ca gW.conv:=⟨c,.inr j,[],false,false,.inr ⟨0,0,0,0,0⟩⟩
structure F6 (p:aD):Prop where
 head:ch p.Head
 data:∀ x ∈ hE p,ch x
theorem Ed {A:a6}{u:aj}{c seq lines:Int}{n:Nat}{g:c1}{f:an}{wl h:Nat}{W:List aD}(ar:gi A u g (ke n))
  (hw:bh u f (ef W).flatten) (d:wl=W.length) (b:W.length<=1000000) (e:(ef W).flatten=[]\/gn A f) (hu:∀ p ∈ W,F6 p) :
  gE A u (h1 c seq lines g f wl h) (A_ c ⟨c,seq,lines,ke n,[],W⟩):=
 ⟨rfl,rfl,rfl,rfl,hO.nil _ _ _,rfl,dr _,⟨⟨rfl,rfl,rfl,⟨A,ar⟩,.inl rfl,rfl,by simp,⟨hw,d,b,λp a=>(hu p a).head⟩⟩,ar,.inl rfl,e,λp a=>(hu p a).data⟩,⟨rfl,rfl⟩,by show([]:bn).length<=201;simp⟩
theorem Ee {A:a6}{u:aj}{c prev:Int}{n:Nat}{a:c1}(ar:gi A u a (ke n))(b:ch prev) :
  gE A u (s' c prev a) (GS c ⟨c,1,101,ke n,0,2,prev⟩):=
 ⟨rfl,rfl,rfl,rfl,hO.nil _ _ _,rfl,dr _,⟨⟨rfl,rfl,rfl,⟨A,ar⟩,rfl,rfl,rfl,b⟩,ar⟩,⟨rfl,rfl,rfl,rfl⟩,by show([]:bn).length<=201;simp⟩
structure pk (w z:aj)(aJ:Nat)(A:a6)(av:bI)(X:bt)(F:aH):Prop where
 cn:b4 A av z aJ X
 pure:X.pure=F
 new:ai w z
 own:∀ k,A k->w.heap.size<=k
section
variable {w z:aj}{aJ:Nat}{A:a6}{av:bI}{X:bt}{F:aH}
theorem pk.j5 {b:aj}(h:pk w z aJ A av X F)(a:ai z b):pk w b aJ A av X F:=⟨h.cn.new a,h.pure,h.new.new a,h.own⟩
theorem pk.op {u:aj}{dx:aH}{K:(a6)->Prop}(h:pk w z aJ A av X F)(p:dV A av z aJ dx u K):∃ A' χ' e,pk w u aJ A' χ' e dx/\K A'/\ao A z u/\∀ k,k<z.heap.size->A' k->A k:=by
 obtain⟨A',χ',e,f,i,l,j⟩:=p;have d:ao A z u:=f.aC.mono λk _ n=>h.cn.fb k n
 have a:∀ k,k<z.heap.size->A' k->A k:=λk b c=>by
  rcases(f.iff k).1 c with g | ⟨_,g,_⟩
  ·exact h.cn.fb k (f.grow k b g)
  grind
 refine⟨A',χ',e,⟨i,l,h.new.trans d λk b c=>by have:=h.own k c;omega,λk c=>?_⟩,j,d,a⟩;have:=h.new.size;by_cases b:k<z.heap.size
 ·exact h.own k (a k b c)
 ·omega
theorem fa.owns {w0 w u:aj}{L B:a6}{h:bI}{d:bt}(t:fa A av w aJ L u B h X)(f:b4 A av w aJ d)(g:ai w0 w)(e:∀ k,A k->w0.heap.size<=k):∀ k,B k\/L k->w0.heap.size<=k:=λk a=>by
 have i:=g.size;rcases a with a | a
 ·rcases(t.next.iff k).1 a with c | ⟨_,c,_⟩
  ·by_cases b:k<w.heap.size
   ·exact e k (f.fb k (t.next.grow k b c))
   ·omega
  grind
 ·have:=(t.loc k a).1;omega
attribute [local irreducible] iD
end
end
section
open gW

end
section
def FW (p:db):Prop:=p.bj=[]->p.b0=0/\p.words=[]
def r9 (C:bB):Prop:=∀ l ∈ C.aG,FW l.pair
def fX (F:aH):Prop:=∀ C ∈ F.aY,r9 C
theorem fX.fresh (n c L:Nat):fX (aH.fresh n c L):=λC a l b=>by obtain⟨i,_,rfl⟩:=dD.1 a;obtain⟨j,_,rfl⟩:=dD.1 b;exactλ_=>⟨rfl,rfl⟩
section
variable {F:aH}
theorem fX.eW (h:fX F){c:Int}{C:bB}(d:r9 C):fX (F.eW c C):=λD b=>by
 rcases m5 b with a | rfl
 ·exact h D a
 grind
theorem fX.cR (h:fX F){c:Int}{C:bB}(a:F.cR c=some C):r9 C:=by
 unfold aH.cR at a;split at a
 ·cases a
 ·exact h C (cu a)
theorem C6:∀ (vs:bu){C:bB}{k:Nat},r9 C->r9 (C.gS k vs)
 | [],C,k,h=>h
 |v::vs,C,k,h=>by
  refine C6 vs (C:=C.gl k v) λl c=>?_
  obtain⟨j,a⟩:=eP.1 c;have a:(C.aG.modify v.node.toNat λl=>⟨{l.pair with bj:=l.pair.bj++[v]},l.bZ++[k]⟩)[j]?=some l:=a;rw[Cm]at a;cases b:C.aG[j]? with
  |none=>grind
  |some x=>
   rw[b]at a;split at a
   ·cases a;intro e;simp at e
   ·cases a;exact h x (cu b)
theorem fX.post (h:fX F)(c:Int)(vs:bu):fX (F.post c vs).2:=by
 unfold aH.post;cases a:F.cR c with
 |none=>exact h
 |some C=>
  simp only;repeat' split
  all_goals first | exact h | exact h.eW (C6 vs (h.cR a))
theorem fX.take (h:fX F)(c:Int):fX (F.take c).2:=by
 unfold aH.take;cases a:F.cR c with
 |none=>exact h
 |some C=>
  simp only;repeat' split
  all_goals first | exact h | exact h.eW λl b=>h.cR a l b
theorem MQ {p:db}(n:aO)(ar:p.bj≠[]):FW (p.step n).1:=by
 unfold db.step;cases e:p.bj with
 |nil=>grind
 |cons x xs=>
  simp only;split
  ·exactλ_=>⟨rfl,rfl⟩
  ·split
   ·intro a;cases a
   ·exactλ_=>⟨rfl,rfl⟩
theorem fX.step (h:fX F)(x:ii):fX (F.step x).2:=by
 unfold aH.step;split
 ·unfold aH.iu;repeat' split
  all_goals exact h
 ·split
  ·exact h
  ·cases i:F.cR x.a3 with
   |none=>exact h
   |some C=>
    simp only;split
    ·exact h
    ·split
     ·rename_i l n k o;split
      ·exact h
      ·rename_i ar;refine fX.eW (c:=x.a3) h λl' a=>?_
       have f:r9 C:=h.cR i;have j:=MQ n λe=>ar (by rw[e];rfl)
       cases g:(l.pair.step n).2.2 with
       |none=>
        rw[g]at a;rcases m5 a with b | rfl
        ·exact f l' b
        grind
       |some d=>
        rw[g]at a;rcases m5 a with b | rfl
        ·exact f l' b
        grind
     grind
theorem fX.die (h:fX F)(c:Int):fX (F.die c).2:=by
 unfold aH.die;cases b:F.cR c with
 |none=>exact h
 |some C=>
  simp only;split
  ·exact h
  ·exact fX.eW (c:=c) h λl a=>by cases a
variable {hV:Conv}
theorem fX.b5 (h:fX F)(t:ca hV):fX (b5 F t).1:=by
 unfold Go.Proofs.YtmkljjbioomepaaGreat.b5;split
 ·exact h
 ·unfold kd;have a:=h.take t.a3;repeat' split
  all_goals first | exact a | exact a.post _ _
theorem fX.dX (h:fX F)(sch:ba)(n:Nat):fX (dX F sch n).2:=by
 unfold Go.Proofs.YtmkljjbioomepaaGreat.dX;split
 ·exact h
 ·exact h.step _
end
end
section
open gW
theorem wD {α β:Type}{f:α->β}{l:List α}{y:β}(h:l.map f=[y]):∃ x,l=[x]/\f x=y:=by
 simp_all
section
attribute [local irreducible] iD
theorem OT {A:a6}{av:bI}{g z:aj}{aJ b1:Nat}{X:bt}(H:b4 A av g aJ X)(P:ai g z)(Y:g.heap.size<=b1/\b1<z.heap.size)(N:cy X.pure){r:dH}{t:ca conv}(ab:gE (λk=>A k\/k=b1) z r t)(S:ma t)
  {a2:an} {pc:Nat} (w:bh z a2 r.cells) {sch:ba} {sa:an} {sc:Nat} (C:m' (λk=>A k\/k=b1) z sa (is sch)) (D:∀ x ∈ sch,eb x) {most:Nat} (hm:most<=1000000) {dx:aH} {j:ca conv} (M:iD X.pure [t] sch [] most=(dx,[j])) :
  a9 15 [ptr aJ,.slice a2 1 pc,.slice sa sch.length sc,.slice none 0 0,.int .i64 most] z λv u=>∃ la lc c B V h,v=.slice la 1 lc/\fa A av g aJ (λk=>k=b1) u B V h/\h.pure=dx/\gE (λk=>B k\/k=b1) u c j/\(∀ K:aw->Prop,(∀ b o,b6 u ⟨b,o,none⟩ 0 c.cells->K ⟨b,o,none⟩)->bk la 1 0 36 K)/\
   u.heap[b1]?=z.heap[b1]?:=by
 have E:fa A av g aJ (λk=>k=b1) z A av X:=fa.start H P λk Z=>by grind
 have y:bh z a2 (hz [(r,t)]).flatten:=by simpa[hz]using w
 have d:=Fx E.cn N (ts:=[(r,t)]) (pc:=pc) y (λx T=>by grind) (by simp) (sch:=sch) (sa:=sa) (sc:=sc) C D (most:=most) hm;have F:iD X.pure ([(r,t)].map Prod.snd) sch [] most=(dx,[j]):=M;rw[F]at d;refine aE d ?_;rintro v u R;obtain⟨B',W,h,G,q,n,O,J,p⟩:=E.op R;obtain⟨la,lc,U,rfl,e,s,Q,f⟩:=n;obtain⟨⟨c,t2⟩,rfl,l⟩:=wD e;have l:t2=j:=l;subst l;refine⟨_,rfl,la,lc,c,B',W,h,rfl,G,q,f (c,t2) (by simp),λK I=>?_,p b1 rfl⟩;have a:bh u la (([(c,t2)]:List (dH×ca conv)).map λx=>x.1.cells).flatten:=s.rd
 exact ei (cells:=λx:dH×ca conv=>x.1.cells) (λx=>cr.len x.1) (by omega) a (i:=0) rfl rfl rfl λb o L _=>I b o L
end
def mi (n y:Nat):ca conv:=A_ 0 (vD n y)
theorem OU {n y:Nat}(f:1<=n/\n<=3)(g:y<14):mh (dF n y) [] [0] (aH.fresh n 4 101) [mi n y] (aH.fresh n 4 101) kU ⟨8,hc⟩ λ_=>nE 12:=by
 refine⟨O_ f g (by omega),.inl rfl,rfl,λk c t a b=>?_⟩;have d:k=0:=by grind
 subst d;simp at a b;subst a b;exact .inl ⟨rfl,rfl,rfl,rfl,rfl,λe=>by grind,λe=>by grind,λe=>by grind,λ_=>⟨rfl,rfl⟩,by grind⟩
theorem OV {n:Nat}:ja [] (aH.fresh n 4 101) ⟨8,hc⟩ (λ_=>nE 12)=700:=by
 have b:(aH.fresh n 4 101).aY[0]?=some (hN n 0):=rfl;have c:hs (hN n 0):=λk l a=>by have a:=cu a;unfold hN ku at a;simp only at a;obtain⟨z,ax,rfl⟩:=dD.1 a;rfl
 have:eB (aH.fresh n 4 101) 0=0:=by grind[eB,vJ]
 unfold ja;rw[this];rfl
structure CP (n y:Nat)(sure:Bool)(F G:aH)(A:bA)(g:gd)(gr:Nat->c8):Prop where
 ir:gx (dF n y) [] G A g gr
 oR:fT F G
 eA:cy F
 wt:ja [] G g gr<=700
 sure:sure=true->h' (dF n y) A
 clean:fX F
theorem DV {n y:Nat}(f:1<=n/\n<=3)(o:y<14){x:aO}(i:x=⟨fmt 101 n,false⟩):pD x (dy y)=(dy y).map dN:=by
 obtain⟨h,_⟩:=wa f;simp only[tQ,fP,iz,jd,beq_iff_eq]at h;obtain⟨_,_,_,_,b⟩:=h;unfold pD;refine tI λl d=>?_
 obtain⟨p,l2⟩:=za d;have g:∀ k,k<8->x.get (l*8+k)=qs 0 k:=λk c=>by have:=b (l-96) (by omega) k c;rw[show l-96+96=l by omega]at this;rw[i];exact this
 have a:=g 0 (by omega);rw[m1]at a;unfold uR aO.eM dN;simp only;rw[a,g 1 (by omega),g 2 (by omega),g 3 (by omega),g 4 (by omega),g 5 (by omega),g 6 (by omega),g 7 (by omega)];have e:uv .u64 256 255=256:=by decide
 have j:IntKind.u64.wrap (0+1)=1:=by decide
 show(⟨(l:Int),uv .u64 256 255,IntKind.u64.wrap (0+1),0,0,0,0,0,0⟩:aD)=_
 grind
theorem PP {y:Nat}:∀ p ∈ (dy y).map dN,F6 p:=λp b=>by obtain⟨l,_,rfl⟩:=dD.1 b;refine⟨⟨by show(0:Int)<=256;omega,by show(256:Int)<_;omega⟩,λx a=>?_⟩;simp[hE,dN]at a;rcases a with rfl | rfl<;>exact⟨by omega,by omega⟩
theorem C7 (n y:Nat):ma (mi n y):=λ_=>by show([]:bn).length<=200;simp
section
attribute [local irreducible] iD
end
end
section
open gW
def sr (n y:Nat)(rs:cV)(ts:List ec)(sure:Bool)(F:aH)(m:Nat):Prop:=
 ∃ G A g gr,mh (dF n y) rs rs F ts G A g gr/\ja rs G g gr<=m/\cy F/\(sure=true->h' (dF n y) A)
def pa (n c:Nat):ec:=GS c ⟨(c:Int),1,101,ke n,0,2,0⟩
theorem Ef {f:Nat->Nat}{k:Nat}:∀ {l:cV},(∀ c ∈ l,f c=k)->(l.map f).sum=l.length*k
 | [],_=>by simp
 |a::l,h=>by rw[jT,qe,h a g_,Ef λc b=>h c (gm _ b),jB,tE];omega
theorem MR {n y:Nat}{sure:Bool}{F G:aH}{A:bA}{g:gd}{gr:Nat->c8}(h:CP n y sure F G A g gr){rs:cV}(b:∀ c ∈ rs,1<=c/\c<4):sr n y rs (rs.map (pa n)) sure F (700+rs.length*1680):=by
 have d:=h.ir.join b;refine⟨G,A,g,_,⟨d,h.oR,by simp,λk c t a f=>?_⟩,?_,h.eA,h.sure⟩
 ·rw[hS,a]at f;cases f;exact .inr ⟨cu a,rfl,rfl,rfl,λe=>by have:12<=9:=e;omega,λe=>by have:12=10:=e;omega,λe=>by have:12=11:=e;omega,λ_=>⟨rfl,rfl⟩⟩
 ·have l:=h.wt;have j:(rs.map λc=>eB G c+hy ((λ_=>nE 12) c).aF).sum=rs.length * 1680:=Ef λc a=>by
   obtain⟨C,i,_,_,q⟩:=d.rl c a;have:eB G c=0:=by unfold eB;rw[i];exact vJ (q (by show 10<=12;omega)).2
   show eB G c+1680=1680;omega
  grind[ja,eB,rn]
def xu (n y:Nat)(sure:Bool)(F:aH)(t:ec):Prop:=
 ∃ (b:Bool) (v s q:Int),De n y b F.nodes/\(sure=true->b=true)/\t.out=.inr ⟨0,v,s,q,0⟩/\(v=2↔b=true)/\(b=true->q=2)/\t.a_.length<=9
theorem OW {n y:Nat}(B:1<=n/\n<=3)(J:y<14){rs:cV}(D:∀ c ∈ rs,1<=c/\c<4){ts:List ec}{sure:Bool}{F:aH}{m:Nat}(h:sr n y rs ts sure F m)(S:tL ts) :
  (∀ t ∈ ts,t.bad=false/\(xu n y sure F t\/∃ w,t.out=.inr ⟨3,0,0,0,w⟩))/\(rs≠[]->∃ t ∈ ts,xu n y sure F t)/\(rs.length=1->∀ t ∈ ts,xu n y sure F t):=by
 obtain⟨G,A,g,gr,d,_,Y,T⟩:=h;have aA:=H1 B J;have x:∀ {c:Nat},c ∈ rs->∃ t,t ∈ ts/\mr (dF n y) c (gr c) t:=λ{c} a=>by
  obtain⟨k,z⟩:=eP.1 a;obtain⟨t,j⟩:∃ t,ts[k]?=some t:=⟨_,bW (by rw[d.len];grind)⟩;rcases d.fN k c t z j with⟨e,_⟩ | ⟨_,i⟩
  ·grind
  grind
 have I:∀ {t:ec},t ∈ ts->∃ c,c ∈ rs/\mr (dF n y) c (gr c) t:=λ{t} j=>by
  obtain⟨k,z⟩:=eP.1 j;obtain⟨c,a⟩:∃ c,rs[k]?=some c:=⟨_,bW (by rw[<-d.len];grind)⟩;rcases d.fN k c t a z with⟨e,_⟩ | h
  ·have:=D c (cu a);omega
  grind
 have p:∀ {c:Nat} {t:ec},c ∈ rs->t ∈ ts->mr (dF n y) c (gr c) t->(gr c).aF=10\/(gr c).aF=11:=λ{c t} a j i=>by
  have Q:=(d.ir.mJ c a).2.2.2;have o:=S t j;by_cases R:(gr c).aF<=9
  ·rw[(i.run R).1]at o;grind
  ·by_cases r:(gr c).aF=12
   ·rw[(i.new r).1]at o;grind
   ·omega
 have H:∀ {c:Nat} {t:ec},c ∈ rs->mr (dF n y) c (gr c) t->(gr c).aF=10->xu n y sure F t:=λ{c t} a i e=>by
  obtain⟨ok,_⟩:=d.ir.mJ c a;unfold cO at ok;rw[e]at ok;obtain⟨O,U⟩:=ok;obtain⟨_,f2,f3⟩:=i.fin e;have f:=d.oR.nodes;rcases U with⟨q,K,V⟩ | ⟨q,K⟩
  ·exact⟨true,_,_,_,by rw[f];exact FR B J d.ir.rep d.ir.law O (b:=true) q,λ_=>rfl,f2,⟨λ_=>rfl,λ_=>K⟩,λ_=>V,f3⟩
  ·refine⟨false,_,_,_,by rw[f];exact FR B J d.ir.rep d.ir.law O (b:=false) q,λh=>?_,f2,⟨λe=>b_ e K,(λe=>nomatch e)⟩,(λe=>nomatch e),f3⟩;have s:=T h 0 (by have:=aA.e.n;omega);rw[q.2.1 0 (by have:=aA.e.n;omega)]at s;cases s
 have N:∀ {c:Nat},c ∈ rs->(gr c).aF=11->∃ c' ∈ rs,c'≠c/\(gr c').aF=10:=λ{c} a e=>by
  obtain⟨ok,_⟩:=d.ir.mJ c a;unfold cO at ok;rw[e]at ok;obtain⟨c',L,W,X⟩:=ok;obtain⟨Z,E,u⟩:=x L;refine⟨c',L,W,?_⟩;rcases p L E u with M | M
  ·exact M
  ·rcases X with⟨P,_⟩ | ⟨_,P⟩<;>omega
 refine⟨λt j=>?_,λC=>?_,λs t j=>?_⟩
 ·obtain⟨c,a,i⟩:=I j;refine⟨i.bad,?_⟩;rcases p a j i with e | e
  ·grind
  ·exact .inr (i.busy e).2
 ·obtain⟨c,l,e⟩:=rE C
  grind[List.mem_cons_self]
 grind[List.length_eq_one_iff]
end
end Go.Proofs.YtmkljjbioomepaaGreat
