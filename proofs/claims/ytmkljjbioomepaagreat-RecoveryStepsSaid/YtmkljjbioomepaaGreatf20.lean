import Derived.Test.YtmkljjbioomepaaGreatProg
import Derived.Test.YtmkljjbioomepaaGreatf02
import Derived.Test.YtmkljjbioomepaaGreatf19
set_option linter.all false
set_option maxHeartbeats 4000000
set_option maxRecDepth 100000
namespace Go.Proofs.YtmkljjbioomepaaGreat
open Go.Proofs.Tryz Go.bd
variable {A:a6}{L:ba}{aX:fO}{R:bg}{b b1 n aN tb:Nat}{lines x:Int}{o:Int×Int}{u w0:aj}
section
open IntKind
variable (w:aj)(R:bg){s:an}{a b:Nat}{A:aw}{F:Bool}{j:al}{i k l:Int}
theorem J0 (P:c3):bc prog f93 [P.val,af s a b] R w=(aR w P.cells.toArray 41 λC J=>aR J #[ab 0,ab 0,ab 0,ab 0,ag 0] 175 λA M=>Ik M (ah C 0) λr=>cx 127 #[r.val] M λc N=>cond (c != 0) (a8 N (ah A 0) 0 [ab c,ab 0,ab 0,ab 0,ag 0] λE=>yT E (ah A 0) λq=>E=E/\R (.tuple #[a4,q.val,ad true]) E) (ck N λU D=>WJ D (ah C 0) λu=>lY 115 #[af s a b] U λd O=>D O/\aR O #[ab u.Client,ab u.ia,ab u.et,ab u.View.Number,af u.View.fr u.View.e_ u.View.fS,ab u.eX,ab u.fR,ag u.hU,.pointer d,ab 0,ab 0,ad false,ag 0,a4,ag 0,ab 0,ab 0,ab 0,ab 0,ag 0] 220 λB I=>D I/\l0 I (ah C 3) λj=>Calls prog 125 #[j.val] I λe V=>aU.ex λv=>∃ (f:Bool),e=.returned (.tuple #[v.val,ad f])/\a8 V (ah B 9) 0 v.cells λbf=>bN bf (ah C 1) λg=>bN bf (ah C 0) λh=>g6 128 #[ab g,ab h] bf λi k x=>cM x (ah B 12) (ag i) λy=>vy 129 #[bb B] y λz=>mL z (ah B 8) λt=>h4 118 #[.pointer t] z λl m n o L=>cond o (a8 L (ah A 0) 0 [ab 0,ab 0,ab 0,ab 0,ag 0] λH=>yT H (ah A 0) λW=>H=H/\R (.tuple #[af l m n,W.val,ad false]) H) (mL L (ah B 8) λZ=>c6 119 #[.pointer Z] L λp K=>cond p (a8 K (ah A 0) 0 [ab 6,ab 0,ab 0,ab 0,ag 0] λF=>yT F (ah A 0) λQ=>F=F/\R (.tuple #[a4,Q.val,ad true]) F) (ck K λX T=>WK T (ah B 15) λS=>a8 X (ah A 0) 0 S.cells λG=>yT G (ah A 0) λY=>G=G/\R (.tuple #[a4,Y.val,ad true]) G)))):=by kernel_rfl
def u1 (a:aw)(b:Bool)(j:al):al:=.pointer (some a)::ae j 0 16 (ad b::ae j 16 19 [])
def Hs (a:aw)(j:al):al:=.pointer (some a)::ae j 0 36 []
def xS (a:aw)(s2 c:Int)(b:Bool)(j:al):al:=.pointer (some a)::ae j 0 1 (ab s2::ab c::ae j 1 24 (ad b::ae j 25 8 []))
theorem Ya:bc prog f129 [bb a] R w=(c6 179 #[bb a] w λd e=>cond (!d) (W prog (sb f129 [0,1]) (u1 (ah a 0) true (a1 4 (jp (ah a 0)::ad d::ad (!d)::ad true::a1 3 (ad true::ad true::a1 22 [])))) (aS f129 [1] R) e) (c6 180 #[bb a] e λb f=>cond (!b) (W prog (sb f129 [0,1]) (u1 (ah a 0) true (a1 4 (jp (ah a 0)::ad d::ad (!d)::ad false::jp (ah a 0)::ad b::ad (!b)::ad (!b)::ad true::a1 22 []))) (aS f129 [1] R) f) (c6 181 #[bb a] f λc g=>W prog (sb f129 [0,1]) (u1 (ah a 0) (!c) (a1 4 (jp (ah a 0)::ad d::ad (!d)::ad false::jp (ah a 0)::ad b::ad (!b)::ad (!b)::ad false::jp (ah a 0)::ad c::ad (!c)::a1 19 []))) (aS f129 [1] R) g))):=by kernel_rfl
theorem Hj (a:bH):W prog (sb f129 [0,1]) (u1 A F j) (aV prog f129 R a) w=(cond F (R (.tuple #[]) w) (a .normal (Hs A (ae j 0 16 (ad F::ae j 16 19 []))) w)):=by kernel_rfl
theorem VV (a:bH):W prog (sb f129 [1]) (Hs A j) (aV prog f129 R a) w=(B3 182 #[.pointer (some A)] w λb c d e=>cond d (c6 183 #[.pointer (some A)] e λf g=>W prog (sb f129 [1,1,1]) (xS A b c f (aB j 0::ad d::ae j 4 13 (.tuple #[ab b,ab c,ad d]::jp A::.tuple #[ab b,ab c,ad d]::ab b::ab c::ad d::ad d::ad true::jp A::ad f::ae j 28 8 []))) (aV prog f129 R a) g) (W prog (sb f129 [1,1,1]) (xS A b c false (aB j 0::ad d::ae j 4 13 (.tuple #[ab b,ab c,ad d]::jp A::.tuple #[ab b,ab c,ad d]::ab b::ab c::ad d::ad d::ad false::a1 2 (ae j 28 8 [])))) (aV prog f129 R a) e)):=by kernel_rfl
theorem Hk (a:bH):W prog (sb f129 [1,1,1]) (xS A i k F j) (aV prog f129 R a) w=(cond F (cx 184 #[.pointer (some A)] w λc d=>a8 d (br A 15) 0 [ab 0,ab i,ab k,ab c,ag 0] λb=>a .normal ((.pointer (some A))::(aB j 0)::(ab i)::(ab k)::(ae j 1 24 [ad F,.pointer (some A),ab i,ab k,.pointer (some A),ab c,.agg #[ab 0,ab i,ab k,ab c,ag 0],.pointer (some A),.pointer (some (br A 15))])) b) (a .normal ((.pointer (some A))::(aB j 0)::(ab i)::(ab k)::(ae j 1 24 ((ad F)::(ae j 25 8 [])))) w)):=by kernel_rfl
theorem V8:bc prog f182 [bb a] R w=(Calls prog 226 #[bb a] w λe W=>bX.ex λs=>∃ (j:Bool),e=.returned (.tuple #[s.val,ad j])/\aR W #[ab 0,a4] 271 λB T=>a8 T (ah B 0) 0 s.cells λI=>cond j (ck I λQ u=>cA u (ah B 0) λb=>s_ u (ah B 0) λr=>c6 227 #[bb a,r.val] Q λc O=>u O/\R (.tuple #[ab 2,ab b,ad c]) O) (ck I λM A=>dS A (ah a 13) λd f g=>bk d f 0 1 λV=>dS A V λx h i=>cA A (ah a 2) λk=>(Calls prog 228 #[af x h i,ab k] M λe bf=>bX.ex λt=>∃ (l:Bool),e=.returned (.tuple #[t.val,ad l])/\A bf/\aR bf #[ab 0,a4] 271 λD K=>A K/\a8 K (ah D 0) 0 t.cells λH=>cond l (ck H λv F=>cA F (ah D 0) λm=>s_ F (ah D 0) λS=>c6 229 #[bb a,S.val] v λn y=>F y/\R (.tuple #[ab 3,ab m,ad n]) y) (R (.tuple #[ab 1,ab 0,ad true]) H))/\aR M #[ab 0,a4] 271 λC z=>A z/\Calls prog 228 #[af x h i,ab k] z λe N=>bX.ex λP=>∃ (o:Bool),e=.returned (.tuple #[P.val,ad o])/\A N/\a8 N (ah C 0) 0 P.cells λL=>cond o (ck L λX E=>cA E (ah C 0) λp=>s_ E (ah C 0) λJ=>c6 229 #[bb a,J.val] X λq G=>E G/\R (.tuple #[ab 3,ab p,ad q]) G) (R (.tuple #[ab 1,ab 0,ad true]) L))):=by kernel_rfl
def ox (e:aw)(g:Int)(a:an)(b c:Nat)(d f:Int)(j:al):al:=.pointer (some e)::ae j 0 2 (ab g::ae j 2 15 (af a b c::ab d::ab f::ae j 17 32 []))
def Hg (a:Int)(j:al):al:=ae j 0 3 (ab a::ae j 3 50 [])
theorem VL:bc prog f184 [bb a] R w=(dp w (ah a 14) λe=>bY w (ah a 13) λb c d=>cj prog (cN f184 [1,1,0,1,0,0]) (ox (ah a 0) (i64.wrap (if(1073741823:Int)<e then(1073741823:Int)else e)) b c d (c:Nat) 0 (undef::ab 0::a1 6 (jp (ah a 0)::jp (ah a 0)::jp (ah a 14)::ag e::ag (if(1073741823:Int)<e then(1073741823:Int)else e)::ab (i64.wrap (if(1073741823:Int)<e then(1073741823:Int)else e))::jp (ah a 0)::jp (ah a 0)::jp (ah a 13)::a1 32 []))) (aL 0 (aS f184 [1,1,1] R)) w):=by kernel_rfl
theorem Ug (v:al->aK):W prog (sb f184 [1,1,0,1,0,0]) (ox A i s a b k l j) (aM v (aL 0 (aS f184 [1,1,1] R))) w=(cond (l<k) (bk s a l 1 λC=>bY w C λx g h=>bk x g 0 1 λr=>dp w r λB=>WL 230 #[ag B] w λc u D=>cond u (bN D (br A 2) λf=>Calls prog 228 #[af x g h,ab f] D λe H=>bX.ex λd=>∃ (m:Bool),e=.returned (.tuple #[d.val,ad m])/\aR H #[ab 0,a4] 271 λz I=>a8 I (ah z 0) 0 d.cells λE=>cond m (bN E (ah z 0) λn=>v (ox A (if((if(i:Int)<c then(c:Int)else i):Int)<n then(n:Int)else(if(i:Int)<c then(c:Int)else i)) s a b k (i64.wrap (l+1)) (aB j 0::aB j 1::aB j 2::af x g h::ab c::ad u::jp (ah z 0)::ad m::ae j 8 9 [ad (l<k),jp C,af x g h,.tuple #[ab c,ad u],af x g h,jp r,ag B,.tuple #[ab c,ad u],ab c,ad u,ad u,ab i,ab c,ab (if(i:Int)<c then(c:Int)else i),.tuple #[d.val,ad m],af x g h,jp A,jp A,jp A,a7 A 2,ab f,.tuple #[d.val,ad m],d.val,ad m,ad m,ab (if(i:Int)<c then(c:Int)else i),jp (ah z 0),ab n,ab (if((if(i:Int)<c then(c:Int)else i):Int)<n then(n:Int)else(if(i:Int)<c then(c:Int)else i)),ab (i64.wrap (l+1)),aB j 47,aB j 48])) E) (v (ox A (if(i:Int)<c then(c:Int)else i) s a b k (i64.wrap (l+1)) (aB j 0::aB j 1::aB j 2::af x g h::ab c::ad u::jp (ah z 0)::ad m::ae j 8 9 (ad (l<k)::jp C::af x g h::.tuple #[ab c,ad u]::af x g h::jp r::ag B::.tuple #[ab c,ad u]::ab c::ad u::ad u::ab i::ab c::ab (if(i:Int)<c then(c:Int)else i)::.tuple #[d.val,ad m]::af x g h::jp A::jp A::jp A::a7 A 2::ab f::.tuple #[d.val,ad m]::d.val::ad m::ad m::ae j 42 4 [ab (i64.wrap (l+1)),aB j 47,aB j 48]))) E)) (bN D (br A 2) λo=>Calls prog 228 #[af x g h,ab o] D λe bf=>bX.ex λt=>∃ (p:Bool),e=.returned (.tuple #[t.val,ad p])/\aR bf #[ab 0,a4] 271 λy G=>a8 G (ah y 0) 0 t.cells λF=>cond p (bN F (ah y 0) λq=>v (ox A (if(i:Int)<q then(q:Int)else i) s a b k (i64.wrap (l+1)) (aB j 0::aB j 1::aB j 2::af x g h::ab c::ad u::jp (ah y 0)::ad p::ae j 8 9 [ad (l<k),jp C,af x g h,.tuple #[ab c,ad u],af x g h,jp r,ag B,.tuple #[ab c,ad u],ab c,ad u,ad u,aB j 28,aB j 29,aB j 30,.tuple #[t.val,ad p],af x g h,jp A,jp A,jp A,a7 A 2,ab o,.tuple #[t.val,ad p],t.val,ad p,ad p,ab i,jp (ah y 0),ab q,ab (if(i:Int)<q then(q:Int)else i),ab (i64.wrap (l+1)),aB j 47,aB j 48])) F) (v (ox A i s a b k (i64.wrap (l+1)) (aB j 0::aB j 1::aB j 2::af x g h::ab c::ad u::jp (ah y 0)::ad p::ae j 8 9 (ad (l<k)::jp C::af x g h::.tuple #[ab c,ad u]::af x g h::jp r::ag B::.tuple #[ab c,ad u]::ab c::ad u::ad u::aB j 28::aB j 29::aB j 30::.tuple #[t.val,ad p]::af x g h::jp A::jp A::jp A::a7 A 2::ab o::.tuple #[t.val,ad p]::t.val::ad p::ad p::ae j 42 4 [ab (i64.wrap (l+1)),aB j 47,aB j 48]))) F))) (W prog (sb f184 [1,1,1]) (Hg i (jp A::ae j 0 17 (af s a b::ab k::ab l::ad (l<k)::ae j 18 31 []))) (bV f184 R) w)):=by kernel_rfl
theorem UB:W prog (sb f184 [1,1,1]) (Hg i j) (bV f184 R) w=(R (ab (i64.wrap (i+1))) w):=by kernel_rfl
end
section
def mG (lines:Int)(b:(Int×List aD)×Bool)(L:ba):(Int×List aD)×Bool:=if pp L lines=true/\(li L lines).1>b.1.1 then(li L lines,true)else b
def it (lines:Int)(aX:fO):(Int×List aD)×Bool:=aX.foldl (mG lines) ((0,[]),false)
theorem LZ (lines:Int)(aX:fO)(L:ba):it lines (aX++[L])=mG lines (it lines aX) L:=by grind[it]
theorem KJ {r:c3}{m:aU}{j:bM}{V:eI}(ae:dt w0 u aN tb r m j V o)(b5:k1 w0 u aN tb V aX)(a8:aX.length<=100) :
  a9 226 [ptr aN] u (eZ u (it j.lines aX).1 (.bool (it j.lines aX).2)):=by
 refine a' Tryz.func226 ?_;rw [ptr,Vo];obtain ⟨⟨w,M,aV,b7,T⟩,bk⟩:=b5;have bs:=ae.ak.lt;rintro b1 w1 ah ab;obtain ⟨F,D⟩:=bo ah ab;have F:aq w1 b1 iO.cells ep:=F;clear ab;have P:=ae.bK D;have bb:=ae.new.size;refine ⟨_,_,_,P.ak.cell (i:=13) rfl,?_⟩;have C:=ae.job.lines;refine cP mix (λq env z=>∃ (i:Nat) (a2:an) (cap:Nat) (O:au),q=aX.length - i/\i<=aX.length/\env=py ⟨aN,0,none⟩ ⟨b1,0,none⟩ (it j.lines (aX.take i)).2 V.fs V.j2 V.lc V.j2 i O/\ao (λk=>k=b1) w1 z/\
   aq z b1 (bX.cells ⟨(it j.lines (aX.take i)).1.1,a2,(it j.lines (aX.take i)).1.2.length,cap⟩) ep/\fm z a2 (it j.lines (aX.take i)).1.2.length (it j.lines (aX.take i)).1.2/\∀ k,aP a2 k->u.heap.size<=k/\k≠b1) aX.length
  ⟨0,none,0,_,by omega,by omega,rfl,ao.refl _ _,F,Al _,λk b4=>b_ b4 nK⟩ ?_
 rintro q env z ⟨i,a2,cap,O,rfl,ch,rfl,p,B,d,E⟩;rw[TO];have Q:dt w0 z aN tb r m j V o:=P.aC p λk e=>⟨by omega,by omega⟩
 have a7:=F.lt;refine a5 (λU=>?_) (λbY=>?_)
 ·have W:i<aX.length:=by omega
  obtain⟨s,bx⟩:∃ s,w[i]?=some s:=⟨_,bW (by omega)⟩;obtain⟨L,bR⟩:∃ L,aX[i]?=some L:=⟨_,bW W⟩;have aM:=T i s L bx bR;have aZ:bh z V.fs (w.map mM).flatten:=(M.new D).aC p (gF (M.new D) λk g e=>by
   rcases M with af | ⟨bL,ck,af,ag⟩
   ·have:=eh List.length af;rw[EM (cells:=mM) (sz:=1) (λ_=>rfl),aaa]at this
    grind
   ·obtain ⟨ca,Y⟩:=g;rw [af] at Y;simp at Y;have I:=ag 0 (.slice (w[0]'(by omega)).a (w[0]'(by omega)).n (w[0]'(by omega)).c) (by
     cases w with
     |nil=>grind
     |cons cl l=>rfl)
    have cf:bL<u.heap.size:=wP I
    grind)
  refine ei (cells:=mM) (sz:=1) (λ_=>rfl) (by decide) aZ bx rfl aV λb' ca _ aB=>⟨s.a,s.n,s.c,aB 0 _ rfl,r.et,Q.ak.cell (i:=2) rfl,?_⟩
  rw[C];refine aE (Cg j.lines (aM.new Q.new)) ?_;rintro v cq ⟨pb,a0,rfl,X,f,br⟩;refine bX.aT ⟨(li L j.lines).1,pb,(li L j.lines).2.length,a0⟩ ⟨_,rfl,?_⟩;refine dP (vs:=bX.cells ⟨(li L j.lines).1,pb,(li L j.lines).2.length,a0⟩) rfl (bX.single _) λaz bH bV ad J=>?_
  have b:=X.new J;have G:=ai.ak b B;have Z:it j.lines (aX.take (i+1))=mG j.lines (it j.lines (aX.take i)) L:=by grind[List.take_add_one,LZ]
  have bD:=p.size;have b6:=X.size;have more:∀ (t:Bool),t=(it j.lines (aX.take (i+1))).2->∀ (A:an) (y:Nat) (N:aj) (O:au),ao (λk=>k=b1) w1 N->aq N b1 (bX.cells ⟨(it j.lines (aX.take (i+1))).1.1,A,(it j.lines (aX.take (i+1))).1.2.length,y⟩) ep->fm N A (it j.lines (aX.take (i+1))).1.2.length (it j.lines (aX.take (i+1))).1.2->(∀ k,aP A k->u.heap.size<=k/\k≠b1)->
    ∃ bG,bG<aX.length-i/\∃ (H:Nat) (a2:an) (cap:Nat) (a1:au),bG=aX.length-H/\H<=aX.length/\py ⟨aN,0,none⟩ ⟨b1,0,none⟩ t V.fs V.j2 V.lc V.j2 (IntKind.i64.wrap (i+1)) O=py ⟨aN,0,none⟩ ⟨b1,0,none⟩ (it j.lines (aX.take H)).2 V.fs V.j2 V.lc V.j2 H a1/\ao (λk=>k=b1) w1 N/\
     aq N b1 (bX.cells ⟨(it j.lines (aX.take H)).1.1,a2,(it j.lines (aX.take H)).1.2.length,cap⟩) ep/\fm N a2 (it j.lines (aX.take H)).1.2.length (it j.lines (aX.take H)).1.2/\∀ k,aP a2 k->u.heap.size<=k/\k≠b1:=by
   intro t cj A y N O ag bN bO bQ;rw[bq (x:=(i:Int)+1) (by omega) (by omega)];exact⟨aX.length-(i+1),by omega,i+1,A,y,O,rfl,by omega,by grind,ag,bN,bO,bQ⟩
  have same:¬ (pp L j.lines=true/\(li L j.lines).1>(it j.lines (aX.take i)).1.1)->it j.lines (aX.take (i+1))=it j.lines (aX.take i):=λaR=>by rw[Z];exact aW aR
  refine ek (λa4=>⟨_,ad.cell (i:=0) rfl,_,G.cell (i:=0) rfl,a5 (λaI=>?_) (λhle=>?_)⟩) (λa4=>?_)
  ·have e:it j.lines (aX.take (i+1))=(li L j.lines,true):=by rw[Z];exact bm ⟨a4,aI⟩
   refine bX.aT _ ⟨bJ ad rfl,dI (vs:=bX.cells ⟨(li L j.lines).1,pb,(li L j.lines).2.length,a0⟩) G rfl (bX.single _) λcd b9 R=>?_⟩;refine more true (by rw[e]) pb a0 cd _ ((p.new b).trans R λ_ _ e=>e) (by grind) ?_ λk g=>by grind
   rw[e];exact⟨(f.new J).rd.aC R (gF (f.new J).rd λk g e=>by grind),f.len,f.ej,f.u64⟩
  ·have e:=same (λh=>hle h.2);exact more _ (by rw[e]) a2 cap bH _ (p.new b) (by grind) (by rw[e];exact d.new b) E
  ·have e:=same (λh=>by grind);exact more _ (by rw[e]) a2 cap bH _ (p.new b) (by grind) (by rw[e];exact d.new b) E
 ·have aL:i=aX.length:=by omega
  subst aL;rw[jC]at B d ⊢;rw[TZ];refine bX.aT _ ⟨bJ B rfl,?_⟩;refine ph B rfl ⟨(it j.lines aX).1.1,a2,(it j.lines aX).1.2.length,cap⟩ (K:=λres cb=>eZ u (it j.lines aX).1 (.bool (it j.lines aX).2) (.tuple #[res.val,.bool (it j.lines aX).2]) cb) λcm S _=>?_
  exact⟨a2,cap,rfl,(D.trans p λk U e=>by omega).trans S λk U e=>by omega,⟨d.rd.aC S (gF d.rd λk g e=>(E k g).2 e),d.len,d.ej,d.u64⟩,λk g=>(E k g).1⟩
end
section
def h7 (w:Int):Int×Bool:=if 1<=cD .u64 w 2/\cD .u64 w 2<1073741824/\fZ (cD .u64 w 2)=w then(cD .u64 w 2,true)else(0,false)
theorem A0 {w:Int}(h:ch w):0<=cD .u64 w 2/\cD .u64 w 2=w / 4:=by
 have e:cD .u64 w 2=w / 4:=by
  show Int.fdiv w 4=_
  grind
 rw[e];have:=h.1
 grind
theorem D3 (w:aj):a9 214 [.int .i64 0] w λv w'=>v=.tuple #[.int .u64 0,.int .i64 2]/\w'=w:=by
 refine a' Tryz.func214 ?_;rw[Cc];refine aE (zQ w 0 1 1073741823) ?_
 grind
theorem Lo (w:aj)(h:ch x):a9 230 [.int .u64 x] w λv w'=>v=.tuple #[.int .i64 (h7 x).1,.bool (h7 x).2]/\w'=w:=by
 refine a' Tryz.func230 ?_;rw[JI];obtain⟨f,_⟩:=A0 h;have no:¬ (1<=cD .u64 x 2/\cD .u64 x 2<1073741824/\fZ (cD .u64 x 2)=x)->h7 x=(0,false):=λd=>aW d
 refine a5 (λa=>?_) (λb=>?_)
 ·have a:cD .u64 x 2<1073741824:=a;rw[bq (x:=cD .u64 x 2) (by omega) (by omega)];by_cases c:1<=cD .u64 x 2
  ·refine aE (AP w ⟨c,a⟩) ?_;rintro v w1 ⟨rfl,rfl⟩;refine⟨_,_,rfl,dw (λe=>b_ rfl e) (λ_=>dw (λe=>⟨by grind,rfl⟩) (λe=>?_))⟩
   have g:h7 x=(cD .u64 x 2,true):=bm ⟨c,a,e⟩
   grind
  ·have:cD .u64 x 2=0:=by omega
   rw[this]at c ⊢;refine aE (D3 w) ?_
   grind
 ·have b:¬ cD .u64 x 2<1073741824:=b;refine aE (D3 w) ?_
  grind
end
section
theorem D4 (h:fK L lines=true):1<=(c9 L lines).1/\(c9 L lines).1<1073741824:=by
 have hw:=h;unfold fK at hw;simp only[fP,jA,beq_iff_eq]at hw;unfold c9 ev;rw[bm h,bm hw.2]
 grind[eg,fJ,hX,jn]
theorem Rp (x:Int):0<=(h7 x).1/\(h7 x).1<1073741824:=by
 grind[h7]
def mI (a b:Int):Int:=if a<b then b else a
def hH (lines g:Int)(L:ba):Int:=
 let a:=if(h7 (L.getD 0 0)).2=true then mI g (h7 (L.getD 0 0)).1 else g
 if fK L lines=true then mI a (c9 L lines).1 else a
def jl (clock:Int):Int:=if 1073741823<clock then 1073741823 else clock
def jI (lines clock:Int)(aX:fO):Int:=aX.foldl (hH lines) (jl clock)+1
theorem Gi {a b:Int}(c:0<=a/\a<1073741824)(d:0<=b/\b<1073741824):0<=mI a b/\mI a b<1073741824:=by grind[mI]
theorem M9 {g:Int}(h:0<=g/\g<1073741824):0<=hH lines g L/\hH lines g L<1073741824:=by
 unfold hH;have a:0<=(if(h7 (L.getD 0 0)).2=true then mI g (h7 (L.getD 0 0)).1 else g)/\(if(h7 (L.getD 0 0)).2=true then mI g (h7 (L.getD 0 0)).1 else g)<1073741824:=by
  split
  ·exact Gi h (Rp _)
  grind
 simp only;split
 ·rename_i hw;have:=D4 hw;exact Gi a ⟨by omega,this.2⟩
 grind
theorem M_ {r:c3}{m:aU}{j:bM}{V:eI}(E:dt w0 u aN tb r m j V o)(aB:k1 w0 u aN tb V aX)(Y:aX.length<=100)(M:∀ L ∈ aX,L.length=120)(H:ch V.clock) :
  a9 184 [ptr aN] u λv bF=>v=.int .i64 (jI j.lines V.clock aX)/\ai u bF:=by
 refine a' Tryz.func184 ?_;rw[ptr,VL];obtain⟨⟨T,O,N,aL,C⟩,Z⟩:=aB;have b:=E.job.lines;have A:0<=jl V.clock/\jl V.clock<1073741824:=by have:=H.1;grind[jl]
 refine⟨_,E.ak.cell (i:=14) rfl,_,_,_,E.ak.cell (i:=13) rfl,?_⟩;rw[show IntKind.i64.wrap (if(1073741823:Int)<V.clock then(1073741823:Int)else V.clock)=jl V.clock from bq (by grind[jl]) (by grind)];refine cP mix (λq env z=>∃ (i:Nat) (w:au),q=aX.length-i/\i<=aX.length/\env=ox ⟨aN,0,none⟩ ((aX.take i).foldl (hH j.lines) (jl V.clock)) V.fs V.j2 V.lc V.j2 i w/\ai u z/\0<=(aX.take i).foldl (hH j.lines) (jl V.clock)/\(aX.take i).foldl (hH j.lines) (jl V.clock)<1073741824) aX.length
  ⟨0,_,by omega,by omega,rfl,ao.refl _ _,A.1,A.2⟩ ?_
 rintro q env z ⟨i,w,rfl,aM,rfl,d,h⟩;rw[Ug];have y:=E.bK d;refine a5 (λaI=>?_) (λah=>?_)
 ·have D:i<aX.length:=by omega
  obtain⟨s,ae⟩:∃ s,T[i]?=some s:=⟨_,bW (by omega)⟩;obtain⟨L,X⟩:∃ L,aX[i]?=some L:=⟨_,bW D⟩;have B:=C i s L ae X;have k:=B.new y.new;have W:=M L (cu X);have P:(aX.take (i+1)).foldl (hH j.lines) (jl V.clock)=hH j.lines ((aX.take i).foldl (hH j.lines) (jl V.clock)) L:=by grind[List.take_add_one]
  generalize (aX.take i).foldl (hH j.lines) (jl V.clock)=g at h P;have more:∀ {t:Int} {U:aj} (w:au),t=hH j.lines g L->ai u U->∃ af,af<aX.length-i/\∃ (p:Nat) (S:au),af=aX.length-p/\p<=aX.length/\ox ⟨aN,0,none⟩ t V.fs V.j2 V.lc V.j2 (IntKind.i64.wrap (i+1)) w=ox ⟨aN,0,none⟩ ((aX.take p).foldl (hH j.lines) (jl V.clock)) V.fs V.j2 V.lc V.j2 p S/\ai u U/\0<=(aX.take p).foldl (hH j.lines) (jl V.clock)/\(aX.take p).foldl (hH j.lines) (jl V.clock)<1073741824:=by intro t U w aP F;rw[bq (x:=(i:Int)+1) (by omega) (by omega)];have aq:=M9 (lines:=j.lines) (L:=L) h;exact⟨aX.length-(i+1),by omega,i+1,w,rfl,by omega,by grind,F,by grind,by grind⟩
  refine ei (cells:=mM) (sz:=1) (λ_=>rfl) (by decide) (O.new d) ae rfl N λb' aR _ G=>⟨s.a,s.n,s.c,G 0 _ rfl,?_⟩
  refine m8 k.rd (i:=0) (by omega) k.len rfl λaQ aV hw=>⟨_,hw _ (ao.refl _ _),?_⟩
  have Q:ch (L.getD 0 0):=by
   cases L with
   |nil=>exact gU
   |cons a l=>exact B.u64 a (by simp)
  refine aE (Lo z Q) ?_;rintro v aW ⟨rfl,rfl⟩;refine⟨_,_,rfl,ek (λe=>?_) (λe=>?_)⟩
  all_goals
   refine⟨r.et,y.ak.cell (i:=2) rfl,?_⟩;rw[b];refine aE (wJ j.lines k) ?_;rintro v aZ ⟨pb,a0,rfl,J,ad,ab⟩;refine bX.aT ⟨(c9 L j.lines).1,pb,(c9 L j.lines).2.length,a0⟩ ⟨_,rfl,?_⟩;refine dP (vs:=bX.cells ⟨(c9 L j.lines).1,pb,(c9 L j.lines).2.length,a0⟩) rfl (bX.single _) λaz a1 ag R K=>?_
   have F:=d.new (J.new K);refine ek (λf=>⟨_,R.cell (i:=0) rfl,more _ ?_ F⟩) (λf=>more _ ?_ F)
  ·unfold hH;simp only[e,f,if_true];rfl
  ·unfold hH;simp only[e,f,if_true];rfl
  ·unfold hH;simp only[e,f,if_true];rfl
  grind[hH]
 ·have I:i=aX.length:=by omega
  subst I;rw[jC]at h ⊢;rw[UB];rw[bq (by omega) (by omega)];exact⟨rfl,d⟩
end
section
open IntKind
variable (w:aj)(R:bg){a b c d e f:Nat}{A B:aw}{s t u:an}{i k l m:Int}{j:al}
def uT (e:aw)(l:an)(a b:Nat)(n s8:Int)(o:an)(c d:Nat)(f:an)(g h:Nat)(i k:Int)(j:al):al:=.pointer (some e)::ae j 0 4 (af l a b::ae j 4 1 (ab n::ag s8::af o c d::ae j 5 31 (af f g h::ab i::ab k::ae j 36 51 [])))
def BA (a:aw)(e:an)(b c:Nat)(g s8:Int)(h:an)(d f:Nat)(j:al):al:=.pointer (some a)::ae j 0 4 (af e b c::ae j 4 1 (ab g::ag s8::af h d f::ae j 5 85 []))
theorem V9 (o:bX):bc prog f227 [bb a,o.val] R w=(aR w o.cells.toArray 271 λj v=>hK v (ah j 0) λr=>c6 247 #[bb a,r.val] v λe p=>cond (!e) (R (ad false) p) (hK p (ah j 0) λu=>h4 248 #[bb a,u.val] p λb c d f t=>cond (!f) (R (ad false) t) (cond ((c:Int) == 0) (R (ad true) t) (ck t λx q=>cA q (ah a 5) λg=>cA q (ah j 0) λh=>cx 225 #[ab g] x λi s=>q s/\l0 s (ah a 3) λn=>eV 216 #[n.val] s λk l m y=>cj prog (cN f227 [1,1,1,1,1,1,1,0,1,0,0]) (uT (ah a 0) b c d i (u64.wrap h) none 0 0 k l m (l:Nat) 0 (o.val::undef::jp (ah j 0)::ad false::ad f::a1 2 (jp (ah a 0)::r.val::ad e::ad (!e)::.tuple #[af b c d,ad f]::jp (ah a 0)::u.val::.tuple #[af b c d,ad f]::af b c d::ad f::ad f::ad (!f)::af b c d::cd c::ad ((c:Int) == 0)::jp (ah a 0)::jp (ah a 0)::jp (ah a 0)::jp (ah a 5)::ab g::ab i::jp (ah j 0)::ab h::ag (u64.wrap h)::jp (ah a 0)::jp (ah a 0)::jp (ah a 0)::jp (ah a 3)::n.val::a1 51 []))) (aL 0 (aS f227 [1,1,1,1,1,1,1,1] R)) y)))):=by kernel_rfl
theorem T3 (C:al->aK):W prog (sb f227 [1,1,1,1,1,1,1,0,1,0,0]) (uT A s a b i k t c d u e f l m j) (aM C (aL 0 (aS f227 [1,1,1,1,1,1,1,1] R))) w=(cond (m<l) (bk u e m 3 λI=>iq w I λr=>aR w #[ab 0,ab 0,ad false] 116 λB O=>a8 O (ah B 0) 0 r.cells λG=>iq G (ah B 0) λF=>eV 249 #[.pointer (some A),F.val,af s a b] G λh y n N=>da 125 (af t c d) (af h y n) N λz o p D=>iq D (ah B 0) λH=>aR D #[ag k] 30 λE M=>eH 250 #[.pointer (some A),H.val,ab i,af (bs E) 1 1] M λv K=>aR K v.cells.toArray 158 λbf L=>da 125 (af z o p) (af (bs bf) 1 1) L λq g x P=>C (uT A s a b i k q g x u e f l (i64.wrap (m+1)) (ae j 0 6 (jp (ah B 0)::ae j 7 29 (ad (m<l)::jp I::r.val::af t c d::jp A::F.val::af s a b::af h y n::af z o p::af z o p::jp A::H.val::ab i::ag k::af (bs E) 1 1::v.val::af (bs bf) 1 1::af q g x::ab (i64.wrap (m+1))::ae j 55 32 [])))) P) (W prog (sb f227 [1,1,1,1,1,1,1,1]) (BA A s a b i k t c d (ae j 0 36 (af u e f::ab l::ab m::ad (m<l)::ae j 37 50 []))) (bV f227 R) w)):=by kernel_rfl
theorem Uv:W prog (sb f227 [1,1,1,1,1,1,1,1]) (BA A s a b i k t c d j) (bV f227 R) w=(h4 221 #[.pointer (some A),af t c d] w λg h u D K=>cond (!D) (R (ad false) K) (ck K λT B=>hf B (br A 9) λX=>hf B (br A 9) λG=>aR T #[ag k] 30 λQ I=>B I/\eH 250 #[.pointer (some A),X.val,ab i,af (bs Q) 1 1] I λP E=>B E/\(aR E P.cells.toArray 158 λV O=>B O/\eV 249 #[.pointer (some A),G.val,af s a b] O λl m n M=>B M/\da 125 (af (bs V) 1 1) (af l m n) M λU o p H=>B H/\h4 221 #[.pointer (some A),af U o p] H λq r e f L=>B L/\R (ad f) L)/\eV 249 #[.pointer (some A),G.val,af s a b] E λv x y F=>B F/\aR F P.cells.toArray 158 λJ N=>B N/\da 125 (af (bs J) 1 1) (af v x y) N λz Y Z bf=>B bf/\h4 221 #[.pointer (some A),af z Y Z] bf λah ae ao S C=>B C/\R (ad S) C)):=by kernel_rfl
def uZ (e:aw)(i:an)(a b:Nat)(c:an)(d f:Nat)(g h:Int)(j:al):al:=.pointer (some e)::ae j 0 4 (af i a b::ae j 4 7 (af c d f::ab g::ab h::ae j 11 38 []))
def Hv (a:aw)(d:an)(b c:Nat)(j:al):al:=.pointer (some a)::ae j 0 4 (af d b c::ae j 4 48 [])
theorem Xm (e:bX):bc prog f229 [bb a,e.val] R w=(aR w e.cells.toArray 271 λf g=>bY g (ah f 1) λd b c=>cj prog (cN f229 [1,1,0,1,0,0]) (uZ (ah a 0) none 0 0 d b c (b:Nat) 0 (e.val::undef::jp (ah f 0)::ad false::a1 6 (jp (ah f 1)::a1 38 []))) (aL 0 (aS f229 [1,1,1] R)) g):=by kernel_rfl
theorem UC (z:al->aK):W prog (sb f229 [1,1,0,1,0,0]) (uZ A s a b t c d i k j) (aM z (aL 0 (aS f229 [1,1,1] R))) w=(cond (k<i) (bk t c k 9 λC=>hJ w C λr=>aR w #[ab 0,ag 0,ag 0,ag 0,ag 0,ag 0,ag 0,ag 0,ag 0] 73 λv M=>a8 M (ah v 0) 0 r.cells λI=>ck I λL u=>rh u (ah v 0) λB=>cA u (br A 5) λf=>g6 211 #[B.val,ab f] L λh l D=>cond (l == 0) (ck D λK x=>hf x (br A 9) λe=>cA x (ah v 0) λm=>hd x (ah v 1) λn=>cx 108 #[ab m] K λo F=>x F/\eH 223 #[.pointer (some A),e.val,ab o,ag h,ag n] F λg H=>x H/\aR H g.cells.toArray 158 λE bf=>x bf/\da 125 (af s a b) (af (bs E) 1 1) bf λy p q G=>x G/\z (uZ A y p q t c d i (i64.wrap (k+1)) (ae j 0 5 (jp (ah v 0)::ag h::ab l::aB j 8::aB j 9::aB j 10::ad (k<i)::jp C::r.val::.tuple #[ag h,ab l]::B.val::jp A::jp A::jp A::a7 A 5::ab f::.tuple #[ag h,ab l]::ag h::ab l::ab l::ad ((l:Int) == 0)::af s a b::jp A::jp A::jp A::a7 A 9::e.val::jp (ah v 0)::ab m::ab o::ag h::jp (ah v 1)::ag n::g.val::af (bs E) 1 1::af y p q::ab (i64.wrap (k+1))::ae j 42 7 []))) G) (z (uZ A s a b t c d i (i64.wrap (k+1)) (ae j 0 5 (jp (ah v 0)::ag h::ab l::aB j 8::aB j 9::aB j 10::ad (k<i)::jp C::r.val::.tuple #[ag h,ab l]::B.val::jp A::jp A::jp A::a7 A 5::ab f::.tuple #[ag h,ab l]::ag h::ab l::ab l::ad ((l:Int) == 0)::ae j 26 15 (ab (i64.wrap (k+1))::ae j 42 7 [])))) D)) (W prog (sb f229 [1,1,1]) (Hv A s a b (ae j 0 11 (af t c d::ab i::ab k::ad (k<i)::ae j 12 37 []))) (bV f229 R) w)):=by kernel_rfl
theorem Vp:W prog (sb f229 [1,1,1]) (Hv A s a b j) (bV f229 R) w=(h4 221 #[.pointer (some A),af s a b] w λd f g h c=>R (ad h) c):=by kernel_rfl
def xJ (e i:aw)(k:an)(a b:Nat)(c:an)(d f:Nat)(g h:Int)(j:al):al:=.pointer (some e)::ae j 0 3 (.pointer (some i)::ae j 3 2 (af k a b::ae j 5 4 (af c d f::ab g::ab h::ae j 9 20 [])))
def Hd (c:an)(a b:Nat)(j:al):al:=ae j 0 7 (af c a b::ae j 7 27 [])
theorem W4 (d:aU):bc prog f249 [bb a,d.val,af s b c] R w=(aR w d.cells.toArray 116 λe f=>cj prog (cN f249 [1,1,0,1,0,0]) (xJ (ah a 0) (ah e 0) none 0 0 s b c (b:Nat) 0 (d.val::af s b c::a1 2 (a4::a1 24 []))) (aL 0 (aS f249 [1,1,1] R)) f):=by kernel_rfl
theorem T_ (x:al->aK):W prog (sb f249 [1,1,0,1,0,0]) (xJ A B s a b t c d i k j) (aM x (aL 0 (aS f249 [1,1,1] R))) w=(cond (k<i) (bk t c k 9 λH=>hJ w H λr=>aR w #[ab 0,ag 0,ag 0,ag 0,ag 0,ag 0,ag 0,ag 0,ag 0] 73 λu L=>a8 L (ah u 0) 0 r.cells λE=>hJ E (ah u 0) λC=>rf 244 #[C.val] E λf g l m K=>ck K λI h=>hf h B λF=>cA h (ah u 0) λn=>cx 108 #[ab n] I λo G=>h G/\eH 250 #[.pointer (some A),F.val,ab o,af f g l] G λe z=>h z/\aR z e.cells.toArray 158 λy D=>h D/\da 125 (af s a b) (af (bs y) 1 1) D λv p q bf=>h bf/\x (xJ A B v p q t c d i (i64.wrap (k+1)) (ae j 0 6 [jp (ah u 0),af f g l,ab m,ad (k<i),jp H,r.val,.tuple #[af f g l,ab m],C.val,.tuple #[af f g l,ab m],af f g l,ab m,af s a b,jp A,F.val,jp (ah u 0),ab n,ab o,af f g l,e.val,af (bs y) 1 1,af v p q,ab (i64.wrap (k+1)),aB j 28])) bf) (W prog (sb f249 [1,1,1]) (Hd s a b (jp A::aB j 0::aB j 1::aB j 2::jp B::ae j 3 6 (af t c d::ab i::ab k::ad (k<i)::ae j 10 19 []))) (bV f249 R) w)):=by kernel_rfl
theorem UK:W prog (sb f249 [1,1,1]) (Hd s a b j) (bV f249 R) w=(R (af s a b) w):=by kernel_rfl
end
section
def An (j:bM)(m:aU)(p:aD):bE:=si j m (p.bw*8) (ew p.Head j.dead) p.Head
def ux (j:bM)(m:aU)(W:List aD)(G:bn):cq:=bQ G (W.map (An j m))
structure su (W:List aD):Prop where
 ej:W.length<=12
 ok:∀ p ∈ W,l3 p.Head=true/\ly p.Head=true/\96<=p.bw/\p.bw<256/\ch p.Head
theorem Rq {r:c3}{m:aU}{j:bM}{V:eI}{T:eG}{G:bn}(D:dt w0 u aN tb r m j V (0,0))(Y:eJ A w0 u tb T G)(af:f8 T){q:bX}{W:List aD}(N:fm u q.de q.dj W)(eT:su W) :
  a9 229 [ptr aN,q.val] u (lC A w0 u aN tb r m j V (ux j m W G)):=by
 refine a' Tryz.func229 ?_;rw[ptr,Xm];have bh:=D.ak.lt;have bk:=Y.ak.lt;have ah:=D.ct.dead;have bN:=D.job.dead;have hlen:=N.len;have a8:=eT.ej;rintro b1 w1 Z O;obtain⟨C,a⟩:=bo Z O;have C:aq w1 b1 q.cells ep:=C;clear O;have aR:=a.size;refine⟨_,_,_,C.cell (i:=1) rfl,?_⟩;refine cP mix (λk env z=>∃ (i:Nat) (a2:an) (pc:Nat) (bm:au),k=W.length-i/\i<=W.length/\env=uZ ⟨aN,0,none⟩ a2 i pc q.de q.dj q.fG q.dj i bm/\ai w1 z/\bO w1 z a2 i pc ((W.take i).map (An j m))) W.length
  ⟨0,none,0,_,by omega,by omega,rfl,ao.refl _ _,bO.nil _ _⟩ ?_
 rintro k env z ⟨i,a2,pc,bm,rfl,ck,rfl,d,l⟩;rw[UC,hlen];have I:=D.bK (a.new d);refine a5 (λbV=>?_) (λbQ=>?_)
 ·obtain⟨p,bb⟩:∃ p,W[i]?=some p:=⟨_,bW (by omega)⟩;obtain⟨b4,cl,b5,b6,b7⟩:=eT.ok p (cu bb);refine ei (cells:=aD.cells) aD.len (by omega) ((N.new a).new d).rd bb rfl rfl λb bY ae _=>aD.aT p ⟨ae,?_⟩
  refine dP (vs:=p.cells) rfl (aD.single _) λbD ca bL aW K=>?_
  rintro a1 P;have s:ai ca a1:=by rw[P];exact cC _
  clear P;have F:=I.bK (K.new s);have S:=ai.ak s aW;refine⟨λy=>ai a1 y,ao.refl _ _,aD.aT p ⟨λy f=>bJ (ai.ak f S) rfl,r.eX,λy f=>(ai.ak f F.ak).cell (i:=5) rfl,?_⟩⟩;rw[bN];refine aE (z7 a1 p b4 ah) ?_;rintro v cb ⟨rfl,t⟩;have ad:=F.bK t;have aZ:=ai.ak t S;refine⟨_,_,rfl,dJ (λ_=>?_) (λe=>b_ rfl e)⟩;rintro a4 Q;have w:ai cb a4:=by rw[Q];exact cC _
  clear Q;have H:=ad.bK w;have U:=ai.ak w aZ;refine⟨λy=>aq y bD p.cells eo/\iS r tb m j aN y,⟨U,_,_,H.ak⟩,aU.aT m ⟨λy f=>by obtain⟨_,cf,bY,f⟩:=f;exact bJ f rfl,p.bw,λy f=>f.1.cell (i:=0) rfl,p.Head,λy f=>f.1.cell (i:=1) rfl,?_⟩⟩;refine aE (qm a4 b5 b6) ?_;rintro v bs ⟨rfl,a7⟩;have B:ai a4 bs:=by rw[a7];exact ao.refl _ _
  clear a7;have o:=H.bK B;have X:=ai.ak B U;refine⟨_,rfl,⟨X,_,_,o.ak⟩,?_⟩;refine aE (wK o D.eS (p.bw*8) (Fj p.Head j.dead) b7) ?_;rintro v bx ⟨b9,rfl,aV,h⟩;have g:=o.bK h;have n:=ai.ak h X;refine aI.aT b9 ⟨rfl,⟨n,_,_,g.ak⟩,?_⟩;rintro ch cd ab R;have L:ai bx cd:=by rw[R];exact hn _ _
  have c:ai z bs:=(((K.new s).new t).new w).new B;refine⟨⟨ai.ak L n,_,_,(g.bK L).ak⟩,bO.lX (l.new c) (d.new c) h aV (by omega) ab R λap E cq cj J aL=>?_⟩;obtain⟨br,M,_⟩:=(l.new (c.new h)).ex;have off:∀ {b:Nat} {cs:au} {T:bU},T≠cK->aq bx b cs T->¬ aP a2 b:=λY bH bR=>by obtain⟨bG,ag⟩:=gj M bR;exact ag.ne bH (λe=>Y e.symm) rfl
  refine⟨⟨J.ak n (off (by decide) n),_,_,J.ak g.ak (off (by decide) g.ak)⟩,?_⟩;rw[bq (x:=(i:Int)+1) (by omega) (by omega)];refine⟨W.length-(i+1),by omega,i+1,ap,E,_,rfl,by omega,by rw[<-hlen];rfl,aL,?_⟩
  grind[An,List.take_add_one]
 ·have aB:i=W.length:=by omega
  subst aB;rw[jC]at l;rw[Vp];refine aE (nM I (Y.new (a.new d)) af (D.bK a).new (by omega) (by omega) l (by grind)) ?_;rintro v cm ⟨dB,dc,raw,rfl,aM,_⟩;exact⟨_,_,_,_,rfl,rfl,aM.of (a.new d) aR⟩
end
section
def pN (j:bM)(bD:aU)(p:aD):bE:=lU j bD (p.bw*8) (ie p)
theorem D5 {r:c3}{m:aU}{j:bM}{V:eI}(bN:dt w0 u aN tb r m j V o){bD:aU}(ah:eb bD.cB){a:an}{c:Nat}{W:List aD}(K:fm u a n W)(eT:su W)(E:∀ p ∈ W,∀ x ∈ hE p,ch x) :
  a9 249 [ptr aN,bD.val,.slice a n c] u λv bF=>∃ a2 pc,v=.slice a2 W.length pc/\ai u bF/\bO u bF a2 W.length pc (W.map (pN j bD)):=by
 refine a' Tryz.func249 ?_;rw[ptr,W4];have hlen:=K.len;have bb:=eT.ej;rintro b1 w1 Y M;obtain⟨C,G⟩:=bo Y M;have C:aq w1 b1 bD.cells eF:=C;clear M;have bX:=G.size;refine cP mix (λk env z=>∃ (i:Nat) (a2:an) (pc:Nat) (bk:au),k=W.length-i/\i<=W.length/\env=xJ ⟨aN,0,none⟩ ⟨b1,0,none⟩ a2 i pc a n c n i bk/\ai u z/\aq z b1 bD.cells eF/\bO u z a2 i pc ((W.take i).map (pN j bD))) W.length
  ⟨0,none,0,_,by omega,by omega,rfl,G,C,bO.nil _ _⟩ ?_
 rintro k env z ⟨i,a2,pc,bk,rfl,ck,rfl,B,R,L⟩;rw[T_,hlen];have ag:=bN.bK B;refine a5 (λbV=>?_) (λbQ=>?_)
 ·obtain⟨p,aR⟩:∃ p,W[i]?=some p:=⟨_,bW (by omega)⟩;obtain⟨cm,bY,b4,b5,b6⟩:=eT.ok p (cu aR);refine ei (cells:=aD.cells) aD.len (by omega) (K.new B).rd aR rfl rfl λb cl ae _=>aD.aT p ⟨ae,?_⟩
  refine dP (vs:=p.cells) rfl (aD.single _) λbs b_ bL S aL=>aD.aT p ⟨bJ S rfl,?_⟩
  refine aE (Du b_ p b6 bY) ?_;rintro v ca ⟨b9,cr,rfl,aB,P,_⟩;refine⟨_,_,_,_,rfl,?_⟩;rintro a1 N;have H:ai ca a1:=by rw[N];exact cC _
  clear N;have s:=aB.new H;have g:=aL.new s;have ab:=ag.bK g;have U:=ai.ak s S;have t:=ai.ak g R;refine⟨λy=>aq y bs p.cells eo/\aq y b1 bD.cells eF,⟨U,t⟩,aU.aT bD ⟨λy aW=>bJ aW.2 rfl,p.bw,λy aW=>aW.1.cell (i:=0) rfl,?_⟩⟩;refine aE (qm a1 b4 b5) ?_;rintro v a4 ⟨rfl,a7⟩;have h:ai a1 a4:=by rw[a7];exact ao.refl _ _
  clear a7;have ad:=ab.bK h;have X:=ai.ak h U;have w:=ai.ak h t;refine⟨_,rfl,⟨X,w⟩,?_⟩;have Q:bh a4 b9 (us (ie p)):=(aZ.new (H.new h) P).rd;refine aE (v9 ad ah (p.bw*8) Q rfl (aZ.le P) (λe=>?_) (Ga (E p (cu aR))) (by show 8<=1000000;omega)) ?_
  ·rcases Q with a8 | ⟨cf,cq,a8,_⟩
   ·have:=eh List.length a8
    grind[ht,List.length_nil,List.eq_nil_of_length_eq_zero]
   grind
  rintro v br ⟨b7,rfl,aV,l⟩;have q:=ai.ak l X;have d:=ai.ak l w;refine aI.aT b7 ⟨rfl,⟨q,d⟩,?_⟩;rintro cd cb Z O;have I:ai br cb:=by rw[O];exact hn _ _
  have f:ai z a4:=g.new h;refine⟨⟨ai.ak I q,ai.ak I d⟩,bO.lX (L.new f) (B.new f) l aV (by omega) Z O λap D cv cj F aM=>?_⟩;obtain⟨bm,J,_⟩:=(L.new (f.new l)).ex;have off:∀ {b:Nat} {cs:au} {T:bU},T≠cK->aq br b cs T->¬ aP a2 b:=λbG bH bR=>by obtain⟨bx,af⟩:=gj J bR;exact af.ne bH (λe=>bG e.symm) rfl
  have A:=F.ak d (off (by decide) d);refine⟨⟨F.ak q (off (by decide) q),A⟩,?_⟩;rw[bq (x:=(i:Int)+1) (by omega) (by omega)];refine⟨W.length-(i+1),by omega,i+1,ap,D,_,rfl,by omega,by rw[<-hlen];rfl,aM,A,?_⟩
  grind[pN,List.take_add_one]
 grind[List.take_length,UK]
end
section
noncomputable abbrev xX:Func:=f248
def uE (j:bM)(m:aU)(p:aD):bE:=m0 j m (p.bw*8) 1
def o6 (j:bM)(W:List aD)(ds:cw)(i:Nat):List aD:=if dE ds i=ew (W.getD i il).Head j.dead then[W.getD i il]else[]
def gq (j:bM)(W:List aD)(ds:cw)(n:Nat):List aD:=((List.range n).map (o6 j W ds)).flatten
theorem zJ (j:bM)(W:List aD)(ds:cw)(n:Nat):gq j W ds (n+1)=gq j W ds n++o6 j W ds n:=by
 grind[gq,List.range_succ]
theorem zU (j:bM)(W:List aD)(ds:cw)(n:Nat):(gq j W ds n).length<=n:=by
 induction n with
 |zero=>simp[gq]
 |succ n a=>
  grind[zJ,List.length_append,o6]
def Ek (A:a6)(w0 u:aj)(aN tb:Nat)(r:c3)(m:aU)(j:bM)(V:eI)(W:List aD)(R:cq)(v:bl)(bF:aj):Prop:=
 ∃ a2 pc,v=.tuple #[.slice a2 (gq j W R.done R.done.length).length pc,.bool R.ok]/\eE A w0 u aN tb u.heap.size r m j V R bF/\bh bF a2 (ef (gq j W R.done R.done.length)).flatten/\∀ k,aP a2 k->u.heap.size<=k
theorem NQ {r:c3}{m:aU}{j:bM}{V:eI}(ab:dt w0 u aN tb r m j V o){q:bX}(a9:aq u b1 q.cells ep){W:List aD}(N:fm u q.de q.dj W)(eT:su W){ds:cw}{raw:List bR}{dB:an}{dc:Nat}(a4:bh w0 dB (fL raw).flatten)(J:gX A w0 raw ds)(bO:ds.length<=W.length)(ok:Bool)(Y:au)
  (aB:∀ bF a2 pc,ai u bF->bh bF a2 (ef (gq j W ds ds.length)).flatten->(∀ k,aP a2 k->u.heap.size<=k)->R (.tuple #[.slice a2 (gq j W ds ds.length).length pc,.bool ok]) bF) :
  cj prog (.loop (sub (ay xX) [1,1,1,1,0,1,0,0])) (qL ⟨aN,0,none⟩ ⟨b1,0,none⟩ none 0 0 ok dB ds.length dc ds.length 0 Y)
   (aL 2 (aM (λenv w=>Go.bd.W prog (sub (ay xX) [1,1,1,1,1]) env (cS prog xX R) w) (cS prog xX R))) u:=by
 have a7:raw.length=ds.length:=J.1;have br:=eT.ej;have af:=ab.ct.dead;have bN:=ab.job.dead;have hlen:=N.len;refine cP mix (λk env z=>∃ (i:Nat) (a2:an) (pc:Nat) (Y:au),k=ds.length-i/\i<=ds.length/\env=qL ⟨aN,0,none⟩ ⟨b1,0,none⟩ a2 (gq j W ds i).length pc ok dB ds.length dc ds.length i Y/\ai u z/\aZ z eo 9 a2 (gq j W ds i).length pc (ef (gq j W ds i)).flatten/\∀ k,aP a2 k->u.heap.size<=k) ds.length
  ⟨0,none,0,_,by omega,by omega,rfl,ao.refl _ _,aZ.nil _ _ _,λk aB=>b_ aB nK⟩ ?_
 rintro k env z ⟨i,a2,pc,Y,rfl,cv,rfl,f,l,M⟩;rw[lm];have H:=ab.bK f;have b5:=zU j W ds i;refine a5 (λaI=>?_) (λbV=>?_)
 ·have K:i<ds.length:=by omega
  obtain⟨d,I⟩:∃ d,raw[i]?=some d:=⟨_,bW (by omega)⟩;obtain⟨x,ca⟩:∃ x,ds[i]?=some x:=⟨_,bW K⟩;obtain⟨p,U⟩:∃ p,W[i]?=some p:=⟨_,bW (by omega)⟩;have b4:W.getD i il=p:=oW U;have ae:=J.2 i d x I ca;have bQ:dE ds i=d_ x:=by grind[dE]
  obtain⟨cb,cy,cA,cD,cG⟩:=eT.ok p (cu U);refine ei (cells:=bR.cells) bR.len (by omega) (a4.new H.new) I rfl a7.symm λb cx ad _=>bR.aT d ⟨ad,?_⟩
  refine dP (vs:=d.cells) rfl (bR.single _) λcl cf bG bb aR=>?_
  rintro bm Q;have L:ai cf bm:=by rw[Q];exact cC _
  clear Q;have g:=aR.new L;have a':=ai.ak L bb;have O:=ai.ak (f.new g) a9;have E:=H.bK g;have t:=N.new (f.new g);refine⟨λy=>ai bm y,ao.refl _ _,_,_,_,λy X=>(ai.ak X O).cell (i:=1) rfl,?_⟩;refine io (cells:=aD.cells) aD.len (by omega) t.rd U rfl hlen λcm cd bL=>aD.aT p ⟨λy X=>jk (i:=0) λq v ar=>by grind,r.eX,λy X=>(ai.ak X E.ak).cell (i:=5) rfl,?_⟩
  rw[bN];refine aE (z7 bm p cb af) ?_;rintro v cK ⟨rfl,s⟩;have F:=E.bK s;have bk:=ai.ak s a';refine⟨_,_,rfl,s,dJ (λ_=>bR.aT d ⟨bJ bk rfl,?_⟩) (λe=>b_ rfl e)⟩;refine aE (rA (ae.aC (ao.b7 F.new) λ_ _ e=>e)) ?_;rintro v cL ⟨rfl,aV⟩;have h:=s.new aV;have c:=g.new h;have a1:=ai.ak h O;refine⟨_,rfl,dJ (λhe=>⟨_,_,_,a1.cell (i:=1) rfl,?_⟩) (λhe=>?_)⟩
  ·have a:gq j W ds (i+1)=gq j W ds i++[p]:=by
    rw[zJ];unfold o6
    grind
   refine ei (cells:=aD.cells) aD.len (by omega) (t.new h).rd U rfl hlen λcq cH G _=>aD.aT p ⟨G,?_⟩
   rintro bs ch Z S;obtain⟨C,B⟩:=bo Z S;have C:aq ch bs p.cells eo:=C;clear S;obtain⟨inf,ag,a8,P,bH⟩:=ft (T:=eo) (z:=il.val) (n:=9) (m:=72) (by kernel_rfl);refine qn (cells:=aD.cells) (sz:=9) aD.len aD.single Tryz.underlying37 ag a8 (by rw[P];rfl) P (by decide) (by grind) (aZ.new (c.new B) l) (l2:=[p]) (m:=1) (e6 C rfl) rfl (by omega) λap D ck bx bD cr=>?_
   rw[bq (x:=(i:Int)+1) (by omega) (by omega)];have aW:ai u ck:=(f.new (c.new B)).trans bD λk aI e=>by grind
   have b9:=(f.new c).size;have b6:=B.size;refine⟨ds.length-(i+1),by omega,i+1,ap,D,_,rfl,by omega,by rw[a,hi];rfl,aW,?_,λk bY=>?_⟩
   ·rw[a,hi];exact bx
   grind
  ·have a:gq j W ds (i+1)=gq j W ds i:=by
    rw[zJ];unfold o6
    grind
   rw[bq (x:=(i:Int)+1) (by omega) (by omega)];exact⟨ds.length-(i+1),by omega,i+1,a2,pc,_,rfl,by omega,by rw[a];rfl,f.new c,by rw[a];exact aZ.new c l,M⟩
 ·have ah:i=ds.length:=by omega
  subst ah;rw[UA];exact aB z a2 pc f l.rd M
end
section
def fu (j:bM)(m:aU)(W:List aD)(G:bn):cq:=bQ G (W.map (uE j m))
theorem Lp {r:c3}{m:aU}{j:bM}{V:eI}{T:eG}{G:bn}(ah:dt w0 u aN tb r m j V (0,0))(ag:eJ A w0 u tb T G)(aV:f8 T){q:bX}{W:List aD}(H:fm u q.de q.dj W)(cq:∀ k,aP q.de k->k≠tb/\k≠aN)(eT:su W) :
  a9 248 [ptr aN,q.val] u (Ek A w0 u aN tb r m j V W (fu j m W G)):=by
 refine a' Tryz.func248 ?_;rw[ptr,VK];have bN:=ah.ak.lt;have bV:=ag.ak.lt;have hlen:=H.len;have bD:=eT.ej;rintro b1 w1 aL Z;obtain⟨t,c⟩:=bo aL Z;have t:aq w1 b1 q.cells ep:=t;clear Z;have bb:=c.size;refine⟨_,_,_,t.cell (i:=1) rfl,?_⟩;refine cP mix (λk env z=>∃ (i:Nat) (a2:an) (pc:Nat) (bY:au),k=W.length-i/\i<=W.length/\env=xF ⟨aN,0,none⟩ ⟨b1,0,none⟩ none 0 0 a2 i pc q.de q.dj q.fG q.dj i bY/\ai w1 z/\bO w1 z a2 i pc ((W.take i).map (uE j m))) W.length
  ⟨0,none,0,_,by omega,by omega,rfl,ao.refl _ _,bO.nil _ _⟩ ?_
 rintro k env z ⟨i,a2,pc,bY,rfl,cS,rfl,d,s⟩;rw[T',hlen];have M:=ah.bK (c.new d);refine a5 (λcx=>?_) (λcr=>?_)
 ·obtain⟨p,bL⟩:∃ p,W[i]?=some p:=⟨_,bW (by omega)⟩;obtain⟨cX,cY,cA,cD,cZ⟩:=eT.ok p (cu bL);refine ei (cells:=aD.cells) aD.len (by omega) ((H.new c).new d).rd bL rfl rfl λb cy aR _=>aD.aT p ⟨aR,?_⟩
  refine dP (vs:=p.cells) rfl (aD.single _) λb9 cL cl bm a4=>?_
  rintro bs ab;have P:ai cL bs:=by rw[ab];exact cC _
  clear ab;have C:=a4.new P;have L:=M.bK C;have w:=ai.ak P bm;refine⟨λy=>aq y b9 p.cells eo/\iS r tb m j aN y,⟨w,_,_,L.ak⟩,aU.aT m ⟨λy ae=>by obtain⟨_,cN,cy,ae⟩:=ae;exact bJ ae rfl,p.bw,λy ae=>ae.1.cell (i:=0) rfl,?_⟩⟩;refine aE (qm bs cA cD) ?_;rintro v b5 ⟨rfl,bx⟩;have F:ai bs b5:=by rw[bx];exact ao.refl _ _
  clear bx;have E:=L.bK F;have af:=ai.ak F w;refine⟨_,rfl,⟨af,_,_,E.ak⟩,?_⟩;refine aE (tM E ah.eS (p.bw*8) 1) ?_;rintro v b6 ⟨cG,rfl,bh,o⟩;have l:=E.bK o;have B:=ai.ak o af;refine aI.aT cG ⟨rfl,⟨B,_,_,l.ak⟩,?_⟩;rintro cO cM aM ad;have Q:ai b6 cM:=by rw[ad];exact hn _ _
  have g:ai z b5:=C.new F;refine⟨⟨ai.ak Q B,_,_,(l.bK Q).ak⟩,bO.lX (s.new g) (d.new g) o bh (by omega) aM ad λap J c1 cQ O a7=>?_⟩;obtain⟨b4,U,_⟩:=(s.new (g.new o)).ex;have off:∀ {b:Nat} {cs:au} {T:bU},T≠cK->aq b6 b cs T->¬ aP a2 b:=λag ck bH=>by obtain⟨b_,aW⟩:=gj U bH;exact aW.ne ck (λe=>ag e.symm) rfl
  refine⟨⟨O.ak B (off (by decide) B),_,_,O.ak l.ak (off (by decide) l.ak)⟩,?_⟩;rw[bq (x:=(i:Int)+1) (by omega) (by omega)];refine⟨W.length-(i+1),by omega,i+1,ap,J,_,rfl,by omega,by rw[<-hlen];rfl,a7,?_⟩
  grind[uE,List.take_add_one]
 ·have a1:i=W.length:=by omega
  subst a1;rw[jC]at s;rw[Uz];have D:=c.new d;refine aE (nM M (ag.new D) aV (ah.bK c).new (by omega) (by omega) s (by grind)) ?_;rintro v br ⟨dB,dc,raw,rfl,a,a8,f,I⟩;have N:=a.aC;have a:eE A w0 u aN tb u.heap.size r m j V (fu j m W G) br:=eE.of a D bb;have f:gX A w0 raw (fu j m W G).done:=f;have I:(fu j m W G).ok=true->raw.length=(W.map (uE j m)).length:=I;have aZ:(fu j m W G).done.length<=W.length:=by
   cases S:(fu j m W G).ok with
   |true=>rw[<-f.1,I S,jc];omega
   |false=>
    have:(fu j m W G).done=[]:=by
     unfold fu bQ cm at S ⊢
     grind
    grind
  refine⟨_,_,_,_,rfl,?_⟩;show cj prog _ _ _ _;rw[f.1];have w:aq br b1 q.cells ep:=N.ak (ai.ak d t) (by omega);have h:=(H.new c).new d;have X:fm br q.de q.dj W:=⟨h.rd.aC N (gF h.rd λk cv e=>by grind),h.len,h.ej,h.u64⟩;have bR:=a.aC.size;refine NQ a.eD w X eT a8 f aZ _ _ (R:=Ek A w0 u aN tb r m j V W (fu j m W G)) λbF a2 pc n Y bG=>?_
  obtain⟨b7,aB,bk,K⟩:=a.fN;refine⟨a2,pc,rfl,⟨a.aC.new n,a.eD.bK n,b7,aB.new n,bk,?_⟩,Y,λk bH=>by grind⟩;cases ch:(fu j m W G).ask with
  |none=>grind
  |some vs=>rw[ch]at K;obtain⟨ca,cH,cb,cd,cf⟩:=K;exact⟨ca,cH,cb,cd,cf.new n⟩
end
section
theorem Rr (h:∀ x ∈ L,ch x)(i:Nat):ch (L.getD i 0):=by
 grind[gU,List.mem_of_getElem?]
theorem Pq (h:fK L lines=true)(hu:∀ x ∈ L,ch x):fJ (c9 L lines).1 (c9 L lines).2 lines=0/\su (c9 L lines).2/\∀ p ∈ (c9 L lines).2,∀ x ∈ hE p,ch x:=by
 have hw:=h;unfold fK at hw;simp only[fP,jA,beq_iff_eq]at hw;have j:c9 L lines=((L.drop 8).getD 0 0,hX (L.drop 8) ((L.drop 8).getD 1 0).toNat):=by
  unfold c9 ev
  grind
 have b:=hw.2;unfold eg at b;split at b
 ·omega
 split at b
 ·omega
 split at b
 ·omega
 split at b
 ·omega
 rename_i _ _ _ d;have d:fJ ((L.drop 8).getD 0 0) (hX (L.drop 8) ((L.drop 8).getD 1 0).toNat) lines=0:=by omega
 rw[j];have e:∀ x ∈ L.drop 8,ch x:=λx c=>hu x (qb c)
 obtain⟨q,n,k,f,_⟩:=jn d;refine⟨d,⟨n.2.2.2,λp a=>⟨(f p a).1,(f p a).2,(k p a).1,by grind,Ff e _ p a⟩⟩,λp a x c=>?_⟩;obtain⟨i,_,rfl⟩:=dD.1 a;have l:∀ y ∈ ((L.drop 8).drop (2+9*i)).take 9,ch y:=λy o=>e y (qb (v3 o))
 have g:=Rr l;have c:x ∈ [(((L.drop 8).drop (2+9*i)).take 9).getD 2 0,(((L.drop 8).drop (2+9*i)).take 9).getD 3 0,(((L.drop 8).drop (2+9*i)).take 9).getD 4 0,(((L.drop 8).drop (2+9*i)).take 9).getD 5 0,(((L.drop 8).drop (2+9*i)).take 9).getD 6 0,(((L.drop 8).drop (2+9*i)).take 9).getD 7 0,(((L.drop 8).drop (2+9*i)).take 9).getD 8 0]:=c;simp only[gw,kS,or_false]at c
 grind
theorem bO.three {bp b3 bz n:aj}{v1 v2 f:aI}{p q s:bE}(h:ai u bp)(i:cQ (λk=>k<u.heap.size) bp v1 p)(d:ai bp b3)(j:cQ (λk=>k<bp.heap.size) b3 v2 q)(a:ai b3 bz)(l:cQ (λk=>k<b3.heap.size) bz f s)(A:b=bz.heap.size)(ax:aq n b (v1.cells++v2.cells++f.cells) cK)(g:ai bz n):bO u n (some ⟨b,0,none⟩) 3 3 [p,q,s]:=by
 have x:=h.size;have y:=d.size;have z:=a.size;have t:∀ k,aP (some ⟨b,0,none⟩) k->k=b:=λk r=>by
  obtain⟨o,B⟩:=r
  grind
 have w:(v1.cells++v2.cells++f.cells).length=27:=by grind[List.length_append,aI.len]
 refine⟨⟨[v1,v2,f],⟨by grind[dQ],.inr ⟨b,v1.cells++v2.cells++f.cells,rfl,ax,dr 3,by decide,w,?_⟩⟩,er.app (r1:=[v1]) (v1:=[p]) (er.one ?_) (er.app (r1:=[v2]) (v1:=[q]) (er.one ?_) (er.one ?_))⟩,rfl,λk r=>by grind⟩
 ·grind[List.take_of_length_le,dQ]
 ·exact i.aC (ao.b7 ((d.new a).new g)) λk c e=>by
   grind
 ·exact j.aC (ao.b7 (a.new g)) λk c e=>by
   grind
 ·exact l.aC (ao.b7 g) λk c e=>by
   grind
end
section
noncomputable abbrev iW:Func:=f247
def Ao (j:bM)(seq:Int)(W:List aD)(bD:aU):bu:=[lU j bD (fl j.dead) [0],lU j bD (fl j.dead+8) (fe seq W),lU j bD (fl j.dead) [fZ seq]]
theorem m9 {y a:aj}(c:b=y.heap.size)(hw:a=y.alloc (.cells #[.int .u64 x] 30)):ai y a/\bh a (some ⟨b,0,none⟩) (us [x]):=by obtain⟨ax,d⟩:=bo (zs:=(us [x]).toArray) c hw;exact⟨d,e6 ax rfl⟩
theorem L0 {z:aj}{r:c3}{m:aU}{j:bM}{V:eI}(a4:dt w0 z aN tb r m j V o){L:Nat}{q:bX}{bD:aU}(cb:aq z b1 q.cells ep)(cd:aq z L bD.cells eF)(b5:eb bD.cB){W:List aD}(b_:fm z q.de q.dj W)(a9:fJ q.Seq W 256=0)(aB:∀ x ∈ fe q.Seq W,ch x)(aL:ch (fZ q.Seq))(a7:ai u z)
  {a2:an} {pc:Nat} {vs:bu} (a':bO u z a2 n pc vs) (cG:n<=1000) (O:an) (S Q:Nat) (U X:Int) (cf:au) {QX:Exit->au->aK}
  (Z:∀ cq ap C cf,bO u cq ap (n+3) C (vs++Ao j q.Seq W bD)->ai u cq->QX .normal (lQ ⟨aN,0,none⟩ ⟨b1,0,none⟩ (fZ q.Seq) ap (n+3) C O S Q U X cf) cq) :
  Go.bd.W prog (sub (ay iW) [1,1,1,0,1,0,0,1,1,0,0,1,1]) (Bz ⟨aN,0,none⟩ ⟨b1,0,none⟩ (fZ q.Seq) a2 n pc ⟨L,0,none⟩ O S Q U X cf) (aV prog iW R QX) z:=by
 rw[Uu];have a5:=a4.ct.dead;have cD:=a4.job.dead;obtain⟨_,ca,bY,_⟩:=jn a9;refine⟨r.eX,a4.ak.cell (i:=5) rfl,?_⟩;rw[cD];refine aE (AE z a5) ?_;rintro v cX ⟨rfl,rfl⟩;refine⟨_,rfl,?_⟩;rintro ad bb;have A:ai cX ad:=by rw[bb];exact cC _
 clear bb;have c9:∀ k,aP a2 k->k<cX.heap.size:=λk Z=>by obtain⟨bk,br,_⟩:=a'.ex;exact br.lt Z
 have c_:=A.size;have da:=a7.size;have p:∀ {y:aj},ai ad y->aq y L bD.cells eF/\aq y b1 q.cells ep/\iS r tb m j aN y:=λ{y} J=>⟨ai.ak (A.new J) cd,ai.ak (A.new J) cb,_,_,(a4.bK (A.new J)).ak⟩
 have wr:∀ {y:aj} {K:Ending->aK} {a:an} {l c:Nat} {ws:ba} (at_:Int),ai ad y->bh y a (us ws)->l=ws.length->l<=c->(∀ x ∈ ws,ch x)->ws.length<=1000->ws≠[]->(∀ (bm:aI) t,ai y t->cQ (λk=>k<y.heap.size) t bm (lU j bD at_ ws)->K (.returned bm.val) t)->Calls prog 250 #[ptr aN,bD.val,.int .i64 at_,.slice a l c] y K:=by
  intro y K a l c ws at_ J bs bY b4 hu hw c6 a1
  refine aE (v9 (a4.bK (A.new J)) b5 at_ bs bY b4 (λe=>?_) hu (by omega)) ?_
  ·rcases bs with cA | ⟨dp,dq,cA,_⟩
   ·have:=eh List.length cA
    grind[ht,List.length_nil,List.eq_nil_of_length_eq_zero]
   grind
  grind
 have F:∀ {y:aj} {K:Ending->aK} {b:Nat} {x:Int},ai ad y->bh y (some ⟨b,0,none⟩) (us [x])->ch x->(∀ (bm:aI) t,ai y t->cQ (λk=>k<y.heap.size) t bm (lU j bD (fl j.dead) [x])->K (.returned bm.val) t)->Calls prog 250 #[ptr aN,bD.val,.int .i64 (fl j.dead),.slice (some ⟨b,0,none⟩) 1 1] y K:=λJ bs hu a1=>wr _ J bs rfl (dr 1) (λy D=>by grind) (by simp) (by simp) a1
 have cu:∀ {y:aj} {K:Ending->aK},ai ad y->(∀ (a:an) (c:Nat) t,ai y t->bh t a (us (fe q.Seq W))->3+9*W.length<=c->K (.returned (.slice a (3+9*W.length) c)) t)->Calls prog 210 #[q.val] y K:=by intro y K J a1;refine aE (z9 (b_.new (A.new J)) a9 ⟨ca.1,ca.2.1⟩ ca.2.2.2 bY) ?_;rintro v t ⟨a,c,rfl,b6,br,_⟩;exact a1 a c t b6 br.rd (aZ.le br)
 have lb:∀ {y:aj} {K:Ending->aK},K (.returned (.int .i64 (fl j.dead+8))) y->Calls prog 209 #[.int .i64 j.dead] y K:=by
  intro y K a1;refine aE (Fk y a5) ?_
  grind
 have ae:=pT q.Seq W;have bne:fe q.Seq W≠[]:=λe=>by grind
 have fin:∀ {Y M bH bL bN bq:aj} {v1 v2 w:aI},ai ad Y->ai Y M->cQ (λk=>k<Y.heap.size) M v1 (lU j bD (fl j.dead) [0])->ai M bH->ai bH bL->cQ (λk=>k<bH.heap.size) bL v2 (lU j bD (fl j.dead+8) (fe q.Seq W))->ai bL bN->ai bN bq->cQ (λk=>k<bN.heap.size) bq w (lU j bD (fl j.dead) [fZ q.Seq])->∀ (aW:Nat->an->Nat->Nat->au) (b:Nat) (y:aj),b=bq.heap.size->y=bq.alloc (.cells #[.int .i64 v1.Kind,.int .i64 v1.Node,.int .i64 v1.cI,.int .i64 v1.N,.int .u64 v1.Old,.int .u64 v1.ai,.slice v1.Words v1.dd v1.c0,.int .u64 v1.Key,.int .i64 v1.cB,.int .i64 v2.Kind,.int .i64 v2.Node,.int .i64 v2.cI,.int .i64 v2.N,.int .u64 v2.Old,.int .u64 v2.ai,.slice v2.Words v2.dd v2.c0,.int .u64 v2.Key,.int .i64 v2.cB,.int .i64 w.Kind,.int .i64 w.Node,.int .i64 w.cI,.int .i64 w.N,.int .u64 w.Old,.int .u64 w.ai,.slice w.Words w.dd w.c0,.int .u64 w.Key,.int .i64 w.cB] cK)->
   (aq y L bD.cells eF/\aq y b1 q.cells ep/\iS r tb m j aN y)/\∃ (ap:an) (P ac:Nat),∃ t,(Builtin.append_ #[gy,gy] gy #[(.slice a2 n pc),(.slice (some ⟨b,0,none⟩) 3 3)]).run prog y=.ok (.slice ap P ac) t/\(aq t L bD.cells eF/\aq t b1 q.cells ep/\iS r tb m j aN t)/\QX .normal (lQ ⟨aN,0,none⟩ ⟨b1,0,none⟩ (fZ q.Seq) ap P ac O S Q U X (aW b ap P ac)) t:=by
  intro Y M bH bL bN bq v1 v2 w na fM I nc nd af ne cH ag aW b y h D;obtain⟨ax,J⟩:=bo h D;have ax:aq y b (v1.cells++v2.cells++w.cells) cK:=ax;have s1:=na.size;have s2:=fM.size;have dv:=nc.size;have dw:=nd.size;have dy:=ne.size;have df:=bO.three fM I (nc.new nd) (af.mono λk Z=>by omega) (ne.new cH) (ag.mono λk Z=>by omega) h ax J;have E:ai ad y:=((((na.new fM).new nc).new nd).new ne).new (cH.new J);refine⟨p E,?_⟩;have ar:=a'.new (A.new E);obtain⟨bk,a8,_⟩:=ar.ex;have off:∀ {b:Nat} {cs:au} {T:bU},T≠cK->aq y b cs T->¬ aP a2 b:=λc5 h Z=>by obtain⟨cZ,bW⟩:=gj a8 Z;exact bW.ne h (λe=>c5 e.symm) rfl
  obtain⟨cv,cx,cr,cL,cy⟩:=p E;refine bO.uQ ar (a7.new (A.new E)) df (λk Z=>by grind) (by omega) (by omega) λap C t c1 ah b9=>⟨⟨ah.ak cv (off (by decide) cv),ah.ak cx (off (by decide) cx),cr,cL,ah.ak cy (off (by decide) cy)⟩,Z t ap C _ c1 b9⟩
 have rest:∀ {Y M:aj} {v1:aI} {bV:Nat} {aW:aI->aI->Nat->an->Nat->Nat->an->Nat->Nat->au},ai ad Y->ai Y M->cQ (λk=>k<Y.heap.size) M v1 (lU j bD (fl j.dead) [0])->bh M (some ⟨bV,0,none⟩) (us [fZ q.Seq])->Calls prog 210 #[q.val] M λe cM=>∃ (b:an) (ae bR:Nat),e=.returned (.slice b ae bR)/\(λy=>aq y L bD.cells eF/\aq y b1 q.cells ep/\iS r tb m j aN y) cM/\Calls prog 250 #[ptr aN,bD.val,.int .i64 (fl j.dead+8),.slice b ae bR] cM λe cN=>aI.ex λG=>e=.returned G.val/\(λy=>aq y L bD.cells eF/\aq y b1 q.cells ep/\iS r tb m j aN y) cN/\Calls prog 250 #[ptr aN,bD.val,.int .i64 (fl j.dead),.slice (some ⟨bV,0,none⟩) 1 1] cN λe cl=>aI.ex λH=>e=.returned H.val/\(λy=>aq y L bD.cells eF/\aq y b1 q.cells ep/\iS r tb m j aN y) cl/\∀ bQ aM,bQ=cl.heap.size->aM=cl.alloc (.cells #[.int .i64 v1.Kind,.int .i64 v1.Node,.int .i64 v1.cI,.int .i64 v1.N,.int .u64 v1.Old,.int .u64 v1.ai,.slice v1.Words v1.dd v1.c0,.int .u64 v1.Key,.int .i64 v1.cB,.int .i64 G.Kind,.int .i64 G.Node,.int .i64 G.cI,.int .i64 G.N,.int .u64 G.Old,.int .u64 G.ai,.slice G.Words G.dd G.c0,.int .u64 G.Key,.int .i64 G.cB,.int .i64 H.Kind,.int .i64 H.Node,.int .i64 H.cI,.int .i64 H.N,.int .u64 H.Old,.int .u64 H.ai,.slice H.Words H.dd H.c0,.int .u64 H.Key,.int .i64 H.cB] cK)->(λy=>aq y L bD.cells eF/\aq y b1 q.cells ep/\iS r tb m j aN y) aM/\∃ (ap:an) (P ac:Nat),∃ aR,(Builtin.append_ #[gy,gy] gy #[(.slice a2 n pc),(.slice (some ⟨bQ,0,none⟩) 3 3)]).run prog aM=.ok (.slice ap P ac) aR/\(λy=>aq y L bD.cells eF/\aq y b1 q.cells ep/\iS r tb m j aN y) aR/\QX .normal (lQ ⟨aN,0,none⟩ ⟨b1,0,none⟩ (fZ q.Seq) ap P ac O S Q U X (aW G H bQ ap P ac b ae bR)) aR
  :=by
  intro Y M v1 bV aW na fM I dm;refine cu (na.new fM) λa c cP s bx lc=>⟨_,_,_,rfl,p ((na.new fM).new s),?_⟩
  refine wr (fl j.dead+8) ((na.new fM).new s) bx ae.symm lc aB (by omega) bne λv2 cS B af=>aI.aT v2 ⟨rfl,p (((na.new fM).new s).new B),?_⟩
  refine F (((na.new fM).new s).new B) (dm.new (s.new B)) aL λw cm ab ag=>aI.aT w ⟨rfl,p ((((na.new fM).new s).new B).new ab),?_⟩
  exact fin na fM I s B af (ao.refl _ _) ab ag _
 refine⟨λy=>aq y L bD.cells eF/\aq y b1 q.cells ep/\iS r tb m j aN y,p (ao.refl _ _),aU.aT bD ⟨λy D=>bJ D.1 rfl,aU.aT bD ⟨λy D=>bJ D.1 rfl,r.eX,λy D=>by obtain⟨_,_,cr,cL,D⟩:=D;exact D.cell (i:=5) rfl,bX.aT q ⟨λy D=>bJ D.2.1 rfl,aU.aT bD ⟨λy D=>bJ D.1 rfl,?_⟩⟩⟩⟩⟩;rw[cD];refine⟨λcY dz h hw=>?_,λdn cm h hw=>?_⟩
 ·obtain⟨d,r1⟩:=m9 h hw;clear h hw;refine⟨p d,F d r1 gU λv1 cO f I=>aI.aT v1 ⟨rfl,p (d.new f),?_,?_⟩,λb cO h hw=>?_⟩
  ·refine lb ⟨_,rfl,p (d.new f),?_,?_⟩
   ·refine cu (d.new f) λa c bG g bx lc=>⟨_,_,_,rfl,p ((d.new f).new g),?_,?_⟩
    ·refine wr (fl j.dead+8) ((d.new f).new g) bx ae.symm lc aB (by omega) bne λv2 cP s af=>aI.aT v2 ⟨rfl,p (((d.new f).new g).new s),λb cS h hw=>?_⟩
     obtain⟨B,dk⟩:=m9 h hw;clear h hw;refine⟨p ((((d.new f).new g).new s).new B),F ((((d.new f).new g).new s).new B) dk aL λw cm ab ag=>aI.aT w ⟨rfl,p (((((d.new f).new g).new s).new B).new ab),?_⟩⟩;exact fin d f I g s af B ab ag (λb ap P ac=>_)
    ·intro b cP h hw;obtain⟨s,dh⟩:=m9 h hw;clear h hw;refine⟨p (((d.new f).new g).new s),wr (fl j.dead+8) (((d.new f).new g).new s) (bx.new s) ae.symm lc aB (by omega) bne λv2 cS B af=>aI.aT v2 ⟨rfl,p ((((d.new f).new g).new s).new B),?_⟩⟩;refine F ((((d.new f).new g).new s).new B) (dh.new B) aL λw cm ab ag=>aI.aT w ⟨rfl,p (((((d.new f).new g).new s).new B).new ab),?_⟩
     exact fin d f I (g.new s) B af (ao.refl _ _) ab ag (λb ap P ac=>_)
   ·intro b bG h hw;obtain⟨g,ck⟩:=m9 h hw;clear h hw;exact⟨p ((d.new f).new g),rest d (f.new g) (I.aC (ao.b7 g) λ_ _ e=>e) ck⟩
  ·intro b bG h hw;obtain⟨g,ck⟩:=m9 h hw;clear h hw;exact⟨p ((d.new f).new g),lb ⟨_,rfl,p ((d.new f).new g),rest d (f.new g) (I.aC (ao.b7 g) λ_ _ e=>e) ck⟩⟩
  ·obtain⟨f,cj⟩:=m9 h hw;clear h hw;refine⟨p (d.new f),F (d.new f) (r1.new f) gU λv1 bG g I=>aI.aT v1 ⟨rfl,p ((d.new f).new g),lb ⟨_,rfl,p ((d.new f).new g),?_⟩⟩⟩;exact rest (d.new f) g I (cj.new g)
 ·obtain⟨d,r1⟩:=m9 h hw;clear h hw;refine⟨p d,λb cO h hw=>?_⟩;obtain⟨f,cj⟩:=m9 h hw;clear h hw;refine⟨p (d.new f),F (d.new f) cj gU λv1 bG g I=>aI.aT v1 ⟨rfl,p ((d.new f).new g),lb ⟨_,rfl,p ((d.new f).new g),?_⟩⟩⟩;exact rest (d.new f) g I ((r1.new f).new g)
end
end Go.Proofs.YtmkljjbioomepaaGreat
