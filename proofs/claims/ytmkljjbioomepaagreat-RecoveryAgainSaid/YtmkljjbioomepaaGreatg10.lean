import Derived.Test.YtmkljjbioomepaaGreatg09
import Derived.Test.YtmkljjbioomepaaGreatg02
import Derived.Test.YtmkljjbioomepaaGreatProg
set_option linter.all false
set_option maxHeartbeats 4000000
set_option maxRecDepth 100000
namespace Go.Proofs.YtmkljjbioomepaaGreat
open Go.Proofs.Tryz Go.bJ
variable {A M:a4}{K:ak->Nat->Nat->aJ}{b cap n sz:Nat}{i:Int}{s:ak}{u bQ w w' w0:an}
section
def tj (lines n:Nat):a7:=(((List.replicate (lines*8) 0).set 0 1).set 1 1).set 8 (pa 1 1 (oh n))
def qE:Nat->Nat->a7->a7
 | 0,_,ws=>ws
 |k+1,c,ws=>qE k (c+1) (ws.set (24+c) 1)
def qG:Nat->Nat->a7->a7
 | 0,_,ws=>ws
 |k+1,l,ws=>qG k (l+1) (ws.set (l*8) 256)
def fmt (lines n:Nat):a7:=qG (lines-96) 96 (qE 6 0 (tj lines n))
theorem RF (n:Nat)(x:Int):List.replicate n (Value.int .u64 x)=us (List.replicate n x):=by simp[us]
theorem RG (h:n<=5):0<=pa 1 1 (oh n)/\pa 1 1 (oh n)<18446744073709551616:=by
 have:=G9 h
 grind[pa]
def qH (ws:a7):Prop:=∀ x ∈ ws,0<=x/\x<18446744073709551616
theorem qH.set {ws:a7}(h:qH ws){x:Int}(c:0<=x/\x<18446744073709551616)(i:Nat):qH (ws.set i x):=λy b=>by
 rcases nP b with a | rfl
 ·exact h y a
 grind
abbrev vd:bY:=30
theorem uy {b len:Nat}{ws:a7}{x:Int}{K:aU->aJ}(aq:av u b (us ws) vd)(g:ai w0 u)(c:w0.heap.size<=b)(a:0<=i)(j:i<ws.length)(hlen:len=ws.length)
  (f:∀ bF bB,av bB b (us (ws.set i.toNat x)) vd->ai w0 bB->K bF bB):bx (some ⟨b,0,none⟩) len i 1 λbF=>(∃ bB,u.cell? bF=some bB)/\u.frozen? bF=false/\∀ w',w'=u.setCell bF (.int .u64 x)->K bF w':=by
 refine dW a (by omega) ?_;have e:0+i.toNat*1=i.toNat:=by omega
 rw[e];have d:∃ y,ws[i.toNat]?=some y:=⟨_,b2 (by omega)⟩;obtain⟨y,h⟩:=d;refine⟨⟨_,aq.cell (sB h)⟩,aq.frozen,?_⟩;rintro w' rfl;refine f _ _ ?_ (ao.setCell g (.inr c) _);have:=aq.setCell (i:=i.toNat) (.int .u64 x)
 grind[us,List.map_set]
theorem Oi {aK:Nat}{s:aD}(h:dX w b aK s){lines:Nat}(X:s.words.length=lines * 8)(S:98<=lines)(O:lines<=256)(W:s.down=false)(R:1<=n)(I:n<=5) :
  a5 75 [ptr b,.int .i64 n] w λv w'=>v=.int .i64 0/\dX w' b aK ⟨fmt lines n,false⟩/\ao (λk=>k=aK) w w':=by
 have hdiv:s.words.length / 8=lines:=by omega
 have M:=G9 I;refine ba Tryz.func75 ?_;rw[ptr,Zh];refine aB (Mv _ R I) ?_;rintro v w1 ⟨rfl,rfl⟩;refine⟨_,_,rfl,dG rfl ?_⟩;refine aB (tC h) ?_;rintro v w1 ⟨rfl,rfl⟩;refine⟨_,rfl,bb (λK=>by omega) λ_=>?_⟩
 refine aB (HC h) ?_;rintro v w1 ⟨rfl,rfl⟩;refine⟨_,rfl,dG (by grind) ?_⟩;refine aB (tC h) ?_;rintro v w1 ⟨rfl,rfl⟩;refine⟨_,rfl,?_⟩;rw[hdiv];refine aB (P9 _ (by omega) (by omega)) ?_;rintro v w1 ⟨rfl,rfl⟩;refine⟨_,rfl,by omega,by omega,by omega,by omega,?_⟩;have Q:Int.toNat ((lines:Int)*8)=lines*8:=by omega
 rw[Q,Ed,RF];rintro b1 V J E;obtain⟨a,f⟩:=bo J E;replace a:av V b1 (us (List.replicate (lines*8) 0)) vd:=a;clear E;have g:w1.heap.size<=b1:=by omega
 refine aB (RD _) ?_;rintro v Z ⟨rfl,rfl⟩;refine⟨_,_,rfl,?_⟩;refine uy (len:=lines*8) (i:=0) (x:=1) a f g (by omega) (by grind) (by simp) ?_;intro bF ab F z;refine uy F z g (by omega) (by grind) (by simp) ?_;intro bF ad G A;refine aB (LF _ _) ?_;rintro v ae ⟨rfl,q⟩;refine⟨_,rfl,?_⟩;refine aB (Ln _ (by omega) (by omega) M.1) ?_;rintro v af ⟨e,rfl,rfl⟩;refine⟨_,_,rfl,?_⟩;have L:xM 1 1 (oh n)=pa 1 1 (oh n):=by unfold xM;grind
 rw[L];refine uy (ai.aj q G) (A.new q) g (by decide) (by grind[nV]) (by simp) ?_;intro bF ag r B;have y:(((List.replicate (lines*8) 0).set (Int.toNat 0) 1).set (Int.toNat 1) 1).set (nV 1 16 0).toNat (pa 1 1 (oh n))=tj lines n:=rfl;rw[y]at r;have p:(tj lines n).length=lines*8:=by grind
 have N:qH (tj lines n):=((qH.set (qH.set (λx Y=>by grind) (by omega) _) (by omega) _).set (RG I) _);clear y a F G f z A q;refine cZ mix (λm env u=>∃ (c:Nat) (ws:a7) (aC:ax),m=6-c/\c<=6/\env=yt ⟨b,0,none⟩ (some ⟨b1,0,none⟩) (lines*8) (lines*8) c aC/\av u b1 (us ws) vd/\ai w1 u/\ws.length=lines*8/\qH ws/\qE (6-c) c ws=qE 6 0 (tj lines n)) 6
  ⟨0,_,_,rfl,by omega,rfl,r,B,p,N,rfl⟩ ?_
 rintro m env u ⟨c,ws,aC,rfl,K,rfl,aq,l,hlen,hw,d⟩;rw[WY];refine bb (λH=>?_) (λH=>?_)
 ·refine aB (RE _ _) ?_;rintro v bQ ⟨rfl,C⟩;have D:nV 3 6 (c:Int)=24+c:=by unfold nV;grind
  refine⟨_,rfl,?_⟩;rw[D];refine uy (ai.aj C aq) (l.new C) g (by omega) (by omega) (by omega) ?_;intro bF cl a f;rw[bI (by omega) (by omega)];refine⟨6-(c+1),by omega,c+1,_,_,rfl,by omega,rfl,a,f,by grind,hw.set (by omega) _,?_⟩;rw[show 6-c=6-(c+1)+1 by omega,qE]at d
  grind
 ·have o:c=6:=by omega
  subst o;rw[X9];rw[uj,qE]at d;have P:qG (lines-96) 96 ws=fmt lines n:=by grind[fmt]
  clear d;refine cZ mix (λm env u=>∃ (c:Nat) (ws:a7) (aC:ax),m=lines-c/\96<=c/\c<=lines/\env=yu ⟨b,0,none⟩ (some ⟨b1,0,none⟩) (lines*8) (lines*8) c aC/\av u b1 (us ws) vd/\ai w1 u/\ws.length=lines*8/\qH ws/\qG (lines-c) c ws=fmt lines n) (lines-96)
   ⟨96,_,_,rfl,by omega,by omega,rfl,aq,l,hlen,hw,P⟩ ?_
  clear P aq l hlen hw r B H K;rintro m env u ⟨c,ws,aC,rfl,K,T,rfl,aq,l,hlen,hw,d⟩;rw[WZ];refine aB (tC (h.new l)) ?_;rintro v bQ ⟨rfl,rfl⟩;refine⟨_,rfl,?_⟩;rw[hdiv];refine bb (λH=>?_) (λH=>?_)
  ·refine aB (qV _ (by omega) (by omega)) ?_;rintro v cl ⟨rfl,rfl⟩;refine⟨_,rfl,?_⟩;refine aB (NP _) ?_;rintro v cl ⟨rfl,rfl⟩;refine⟨_,_,rfl,?_⟩;refine uy aq l g (by omega) (by omega) (by omega) ?_;intro bF cl a f;rw[bI (by omega) (by omega)];refine⟨lines-(c+1),by omega,c+1,_,_,rfl,by omega,by omega,rfl,a,f,by grind,hw.set (by omega) _,?_⟩;rw[show lines-c=lines-(c+1)+1 by omega,qG]at d
   grind
  ·have o:c=lines:=by omega
   subst o;rw[X_];rw[uj,qG]at d;rw[<-hlen];refine aB (Fg (h.new l) 0 (fj aq (by grind)) hw (λh=>by cases h)) ?_;rintro v bw ⟨rfl,j,U⟩;have t:s.fU 0 ws.length=0:=by
    unfold aD.fU
    grind
   rw[t]at j ⊢;rw[bh rfl]at j;refine⟨_,rfl,rfl,?_,(ao.cm l).trans U (λ_ _ h=>h)⟩
   grind[fmt,aD.write]
theorem DU:∀ (k c:Nat) (ws:a7),(qE k c ws).length=ws.length
 | 0,_,_=>rfl
 |k+1,c,ws=>by rw[qE,DU];simp
theorem DV:∀ (k c:Nat) (ws:a7),(qG k c ws).length=ws.length
 | 0,_,_=>rfl
 |k+1,c,ws=>by rw[qG,DV];simp
theorem Fw (lines n:Nat):(fmt lines n).length=lines*8:=by grind[fmt,DV,DU,tj]
def ay.fmt (F:ay):ay:={F with nodes:=F.nodes.map λ_=>⟨Go.Proofs.YtmkljjbioomepaaGreat.fmt F.lines F.nodes.length,false⟩}
def EP (F:ay):Prop:=98<=F.lines/\F.lines<=256/\1<=F.nodes.length/\F.nodes.length<=5/\∀ n ∈ F.nodes,n.words.length=F.lines*8/\n.down=false
theorem BS (X:bs):X.pure.nodes.length=X.nodes.length:=by simp[bs.pure]
theorem LH {aw:bR}{aM:Nat}{X:bs}(h:cj A aw w aM X)(F:EP X.pure) :
  a5 47 [ptr aM] w λv w'=>v=.int .i64 0/\d_ A aw w aM X.pure.fmt w' λ_=>True:=by
 obtain ⟨f1,f2,f3,f4,f5⟩:=F;rw [BS] at f3 f4;refine ba Tryz.func47 ?_;rw [ptr,Yt];refine aB (Fk h) ?_;rintro v w1 ⟨rfl,rfl⟩;refine ⟨_,rfl,?_⟩;let b:Nat:=X.nodes.length;refine cZ mix (λm env u=>∃ (i:Nat) (A':a4) (χ':bR) (a:bs) (aC:ax),m=b - i/\i<=b/\env=yq ⟨aM,0,none⟩ b i aC/\Next A A' aw χ' w1 u/\cj A' χ' u aM a/\a.nodes.length=b/\a.lines=X.lines/\(∀ x ∈ a.nodes,x.n.words.length=X.lines * 8/\x.n.down=false)/\
   a.pure={X.pure with nodes:=List.replicate i ⟨fmt X.lines b,false⟩++X.pure.nodes.drop i}) b
  ⟨0,A,aw,X,_,rfl,by omega,rfl,h.refl (ao.refl _ _),h,rfl,rfl,λx f=>f5 x.n (cW.2 ⟨x,f,rfl⟩),by simp⟩ ?_
 rintro m env u ⟨i,A',χ',a,aC,rfl,I,rfl,j,g,q,p,r,c⟩;rw[VP];refine bb (λH=>?_) (λH=>?_)
 ·have t:i<a.nodes.length:=by omega
  obtain⟨x,f⟩:∃ x,a.nodes[i]?=some x:=⟨_,b2 t⟩;refine aB (Dc g f) ?_;rintro v bQ ⟨rfl,rfl⟩;refine⟨_,rfl,?_⟩;refine aB (Fk g) ?_;rintro v bQ ⟨rfl,rfl⟩;refine⟨_,rfl,?_⟩;obtain⟨y,z⟩:=r x (b9 f);rw[q];refine aB (Oi (g.node i x f).node y f1 f2 z (by grind) (by grind)) ?_;rintro v cl ⟨rfl,d,G⟩;refine⟨_,rfl,dG rfl ?_⟩;obtain⟨B,l,o⟩:=g.setNode f (G.mono λk _ e=>.inr e) d;rw[bI (by omega) (by omega)];refine⟨b-(i+1),by omega,i+1,B,χ',_,_,rfl,by omega,rfl,j.trans l,o,by grind,p,?_,?_⟩
  ·grind[List.mem_or_eq_of_mem_set,fmt,Fw]
  ·have hlen:X.pure.nodes.length=b:=BS X;have C:a.pure.nodes=List.replicate i ⟨fmt X.lines b,false⟩++X.pure.nodes.drop i:=by rw[c]
   have D:a.nodes.map g4.n=List.replicate i ⟨fmt X.lines b,false⟩++X.pure.nodes.drop i:=C;have E:({a with nodes:=a.nodes.set i {x with n:=⟨fmt X.lines b,false⟩} }:bs).pure={a.pure with nodes:=(a.nodes.map g4.n).set i ⟨fmt X.lines b,false⟩}:=by simp[bs.pure,mM]
   rw[E,D,c];congr 1;rw[List.set_append_right _ _ (by simp)];simp only[Ke,uj]
   grind[List.replicate_succ',List.append_assoc,List.drop_eq_getElem_cons]
 ·have s:i=b:=by omega
  subst s;rw[WV];refine⟨rfl,A',χ',a,j,g,?_,trivial⟩;rw[c];unfold ay.fmt;have hlen:X.pure.nodes.length=b:=BS X;congr 1;rw[List.drop_of_length_le (by omega),kV,hlen,<-hlen];rw[List.map_const'];rfl
theorem MQ {n c lines:Nat}(b:1<=n/\n<=5)(a:98<=lines/\lines<=256):EP (ay.init n c lines):=by
 refine⟨a.1,a.2,by grind[ay.init],by grind[ay.init],?_⟩
 grind[ay.init,tV]
def ay.fresh (n c lines:Nat):ay:=⟨lines,List.replicate n ⟨Go.Proofs.YtmkljjbioomepaaGreat.fmt lines n,false⟩,(List.range c).map (hd n),[]⟩
theorem M2 (n c lines:Nat):(ay.init n c lines).fmt=ay.fresh n c lines:=by simp[ay.fmt,ay.init,ay.fresh]
theorem Fx {n c lines:Nat}(q:1<=n/\n<=5)(d:1<=c/\c<=6)(p:98<=lines/\lines<=256):a5 23 [.int .i64 n,.int .i64 c,.int .i64 lines] w λv w'=>
  ∃ aM A aw X,v=.tuple #[ptr aM,.bool true]/\cj A aw w' aM X/\ai w w'/\(∀ k,A k->w.heap.size<=k)/\X.pure=ay.fresh n c lines:=by
 refine ba Tryz.func23 ?_;rw[YN];refine aB (RC q d ⟨by omega,p.2⟩) ?_;rintro v w1 ⟨aM,A,aw,X,rfl,f,b,i,r⟩;refine⟨_,_,rfl,dG rfl (dG rfl ?_)⟩;refine aB (LH f (by grind[MQ])) ?_;rintro v s ⟨rfl,A',χ',l,a,g,o,_⟩;refine⟨_,rfl,dG rfl ⟨aM,A',χ',l,rfl,g,?_,?_,?_⟩⟩
 ·refine b.trans a.aA (λk j e=>?_);have:=i k (f.fs k e);omega
 ·intro k j;by_cases h:k<w1.heap.size
  ·rcases(a.iff k).1 j with d | d
   ·exact i k (f.fs k (a.grow k h d))
   grind
  ·have:=b.size;omega
 grind[M2]
end
section
def ed (d:cN):Int:=d.words.headD 0
def ti (v:bc)(d:cN):Bool:=if d.code=0 then decide ((d.words.length:Int)=v.v.hi)else if d.code=4\/d.code=5 then decide (d.words.length=0)else false
def k6 (vs:a_)(ds:ck):Bool:=decide (vs.length=ds.length) && (vs.zip ds).all λp=>ti p.1 p.2
structure KM where
 done:ck
 ok:Bool
 a2:a3
 ask:Option a_
 dH:Bool
def batch (G:a3)(vs:a_):KM:=
 if vs.length=0 then⟨[],true,G,none,false⟩else match G with
 | []=>⟨[],false,[],some vs,false⟩
 |d::G'=>if k6 vs d then⟨d,true,G',none,false⟩else⟨[],false,d::G',none,true⟩
abbrev p5:bY:=244
theorem r9 {d:bV}{x:cN}(h:lV M w d x):a5 196 [d.val] w λv w'=>v=.int .u64 (ed x)/\ai w w':=by
 refine ba Tryz.func196 ?_;refine Eq.mpr (K4 d.Code d.Words d.dh d.c8 w _) ?_;rintro b1 w1 c e;obtain⟨aq,f⟩:=bo c e;have k:=h.len;refine⟨_,_,_,aq.cell rfl,eg (λg=>?_) (λg=>⟨_,_,_,aq.cell rfl,?_⟩)⟩
 ·have:x.words=[]:=hN (by omega)
  grind[ed]
 ·cases j:x.words with
  |nil=>grind
  |cons y ys=>
   have a:=h.rd.new f;rw[j]at a;rcases a with a | ⟨b,o,he,i⟩
   ·cases a
   rw[he];refine dW (by omega) (by omega) ⟨y,?_,by grind[ed],f⟩;exact i 0 _ rfl
structure eM where
 vA:ak
 f9:Nat
 gc:Nat
 aa:ak
 e_:Nat
 ac:Nat
 dH:Bool
def eM.cells (T:eM):ax:=[.slice T.vA T.f9 T.gc,.slice T.aa T.e_ T.ac,.bool T.dH]
structure Row where
 a:ak
 c:Nat
 raw:List bV
def lz (rows:List Row):ax:=rows.map λr=>.slice r.a r.raw.length r.c
def ic (A:a4)(w:an)(a:ak)(G:a3):Prop:=
 ∃ rows:List Row,rows.length=G.length/\bl w a (lz rows)/\(lz rows=[]\/gU A a)/\
  ∀ (i:Nat) (r:Row) (ds:ck),rows[i]?=some r->G[i]?=some ds->bl w r.a (gv r.raw).flatten/\((gv r.raw).flatten=[]\/gU A r.a)/\gT A w r.raw ds/\ds.length<=1024
theorem ic.nil (A:a4)(w:an)(a:ak):ic A w a []:=⟨[],rfl,.inl rfl,.inl rfl,λi r ds h=>by grind⟩
theorem ic.head {a:ak}{d:ck}{G:a3}(h:ic A w a (d::G)) :
  ∃ (b o:Nat) (r:Row),a=some ⟨b,o,none⟩/\w.cell? ⟨b,o,none⟩=some (.slice r.a r.raw.length r.c)/\bl w r.a (gv r.raw).flatten/\gT A w r.raw d/\d.length<=1024/\ic A w (some ⟨b,o+1,none⟩) G:=by
 obtain⟨rows,y,k,e,g⟩:=h;cases rows with
 |nil=>grind
 |cons r rows=>
  rcases k with k | ⟨b,o,rfl,f⟩
  ·grind[lz]
  ·obtain⟨l,s,n,p⟩:=g 0 r d rfl rfl;refine⟨b,o,r,rfl,f 0 _ rfl,l,n,p,rows,by grind,?_,?_,λi q ds t x=>g (i+1) q ds (by grind) (by grind)⟩
   ·refine .inr ⟨b,o+1,rfl,λj u hu=>?_⟩;rw[zp,Nat.add_comm 1 j];exact f (j+1) u (by grind[lz])
   ·rcases e with e | e
    ·grind[lz]
    ·exact .inr e
theorem Qg {v:aG}{x:bc}{d:bV}{y:cN}(al:cT M w v x)(h:lV A w' d y):fits v d=ti x y:=by unfold fits ti;rw[h.code,h.len,al.eq];rfl
theorem NT {a:List aG}{vs:a_}{raw:List bV}{ds:ck}(al:et M w a vs)(h:gT A w' raw ds):qU a raw=k6 vs ds:=by
 unfold qU k6;rw[h.1,al.1];congr 1;obtain⟨e,b⟩:=h;obtain⟨k,c⟩:=al;induction vs generalizing raw ds a with
 |nil=>
  simp_all
 |cons v vs g=>
  cases a with
  |nil=>grind
  |cons j a=>
   cases raw with
   |nil=>cases ds with
    |nil=>simp
    |cons=>grind
   |cons r raw=>cases ds with
    |nil=>grind
    |cons d ds=>simp only[List.zip_cons_cons,List.all_cons];rw[Qg (c 0 j v rfl rfl) (b 0 r d rfl rfl),g (by simpa using e) (λi v x al f=>b (i+1) v x (by grind) (by grind)) (by grind) λi v x al f=>c (i+1) v x (by grind) (by grind)]
theorem wC {vs:a_}{ds:ck}(h:k6 vs ds=true):vs.length=ds.length:=by
 grind[k6]
theorem rQ {G:a3}{vs:a_}:(batch G vs).done.length<=vs.length:=by
 unfold batch;split
 ·simp
 ·cases G with
  |nil=>simp
  |cons d G=>
   simp only;split
   ·rename_i h;rw[wC h];grind
   ·simp
theorem Fy {tb:Nat}{T:eM}{G:a3}(K:ai w0 u)(ab:w0.heap.size<=tb)(q:av u tb T.cells p5)(J:ic A w0 T.vA G)(y:T.f9=G.length)(w:T.f9<=T.gc)
  {e:List aG} {vs:a_} {aa:ak} {ac:Nat} (X:bl u aa (dS e).flatten) (D:et M u e vs) (Z:vs.length<=1000000) :
  a5 116 [ptr tb,.slice aa e.length ac] u λv bB=>∃ (f:eM) (dJ:ak) (dc:Nat) (raw:List bV),v=.tuple #[.slice dJ raw.length dc,.bool (batch G vs).ok]/\av bB tb f.cells p5/\ao (λk=>k=tb) u bB/\
   bl w0 dJ (gv raw).flatten/\gT A w0 raw (batch G vs).done/\ic A w0 f.vA (batch G vs).a2/\f.f9=(batch G vs).a2.length/\f.f9<=f.gc/\f.dH=(T.dH || (batch G vs).dH)/\
   (match (batch G vs).ask with | none=>f.aa=T.aa/\f.e_=T.e_/\f.ac=T.ac | some _=>f.aa=aa/\f.e_=vs.length/\f.ac=ac):=by
 refine ba Tryz.func116 ?_;rw[ptr,YP];rw[D.1];have n:gT A w0 [] []:=⟨rfl,λi v x al=>by grind⟩;unfold batch;refine eg (λQ=>?_) (λQ=>⟨_,_,_,q.cell rfl,eg (λO=>?_) (λO=>?_)⟩)
 ·have p:vs.length=0:=by omega
  rw[bh p];exact⟨T,none,0,[],rfl,q,ao.refl _ _,.inl rfl,n,J,y,w,by simp,rfl,rfl,rfl⟩
 ·have p:¬ vs.length=0:=by omega
  have S:G=[]:=hN (by omega);subst S;rw[aQ p];refine⟨⟨_,q.cell rfl⟩,q.frozen,?_⟩;rintro bQ rfl;exact⟨{T with aa:=aa,e_:=vs.length,ac:=ac},none,0,[],rfl,q.setCell _,e4 _ _ _ _,.inl rfl,n,ic.nil _ _ _,y,w,by simp,rfl,rfl,rfl⟩
 ·have p:¬ vs.length=0:=by omega
  rw[aQ p];cases G with
  |nil=>grind
  |cons d G'=>
   simp only;obtain⟨b,o,r,H,U,F,t,V,L⟩:=J.head;have W:b≠tb:=by
    have O:b<w0.heap.size:=by
     have:=U;unfold World.cell? at this
     grind
    omega
   have l:∀ z,ai w0 z->z.cell? ⟨b,o,none⟩=some (.slice r.a r.raw.length r.c):=by
    intro z aq;have R:bl w0 (some ⟨b,o,none⟩) [.slice r.a r.raw.length r.c]:=.inr ⟨b,o,rfl,λj u hu=>by
     grind⟩
    exact(R.new aq).cell (j:=0) rfl
   refine⟨_,_,_,q.cell rfl,?_⟩;rw[H];refine dW (by omega) (by omega) ?_;refine⟨_,_,_,l u K,?_⟩;have E:qU e r.raw=k6 vs d:=NT D t;have Y:=t.1;have hlen:e.length=vs.length:=D.1;rw[<-hlen];refine aB (S0 X (F.new K) (by omega) (by omega)) ?_;rintro v cl ⟨rfl,B⟩;rw[E];refine⟨_,rfl,eF (λI=>?_) (λI=>?_)⟩
   ·have s:=ai.aj B q;rw[I];refine⟨⟨_,s.cell rfl⟩,s.frozen,?_⟩;rintro bw rfl;exact⟨{T with dH:=true},none,0,[],rfl,s.setCell _,(ao.cm B).trans (e4 _ _ _ _) (λ_ _ h=>h),.inl rfl,n,J,y,w,by simp,rfl,rfl,rfl⟩
   ·rw[I];rintro bw N;have C:ai u bw:=by rw[N];exact B.drew
    have g:=ai.aj C q;refine⟨λz=>ai bw z,ao.refl _ _,_,_,_,λz aq=>(ai.aj aq g).cell rfl,?_⟩;rw[H];refine dW (by omega) (by omega) ?_;refine⟨_,_,_,λz aq=>l z ((K.new C).new aq),_,_,_,λz aq=>(ai.aj aq g).cell rfl,?_⟩;rw[H];refine⟨by omega,by omega,by omega,by omega,by omega,⟨_,g.cell rfl⟩,g.frozen,?_⟩;rintro cq rfl;have P:T.f9=G'.length+1:=by grind
    refine⟨{T with vA:=if(T.gc:Int)=1 then some ⟨b,o,none⟩else(some ⟨b,o,none⟩:ak).map (·.add (Int.toNat 1*1)),f9:=Int.toNat T.f9-Int.toNat 1,gc:=Int.toNat T.gc-Int.toNat 1},r.a,r.c,r.raw,rfl,g.setCell _,(ao.cm C).trans (e4 _ _ _ _) (λ_ _ h=>h),F,t,?_,?_,?_,by simp,rfl,rfl,rfl⟩
    ·show ic A w0 (if(T.gc:Int)=1 then _ else _) G';split
     ·have:G'=[]:=hN (by omega)
      grind[ic.nil]
     ·exact L
    ·grind
    grind
abbrev gZ:bY:=125
theorem Qh {a:ak}{xs:ax}(i:aX u cP 9 a n cap xs){v:aG}(h:n<=1000000000){K:Nat->ak->Nat->Nat->aJ}
  (p:∀ b ap e g,b=u.heap.size->aX g cP 9 ap (n+1) e (xs++v.cells)->ao (aP a) u g->(∀ k,aP ap k->aP a k\/u.heap.size<=k)->K b ap (n+1) e g) :
  ∀ b1 j,b1=u.heap.size->j=u.alloc (.cells v.cells.toArray cP)->∃ (ap:ak) (d c:Nat),∃ g,(Builtin.append_ #[gZ,gZ] gZ #[(.slice a n cap),(.slice (some ⟨b1,0,none⟩) 1 1)]).run prog j=.ok (.slice ap d c) g/\K b1 ap d c g:=by
 obtain⟨inf,o,aq,f,l⟩:=fV (T:=cP) (z:=.agg #[.int .i64 0,.int .i64 0,.int .i64 0,.int .i64 0,.int .u64 0,.int .u64 0,.slice none 0 0,.int .u64 0,.int .i64 0]) (n:=9) (m:=88) (by kernel_rfl);rw[<-f]at i;refine pv Tryz.underlying125 o aq (by rw[f];rfl) (by omega) i (by rw[f];rfl) (aG.single v) h (by omega) ?_
 grind
theorem DW {G:a3}{vs ws:a_}(h:(batch G vs).ask=some ws):ws=vs:=by
 unfold batch at h
 grind
theorem ER {G:a3}{vs:a_}(h:(batch G vs).ok=true):(batch G vs).ask=none/\(batch G vs).dH=false:=by
 unfold batch at h ⊢
 grind
theorem Gj (w:an)(c:ak)(d gc:Nat):a5 115 [.slice c d gc] w λv w'=>∃ tb,v=ptr tb/\w.heap.size<=tb/\av w' tb (eM.cells ⟨c,d,gc,none,0,0,false⟩) p5/\ai w w':=by refine ba Tryz.func115 ?_;rw[LA];rintro b1 w1 a b;obtain⟨aq,e⟩:=bo a b;exact⟨b1,rfl,by omega,aq,e⟩
end
section
open IntKind
variable (w:an)(R:cM){s t:ak}{a b c d:Nat}{i k:Int}{j:ar}
def yx (e:ak)(a b:Nat)(c:ak)(d f:Nat)(g h:Int)(j:ar):ar:=ag j 0 3 (ad e a b::ag j 3 14 (ad c d f::ab g::ab h::ag j 17 21 []))
def JA (c:ak)(a b:Nat)(j:ar):ar:=ag j 0 3 (ad c a b::ag j 3 38 [])
theorem JQ (k:b7):bd prog f210 [k.val] R w=(aR w k.cells.toArray 271 λe n=>ig n (af e 0) λr=>cG 167 #[r.val,ab 256] n λa j=>cond (a != 0) (R (a0) j) (b0 j (af e 0) λb=>b_ j (af e 1) λc d f=>aR j #[ah (u64.wrap b),ah (u64.wrap (d:Nat))] 30 λm l=>b_ l (af e 1) λg h i=>cz prog (cU f210 [1,1,1,0,1,0,0]) (yx (bk m) 2 2 g h i (h:Nat) 0 (k.val::jp (af e 0)::a0::bm 2 (r.val::ab a::ae ((a:Int) != 0)::jp (af e 0)::ab b::ah (u64.wrap b)::jp (af e 1)::ad c d f::dA d::ah (u64.wrap (d:Nat))::ad (bk m) 2 2::jp (af e 1)::bm 21 []))) (aO 0 (aT f210 [1,1,1,1] R)) l)):=by kernel_rfl
theorem XC (v:ar->aJ):W prog (sb f210 [1,1,1,0,1,0,0]) (yx s a b t c d i k j) (aZ v (aO 0 (aT f210 [1,1,1,1] R))) w=(cond (k<i) (bx t c k 9 λu=>iC w u λr=>aR w #[ab 0,ah 0,ah 0,ah 0,ah 0,ah 0,ah 0,ah 0,ah 0] 73 λf y=>a8 y (af f 0) 0 r.cells λq=>b0 q (af f 0) λe=>d' q (af f 1) λh=>aR q #[ah (u64.wrap e),ah h] 30 λx A=>de 94 (ad s a b) (ad (bk x) 2 2) A λg l m z=>de 94 (ad g l m) (ad (some (af f 2)) 7 7) z λn o p B=>v (yx n o p t c d i (i64.wrap (k+1)) (ag j 0 4 (jp (af f 0)::ag j 5 12 (ae (k<i)::jp u::r.val::ad s a b::jp (af f 0)::ab e::ah (u64.wrap e)::jp (af f 1)::ah h::ad (bk x) 2 2::ad g l m::ad g l m::jp (af f 2)::ad (some (af f 2)) 7 7::ad n o p::ab (i64.wrap (k+1))::ag j 33 5 [])))) B) (W prog (sb f210 [1,1,1,1]) (JA s a b (ag j 0 17 (ad t c d::ab i::ab k::ae (k<i)::ag j 18 20 []))) (bT f210 R) w)):=by kernel_rfl
theorem YY:W prog (sb f210 [1,1,1,1]) (JA s a b j) (bT f210 R) w=(jI 239 #[ad s a b] w λc k=>aR k #[ah c] 30 λi h=>de 94 (ad s a b) (ad (bk i) 1 1) h λe d f g=>R (ad e d f) g):=by kernel_rfl
theorem Zp (d:aN):bd prog f211 [d.val,ab i] R w=(aR w d.cells.toArray 73 λg e=>d' e (af g 1) λa=>h1 240 #[ah a,ab i] e λb c f=>R (.tuple #[ah b,ab c]) f):=by kernel_rfl
theorem Ze (g:aN):bd prog f244 [g.val] R w=(aR w g.cells.toArray 73 λh i=>d' i (af h 1) λa=>h1 206 #[ah a] i λb c e=>cond (c != 0) (R (.tuple #[a0,ab c]) e) (aR e #[ah b] 30 λl k=>de 94 (ad (bk l) 1 1) (ad (some (af h 2)) 7 7) k λj d f m=>R (.tuple #[ad j d f,ab 0]) m)):=by kernel_rfl
end
section
open IntKind
variable (w:an)(R:cM){a b c d:Nat}{s t:ak}{i k:Int}{A B:aU}{j:ar}
theorem VT (g:aS)(i:aG):bd prog f212 [a' a,g.val,i.val] R w=(aR w g.cells.toArray 116 λm o=>aR o i.cells.toArray 158 λn k=>aR k #[ab 0,ab 0,ab 0,ab 0,ah 0,ah 0,a0,ah 0,ab 0] 158 λh j=>cF j λq f=>BV f (af a 3) λd=>hK f (af m 0) λr=>I4 f (af n 0) λp=>eS 241 #[d.val,r.val,ae true,p.val] q λb l=>a8 l (af h 0) 0 b.cells λe=>lq e (af h 0) λc=>e=e/\R c.val e):=by kernel_rfl
theorem Xp:bd prog f213 [a' a,ad s b c,ab i] R w=(aR w #[ab 0,ab 0] 171 λj r=>lr r (af a 7) λt=>j7 116 #[.pointer t,ad s b c] r λn d f g q=>cond (!g) (a8 q (af j 0) 0 [ab 0,ab 0] λo=>ea o (af j 0) λe=>o=o/\R (.tuple #[a0,e.val,ae false]) o) (cG 242 #[ad n d f] q λh u=>cond (h != 0) (a8 u (af j 0) 0 [ab h,ab i] λp=>ea p (af j 0) λk=>p=p/\R (.tuple #[a0,k.val,ae false]) p) (a8 u (af j 0) 0 [ab 0,ab 0] λm=>ea m (af j 0) λl=>m=m/\R (.tuple #[ad n d f,l.val,ae true]) m))):=by kernel_rfl
def xT (e i:aU)(k:ak)(a b:Nat)(c:ak)(d f:Nat)(g h:Int)(j:ar):ar:=.pointer (some e)::ag j 0 2 (.pointer (some i)::ag j 2 1 (ad k a b::ag j 3 8 (ad c d f::ab g::ab h::ag j 11 21 [])))
def H_ (c:ak)(a b:Nat)(j:ar):ar:=ag j 0 5 (ad c a b::ag j 5 32 [])
theorem Wo (e:aS):bd prog f217 [a' a,e.val] R w=(aR w e.cells.toArray 116 λg f=>b_ f (af a 6) λd b c=>cz prog (cU f217 [1,1,0,1,0,0]) (xT (af a 0) (af g 0) none 0 0 d b c (b:Nat) 0 (e.val::undef::a0::bm 4 (jp (af a 0)::jp (af a 0)::jp (af a 0)::jp (af a 6)::bm 21 []))) (aO 0 (aT f217 [1,1,1] R)) f):=by kernel_rfl
theorem UL (z:ar->aJ):W prog (sb f217 [1,1,0,1,0,0]) (xT A B s a b t c d i k j) (aZ z (aO 0 (aT f217 [1,1,1] R))) w=(cond (k<i) (bx t c k 9 λy=>iC w y λr=>aR w #[ab 0,ah 0,ah 0,ah 0,ah 0,ah 0,ah 0,ah 0,ah 0] 73 λu I=>a8 I (af u 0) 0 r.cells λD=>iC D (af u 0) λH=>vR 244 #[H.val] D λf g l m L=>cF L λK h=>hK h B λC=>cY h (af u 0) λn=>cG 108 #[ab n] K λo a6=>h a6/\eS 212 #[.pointer (some A),C.val,.agg #[ab 2,ab 0,ab o,ab 0,ah 0,ah 0,ad f g l,ah 0,ab 0]] a6 λe x=>h x/\aR x e.cells.toArray 158 λF E=>h E/\de 125 (ad s a b) (ad (bk F) 1 1) E λv p q G=>h G/\z (xT A B v p q t c d i (i64.wrap (k+1)) (ag j 0 4 (jp (af u 0)::ad f g l::ab m::ag j 7 4 [ae (k<i),jp y,r.val,.tuple #[ad f g l,ab m],H.val,.tuple #[ad f g l,ab m],ad f g l,ab m,ad s a b,jp A,C.val,jp (af u 0),ab n,ab o,ad f g l,.agg #[ab 2,ab 0,ab o,ab 0,ah 0,ah 0,ad f g l,ah 0,ab 0],e.val,ad (bk F) 1 1,ad v p q,ab (i64.wrap (k+1)),aH j 31]))) G) (W prog (sb f217 [1,1,1]) (H_ s a b (jp A::aH j 0::aH j 1::jp B::ag j 2 9 (ad t c d::ab i::ab k::ae (k<i)::ag j 12 20 []))) (bT f217 R) w)):=by kernel_rfl
theorem U':W prog (sb f217 [1,1,1]) (H_ s a b j) (bT f217 R) w=(R (ad s a b) w):=by kernel_rfl
theorem Wp (t:aS):bd prog f218 [a' a,t.val] R w=(aR w t.cells.toArray 116 λA y=>aR y #[ab 0,ab 0,ab 0,ab 0,ah 0,ah 0,a0,ah 0,ab 0] 158 λn x=>cF x λu j=>hK j (af A 0) λr=>cY j (af a 0) λe=>cY j (af a 1) λb=>(cG 225 #[ab e] u λc q=>j q/\aR q #[ah (u64.wrap b)] 30 λB v=>j v/\eS 212 #[a' a,r.val,.agg #[ab 2,ab 0,ab c,ab 0,ah 0,ah 0,ad (bk B) 1 1,ah 0,ab 0]] v λf o=>j o/\a8 o (af n 0) 0 f.cells λm=>lq m (af n 0) λg=>m=m/\R g.val m)/\aR u #[ah (u64.wrap b)] 30 λz s=>j s/\cG 225 #[ab e] s λd p=>j p/\eS 212 #[a' a,r.val,.agg #[ab 2,ab 0,ab d,ab 0,ah 0,ah 0,ad (bk z) 1 1,ah 0,ab 0]] p λi h=>j h/\a8 h (af n 0) 0 i.cells λk=>lq k (af n 0) λl=>k=k/\R l.val k):=by kernel_rfl
def x8 (e i:aU)(k:ak)(a b:Nat)(c:ak)(d f:Nat)(g h:Int)(j:ar):ar:=.pointer (some e)::ag j 0 2 (.pointer (some i)::ag j 2 1 (ad k a b::ag j 3 7 (ad c d f::ab g::ab h::ag j 10 12 [])))
def Ie (c:ak)(a b:Nat)(j:ar):ar:=ag j 0 5 (ad c a b::ag j 5 22 [])
theorem XH (e:aG):bd prog f237 [a' a,e.val] R w=(aR w e.cells.toArray 158 λg f=>b_ f (af a 4) λd b c=>cz prog (cU f237 [1,1,0,1,0,0]) (x8 (af a 0) (af g 0) none 0 0 d b c (b:Nat) 0 (e.val::undef::a0::bm 2 (jp (af a 0)::jp (af a 0)::jp (af a 0)::jp (af a 3)::jp (af a 4)::bm 12 []))) (aO 0 (aT f237 [1,1,1] R)) f):=by kernel_rfl
theorem Vc (o:ar->aJ):W prog (sb f237 [1,1,0,1,0,0]) (x8 A B s a b t c d i k j) (aZ o (aO 0 (aT f237 [1,1,1] R))) w=(cond (k<i) (bx t c k 3 λn=>iT w n λr=>aR w #[ab 0,ab 0,ae false] 116 λm y=>a8 y (af m 0) 0 r.cells λh=>iT h (af m 0) λu=>lq h B λp=>eS 212 #[.pointer (some A),u.val,p.val] h λl v=>aR v l.cells.toArray 158 λq z=>de 125 (ad s a b) (ad (bk q) 1 1) z λf e g x=>o (x8 A B f e g t c d i (i64.wrap (k+1)) (ag j 0 4 (jp (af m 0)::ag j 5 5 [ae (k<i),jp n,r.val,ad s a b,jp A,u.val,p.val,l.val,ad (bk q) 1 1,ad f e g,ab (i64.wrap (k+1)),aH j 21]))) x) (W prog (sb f237 [1,1,1]) (Ie s a b (jp A::aH j 0::aH j 1::jp B::ag j 2 8 (ad t c d::ab i::ab k::ae (k<i)::ag j 11 11 []))) (bT f237 R) w)):=by kernel_rfl
theorem Vy:W prog (sb f237 [1,1,1]) (Ie s a b j) (bT f237 R) w=(R (ad s a b) w):=by kernel_rfl
end
section
theorem ou {k:Nat}:¬ aP none k:=λh=>by obtain⟨o,a⟩:=h;cases a
theorem ES {α:Type}{cells:α->ax}(h:∀ x,(cells x).length=sz)(l:List α):(l.map cells).flatten.length=l.length*sz:=by
 rw[nh (sz:=sz),gR]
 grind
theorem qW {α:Type}{cells:α->ax}{S e:bY}{inf:TypeInfo}{z:bf}(G:∀ x,(cells x).length=sz)(L:∀ x,∀ v ∈ cells x,single v=true)
  (M:prog.underlying S=some (.slice e)) (H:prog.info? e=some inf) (aq:inf.zero=some z) (A:z.cells.size=inf.size) (r:inf.size=sz) (E:0<sz) (q:inf.bytes<=1000)
  {a:ak} {l:List α} (B:aX u e sz a n cap (l.map cells).flatten) {m c:Nat} {l2:List α} (J:bl u s (l2.map cells).flatten) (hm:m=l2.length) (I:n+m<=1000000)
  (w:∀ ap b i,aX i e sz ap (n+m) b ((l++l2).map cells).flatten->ao (aP a) u i->(∀ k,aP ap k->aP a k\/u.heap.size<=k)->K ap (n+m) b i) :
  ∃ (ap:ak) (f d:Nat),∃ i,(Builtin.append_ #[S,S] S #[(.slice a n cap),(.slice s m c)]).run prog u=.ok (.slice ap f d) i/\K ap f d i:=by
 subst r;have F:(n+m)*inf.bytes<=1000000*1000:=wm I q;have h:∀ x ∈ (l2.map cells).flatten,single x=true:=by
  grind
 obtain⟨ap,b,C,j,g,y,p⟩:=aX.append (P:=prog) (t:=S) (ty:=S) M H aq A E B (s:=s) (m:=m) (c:=c) (news:=(l2.map cells).flatten) (by grind[ES]) J h (by omega) (by omega);have D:(l.map cells).flatten++(l2.map cells).flatten=((l++l2).map cells).flatten:=by simp
 rw[D]at g;refine⟨ap,n+m,b,C,j,w ap b C g y λk w=>?_⟩;rcases p with e | e
 ·grind
 ·obtain⟨o,B⟩:=w
  grind
def u2 (x:Int):ax:=[.int .u64 x]
theorem wY (l:a7):(l.map u2).flatten=us l:=by
 induction l with
 |nil=>rfl
 |cons x l a=>grind[u2,us]
theorem uS {a:ak}{l:a7}(q:aX u 30 1 a n cap (us l)){m c:Nat}{l2:a7}(r:bl u s (us l2))(hm:m=l2.length)(j:n+m<=1000000)
  (p:∀ ap e f,aX f 30 1 ap (n+m) e (us (l++l2))->ao (aP a) u f->(∀ k,aP ap k->aP a k\/u.heap.size<=k)->K ap (n+m) e f) :
  ∃ (ap:ak) (d b:Nat),∃ f,(Builtin.append_ #[94,94] 94 #[(.slice a n cap),(.slice s m c)]).run prog u=.ok (.slice ap d b) f/\K ap d b f:=by
 obtain⟨inf,i,aq,g,h⟩:=fV (T:=30) (z:=.int .u64 0) (n:=1) (m:=8) (by kernel_rfl);refine qW (cells:=u2) (sz:=1) (λ_=>rfl) (λx v al=>by simp[u2]at al;subst al;rfl) Tryz.underlying94 i aq (by rw[g];rfl) g (by decide) (by grind) (l:=l) (by grind[wY]) (l2:=l2) (by grind[wY]) hm j λap e f o=>?_
 grind[wY]
def dK (h c:Int):Int:=jV .u64 h (c+1)
def mO (h:Int):Int:=iQ .u64 (c3 .u64 h 8+1) 8
def gw (s:Int):Int:=jV .u64 (iQ .u64 s 2) 2
def rG (n:Int):Int:=2*n+1
theorem zZ (x:Int):cy (IntKind.u64.wrap x):=by
 unfold cy;simp only[IntKind.wrap,IntKind.bits,IntKind.signed]
 grind
theorem Fz (h c:Int):cy (dK h c):=zZ _
theorem Qi (h:Int):cy (mO h):=zZ _
theorem Aa (s:Int):cy (gw s):=zZ _
theorem RH (w:an){h c:Int}(hu:mG h=true)(b:0<=c/\c<6):a5 240 [.int .u64 h,.int .i64 c] w λv w'=>v=.tuple #[.int .u64 (dK h c),.int .i64 0]/\w'=w:=by
 refine ba Tryz.func240 ?_;rw[K6];refine aB (ML w c) ?_;rintro v w1 ⟨rfl,rfl⟩;refine⟨_,rfl,eF (λa=>cp (of_decide_eq_false a) (by omega)) (λ_=>?_)⟩
 refine aB (xm w1 h) ?_;rintro v d ⟨rfl,rfl⟩;refine⟨_,rfl,eF (λa=>by grind) (λ_=>⟨?_,rfl⟩)⟩
 rw[bI (x:=c+1) (by omega) (by omega),kP (x:=c+1) (by omega) (by omega)];rfl
theorem AL (w:an){s:Int}(h:1<=s/\s<1073741824):a5 214 [.int .i64 s] w λv w'=>v=.tuple #[.int .u64 (gw s),.int .i64 0]/\w'=w:=by
 refine ba Tryz.func214 ?_;rw[B5];refine aB (tW w s 1 1073741823) ?_;rintro v w1 ⟨rfl,rfl⟩;refine⟨_,rfl,eF (λa=>cp (of_decide_eq_false a) (by omega)) (λ_=>⟨?_,rfl⟩)⟩
 rw[kP (x:=s) (by omega) (by omega)];rfl
theorem Qj (w:an){h:Int}(hu:cy h)(a:lZ h=true):a5 206 [.int .u64 h] w λv w'=>v=.tuple #[.int .u64 (mO h),.int .i64 0]/\w'=w:=by
 refine ba Tryz.func206 ?_;rw[Kj];refine aB (Fu w h) ?_;rintro v w1 ⟨rfl,rfl⟩;refine⟨_,_,rfl,?_⟩;refine aB (zH w1 _ 1 281474976710654) ?_;rintro v d ⟨rfl,rfl⟩;have b:=Qa hu;unfold lZ at a;refine⟨_,rfl,eF (λc=>by grind) (λ_=>⟨?_,rfl⟩)⟩
 rw[ly (x:=c3 .u64 h 8+1) (by omega) (by omega)];rfl
theorem S3 (w:an){n:Int}(a:0<=n)(b:n<16):a5 103 [.int .i64 n,.bool true] w λv w'=>v=.tuple #[.int .u64 (rG n),.int .i64 0]/\w'=w:=by
 refine ba Tryz.func103 ?_;rw[AC];refine aB (tW w n 0 15) ?_
 grind[ly,rG,Int.mul_comm]
def fN (c:Int):Int:=48+120*c
theorem zI (w:an){c i:Int}(a:0<=c/\c<6)(b:0<=i/\i<1000):a5 238 [.int .i64 c,.int .i64 i] w λv w'=>v=.int .i64 (fN c+i)/\w'=w:=by
 refine ba Tryz.func238 ?_;rw[Y_];refine bb (λh=>cp h (by omega)) (λ_=>bb (λh=>cp h (by omega)) (λ_=>⟨?_,rfl⟩))
 unfold fN;rw[bI (x:=c*15) (by omega) (by omega),bI (x:=6+c*15) (by omega) (by omega),bI (x:=(6+c*15)*8) (by omega) (by omega),bI (x:=(6+c*15)*8+i) (by omega) (by omega)]
 grind
theorem FA (w:an){c:Int}(a:0<=c/\c<6):a5 209 [.int .i64 c] w λv w'=>v=.int .i64 (fN c+8)/\w'=w:=by
 refine ba Tryz.func209 ?_;rw[KJ];refine aB (zI w a (i:=8) (by omega)) ?_
 grind
theorem Ab (w:an){c:Int}(a:0<=c/\c<6):a5 215 [.int .i64 c] w λv w'=>v=.int .i64 (fN c)/\w'=w:=by
 refine ba Tryz.func215 ?_;rw[KK];refine aB (zI w a (i:=0) (by omega)) ?_
 grind
section
attribute [local irreducible] iV jK mQ
theorem wZ (w:an)(g:0<=i/\i<6):a5 225 [.int .i64 i] w λv w'=>v=.int .i64 (32+i)/\ai w w':=by
 refine ba Tryz.func225 ?_;rw[Kr];refine aB (zl _ _ _) ?_;rintro v w1 ⟨cD,d,rfl,a,b,e⟩;have c:=zm;refine⟨_,rfl,?_⟩;have f:(#[]++#[.int .i64 i]++#[ptr cD,ptr d]:ep)=#[.int .i64 i,ptr cD,ptr d]:=by simp
 refine rZ c f ?_;refine aB (y9 w1 a b (by omega) (by omega) i) ?_;rintro v h ⟨rfl,rfl⟩;refine⟨_,rfl,?_,e⟩;unfold nV
 grind
end
theorem z0 (w:an)(p:aN){c:Int}(hu:mG p.Head=true)(d:0<=c/\c<6):a5 211 [p.val,.int .i64 c] w λv w'=>v=.tuple #[.int .u64 (dK p.Head c),.int .i64 0]/\ai w w':=by
 refine ba Tryz.func211 ?_;rw[Zp];rintro b1 w1 b a;obtain⟨aq,e⟩:=bo b a;have aq:av w1 b1 p.cells fr:=aq;clear a;refine⟨_,aq.cell (i:=1) rfl,?_⟩;refine aB (RH w1 hu d) ?_
 grind
def h7 (p:aN):a7:=[p.wV,p.Di,p.Dj,p.Dk,p.Dl,p.Dm,p.Dn]
def jU (p:aN):a7:=mO p.Head::h7 p
theorem DX (w:an)(p:aN)(A:cy p.Head)(C:lZ p.Head=true):a5 244 [p.val] w λv w'=>∃ (a:ak) (cap:Nat),v=.tuple #[.slice a 8 cap,.int .i64 0]/\ai w w'/\aX w' 30 1 a 8 cap (us (jU p))/\∀ k,aP a k->w.heap.size<=k:=by
 refine ba Tryz.func244 ?_;rw[Ze];rintro b1 w1 l h;obtain⟨aq,g⟩:=bo l h;have aq:av w1 b1 p.cells fr:=aq;clear h;refine⟨_,aq.cell (i:=1) rfl,?_⟩;refine aB (Qj w1 A C) ?_;rintro v F ⟨rfl,rfl⟩;refine⟨_,_,rfl,d8 (λe=>cp rfl e) (λ_=>?_)⟩
 rintro d u n j;obtain⟨c,b⟩:=bo n j;have c:av u d (us [mO p.Head]) 30:=c;clear j;have D:=g.size;have E:=b.size;have t:aX u 30 1 (some ⟨d,0,none⟩) 1 1 (us [mO p.Head]):=⟨rfl,.inr ⟨d,_,rfl,c,by omega,by decide,rfl,rfl⟩⟩;refine uS t (l2:=h7 p) (m:=7) (fj (ai.aj b aq) rfl) rfl (by omega) λap f G x q y=>?_
 have r:w.heap.size<=d:=by omega
 have z:∀ k,aP (some ⟨d,0,none⟩) k->w.heap.size<=k:=λk s=>by obtain⟨o,t⟩:=s;grind
 refine⟨ap,f,rfl,(g.new b).trans q λk B e=>by grind,x,λk s=>?_⟩
 grind
def ow (seq:Int)(cx:List aN):a7:=seq::(cx.length:Int)::(cx.map λp=>p.bt::p.Head::h7 p).flatten
def fW (seq:Int)(cx:List aN):a7:=ow seq cx++[ta (ow seq cx)]
theorem MR (cx:List aN):(cx.map λp=>p.bt::p.Head::h7 p).flatten.length=9*cx.length:=by
 induction cx with
 |nil=>rfl
 |cons p cx a=>rw[iI,lD,fF,a];simp[h7];omega
theorem z1 (seq:Int)(cx:List aN):(ow seq cx).length=2+9*cx.length:=by grind[ow,List.length_cons,MR]
theorem pq (seq:Int)(cx:List aN):(fW seq cx).length=3+9*cx.length:=by grind[fW,List.length_append,z1]
def rU (seq:Int)(cx:List aN)(i:Nat):a7:=seq::(cx.length:Int)::((cx.take i).map λp=>p.bt::p.Head::h7 p).flatten
theorem z2 {r:b7}{W:List aN}(h:fM w r.eN r.dZ W)(al:gk r.Seq W 256=0)(bq:1<=r.Seq/\r.Seq<1073741824)(fu:W.length<=12)(a0:∀ p ∈ W,96<=p.bt/\p.bt<256) :
  a5 210 [r.val] w λv w'=>∃ (a:ak) (cap:Nat),v=.slice a (3+9*W.length) cap/\ai w w'/\aX w' 30 1 a (3+9*W.length) cap (us (fW r.Seq W))/\∀ k,aP a k->w.heap.size<=k:=by
 refine ba Tryz.func210 ?_;rw[JQ];rintro b1 w1 R I;obtain⟨aq,A⟩:=bo R I;have aq:av w1 b1 r.cells 271:=aq;clear I;refine b7.aV r ⟨bX aq rfl,?_⟩;refine aB (wB (h.new A) 256) ?_;rintro v bx ⟨rfl,B⟩;rw[al];have hlen:=h.len;have y:=ai.aj B aq;refine⟨_,rfl,d8 (λe=>cp rfl e) (λ_=>⟨_,y.cell (i:=0) rfl,_,_,_,y.cell (i:=1) rfl,?_⟩)⟩;dsimp only;rw[kP (x:=r.Seq) (by omega) (by omega),kP (x:=(r.dZ:Int)) (by omega) (by omega)];rintro M aG S J;obtain⟨K,C⟩:=bo S J;have K:av aG M (us (rU r.Seq W 0)) 30:=by grind[rU,us]
 clear J;have G:=(A.new B).new C;have bh:=A.size;have bj:=B.size;have bk:=C.size;refine⟨_,_,_,(ai.aj C y).cell (i:=1) rfl,?_⟩;have ah:aX aG 30 1 (some ⟨M,0,none⟩) 2 2 (us (rU r.Seq W 0)):=⟨rfl,.inr ⟨M,_,rfl,K,by omega,by decide,rfl,rfl⟩⟩;have V:∀ k,aP (some ⟨M,0,none⟩) k->w.heap.size<=k:=λk t=>by obtain⟨o,ah⟩:=t;grind
 refine cZ mix (λm env u=>∃ (i:Nat) (aW:ak) (pc:Nat) (aC:ax),m=W.length-i/\i<=W.length/\env=yx aW (2+9*i) pc r.eN r.dZ r.hR r.dZ i aC/\ai w u/\aX u 30 1 aW (2+9*i) pc (us (rU r.Seq W i))/\∀ k,aP aW k->w.heap.size<=k) W.length
  ⟨0,_,_,_,rfl,by omega,rfl,G,ah,V⟩ ?_
 rintro m env u ⟨i,aW,pc,aC,rfl,bm,rfl,g,j,a8⟩;rw[XC,hlen];refine bb (λz=>?_) (λaZ=>?_)
 ·obtain⟨p,ao⟩:∃ p,W[i]?=some p:=⟨_,b2 (by omega)⟩;have a':=a0 p (b9 ao);refine eQ (cells:=aN.cells) aN.len (by omega) (h.rd.new g) ao rfl rfl λb o U _=>aN.aV p ⟨U,?_⟩
  refine io (vs:=p.cells) rfl (aN.single _) λN cl F q d=>⟨_,q.cell (i:=0) rfl,_,q.cell (i:=1) rfl,?_⟩
  rw[kP (x:=p.bt) (by omega) (by omega)];rintro aH bw T l;obtain⟨f,c⟩:=bo T l;have f:av bw aH (us [p.bt,p.Head]) 30:=f;clear l;have ab:=d.size;have ad:=c.size;have ae:=g.size;refine uS (aX.new (d.new c) j) (l2:=[p.bt,p.Head]) (m:=2) (fj f rfl) rfl (by omega) λap s cq O n Q=>?_
  have af:∀ k,aP ap k->w.heap.size<=k:=λk t=>by
   grind
  have ag:=q.lt;have Z:∀ k,aP aW k->k≠N:=λk t e=>by have:=j.lt t;omega
  have L:av cq N p.cells fr:=n.aj (ai.aj c q) λe=>Z _ e rfl
  have H:ai w cq:=((g.new d).new c).trans n λk z e=>by grind
  refine uS O (l2:=h7 p) (m:=7) (fj L rfl) rfl (by omega) λP D br bl Y E=>?_
  rw[bI (x:=(i:Int)+1) (by omega) (by omega)];have aQ:2+9*i+2+7=2+9*(i+1):=by omega
  refine⟨W.length-(i+1),by omega,i+1,P,D,_,rfl,by omega,by rw[<-aQ,<-hlen];rfl,H.trans Y λk z e=>by grind,?_,λk t=>?_⟩
  ·grind[rU,h7,List.take_add_one]
  ·rcases E k t with e | e
   ·grind
   ·have:=H.size;omega
 ·have X:i=W.length:=by omega
  subst X;have aR:rU r.Seq W W.length=ow r.Seq W:=by grind[rU,ow,List.take_length]
  rw[aR]at j;rw[YY];refine aB (MP j.rd (by rw[z1]) (by omega)) ?_;rintro v bQ ⟨rfl,d⟩;refine⟨_,rfl,?_⟩;rintro N cl F l;obtain⟨f,c⟩:=bo F l;have f:av cl N (us [ta (ow r.Seq W)]) 30:=f;clear l;have ab:=d.size;have ad:=c.size;have ae:=g.size;refine uS (aX.new (d.new c) j) (l2:=[ta (ow r.Seq W)]) (m:=1) (fj f rfl) rfl (by omega) λap s cq O n Q=>?_
  have aO:2+9*W.length+1=3+9*W.length:=by omega
  rw[aO]at O ⊢;refine⟨ap,s,rfl,((g.new d).new c).trans n λk z e=>by grind,O,λk t=>?_⟩
  grind
end
section
theorem lA {i:Nat}{cs:ax}{T:bY}{v x:bf}{K:aJ}(a:av u b cs T)(c:cs[i]?=some x)(d:∀ w',av w' b (cs.set i v) T->ao (λk=>k=b) u w'->K w') :
  (∃ y,u.cell? ⟨b,i,none⟩=some y)/\u.frozen? ⟨b,i,none⟩=false/\∀ w',w'=u.setCell ⟨b,i,none⟩ v->K w':=
 ⟨⟨x,a.cell c⟩,a.frozen,λw' e=>by subst e;exact d _ (a.setCell v) (e4 _ _ _ _)⟩
def addr (num:Int)(m:aS)(x:bc):bc:={x with node:=m.Node,eX:=m.cK,key:=rG num}
theorem C1 (w:an){r:da}{m:aS}(aQ:0<=r.Number)(aR:r.Number<16)(V:dU m.cK){v:aG}{x:bc}(al:cT M w v x) :
  a5 241 [r.val,m.val,.bool true,v.val] w λy w'=>∃ ao:aG,y=ao.val/\cT (λk=>k<w.heap.size) w' ao (addr r.Number m x)/\ai w w':=by
 refine ba Tryz.func241 ?_;rw[Ko];rintro b1 w1 R J;obtain⟨q,H⟩:=bo R J;have q:av w1 b1 r.cells n6:=q;clear J;rintro af bz S K;obtain⟨s,D⟩:=bo S K;have s:av bz af m.cells eL:=s;clear K;rintro Q bA T L;obtain⟨t,p⟩:=bo T L;have t:av bA Q v.cells cP:=t;clear L;rintro ag aH U N;obtain⟨u,l⟩:=bo U N;have u:av aH ag (aG.cells ⟨0,0,0,0,0,0,none,0,0,0,0⟩) cP:=u;clear N;rintro bC O;have c:ai aH bC:=by rw[O];exact cR _
 clear O;have bh:=H.size;have bj:=D.size;have bk:=p.size;have bm:=l.size;have bq:=c.size;have a0:=q.lt;have a8:=s.lt;have a':=t.lt;have bb:=u.lt;have G:=(((H.new D).new p).new l).new c;have ae:=ai.aj (((D.new p).new l).new c) q;have aP:=ai.aj ((p.new l).new c) s;have d:=ai.aj (l.new c) t;have P:=ai.aj c u;refine⟨λy=>av y af m.cells eL,aP,_,λy Z=>Z.cell (i:=0) rfl,_,λy Z=>Z.cell (i:=1) rfl,lA d (i:=1) rfl λbM d E=>⟨E.aj aP (by omega),lA d (i:=8) rfl λbD d W=>?_⟩⟩;have b:=E.trans W λ_ _ e=>e
 have ae:=b.aj ae (by omega);refine⟨_,ae.cell (i:=0) rfl,?_⟩;refine aB (S3 bD aQ aR) ?_;rintro z bN ⟨rfl,rfl⟩;refine⟨_,_,rfl,lA d (i:=7) rfl λaO d C=>⟨_,_,_,d.cell (i:=6) rfl,?_⟩⟩;have g:ai w aO:=G.trans (b.trans C λ_ _ e=>e) λk F e=>by omega
 have Y:v.dh=x.words.length:=by rw[al.eq];rfl
 refine aB (Ca (xs:=us x.words) (by grind[iS]) (al.rd.new g) (qm _) (by have:=al.lx;omega) (λe=>by rw[Y,al.nil e];rfl)) ?_;rintro z bx ⟨B,cap,rfl,j,o,aZ,I⟩;have br:=g.size;have ah:=(b.trans C λ_ _ e=>e).size;refine⟨_,_,_,rfl,lA (ai.aj j d) (i:=6) rfl λab d f=>?_⟩;have P:=f.aj (ai.aj j ((b.trans C λ_ _ e=>e).aj P (by omega))) (show¬ ag=Q by omega);have d:av ab Q (aG.cells {v with Node:=m.Node,cK:=m.cK,Key:=rG r.Number,Words:=B,c8:=cap}) cP:=d;refine aG.aV _ ⟨bX d rfl,dY P rfl (aG.single _) λad P A=>?_⟩;refine aG.aV _ ⟨bX P rfl,rfl,_,rfl,?_,((g.new j).trans f λk F e=>by omega).trans A λk F e=>by omega⟩;have n:us x.words=[]\/gU (λk=>k<aO.heap.size) B:=hv o.rd λk bH e=>by grind
 have X:bl ad B (us x.words):=(o.rd.aA f (n.imp id λh=>by
  cases B with
  |none=>trivial
  |some a=>exactλe=>h (by grind))).aA A (n.imp id λh=>by
  cases B with
  |none=>trivial
  |some a=>exactλe=>h (by grind))
 refine⟨?_,X,λe=>al.nil (I.1 e),?_,al.wf,al.new,al.old,?_,V,aX.le o,al.lx⟩
 ·show({v with Node:=m.Node,cK:=m.cK,Key:=rG r.Number,Words:=B,c8:=cap}:aG)=_;have e:=al.eq;generalize v.Words=bI at e;generalize v.c8=bK at e;subst e;rfl
 ·rcases n with h | h
  ·left;have:=ey List.length h;rw[iS]at this;exact hN this
  ·right;cases B with
   |none=>trivial
   |some a=>exactλe=>h (by grind)
 ·show cy (rG r.Number)
  grind[rG,cy]
theorem DY (l:List aS):∀ r ∈ g3 l,r.length=3:=by intro r a;obtain⟨x,_,rfl⟩:=cW.1 a;rfl
theorem Lu (l:List aS):∀ u ∈ (g3 l).flatten,single u=true:=by
 intro u hu;obtain⟨r,a,b⟩:=qL.1 hu;obtain⟨y,_,rfl⟩:=cW.1 a
 grind[aS.single]
theorem Oj {a:ak}{n c:Nat}{vs:List aS}(e:vs.length=n)(q:bl w a (g3 vs).flatten)(r:n<=1000000)(l:a=none->n=0) :
  a5 243 [.slice a n c] w λv w'=>∃ d cap,v=.slice d n cap/\uG w w' eL 3 a d n cap (g3 vs).flatten:=by
 refine ba Tryz.func243 ?_;rw[T2];obtain⟨i,j,aq,b,h⟩:=fV (T:=eL) (z:=.agg #[.int .i64 0,.int .i64 0,.bool false]) (n:=3) (m:=24) (by kernel_rfl);cases a with
 |none=>
  refine hc rfl ⟨none,0,by grind,ao.refl _ _,?_,?_,by simp⟩
  ·rw[l rfl]at e ⊢;rw[hN e];exact aX.nil _ _ _
  ·rintro k ⟨o,p⟩;cases p
 |some a=>
  refine dG rfl ?_;rintro b1 w1 rfl rfl;obtain⟨d,f,w',g,s⟩:=yW (t:=33) (ty:=33) (n:=n) (c:=c) (w:=w) (a:=a) (xs:=(g3 vs).flatten) Tryz.underlying33 j aq (by rw[b];rfl) (by omega) (by rw[nh (DY vs),b,g3,gR,e]) q (Lu vs) (by omega) (by grind)
  grind
theorem Dz {r:da}{v:jT}(h:gD M w r v){m:aS}(hm:v.mem[0]?=some m):a5 125 [r.val] w λx w'=>x=.tuple #[m.val,.bool true]/\ai w w':=by
 refine ba Tryz.func125 ?_;rw[Ky];rintro b1 w1 p l;obtain⟨d,g⟩:=bo p l;have d:av w1 b1 r.cells n6:=d;clear l;rintro y C q n;obtain⟨f,j⟩:=bo q n;have f:av C y (aS.cells kk) eL:=f;clear n;have c:=ai.aj j d;have a:=g.new j;have B:=g.size;have D:=cS hm;have z:=h.len;refine⟨_,_,_,c.cell (i:=1) rfl,eg (λe=>cp e (by omega)) (λ_=>⟨_,_,_,c.cell (i:=1) rfl,?_⟩)⟩;refine eQ (cells:=aS.cells) aS.len (by omega) (i:=0) (h.rd.new a) hm rfl z λb o s _=>aS.aV m ⟨s,dY f rfl (aS.single _) λE u t=>?_⟩
 exact aS.aV m ⟨bX u rfl,rfl,rfl,a.trans t λk A e=>by omega⟩
theorem DA {r:da}{v:jT}(h:gD M w r v)(B:0<v.mem.length):a5 216 [r.val] w λy w'=>∃ (a:ak) (cap:Nat),y=.slice a (v.mem.length-1) cap/\ai w w'/\bl w' a (g3 v.mem.tail).flatten:=by
 refine ba Tryz.func216 ?_;rw[KA];rintro b1 w1 l j;obtain⟨c,f⟩:=bo l j;have c:av w1 b1 r.cells n6:=c;clear j;have hlen:=h.len;have s:=h.cap;have C:=h.small;refine⟨_,_,_,c.cell (i:=1) rfl,eg (λe=>cp e (by omega)) (λ_=>⟨_,_,_,c.cell (i:=1) rfl,?_⟩)⟩;have p:=h.rd.new f;have A:(g3 v.mem).flatten.length=v.mem.length*3:=by rw[nh (DY _),g3,gR]
 obtain⟨b,o,k⟩:∃ b o,r.f7=some ⟨b,o,none⟩:=by
  rcases p with he | ⟨b,o,e,_⟩
  ·grind
  grind
 rw[k]at p ⊢;rw[hlen];have q:(g3 v.mem.tail).flatten=((g3 v.mem).flatten).drop 3:=by
  cases D:v.mem with
  |nil=>rfl
  |cons x xs=>rfl
 refine ll (by omega) (by omega) (by omega) (by omega) (by omega) λa z=>?_
 have d:bl w1 a (g3 v.mem.tail).flatten/\a≠none:=by
  rcases z with rfl | ⟨e,rfl⟩
  ·refine⟨?_,by simp⟩;rw[q];exact p.drop 3
  ·refine⟨?_,by simp⟩;have:v.mem.tail=[]:=hN (by grind);rw[this];exact .inl rfl
 have u:Int.toNat (v.mem.length:Int)-Int.toNat 1=v.mem.length-1:=by omega
 rw[u];refine aB (Oj (vs:=v.mem.tail) (by grind) d.1 (by omega) (λe=>cp e d.2)) ?_;rintro y E ⟨t,cap,rfl,n,g,_⟩;exact⟨_,_,_,rfl,t,cap,rfl,f.new n,g.rd⟩
structure bP (w0 u:an)(a:ak)(n cap:Nat)(vs:a_):Prop where
 ex:∃ Ji:List aG,aX u cP 9 a n cap (dS Ji).flatten/\et (λk=>k<w0.heap.size\/aP a k) u Ji vs
 len:n=vs.length
 g0:∀ k,aP a k->w0.heap.size<=k
theorem bP.nil (w0 u:an):bP w0 u none 0 0 []:=⟨⟨[],aX.nil _ _ _,rfl,λi v x h=>by grind⟩,rfl,λk a=>cp a ou⟩
theorem bP.new {w0 u bB:an}{a:ak}{n cap:Nat}{vs:a_}(h:bP w0 u a n cap vs)(c:ai u bB):bP w0 bB a n cap vs:=by obtain⟨⟨b,g,al⟩,f,d⟩:=h;exact⟨⟨b,aX.new c g,al.aA (ao.cm c) λ_ _ e=>e⟩,f,d⟩
theorem bP.aA {w0 u bB:an}{a:ak}{n cap:Nat}{vs:a_}(h:bP w0 u a n cap vs){M:a4}(c:ao M u bB)(d:∀ k,M k->k<w0.heap.size):bP w0 bB a n cap vs:=by
 obtain⟨⟨b,i,al⟩,g,f⟩:=h;refine⟨⟨b,i.aA c λk c e=>?_,al.aA (c.mono λk _ e=>.inl (d k e)) λ_ _ e=>e⟩,g,f⟩
 grind
theorem bP.mono {w1:an}{a:ak}{vs:a_}(h:bP w1 u a n cap vs)(i:w0.heap.size<=w1.heap.size):bP w0 u a n cap vs:=by obtain⟨⟨b,d,al⟩,c,f⟩:=h;exact⟨⟨b,d,al.aA (ao.refl _ _) λk _ e=>e.imp (λe=>by omega) id⟩,c,λk g=>by grind⟩
theorem et.app {r1 a:List aG}{v1 v2:a_}(b:et M w r1 v1)(c:et M w a v2):et M w (r1++a) (v1++v2):=by
 obtain⟨g,d⟩:=b;obtain⟨l2,e⟩:=c;refine⟨by grind,λi v x al f=>?_⟩
 grind
theorem et.one {v:aG}{x:bc}(h:cT M w v x):et M w [v] [x]:=⟨rfl,λi c gh a b=>by
 grind⟩
theorem bP.pv {a:ak}{vs:a_}(h:bP w0 u a n cap vs)(j:ai w0 u)(hu:ai u bQ){v:aG}{x:bc}(al:cT (λk=>k<u.heap.size) bQ v x)(H:n<=100000){K:Nat->ak->Nat->Nat->aJ}
  (w:∀ b ap f i,b=bQ.heap.size->bP w0 i ap (n+1) f (vs++[x])->ao (aP a) bQ i->ai w0 i->K b ap (n+1) f i) :
  ∀ b1 z,b1=bQ.heap.size->z=bQ.alloc (.cells v.cells.toArray cP)->∃ (ap:ak) (d c:Nat),∃ i,(Builtin.append_ #[gZ,gZ] gZ #[(.slice a n cap),(.slice (some ⟨b1,0,none⟩) 1 1)]).run prog z=.ok (.slice ap d c) i/\K b1 ap d c i:=by
 obtain⟨⟨q,y,t⟩,I,D⟩:=h;have A:=j.new hu;have E:=j.size;have F:=hu.size;refine Qh (aX.new hu y) (v:=v) (by omega) λb ap f i C G g B=>?_
 have l:∀ k,aP ap k->w0.heap.size<=k:=λk w=>by
  grind
 refine w b ap f i C ⟨⟨q++[v],by grind[Kk,dS],?_⟩,by grind,l⟩ g (A.trans g λk o e=>by grind);have p:∀ k,k<bQ.heap.size->(k<w0.heap.size\/aP ap k)->(k<w0.heap.size\/aP a k):=λk o e=>e.imp id λe=>by
  grind
 have r:=t.aA (M':=λk=>k<w0.heap.size\/aP a k) (ao.cm hu) λ_ _ e=>e
 refine et.app (r.aA (g.mono λk _ e=>.inr e) p) (et.one ?_);have s:cT (λk=>k<w0.heap.size\/aP a k) bQ v x:=al.aA (ao.refl _ _) λk o e=>by
  rcases e with e | e
  ·omega
  ·exact y.lt e
 exact s.aA (g.mono λk _ e=>.inr e) p
theorem bP.mC {a:ak}{vs:a_}(h:bP w0 u a n cap vs)(i:ai w0 u)(hu:ai u bQ){v:aG}{x:bc}(al:cT (λk=>k<u.heap.size) bQ v x)(r:n<=100000){b1:Nat}{j:an}(q:b1=bQ.heap.size)(hw:j=bQ.alloc (.cells v.cells.toArray cP))
  (s:∀ ap f g,bP w0 g ap (n+1) f (vs++[x])->ao (aP a) bQ g->ai w0 g->K ap (n+1) f g) :
  ∃ (ap:ak) (e d:Nat),∃ g,(Builtin.append_ #[gZ,gZ] gZ #[(.slice a n cap),(.slice (some ⟨b1,0,none⟩) 1 1)]).run prog j=.ok (.slice ap e d) g/\K ap e d g:=
 bP.pv h i hu al r (K:=λ_ ap n c w=>K ap n c w) (λb ap f g _ l o p=>s ap f g l o p) b1 j q hw
end
section
open IntKind
variable (w:an)(R:cM){a b c d:Nat}{A B:aU}{s t:ak}{i k:Int}{j:ar}
theorem Xq:bd prog f172 [a' a] R w=(aR w #[ab 0,ab 0] 171 λq t=>cF t λs l=>cY l (af a 0) λj=>vU l (af a 0) λu=>cG 209 #[ab j] s λb p=>l p/\I5 168 #[u.val] p λh o=>l o/\dm 210 #[h.val] o λc d f r=>l r/\Calls prog 208 #[a' a,ab b,ad c d f,ab 1] r λe n=>bA.ex λi=>∃ g,e=.returned (.tuple #[i.val,ae g])/\l n/\a8 n (af q 0) 0 i.cells λm=>ea m (af q 0) λk=>m=m/\R (.tuple #[k.val,ae g]) m):=by kernel_rfl
theorem Xr:bd prog f174 [a' a] R w=(aR w #[ab 0,ab 0] 171 λn m=>b0 m (af a 1) λj=>h1 214 #[ab j] m λb c l=>b0 l (af a 0) λd=>cG 215 #[ab d] l λf q=>aR q #[ah b] 30 λo p=>Calls prog 208 #[a' a,ab f,ad (bk o) 1 1,ab 2] p λe r=>bA.ex λh=>∃ g,e=.returned (.tuple #[h.val,ae g])/\a8 r (af n 0) 0 h.cells λk=>ea k (af n 0) λi=>k=k/\R (.tuple #[i.val,ae g]) k):=by kernel_rfl
def vk (e s2:aU)(i:ak)(a b:Nat)(c:ak)(d f:Nat)(g h:Int)(j:ar):ar:=.pointer (some e)::ag j 0 1 (.pointer (some s2)::ag j 1 1 (ad i a b::ag j 2 10 (ad c d f::ab g::ab h::ag j 12 31 [])))
def H' (a b:aU)(e:ak)(c d:Nat)(j:ar):ar:=.pointer (some a)::ag j 0 1 (.pointer (some b)::ag j 1 1 (ad e c d::ag j 2 44 []))
theorem VU:bd prog f175 [a' a] R w=(aR w #[ab 0,ab 0] 171 λh f=>mD f (af a 3) λd=>dm 216 #[d.val] f λe b c g=>cz prog (cU f175 [1,1,0,1,0,0]) (vk (af a 0) (af h 0) none 0 0 e b c (b:Nat) 0 (undef::ae false::bm 5 (jp (af a 0)::jp (af a 0)::jp (af a 0)::jp (af a 3)::d.val::bm 31 []))) (aO 0 (aT f175 [1,1,1] R)) g):=by kernel_rfl
theorem Ug (D:ar->aJ):W prog (sb f175 [1,1,0,1,0,0]) (vk A B s a b t c d i k j) (aZ D (aO 0 (aT f175 [1,1,1] R))) w=(cond (k<i) (bx t c k 3 λC=>iT w C λr=>aR w #[ab 0,ab 0,ae false] 116 λy K=>a8 K (af y 0) 0 r.cells λz=>b_ z (b5 A 6) λg h l=>cond ((h:Int)>0) (iT z (af y 0) λH=>dm 217 #[.pointer (some A),H.val] z λm n o M=>de 125 (ad s a b) (ad m n o) M λu p q G=>iT G (af y 0) λE=>eS 218 #[.pointer (some A),E.val] G λx L=>aR L x.cells.toArray 158 λF a6=>de 125 (ad u p q) (ad (bk F) 1 1) a6 λe f v I=>D (vk A B e f v t c d i (i64.wrap (k+1)) (aH j 0::aH j 1::aH j 2::jp (af y 0)::ag j 4 8 (ae (k<i)::jp C::r.val::jp A::jp A::jp A::bM A 6::ad g h l::dA h::ae ((h:Int)>0)::ad s a b::jp A::H.val::ad m n o::ad u p q::ad u p q::jp A::E.val::x.val::ad (bk F) 1 1::ad e f v::ab (i64.wrap (k+1))::ag j 34 9 []))) I) (D (vk A B s a b t c d i (i64.wrap (k+1)) (aH j 0::aH j 1::aH j 2::jp (af y 0)::ag j 4 8 (ae (k<i)::jp C::r.val::jp A::jp A::jp A::bM A 6::ad g h l::dA h::ae ((h:Int)>0)::ag j 22 11 (ab (i64.wrap (k+1))::ag j 34 9 [])))) z)) (W prog (sb f175 [1,1,1]) (H' A B s a b (ag j 0 12 (ad t c d::ab i::ab k::ae (k<i)::ag j 13 30 []))) (bT f175 R) w)):=by kernel_rfl
theorem Us:W prog (sb f175 [1,1,1]) (H' A B s a b j) (bT f175 R) w=(Calls prog 213 #[.pointer (some A),ad s a b,ab 3] w λe o=>∃ f g h,bA.ex λk=>∃ i,e=.returned (.tuple #[ad f g h,k.val,ae i])/\aR o #[ab 0,ab 0] 171 λm n=>a8 n (af m 0) 0 k.cells λd=>ea d (af m 0) λr=>a8 d B 0 r.cells λc=>ea c B λl=>c=c/\R (.tuple #[l.val,ae i]) c):=by kernel_rfl
theorem qr:bd prog f176 [a' a] R w=(aR w #[ab 0,ab 0] 171 λC fO=>b_ fO (af a 6) λj b c=>cond ((b:Int) == 0) (a8 fO (af C 0) 0 [ab 0,ab 0] λM=>ea M (af C 0) λb2=>M=M/\R (.tuple #[b2.val,ae true]) M) (cF fO λdS u=>hK u (af a 8) λdG=>hK u (af a 8) λG=>(eS 218 #[a' a,dG.val] dS λH V=>u V/\(aR V H.cells.toArray 158 λfG I=>u I/\(dm 217 #[a' a,G.val] I λd f g fR=>u fR/\(de 125 (ad (bk fG) 1 1) (ad d f g) fR λeu h i fM=>u fM/\(Calls prog 213 #[a' a,ad eu h i,ab 3] fM λe fv=>∃ (k:ak) (l m:Nat),bA.ex λdY=>∃ (n:Bool),e=.returned (.tuple #[ad k l m,dY.val,ae n])/\u fv/\aR fv #[ab 0,ab 0] 171 λfh eL=>u eL/\a8 eL (af fh 0) 0 dY.cells λe0=>ea e0 (af fh 0) λr=>a8 e0 (af C 0) 0 r.cells λP=>ea P (af C 0) λdt=>P=P/\R (.tuple #[dt.val,ae n]) P)/\aR fM #[ab 0,ab 0] 171 λfr ee=>u ee/\Calls prog 213 #[a' a,ad eu h i,ab 3] ee λe eb=>∃ (o:ak) (p q:Nat),bA.ex λeP=>∃ (s:Bool),e=.returned (.tuple #[ad o p q,eP.val,ae s])/\u eb/\a8 eb (af fr 0) 0 eP.cells λeF=>ea eF (af fr 0) λda=>a8 eF (af C 0) 0 da.cells λX=>ea X (af C 0) λb8=>X=X/\R (.tuple #[b8.val,ae s]) X)/\aR fR #[ab 0,ab 0] 171 λe8 eC=>u eC/\de 125 (ad (bk fG) 1 1) (ad d f g) eC λt v x dT=>u dT/\Calls prog 213 #[a' a,ad t v x,ab 3] dT λe eV=>∃ (y:ak) (z a0:Nat),bA.ex λeZ=>∃ (dR:Bool),e=.returned (.tuple #[ad y z a0,eZ.val,ae dR])/\u eV/\a8 eV (af e8 0) 0 eZ.cells λE=>ea E (af e8 0) λbH=>a8 E (af C 0) 0 bH.cells λa6=>ea a6 (af C 0) λbO=>a6=a6/\R (.tuple #[bO.val,ae dR]) a6)/\aR I #[ab 0,ab 0] 171 λc5 eY=>u eY/\dm 217 #[a' a,G.val] eY λcV cj b3 fl=>u fl/\de 125 (ad (bk fG) 1 1) (ad cV cj b3) fl λbo cb cG d_=>u d_/\Calls prog 213 #[a' a,ad bo cb cG,ab 3] d_ λe dL=>∃ (aX:ak) (cd dA:Nat),bA.ex λeh=>∃ (A:Bool),e=.returned (.tuple #[ad aX cd dA,eh.val,ae A])/\u dL/\a8 dL (af c5 0) 0 eh.cells λer=>ea er (af c5 0) λdp=>a8 er (af C 0) 0 dp.cells λS=>ea S (af C 0) λcT=>S=S/\R (.tuple #[cT.val,ae A]) S)/\(dm 217 #[a' a,G.val] V λfN J g7 fP=>u fP/\(aR fP H.cells.toArray 158 λft fL=>u fL/\(de 125 (ad (bk ft) 1 1) (ad fN J g7) fL λeD eH fw D=>u D/\(Calls prog 213 #[a' a,ad eD eH fw,ab 3] D λe dK=>∃ (bb:ak) (bI b9:Nat),bA.ex λfb=>∃ (F:Bool),e=.returned (.tuple #[ad bb bI b9,fb.val,ae F])/\u dK/\aR dK #[ab 0,ab 0] 171 λeT bK=>u bK/\a8 bK (af eT 0) 0 fb.cells λdr=>ea dr (af eT 0) λcA=>a8 dr (af C 0) 0 cA.cells λN=>ea N (af C 0) λaP=>N=N/\R (.tuple #[aP.val,ae F]) N)/\aR D #[ab 0,ab 0] 171 λeJ cr=>u cr/\Calls prog 213 #[a' a,ad eD eH fw,ab 3] cr λe fo=>∃ (c2:ak) (bm aG:Nat),bA.ex λeo=>∃ (e5:Bool),e=.returned (.tuple #[ad c2 bm aG,eo.val,ae e5])/\u fo/\a8 fo (af eJ 0) 0 eo.cells λd'=>ea d' (af eJ 0) λaV=>a8 d' (af C 0) 0 aV.cells λW=>ea W (af C 0) λbP=>W=W/\R (.tuple #[bP.val,ae e5]) W)/\aR fL #[ab 0,ab 0] 171 λbl fy=>u fy/\de 125 (ad (bk ft) 1 1) (ad fN J g7) fy λav c7 dq cR=>u cR/\Calls prog 213 #[a' a,ad av c7 dq,ab 3] cR λe e3=>∃ (c3:ak) (cW bz:Nat),bA.ex λfa=>∃ (ed:Bool),e=.returned (.tuple #[ad c3 cW bz,fa.val,ae ed])/\u e3/\a8 e3 (af bl 0) 0 fa.cells λd8=>ea d8 (af bl 0) λca=>a8 d8 (af C 0) 0 ca.cells λfE=>ea fE (af C 0) λag=>fE=fE/\R (.tuple #[ag.val,ae ed]) fE)/\aR fP #[ab 0,ab 0] 171 λd9 eA=>u eA/\aR eA H.cells.toArray 158 λU e4=>u e4/\de 125 (ad (bk U) 1 1) (ad fN J g7) e4 λaH ao a5 ff=>u ff/\Calls prog 213 #[a' a,ad aH ao a5,ab 3] ff λe e'=>∃ (bV:ak) (aQ aO:Nat),bA.ex λdW=>∃ (dU:Bool),e=.returned (.tuple #[ad bV aQ aO,dW.val,ae dU])/\u e'/\a8 e' (af d9 0) 0 dW.cells λfe=>ea fe (af d9 0) λc9=>a8 fe (af C 0) 0 c9.cells λQ=>ea Q (af C 0) λfQ=>Q=Q/\R (.tuple #[fQ.val,ae dU]) Q)/\aR V #[ab 0,ab 0] 171 λK fF=>u fF/\(aR fF H.cells.toArray 158 λdd ef=>u ef/\dm 217 #[a' a,G.val] ef λc4 dy b7 eK=>u eK/\de 125 (ad (bk dd) 1 1) (ad c4 dy b7) eK λdB ct db et=>u et/\Calls prog 213 #[a' a,ad dB ct db,ab 3] et λe b5=>∃ (ba:ak) (bh bT:Nat),bA.ex λfc=>∃ (dN:Bool),e=.returned (.tuple #[ad ba bh bT,fc.val,ae dN])/\u b5/\a8 b5 (af K 0) 0 fc.cells λdE=>ea dE (af K 0) λbM=>a8 dE (af C 0) 0 bM.cells λZ=>ea Z (af C 0) λcP=>Z=Z/\R (.tuple #[cP.val,ae dN]) Z)/\dm 217 #[a' a,G.val] fF λfU bD cy ej=>u ej/\aR ej H.cells.toArray 158 λdx fx=>u fx/\de 125 (ad (bk dx) 1 1) (ad fU bD cy) fx λdg cp bx dX=>u dX/\Calls prog 213 #[a' a,ad dg cp bx,ab 3] dX λe fV=>∃ (cY:ak) (cz cS:Nat),bA.ex λe6=>∃ (fg:Bool),e=.returned (.tuple #[ad cY cz cS,e6.val,ae fg])/\u fV/\a8 fV (af K 0) 0 e6.cells λfk=>ea fk (af K 0) λcu=>a8 fk (af C 0) 0 cu.cells λL=>ea L (af C 0) λdv=>L=L/\R (.tuple #[dv.val,ae fg]) L)/\aR dS #[ab 0,ab 0] 171 λT fC=>u fC/\eS 218 #[a' a,dG.val] fC λez fK=>u fK/\(aR fK ez.cells.toArray 158 λbX ek=>u ek/\dm 217 #[a' a,G.val] ek λbC di bj ec=>u ec/\de 125 (ad (bk bX) 1 1) (ad bC di bj) ec λB dC cQ e9=>u e9/\Calls prog 213 #[a' a,ad B dC cQ,ab 3] e9 λe eg=>∃ (cU:ak) (du cZ:Nat),bA.ex λeW=>∃ (eR:Bool),e=.returned (.tuple #[ad cU du cZ,eW.val,ae eR])/\u eg/\a8 eg (af T 0) 0 eW.cells λeG=>ea eG (af T 0) λdn=>a8 eG (af C 0) 0 dn.cells λO=>ea O (af C 0) λbr=>O=O/\R (.tuple #[br.val,ae eR]) O)/\dm 217 #[a' a,G.val] fK λcB cm aZ fA=>u fA/\aR fA ez.cells.toArray 158 λbq eQ=>u eQ/\de 125 (ad (bk bq) 1 1) (ad cB cm aZ) eQ λfT b0 bN fB=>u fB/\Calls prog 213 #[a' a,ad fT b0 bN,ab 3] fB λe eO=>∃ (cn:ak) (aB ah:Nat),bA.ex λfj=>∃ (ey:Bool),e=.returned (.tuple #[ad cn aB ah,fj.val,ae ey])/\u eO/\a8 eO (af T 0) 0 fj.cells λfD=>ea fD (af T 0) λdz=>a8 fD (af C 0) 0 dz.cells λY=>ea Y (af C 0) λcI=>Y=Y/\R (.tuple #[cI.val,ae ey]) Y)):=by kernel_rfl
theorem XJ:bd prog f208 [a' a,ab i,ad s b c,ab k] R w=(aR w #[ab 0,ab 0] 171 λx y=>b_ y (af a 6) λt d f=>cond ((d:Int) == 0) (a8 y (af x 0) 0 [ab 0,ab 0] λu=>ea u (af x 0) λo=>u=u/\R (.tuple #[o.val,ae true]) u) (dm 237 #[a' a,.agg #[ab 2,ab 0,ab i,ab 0,ah 0,ah 0,ad s b c,ah 0,ab 0]] y λg h j D=>Calls prog 213 #[a' a,ad g h j,ab k] D λe C=>∃ B l m,bA.ex λp=>∃ n,e=.returned (.tuple #[ad B l m,p.val,ae n])/\aR C #[ab 0,ab 0] 171 λA E=>a8 E (af A 0) 0 p.cells λz=>ea z (af A 0) λr=>a8 z (af x 0) 0 r.cells λv=>ea v (af x 0) λq=>v=v/\R (.tuple #[q.val,ae n]) v)):=by kernel_rfl
end
end Go.Proofs.YtmkljjbioomepaaGreat
