import Derived.Test.YtmkljjbioomepaaGreate18
set_option linter.all false
set_option maxHeartbeats 4000000
set_option maxRecDepth 100000
namespace Go.Proofs.YtmkljjbioomepaaGreat
open Go.Proofs.Tryz Go.bn
variable {A M:a2} {B b cap aT n tb:Nat} {a:an} {u bo bH w w0:al} {zs:aw}
section
def jm:List aC->Int
 | []=>0
 |d::ds=>if d.code=0 then jm ds else d.code
theorem Hy {ds:List aC} {i:Nat} {x:aC} (h:ds[i]?=some x):jm (ds.drop i)=if x.code=0 then jm (ds.drop (i+1)) else x.code:=by have a:=cz h;rw [qa a];rw [bM a] at h;cases h;rfl
theorem BH (hw:ai w0 w) {c:Nat} {raw:List bF} {ds:List aC} (C:n=raw.length) (E:bg w0 a (fq raw).flatten) (aA:gi A w0 raw ds) (t:raw.length<=1000000):ba 242 [.slice a n c] w λx w'=>x=.int .i64 (jm ds)/\ai w w':=by
 subst C;refine bc Tryz.func242 ?_;rw [Gp];have B:=aA.1;refine c1 mix (λm env u=>∃ (i:Nat) (y:aw),m=raw.length - i/\i<=raw.length/\env=vL a raw.length c raw.length i y/\ai w u/\jm ds=jm (ds.drop i)) raw.length
  ⟨0,_,by omega,by omega,rfl,ao.refl _ _,rfl⟩ ?_
 rintro m env u ⟨i,y,rfl,F,rfl,f,p⟩;rw [So];refine a9 (λD=>?_) (λD=>?_)
 ·have s:i<raw.length:=by omega
  have r:raw[i]?=some raw[i]:=bM s;obtain ⟨x,j⟩:∃ x,ds[i]?=some x:=⟨_,bM (by omega)⟩;have h:=aA.2 i _ _ r j;generalize raw[i]=d at r h;have g:=h.code;rw [Hy j] at p;refine ew (cells:=bF.cells) bF.len (by omega) (E.new (hw.new f)) r rfl rfl λb o q _=>bF.aS d ⟨q,?_⟩
  refine dU (vs:=d.cells) rfl (bF.single _) λb1 G z l k=>⟨_,l.cell (i:=0) rfl,dt (λe=>⟨_,l.cell (i:=0) rfl,?_,f.new k⟩) (λe=>?_)⟩
  ·rw [p,if_neg (by omega),g]
  ·rw [bA (x:=(i:Int)+1) (by omega) (by omega)];exact ⟨raw.length - (i+1),by omega,i+1,_,rfl,by omega,rfl,f.new k,by rw [p,if_pos (by omega)]⟩
 ·rw [S3];refine ⟨?_,f⟩;rw [p,List.drop_of_length_le (by omega)];rfl
structure b2 where
 ok:Bool
 done:List aC
 out:Int×Int
 a7:List (List aC)
 ask:Option (List aG)
 di:Bool
def cd (G:List (List aC)) (vs:List aG) (a:Int):b2:=
 if (batch G vs).ok=false then ⟨false,[],(0,0),(batch G vs).a7,(batch G vs).ask,(batch G vs).di⟩
 else if jm (batch G vs).done≠0 then ⟨false,[],(jm (batch G vs).done,a),(batch G vs).a7,none,false⟩
 else ⟨true,(batch G vs).done,(0,0),(batch G vs).a7,none,false⟩
structure ek (A:a2) (w0 u:al) (tb:Nat) (T:ee) (G:List (List aC)):Prop where
 ak:av u tb T.cells og
 a7:hj A w0 T.gA G
 dA:T.dA=G.length
 gc:T.dA<=T.gc
theorem ek.new {T:ee} {G:List (List aC)} (h:ek A w0 u tb T G) (a:ai u bo):ek A w0 bo tb T G:=⟨ai.ak a h.ak,h.a7,h.dA,h.gc⟩
theorem ek.ax {T:ee} {G:List (List aC)} (h:ek A w0 u tb T G) (b:ao M u bo) (a:¬ M tb):ek A w0 bo tb T G:=⟨b.ak h.ak a,h.a7,h.dA,h.gc⟩
structure fX (A:a2) (w0 u:al) (tb B:Nat) (R:b2) (bo:al):Prop where
 ax:ao (λk=>k=tb) u bo
 hp:∃ hM:ee,ek A w0 bo tb hM R.a7/\hM.di=R.di/\(match R.ask with
  |none=>hM.cW=0
  |some vs=>0<vs.length/\∃ w1,ai w0 w1/\B<=w1.heap.size/\bD w1 bo hM.aa hM.cW hM.ac vs)
structure fz (T:ee):Prop where
 cW:T.cW=0
 di:T.di=false
theorem fX.new {A:a2} {w0 u bo a:al} {tb B:Nat} {R:b2} (h:fX A w0 u tb B R bo) (c:ai bo a):fX A w0 u tb B R a:=by
 obtain ⟨k,e,l,hw,b⟩:=h;refine ⟨k.new c,e,l.new c,hw,?_⟩;cases d:R.ask with
 |none=>rw [d] at b;exact b
 |some vs=>rw [d] at b;obtain ⟨f,w1,g,i,j⟩:=b;exact ⟨f,w1,g,i,j.new c⟩
theorem lM (au:av u b zs er) (i:zs.length=2) (c f:Int) {K:bq->aE} (h:∀ g,ao (λk=>k=b) u g->K ⟨c,f⟩ g) :
  dR u ⟨b,0,none⟩ 0 [(.int .i64 c),(.int .i64 f)]/\∀ a,a=cl u ⟨b,0,none⟩ 0 [(.int .i64 c),(.int .i64 f)]->bq.ex λres=>b7 a ⟨b,0,none⟩ 0 res.cells/\a=a/\K res a:=
 dC au (vs:=bq.cells ⟨c,f⟩) (by rw [i];rfl) (bq.single _) λa e d=>bq.aS ⟨c,f⟩ ⟨bI e rfl,rfl,h a d⟩
theorem Ce {G:List (List aC)} {vs ws:List aG} (h:(batch G vs).ask=some ws):0<vs.length:=by
 unfold batch at h;split at h
 ·cases h
 ·omega
theorem rU {r:cU} {m:aO} {j:b_} (Z:eR w0 u aT tb r m j) {T:ee} {G:List (List aC)} (Ur:ek A w0 u tb T G) (F:fz T) {w1:al} (Uo:ai w0 w1) (Um:tb<w1.heap.size) {vs:List aG} (aj:bD w1 u a n cap vs) (Ut:vs.length<=100000) (f:Int) :
  ba 213 [ptr aT,.slice a n cap,.int .i64 f] u λv bo=>∃ (dk:an) (dc:Nat) (raw:List bF),v=.tuple #[.slice dk raw.length dc,bq.val ⟨(cd G vs f).out.1,(cd G vs f).out.2⟩,.bool (cd G vs f).ok]/\
   fX A w0 u tb w1.heap.size (cd G vs f) bo/\bg w0 dk (fq raw).flatten/\gi A w0 raw (cd G vs f).done/\(raw=[]\/raw.length=vs.length):=by
 refine bc Tryz.func213 ?_;rw [ptr,Rz];rintro b1 bH W O;obtain ⟨D,o⟩:=bk W O;have D:av bH b1 (bq.cells ⟨0,0⟩) er:=D;clear O;have z:=Z.bw o;have p:=Ur.new o;have C:=aj.new o;obtain ⟨S,w,P⟩:=C.ex;have UD:=P.1;have Ul:=C.len;have UA:=o.size;have UB:=Ur.ak.lt;have Y:b1≠tb:=by omega
 refine ⟨_,z.ak.cell (i:=7) rfl,?_⟩;have K:n=S.length:=by omega
 rw [K] at w;have Uq:=Cb (A:=A) z.new Z.ki p.ak p.a7 p.dA p.gc (aa:=a) (ac:=cap) w.rd P (by omega);rw [<-K] at Uq;refine aD Uq ?_;rintro v bY ⟨Up,dk,dc,raw,rfl,X,q,N,B,H,Uj,Ui,Q,h⟩;rw [F.di,Bool.false_or] at Q;have E:av bY b1 (bq.cells ⟨0,0⟩) er:=q.ak D Y;have UC:bD w1 bY a n cap vs:=C.ax q λk e=>by omega
 have I:ao (λk=>k=tb) u bY:=(ao.bZ o).trans q λ_ _ e=>e
 have b:(batch G vs).done.length=raw.length:=B.1.symm;refine ⟨_,_,_,_,rfl,?_⟩;have fin:∀ {br y:al},ai bY br->ao (λk=>k=b1) br y->∀ {R:b2},R.a7=(batch G vs).a7->R.di=(batch G vs).di->R.ask=(batch G vs).ask->fX A w0 u tb w1.heap.size R y:=by
  intro br y l g R Uu Uv Uw;have t:ao (λk=>k=b1) bY y:=(ao.bZ l).trans g λ_ _ e=>e
  have s:ao (λk=>k=tb) u y:=I.trans t λk Uk e=>by omega
  refine ⟨s,Up,?_,by rw [Q,Uv],?_⟩
  ·rw [Uu];exact ⟨t.ak X (by omega),H,Uj,Ui⟩
  ·rw [Uw];cases U:(batch G vs).ask with
   |none=>rw [U] at h;obtain ⟨_,V,_⟩:=h;show Up.cW=0;rw [V];exact F.cW
   |some ws=>rw [U] at h;obtain ⟨Ux,V,Uy⟩:=h;have:=Ab U;subst this;refine ⟨Ce U,w1,Uo,dd _,?_⟩;rw [Ux,V,Uy,<-Ul];exact aj.ax s λk e=>e▸Um
 unfold cd;have Uz:=@pP G vs;refine dZ (λc=>?_) (λc=>?_)
 ·rw [if_pos c];exact lM E rfl 0 0 λy g=>⟨none,0,[],rfl,fin (ao.refl _ _) g rfl rfl rfl,.inl rfl,⟨rfl,λi v x aj=>by simp at aj⟩,.inl rfl⟩
 ·rw [if_neg (by rw [c];simp)];obtain ⟨L,M⟩:=BC c;have J:ai w0 bY:=z.new.trans q λk Uk e=>by have:=Z.ki;omega
  refine aD (BH J rfl N B (by omega)) ?_;rintro v br ⟨rfl,l⟩;refine ⟨_,rfl,dt (λe=>?_) (λe=>?_)⟩
  ·rw [if_pos e];exact lM (ai.ak l E) rfl _ _ λy g=>⟨none,0,[],rfl,fin l g rfl M.symm L.symm,.inl rfl,⟨rfl,λi v x aj=>by simp at aj⟩,.inl rfl⟩
  ·rw [if_neg (by simpa using e)];refine lM (ai.ak l E) rfl 0 0 λy g=>⟨dk,dc,raw,rfl,fin l g rfl M.symm L.symm,N,B,?_⟩
   by_cases Un:vs.length=0
   ·exact .inl (fb (by omega))
   ·right;unfold batch at c b;rw [if_neg Un] at c b;cases G with
    |nil=>cases c
    |cons d G'=>
     simp only at c b;split at c
     ·rename_i Us;rw [if_pos Us] at b;have:=wH Us;simp only at b;omega
     ·cases c
theorem NM {r:cU} {bJ:aO} {j:b_} (h:eR w0 w aT tb r bJ j) {v:aF} {x:aG} (aj:cA M w v x) :
  ba 237 [ptr aT,v.val] w λy w'=>∃ (a:an) (cap:Nat),y=.slice a j.v.mem.length cap/\bD w w' a j.v.mem.length cap (j.v.mem.map λm=>addr j.v.number m x)/\ai w w':=by
 refine bc Tryz.func237 ?_;rw [ptr,Ro];rintro b1 w1 F D;obtain ⟨d,l⟩:=bk F D;have d:av w1 b1 v.cells cr:=d;clear D;have E:=h.bw l;obtain ⟨Up,g⟩:=h.bs.view;have hlen:=g.len;have Z:=h.ca.mem;have L:=l.size;have Uj:=d.lt;refine ⟨_,_,_,E.ak.cell (i:=4) rfl,?_⟩;refine c1 mix (λq env u=>∃ (i:Nat) (aX:an) (pc:Nat) (T:aw),q=j.v.mem.length - i/\i<=j.v.mem.length/\env=ve ⟨aT,0,none⟩ ⟨b1,0,none⟩ aX i pc r.View.e8 r.View.eM r.View.fv r.View.eM i T/\ai w1 u/\bD w1 u aX i pc ((j.v.mem.take i).map λm=>addr j.v.number m x)/\av u b1 v.cells cr/\eR w0 u aT tb r bJ j) j.v.mem.length
  ⟨0,none,0,_,rfl,by omega,rfl,ao.refl _ _,bD.nil _ _,d,E⟩ ?_
 rintro q env u ⟨i,aX,pc,T,rfl,Us,rfl,n,f,d,s⟩;rw [P4,hlen];have B:ai w0 u:=E.new.new n;refine a9 (λUk=>?_) (λY=>?_)
 ·obtain ⟨m,hm⟩:∃ m,j.v.mem[i]?=some m:=⟨_,bM (by omega)⟩;have Ul:=h.ca.dQ m (cj hm);refine ew (cells:=aO.cells) aO.len (by omega) (g.rd.new B) hm rfl rfl λb o H _=>aO.aS m ⟨H,?_⟩
  refine dU (vs:=m.cells) rfl (aO.single _) λUq bY X Q c=>?_
  refine aO.aS m ⟨bI Q rfl,aF.aS v ⟨bI (ai.ak c d) rfl,?_⟩⟩;have O:cA M bY v x:=aj.ax (ao.bZ ((l.new n).new c)) λ_ _ e=>e
  have p:=re (s.bw c) (m:=m) (by unfold dO;omega) O;refine aD p ?_;rintro y br ⟨Uo,rfl,N,t⟩;refine aF.aS Uo ⟨rfl,?_⟩;rintro Ur Ut G P;have Un:=c.size;refine bD.lk (f.new c) (n.new c) t N (by omega) G P λap z u8 R A K=>?_
  have C:¬ aL aX b1:=λe=>by have W:=f.fO _ e;omega
  rw [bA (x:=(i:Int)+1) (by omega) (by omega)];have e:(j.v.mem.take i).map (λm=>addr j.v.number m x)++[addr j.v.number m x]=(j.v.mem.take (i+1)).map λm=>addr j.v.number m x:=by rw [eT,hm];simp
  rw [e] at R;refine ⟨j.v.mem.length - (i+1),by omega,i+1,ap,z,_,rfl,by omega,by rw [<-hlen];rfl,K,R,A.ak (ai.ak (c.new t) d) C,(s.bw (c.new t)).ax A λk S=>?_⟩;have W:=f.fO k S;have V:=h.new.size;refine ⟨by omega,λe=>?_⟩
  obtain ⟨U,Um,_⟩:=f.ex;obtain ⟨cs,I⟩:=fm Um S;exact absurd (e▸I |>.ne s.ak (by decide)) (λUi=>Ui rfl)
 ·have J:i=j.v.mem.length:=by omega
  subst J;rw [Qs];rw [hq] at f;exact ⟨aX,pc,rfl,f.mono L,l.new n⟩
def hV (R:b2) (f:List (List aC)->b2):b2:=if R.ok then f R.a7 else R
def n6 (G:List (List aC)):b2:=⟨true,[],(0,0),G,none,false⟩
def nH (j:b_) (at_:Int) (ws:a4):List aG:=j.v.mem.map λm=>addr j.v.number m ⟨2,0,at_,0,0,0,ws,0,0⟩
def mH (j:b_) (G:List (List aC)) (at_:Int) (ws:a4) (a:Int):b2:=if j.writes=[] then n6 G else cd G (nH j at_ ws) a
def qw (j:b_) (G:List (List aC)):b2:=mH j G (eQ j.aP+8) (eD j.seq j.writes) 1
def pd (j:b_) (G:List (List aC)):b2:=mH j G (eQ j.aP) [eg j.seq] 2
def km (A:a2) (w0 u:al) (tb B:Nat) (R:b2) (v:a0) (bo:al):Prop:=v=.tuple #[bq.val ⟨R.out.1,R.out.2⟩,.bool R.ok]/\fX A w0 u tb B R bo
theorem fX.skip {T:ee} {G:List (List aC)} (c:ek A w0 u tb T G) (a:fz T) (b:ai u bo):fX A w0 u tb B (n6 G) bo:=
 ⟨ao.bZ b,T,c.new b,a.di,a.cW⟩
theorem fX.put {bY br j:al} {B':Nat} {R:b2} (h:fX A w0 bH tb B R bY) (s:ai u bH) (a:ai bY br) (f:ao (λk=>k=b) br j) (y:u.heap.size<=b) (q:b<B) (d:b≠tb) (x:B'<=B):fX A w0 u tb B' R j:=by
 obtain ⟨g,l,t,hw,c⟩:=h;refine ⟨(((ao.bZ s).trans g λ_ _ e=>e).new a).trans f λk r e=>by omega,l,(t.new a).ax f λe=>d e.symm,hw,?_⟩;cases i:R.ask with
 |none=>rw [i] at c;exact c
 |some vs=>rw [i] at c;obtain ⟨n,w1,o,w,p⟩:=c;exact ⟨n,w1,o,by omega,(p.new a).ax f λk e=>by omega⟩
theorem Dq (au:av u b zs er) (l:zs.length=2) (o:bq) {K:bq->aE} (j:∀ br i,ai u br->ao (λk=>k=b) br i->K o i) :
  ∀ az g,az=u.heap.size->g=u.alloc (.cells #[.int .i64 0,.int .i64 0] er)->dR g ⟨az,0,none⟩ 0 o.cells/\∀ c,c=cl g ⟨az,0,none⟩ 0 o.cells->bq.ex λr=>b7 c ⟨az,0,none⟩ 0 r.cells/\dR c ⟨b,0,none⟩ 0 r.cells/\∀ a,a=cl c ⟨b,0,none⟩ 0 r.cells->bq.ex λres=>b7 a ⟨b,0,none⟩ 0 res.cells/\a=a/\K res a:=by
 refine dU (zs:=[.int .i64 0,.int .i64 0]) (vs:=o.cells) rfl (bq.single _) λaz c n e h=>?_
 refine bq.aS o ⟨bI e rfl,dC (ai.ak h au) (by rw [l];rfl) (bq.single _) λa f d=>?_⟩;exact bq.aS o ⟨bI f rfl,rfl,j c a h d⟩
theorem Dr {r:cU} {m:aO} {j:b_} (z:eR w0 u aT tb r m j) {T:ee} {G:List (List aC)} (J:ek A w0 u tb T G) (p:fz T) {at_:Int} {ws:a4} (hw:j.writes≠[]->bg u a (us ws)/\n=ws.length/\n<=cap/\(a=none->ws=[])/\(∀ x ∈ ws,b3 x)/\ws.length<=1000000) (b:Int) :
  ba 208 [ptr aT,.int .i64 at_,.slice a n cap,.int .i64 b] u (km A w0 u tb u.heap.size (mH j G at_ ws b)):=by
 refine bc Tryz.func208 ?_;rw [ptr,Rp];rintro b1 bH y w;obtain ⟨d,c⟩:=bk y w;have d:av bH b1 (bq.cells ⟨0,0⟩) er:=d;clear w;have f:=z.bw c;have o:=J.new c;have hlen:=z.bs.fR.len;have s:=c.size;have q:=d.lt;have S:=J.ak.lt;unfold mH;refine ⟨_,_,_,f.ak.cell (i:=6) rfl,dJ (λe=>?_) (λe=>?_)⟩
 ·have k:j.writes=[]:=fb (by omega);rw [if_pos k];exact lM d rfl 0 0 λK C=>⟨rfl,(fX.skip (B:=bH.heap.size) o p (ao.refl _ _)).put c (ao.refl _ _) C (by omega) q (by omega) s⟩
 ·have k:j.writes≠[]:=λL=>by rw [L] at hlen;simp at hlen <;> omega
  rw [if_neg k];obtain ⟨M,N,O,P,Q,R⟩:=hw k;have F:cA (λ_=>False) bH ⟨2,0,at_,0,0,0,a,n,cap,0,0⟩ ⟨2,0,at_,0,0,0,ws,0,0⟩:=oP (M.new c) N O P Q R gQ gQ;have l:=NM f F;refine aD l ?_;rintro v bY ⟨aa,ac,rfl,H,h⟩;refine ⟨_,_,_,rfl,?_⟩;have g:=rU (f.bw h) (o.new h) p f.new (w1:=bH) (by omega) H (by rw [fc];have:=z.ca.mem;omega) b;refine aD g ?_;rintro v K ⟨dk,dc,raw,rfl,t,_⟩;refine ⟨_,_,_,bq.aS ⟨(cd G (nH j at_ ws) b).out.1,(cd G (nH j at_ ws) b).out.2⟩ ⟨(cd G (nH j at_ ws) b).ok,rfl,?_⟩⟩;have I:av K b1 (bq.cells ⟨0,0⟩) er:=t.ax.ak (ai.ak h d) (by omega);refine Dq I rfl _ λU V E D=>⟨rfl,t.put (c.new h) E D (by omega) q (by omega) s⟩
end
section
theorem Lu {r:bN} {W:List aR} (h:eY w r.ef r.dF W) (aj:ff r.Seq W 256≠0):ba 210 [r.val] w λv w'=>v=.slice none 0 0/\ai w w':=by refine bc Tryz.func210 ?_;rw [Fw];rintro b1 w1 c b;obtain ⟨au,a⟩:=bk c b;have au:av w1 b1 r.cells 271:=au;clear b;refine bN.aS r ⟨bI au rfl,?_⟩;refine aD (wG (h.new a) 256) ?_;rintro v f ⟨rfl,d⟩;exact ⟨_,rfl,dt (λe=>⟨rfl,a.new d⟩) (λe=>absurd e aj)⟩
theorem Jm (w:al) (s:Int):ba 214 [.int .i64 s] w λv w'=>∃ x e:Int,v=.tuple #[.int .u64 x,.int .i64 e]/\w'=w/\(1<=s/\s<1073741824->x=eg s):=by
 refine bc Tryz.func214 ?_;rw [zi];refine aD (rz w s 1 1073741823) ?_;rintro v w1 ⟨rfl,rfl⟩;refine ⟨_,rfl,dZ (λa=>⟨_,_,rfl,rfl,λe=>absurd (of_decide_eq_false a) (by omega)⟩) (λ_=>⟨_,_,rfl,rfl,λe=>?_⟩)⟩
 rw [jV (x:=s) (by omega) (by omega)];rfl
theorem Cf {seq:Int} {W:List aR} (g:b3 seq) (h:W.length<=12) (cB:∀ p ∈ W,b3 p.bm/\b3 p.Head/\∀ x ∈ gZ p,b3 x):∀ x ∈ eD seq W,b3 x:=by
 intro x a;unfold eD nN at a;rcases gH.1 a with a | a
 ·rcases dy.1 a with rfl | a
  ·exact g
  rcases dy.1 a with rfl | a
  ·unfold b3;omega
  obtain ⟨l,b,a⟩:=kZ.1 a;obtain ⟨p,f,rfl⟩:=cD.1 b;obtain ⟨c,d,e⟩:=cB p f;rcases dy.1 a with rfl | a
  ·exact c
  rcases dy.1 a with rfl | a
  ·exact d
  exact e x a
 ·simp at a;subst a;exact KO _
def n7 (j:b_):Prop:=∀ p ∈ j.writes,∀ x ∈ gZ p,b3 x
theorem Na {r:cU} {m:aO} {j:b_} (F:eR w0 u aT tb r m j) (aA:n7 j) {T:ee} {G:List (List aC)} (X:ek A w0 u tb T G) (P:fz T) :
  ba 172 [ptr aT] u (km A w0 u tb u.heap.size (qw j G)):=by
 refine bc Tryz.func172 ?_;rw [ptr,RA];rintro b1 bH O K;obtain ⟨l,J⟩:=bk O K;have l:av bH b1 (bq.cells ⟨0,0⟩) er:=l;clear K;rintro bY L;have w:ai bH bY:=by rw [L];exact cL _
 clear L;have k:=J.new w;have h:=F.bw k;have N:=X.new k;have Ul:=J.size;have Um:=w.size;have Uk:=l.lt;have Uo:=X.ak.lt;have Q:=F.bs.aP;have I:=F.bs.seq;have t:=F.ca;have Uj:=t.aP;have H:=t.rK;refine ⟨λy=>av y aT (k_ r tb m) lE,h.ak,_,λy V=>V.cell (i:=0) rfl,cU.aS r ⟨λy V=>bI V rfl,?_⟩⟩;refine aD (Cd bY (by omega)) ?_;rintro v br ⟨rfl,rfl⟩;refine ⟨_,rfl,h.ak,?_⟩;refine aD (BA br r) ?_;rintro v Z ⟨rfl,z⟩;refine bN.aS _ ⟨rfl,(h.bw z).ak,?_⟩;have q:=h.bw z;have B:eY Z r.ef r.dF j.writes:=F.bs.fR.new q.new;have fin:∀ {E:al} {a:an} {n cap:Nat},ai Z E->(j.writes≠[]->bg E a (us (eD j.seq j.writes))/\n=(eD j.seq j.writes).length/\n<=cap/\(a=none->eD j.seq j.writes=[])/\(∀ x ∈ eD j.seq j.writes,b3 x)/\(eD j.seq j.writes).length<=1000000)->
   Calls prog 208 #[(.pointer (some ⟨aT,0,none⟩)),(.int .i64 (eQ r.Client+8)),(.slice a n cap),(.int .i64 1)] E λe W=>bq.ex λo=>∃ b:Bool,e=.returned (.tuple #[o.val,(.bool b)])/\av W aT (k_ r tb m) lE/\dR W ⟨b1,0,none⟩ 0 o.cells/\∀ M,M=cl W ⟨b1,0,none⟩ 0 o.cells->bq.ex λres=>b7 M ⟨b1,0,none⟩ 0 res.cells/\M=M/\km A w0 u tb u.heap.size (qw j G) (.tuple #[res.val,(.bool b)]) M:=by
  intro E a n cap f hw;have c:=z.new f;have s:=Dr (A:=A) (h.bw c) (N.new c) P (at_:=eQ j.aP+8) hw 1;rw [Q];refine aD s ?_;rintro v Uq ⟨rfl,C⟩;have Un:=c.size;refine bq.aS _ ⟨_,rfl,C.ax.ak (h.bw c).ak F.ne,?_⟩;exact lM (C.ax.ak (ai.ak (w.new c) l) (by omega)) rfl _ _ λUr R=>⟨rfl,C.put (k.new c) (ao.refl _ _) R (by omega) (by omega) (by omega) (by omega)⟩
 by_cases D:j.writes=[]
 ·have S:ff r.Seq j.writes 256≠0:=λe=>by have:=(jD e).2.1.2.2.1;rw [D] at this;simp at this
  refine aD (Lu (r:=⟨r.Seq,r.ef,r.dF,r.gT⟩) B S) ?_;rintro v E ⟨rfl,f⟩;exact ⟨_,_,_,rfl,(q.bw f).ak,fin f λe=>absurd D e⟩
 ·obtain ⟨aj,Y⟩:=t.wr D;rw [<-I] at aj Y;refine aD (w_ (r:=⟨r.Seq,r.ef,r.dF,r.gT⟩) B aj Y H t.wl) ?_;rintro v E ⟨a,cap,rfl,f,d,Ui⟩;refine ⟨_,_,_,rfl,(q.bw f).ak,fin f λ_=>?_⟩
  have d:aY E 30 1 a (3+9 * j.writes.length) cap (us (eD j.seq j.writes)):=by rw [<-I];exact d
  refine ⟨d.rd,(kE _ _).symm,aY.le d,λe=>?_,Cf (by unfold b3;omega) H λp U=>?_,by rw [kE];omega⟩
  ·rcases d.2 with ⟨Up,_,_⟩ | ⟨g,cur,t,_⟩
   ·omega
   ·rw [t] at e;cases e
  ·have:=t.wl p U;exact ⟨by unfold b3;omega,B.u64 p U,aA p U⟩
theorem Lv {r:cU} {m:aO} {j:b_} (p:eR w0 u aT tb r m j) {T:ee} {G:List (List aC)} (D:ek A w0 u tb T G) (t:fz T) :
  ba 174 [ptr aT] u (km A w0 u tb u.heap.size (pd j G)):=by
 refine bc Tryz.func174 ?_;rw [ptr,RB];rintro b1 bH q l;obtain ⟨d,c⟩:=bk q l;have d:av bH b1 (bq.cells ⟨0,0⟩) er:=d;clear l;have g:=p.bw c;have J:=c.size;have I:=d.lt;have L:=D.ak.lt;have w:=p.bs.aP;have z:=p.bs.seq;have E:=p.ca;have H:=E.aP;refine ⟨_,g.ak.cell (i:=1) rfl,?_⟩;refine aD (Jm bH r.Seq) ?_;rintro v bY ⟨x,e,rfl,rfl,M⟩;refine ⟨_,_,rfl,_,g.ak.cell (i:=0) rfl,?_⟩;refine aD (xC bY (by omega)) ?_;rintro v br ⟨rfl,rfl⟩;refine ⟨_,rfl,?_⟩;rintro az N s o;obtain ⟨f,b⟩:=bk s o;have f:av N az (us [x]) nx:=f;clear o;have K:=b.size;rw [w];have h:=Dr (A:=A) (g.bw b) ((D.new c).new b) t (a:=some ⟨az,0,none⟩) (n:=1) (cap:=1) (at_:=eQ j.aP) (ws:=[eg j.seq]) (λhw=>by obtain ⟨_,O⟩:=E.wr hw;have C:=M (by omega);rw [C,z] at f;exact ⟨e9 f rfl,rfl,by omega,(λe=>by cases e),(λy F=>by simp at F;subst F;exact xB _),by simp⟩) 2
 refine aD h ?_;rintro v P ⟨rfl,k⟩;refine bq.aS _ ⟨_,rfl,?_⟩;exact lM (k.ax.ak (ai.ak b d) (by omega)) rfl _ _ λQ B=>⟨rfl,k.put (c.new b) (ao.refl _ _) B (by omega) (by omega) (by omega) (by omega)⟩
theorem wu (l:List aF):(l.map aF.cells).flatten=(dz l).flatten:=rfl
theorem bD.sD {F:al} {G:an} {r H:Nat} {vs q:List aG} (h:bD w0 bH a n cap vs) (I:ai w0 bH) (M:bD F bH G r H q) (p:∀ k,aL a k->k<F.heap.size) (R:w0.heap.size<=F.heap.size) (S:n+r<=100000) {K:an->Nat->Nat->aE}
  (B:∀ ap f i,bD w0 i ap (n+r) f (vs++q)->ao (aL a) bH i->ai w0 i->K ap (n+r) f i) :
  ∃ (ap:an) (d c:Nat),∃ i,(Builtin.append_ #[fV,fV] fV #[(.slice a n cap),(.slice G r H)]).run prog bH=.ok (.slice ap d c) i/\K ap d c i:=by
 obtain ⟨⟨o,P,E⟩,O,u⟩:=h;obtain ⟨⟨b,C,j⟩,w,J⟩:=M;obtain ⟨inf,N,au,y,A⟩:=fp (T:=cr) (z:=.agg #[.int .i64 0,.int .i64 0,.int .i64 0,.int .i64 0,.int .u64 0,.int .u64 0,.slice none 0 0,.int .u64 0,.int .i64 0]) (n:=9) (m:=88) (by kernel_rfl);have Q:=I.size;refine p4 (cells:=aF.cells) (sz:=9) aF.len aF.single Tryz.underlying125 N au (by rw [y];rfl) y (by decide) (by rw [A];decide) (l:=o) (by rw [wu];exact P) (l2:=b) (m:=r) (by rw [wu];exact C.rd) (by rw [j.1];exact w) (by omega) λap f i L g s=>?_
 have t:∀ k,aL ap k->w0.heap.size<=k:=λk B=>by
  rcases s k B with e | e
  ·exact u k e
  ·omega
 refine B ap f i ⟨⟨o++b,L,?_⟩,by rw [c8,O,w],t⟩ g (I.trans g λk p e=>by have:=u k e;omega);have x:∀ k,k<bH.heap.size->(k<w0.heap.size\/aL ap k)->(k<w0.heap.size\/aL a k):=λk p e=>e.imp id λe=>by
  rcases s k e with e | e
  ·exact e
  ·omega
 refine dX.app (E.ax (g.mono λk _ e=>.inr e) x) ?_;have D:dX (λk=>k<w0.heap.size\/aL a k) bH b q:=j.ax (ao.refl _ _) λk _ e=>by
  rcases e with e | e
  ·left;omega
  ·left;exact p k e
 exact D.ax (g.mono λk _ e=>.inr e) x
def jH (j:b_) (m:aO):List aG:=if j.writes=[] then [] else j.writes.map (iZ j m)++[kN j m]
def hW (j:b_):List aG:=(j.v.mem.tail.map (jH j)).flatten
def i_ (j:b_) (G:List (List aC)):b2:=cd G (hW j) 3
theorem KS (j:b_) (m:aO):(jH j m).length<=j.writes.length+1:=by
 unfold jH;split
 ·simp
 ·simp
theorem Do {α:Type} {b:Nat}:∀ (l:List (List α)),(∀ x ∈ l,x.length<=b)->l.flatten.length<=l.length * b
 | [],_=>by simp
 |x::l,h=>by
  have c:=h x d_;have d:=Do l λy a=>h y (e2 _ a)
  rw [hr,c8,fU,hK];omega
theorem Lw {r:cU} {bJ:aO} {j:b_} (R:eR w0 u aT tb r bJ j) (aA:n7 j) {T:ee} {G:List (List aC)} (Ux:ek A w0 u tb T G) (Uj:fz T) :
  ba 175 [ptr aT] u (km A w0 u tb u.heap.size (i_ j G)):=by
 refine bc Tryz.func175 ?_;rw [ptr,Qq];rintro b1 bH X O;obtain ⟨p,C⟩:=bk X O;have p:av bH b1 (bq.cells ⟨0,0⟩) er:=p;clear O;have w:=R.bw C;have UQ:=C.size;have UN:=p.lt;have UU:=Ux.ak.lt;have S:=R.ca;have Ul:=S.mem;have UK:=S.rK;have hlen:=R.bs.fR.len;obtain ⟨U0,E⟩:=R.bs.view;refine cO.aS r.View ⟨bI w.ak rfl,?_⟩;refine aD (AJ (E.new w.new) Ul.1) ?_;rintro v bY ⟨UE,fH,rfl,g,Z⟩;refine ⟨_,_,_,rfl,?_⟩;have y:=w.bw g;have UR:=g.size;have Uz:j.v.mem.tail.length=j.v.mem.length - 1:=n0;refine c1 mix (λq env z=>∃ (i n:Nat) (aX:an) (pc:Nat) (UB:aw),q=j.v.mem.tail.length - i/\i<=j.v.mem.tail.length/\env=sG ⟨aT,0,none⟩ ⟨b1,0,none⟩ aX n pc UE (j.v.mem.length - 1) fH ((j.v.mem.length - 1:Nat):Int) i UB/\ai bY z/\bD bY z aX n pc (((j.v.mem.tail.take i).map (jH j)).flatten)) j.v.mem.tail.length
  ⟨0,0,none,0,_,rfl,by omega,rfl,ao.refl _ _,bD.nil _ _⟩ ?_
 rintro q env z ⟨i,n,aX,pc,UB,rfl,U4,rfl,d,a⟩;rw [O'];have f:=y.bw d;have UT:=d.size;have UV:=a.len;have Uy:n<=1000:=by
  have UF:=Do (b:=j.writes.length+1) ((j.v.mem.tail.take i).map (jH j)) λx UW=>by obtain ⟨m,_,rfl⟩:=cD.1 UW;exact KS j m
  rw [fc,gR] at UF;have U2:min i j.v.mem.tail.length * (j.writes.length+1)<=5 * 13:=o1 (by omega) (by omega);omega
 refine a9 (λUO=>?_) (λUJ=>?_)
 ·obtain ⟨m,hm⟩:∃ m,j.v.mem.tail[i]?=some m:=⟨_,bM (by omega)⟩;have UP:=S.dQ m (qi (cj hm));have I:dO m.ch:=by unfold dO;omega
  have H:((j.v.mem.tail.take (i+1)).map (jH j)).flatten=((j.v.mem.tail.take i).map (jH j)).flatten++jH j m:=by rw [eT,hm];simp
  refine ew (cells:=aO.cells) aO.len (by omega) (Z.new d) hm rfl (by omega) λb o Ui _=>aO.aS m ⟨Ui,?_⟩
  refine dU (vs:=m.cells) rfl (aO.single _) λUD UZ UI P c=>⟨_,_,_,(f.bw c).ak.cell (i:=6) rfl,?_⟩
  have US:=c.size;rw [bA (x:=(i:Int)+1) (by omega) (by omega)];refine a9 (λhw=>?_) (λhw=>?_)
  ·have l:j.writes≠[]:=λe=>by rw [e] at hlen;simp at hlen <;> omega
   obtain ⟨_,Uq⟩:=S.wr l;refine aO.aS m ⟨bI P rfl,?_⟩;refine aD (BG (f.bw c) aA I) ?_;rintro v U7 ⟨gA,gc,rfl,Us,h⟩;refine ⟨_,_,_,rfl,?_⟩;have M:∀ k,aL aX k->k<UZ.heap.size:=λk U=>by obtain ⟨t,L,_⟩:=a.ex;have:=L.lt U;omega
   refine bD.sD ((a.new c).new h) ((d.new c).new h) Us M (by omega) (by omega) λap Uv UC UH K D=>?_
   have J:eR w0 UC aT tb r bJ j:=((f.bw c).bw h).ax K λk U=>by
    have U3:=a.fO k U;have UG:=y.new.size;refine ⟨by omega,λe=>?_⟩
    obtain ⟨t,L,_⟩:=a.ex;obtain ⟨cs,Uk⟩:=fm L U;exact absurd (e▸Uk |>.ne f.ak (by decide)) (λUL=>UL rfl)
   have Q:av UC UD m.cells ed:=K.ak (ai.ak h P) λe=>by obtain ⟨t,L,_⟩:=a.ex;have:=L.lt e;omega
   refine aO.aS m ⟨bI Q rfl,?_⟩;refine aD (BF J Uq I) ?_;rintro v U8 ⟨UY,rfl,Ur,Uo⟩;refine aF.aS UY ⟨rfl,?_⟩;rintro U1 U9 Y Uu;refine bD.lk UH D Uo Ur (by omega) Y Uu λV F U_ Uw UM Up=>?_
   have W:((j.v.mem.tail.take i).map (jH j)).flatten++j.writes.map (iZ j m)++[kN j m]=((j.v.mem.tail.take (i+1)).map (jH j)).flatten:=by rw [H];unfold jH;rw [if_neg l,jW]
   rw [W] at Uw;exact ⟨j.v.mem.tail.length - (i+1),by omega,i+1,_,V,F,_,rfl,by omega,rfl,Up,Uw⟩
  ·have l:j.writes=[]:=fb (by omega);refine ⟨j.v.mem.tail.length - (i+1),by omega,i+1,n,aX,pc,_,rfl,by omega,rfl,d.new c,?_⟩;have W:jH j m=[]:=by unfold jH;rw [if_pos l]
   rw [H,W,g_];exact a.new c
 ·have Um:i=j.v.mem.tail.length:=by omega
  subst Um;rw [Pj];rw [hq] at a;have a:bD bY z aX n pc (hW j):=a;have UA:=a.len;have s:=(C.new g).new d;have B:=rU (A:=A) f (Ux.new s) Uj y.new (w1:=bY) (by omega) a (by omega) 3;refine aD B ?_;rintro v UX ⟨dk,dc,raw,rfl,N,_⟩;refine ⟨_,_,_,bq.aS ⟨(i_ j G).out.1,(i_ j G).out.2⟩ ⟨(i_ j G).ok,rfl,?_⟩⟩;have Ut:av UX b1 (bq.cells ⟨0,0⟩) er:=N.ax.ak (ai.ak (g.new d) p) (by omega);refine Dq Ut rfl _ λU5 U6 D Un=>⟨rfl,N.put s D Un (by omega) (by omega) (by omega) (by omega)⟩
end
end Go.Proofs.YtmkljjbioomepaaGreat
