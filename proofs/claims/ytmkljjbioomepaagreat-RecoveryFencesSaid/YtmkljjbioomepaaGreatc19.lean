import Derived.Test.YtmkljjbioomepaaGreatc18
set_option linter.all false
set_option maxHeartbeats 4000000
set_option maxRecDepth 100000
namespace Go.Proofs.YtmkljjbioomepaaGreat
open Go.Proofs.Tryz Go.br
variable {A M:a5} {B b cap aY n tb:Nat} {G:List (List aL)} {K:bB->aE} {T:gg} {a:al} {ds:List aL} {j:cS} {m bO:aZ} {r:dv} {u bq bE w w0:ak} {vs:List aP} {zs:ax}
section
def ho:List aL->Int
 | []=>0
 |d::ds=>if d.code=0 then ho ds else d.code
theorem H2 {i:Nat} {x:aL} (h:ds[i]?=some x):ho (ds.drop i)=if x.code=0 then ho (ds.drop (i+1)) else x.code:=by have a:=ch h;rw [oM a];rw [bF a] at h;cases h;rfl
theorem Cl (hw:ai w0 w) {c:Nat} {raw:List bR} (C:n=raw.length) (E:bh w0 a (fM raw).flatten) (ar:gS A w0 raw ds) (t:raw.length<=1000000):a_ 242 [.slice a n c] w λx w'=>x=.int .i64 (ho ds)/\ai w w':=by
 subst C;refine bc Tryz.func242 ?_;rw [Hq];have B:=ar.1;refine c2 mix (λm env u=>∃ (i:Nat) (y:ax),m=raw.length - i/\i<=raw.length/\env=w6 a raw.length c raw.length i y/\ai w u/\ho ds=ho (ds.drop i)) raw.length
  ⟨0,_,by omega,by omega,rfl,ao.refl _ _,rfl⟩ ?_
 rintro m env u ⟨i,y,rfl,F,rfl,f,p⟩;rw [Tf];refine a' (λD=>?_) (λD=>?_)
 ·have s:i<raw.length:=by omega
  have r:raw[i]?=some raw[i]:=bF s;obtain ⟨x,j⟩:∃ x,ds[i]?=some x:=⟨_,bF (by omega)⟩;have h:=ar.2 i _ _ r j;generalize raw[i]=d at r h;have g:=h.code;rw [H2 j] at p;refine eo (cells:=bR.cells) bR.len (by omega) (E.new (hw.new f)) r rfl rfl λb o q _=>bR.aS d ⟨q,?_⟩
  refine ea (vs:=d.cells) rfl (bR.single _) λb1 G z l k=>⟨_,l.cell (i:=0) rfl,dw (λe=>⟨_,l.cell (i:=0) rfl,?_,f.new k⟩) (λe=>?_)⟩
  ·rw [p,if_neg (by omega),g]
  ·rw [bC (x:=(i:Int)+1) (by omega) (by omega)];exact ⟨raw.length - (i+1),by omega,i+1,_,rfl,by omega,rfl,f.new k,by rw [p,if_pos (by omega)]⟩
 ·rw [Un];refine ⟨?_,f⟩;rw [p,List.drop_of_length_le (by omega)];rfl
structure cn where
 ok:Bool
 done:List aL
 out:Int×Int
 a7:List (List aL)
 ask:Option (List aP)
 dC:Bool
def cb (G:List (List aL)) (vs:List aP) (a:Int):cn:=
 if (batch G vs).ok=false then ⟨false,[],(0,0),(batch G vs).a7,(batch G vs).ask,(batch G vs).dC⟩
 else if ho (batch G vs).done≠0 then ⟨false,[],(ho (batch G vs).done,a),(batch G vs).a7,none,false⟩
 else ⟨true,(batch G vs).done,(0,0),(batch G vs).a7,none,false⟩
structure eO (A:a5) (w0 u:ak) (tb:Nat) (T:gg) (G:List (List aL)):Prop where
 aj:av u tb T.cells o8
 a7:hG A w0 T.gH G
 dQ:T.dQ=G.length
 gc:T.dQ<=T.gc
theorem eO.new (h:eO A w0 u tb T G) (a:ai u bq):eO A w0 bq tb T G:=⟨ai.aj a h.aj,h.a7,h.dQ,h.gc⟩
theorem eO.az (h:eO A w0 u tb T G) (b:ao M u bq) (a:¬ M tb):eO A w0 bq tb T G:=⟨b.aj h.aj a,h.a7,h.dQ,h.gc⟩
structure gv (A:a5) (w0 u:ak) (tb B:Nat) (R:cn) (bq:ak):Prop where
 az:ao (λk=>k=tb) u bq
 fO:∃ h8:gg,eO A w0 bq tb h8 R.a7/\h8.dC=R.dC/\(match R.ask with
  |none=>h8.c5=0
  |some vs=>0<vs.length/\∃ w1,ai w0 w1/\B<=w1.heap.size/\bH w1 bq h8.aa h8.c5 h8.ac vs)
structure fT (T:gg):Prop where
 c5:T.c5=0
 dC:T.dC=false
theorem gv.new {A:a5} {w0 u bq a:ak} {tb B:Nat} {R:cn} (h:gv A w0 u tb B R bq) (c:ai bq a):gv A w0 u tb B R a:=by
 obtain ⟨k,e,l,hw,b⟩:=h;refine ⟨k.new c,e,l.new c,hw,?_⟩;cases d:R.ask with
 |none=>rw [d] at b;exact b
 |some vs=>rw [d] at b;obtain ⟨f,w1,g,i,j⟩:=b;exact ⟨f,w1,g,i,j.new c⟩
theorem mc (au:av u b zs eQ) (i:zs.length=2) (c f:Int) (h:∀ g,ao (λk=>k=b) u g->K ⟨c,f⟩ g) :
  eh u ⟨b,0,none⟩ 0 [(.int .i64 c),(.int .i64 f)]/\∀ a,a=ct u ⟨b,0,none⟩ 0 [(.int .i64 c),(.int .i64 f)]->bB.ex λres=>b6 a ⟨b,0,none⟩ 0 res.cells/\a=a/\K res a:=
 dO au (vs:=bB.cells ⟨c,f⟩) (by rw [i];rfl) (bB.single _) λa e d=>bB.aS ⟨c,f⟩ ⟨bK e rfl,rfl,h a d⟩
theorem Dm {ws:List aP} (h:(batch G vs).ask=some ws):0<vs.length:=by
 unfold batch at h;split at h
 ·cases h
 ·omega
theorem rq (Z:e5 w0 u aY tb r m j) (VA:eO A w0 u tb T G) (H:fT T) {w1:ak} (Vx:ai w0 w1) (Vv:tb<w1.heap.size) (an:bH w1 u a n cap vs) (VC:vs.length<=100000) (f:Int) :
  a_ 213 [ptr aY,.slice a n cap,.int .i64 f] u λv bq=>∃ (dA:al) (dc:Nat) (raw:List bR),v=.tuple #[.slice dA raw.length dc,bB.val ⟨(cb G vs f).out.1,(cb G vs f).out.2⟩,.bool (cb G vs f).ok]/\
   gv A w0 u tb w1.heap.size (cb G vs f) bq/\bh w0 dA (fM raw).flatten/\gS A w0 raw (cb G vs f).done/\(raw=[]\/raw.length=vs.length):=by
 refine bc Tryz.func213 ?_;rw [ptr,Sy];rintro b1 bE W P;obtain ⟨D,o⟩:=bl W P;have D:av bE b1 (bB.cells ⟨0,0⟩) eQ:=D;clear P;have z:=Z.bx o;have p:=VA.new o;have C:=an.new o;obtain ⟨cf,w,Q⟩:=C.ex;have VM:=Q.1;have Vu:=C.len;have VJ:=o.size;have VK:=VA.aj.lt;have Y:b1≠tb:=by omega
 refine ⟨_,z.aj.cell (i:=7) rfl,?_⟩;have L:n=cf.length:=by omega
 rw [L] at w;have Vz:=Dj (A:=A) z.new Z.kC p.aj p.a7 p.dQ p.gc (aa:=a) (ac:=cap) w.rd Q (by omega);rw [<-L] at Vz;refine aC Vz ?_;rintro v F ⟨Vy,dA,dc,raw,rfl,X,q,O,B,I,Vs,Vr,S,h⟩;rw [H.dC,Bool.false_or] at S;have E:av F b1 (bB.cells ⟨0,0⟩) eQ:=q.aj D Y;have VL:bH w1 F a n cap vs:=C.az q λk e=>by omega
 have J:ao (λk=>k=tb) u F:=(ao.b3 o).trans q λ_ _ e=>e
 have b:(batch G vs).done.length=raw.length:=B.1.symm;refine ⟨_,_,_,_,rfl,?_⟩;have fin:∀ {bu y:ak},ai F bu->ao (λk=>k=b1) bu y->∀ {R:cn},R.a7=(batch G vs).a7->R.dC=(batch G vs).dC->R.ask=(batch G vs).ask->gv A w0 u tb w1.heap.size R y:=by
  intro bu y l g R VD VE VF;have t:ao (λk=>k=b1) F y:=(ao.b3 l).trans g λ_ _ e=>e
  have s:ao (λk=>k=tb) u y:=J.trans t λk Vt e=>by omega
  refine ⟨s,Vy,?_,by rw [S,VE],?_⟩
  ·rw [VD];exact ⟨t.aj X (by omega),I,Vs,Vr⟩
  ·rw [VF];cases U:(batch G vs).ask with
   |none=>rw [U] at h;obtain ⟨_,V,_⟩:=h;show Vy.c5=0;rw [V];exact H.c5
   |some ws=>rw [U] at h;obtain ⟨VG,V,VH⟩:=h;have:=BQ U;subst this;refine ⟨Dm U,w1,Vx,cO _,?_⟩;rw [VG,V,VH,<-Vu];exact an.az s λk e=>e▸Vv
 unfold cb;have VI:=@qM G vs;refine er (λc=>?_) (λc=>?_)
 ·rw [if_pos c];exact mc E rfl 0 0 λy g=>⟨none,0,[],rfl,fin (ao.refl _ _) g rfl rfl rfl,.inl rfl,⟨rfl,λi v x an=>by simp at an⟩,.inl rfl⟩
 ·rw [if_neg (by rw [c];simp)];obtain ⟨M,N⟩:=CT c;have K:ai w0 F:=z.new.trans q λk Vt e=>by have:=Z.kC;omega
  refine aC (Cl K rfl O B (by omega)) ?_;rintro v bu ⟨rfl,l⟩;refine ⟨_,rfl,dw (λe=>?_) (λe=>?_)⟩
  ·rw [if_pos e];exact mc (ai.aj l E) rfl _ _ λy g=>⟨none,0,[],rfl,fin l g rfl N.symm M.symm,.inl rfl,⟨rfl,λi v x an=>by simp at an⟩,.inl rfl⟩
  ·rw [if_neg (by simpa using e)];refine mc (ai.aj l E) rfl 0 0 λy g=>⟨dA,dc,raw,rfl,fin l g rfl N.symm M.symm,O,B,?_⟩
   by_cases Vw:vs.length=0
   ·exact .inl (fB (by omega))
   ·right;unfold batch at c b;rw [if_neg Vw] at c b;cases G with
    |nil=>cases c
    |cons d VN=>
     simp only at c b;split at c
     ·rename_i VB;rw [if_pos VB] at b;have:=xV VB;simp only at b;omega
     ·cases c
theorem N_ (h:e5 w0 w aY tb r bO j) {v:aG} {x:aP} (an:cE M w v x) :
  a_ 237 [ptr aY,v.val] w λy w'=>∃ (a:al) (cap:Nat),y=.slice a j.v.mem.length cap/\bH w w' a j.v.mem.length cap (j.v.mem.map λm=>addr j.v.number m x)/\ai w w':=by
 refine bc Tryz.func237 ?_;rw [ptr,Su];rintro b1 w1 F D;obtain ⟨d,l⟩:=bl F D;have d:av w1 b1 v.cells cy:=d;clear D;have E:=h.bx l;obtain ⟨Vx,g⟩:=h.bN.view;have hlen:=g.len;have Y:=h.cj.mem;have L:=l.size;have Vr:=d.lt;refine ⟨_,_,_,E.aj.cell (i:=4) rfl,?_⟩;refine c2 mix (λq env u=>∃ (i:Nat) (pa:al) (pc:Nat) (T:ax),q=j.v.mem.length - i/\i<=j.v.mem.length/\env=wq ⟨aY,0,none⟩ ⟨b1,0,none⟩ pa i pc r.View.dL r.View.dN r.View.dW r.View.dN i T/\ai w1 u/\bH w1 u pa i pc ((j.v.mem.take i).map λm=>addr j.v.number m x)/\av u b1 v.cells cy/\e5 w0 u aY tb r bO j) j.v.mem.length
  ⟨0,none,0,_,rfl,by omega,rfl,ao.refl _ _,bH.nil _ _,d,E⟩ ?_
 rintro q env u ⟨i,pa,pc,T,rfl,VA,rfl,n,f,d,s⟩;rw [Qa,hlen];have B:ai w0 u:=E.new.new n;refine a' (λVs=>?_) (λX=>?_)
 ·obtain ⟨m,hm⟩:∃ m,j.v.mem[i]?=some m:=⟨_,bF (by omega)⟩;have Vt:=h.cj.ee m (cg hm);refine eo (cells:=aZ.cells) aZ.len (by omega) (g.rd.new B) hm rfl rfl λb o H _=>aZ.aS m ⟨H,?_⟩
  refine ea (vs:=m.cells) rfl (aZ.single _) λVy Vw W Q c=>?_
  refine aZ.aS m ⟨bK Q rfl,aG.aS v ⟨bK (ai.aj c d) rfl,?_⟩⟩;have O:cE M Vw v x:=an.az (ao.b3 ((l.new n).new c)) λ_ _ e=>e
  have p:=sh (s.bx c) (m:=m) (by unfold ec;omega) O;refine aC p ?_;rintro y bu ⟨bj,rfl,N,t⟩;refine aG.aS bj ⟨rfl,?_⟩;rintro Vz VB G P;have Vv:=c.size;refine bH.lN (f.new c) (n.new c) t N (by omega) G P λap z u8 R A K=>?_
  have C:¬ aK pa b1:=λe=>by have V:=f.f9 _ e;omega
  rw [bC (x:=(i:Int)+1) (by omega) (by omega)];have e:(j.v.mem.take i).map (λm=>addr j.v.number m x)++[addr j.v.number m x]=(j.v.mem.take (i+1)).map λm=>addr j.v.number m x:=by rw [e7,hm];simp
  rw [e] at R;refine ⟨j.v.mem.length - (i+1),by omega,i+1,ap,z,_,rfl,by omega,by rw [<-hlen];rfl,K,R,A.aj (ai.aj (c.new t) d) C,(s.bx (c.new t)).az A λk S=>?_⟩;have V:=f.f9 k S;have U:=h.new.size;refine ⟨by omega,λe=>?_⟩
  obtain ⟨cf,Vu,_⟩:=f.ex;obtain ⟨cs,I⟩:=fI Vu S;exact absurd (e▸I |>.ne s.aj (by decide)) (λZ=>Z rfl)
 ·have J:i=j.v.mem.length:=by omega
  subst J;rw [Rp];rw [hv] at f;exact ⟨pa,pc,rfl,f.mono L,l.new n⟩
def tw (R:cn) (f:List (List aL)->cn):cn:=if R.ok then f R.a7 else R
def rB (G:List (List aL)):cn:=⟨true,[],(0,0),G,none,false⟩
def po (j:cS) (at_:Int) (ws:bb):List aP:=j.v.mem.map λm=>addr j.v.number m ⟨2,0,at_,0,0,0,ws,0,0⟩
def nj (j:cS) (G:List (List aL)) (at_:Int) (ws:bb) (a:Int):cn:=if j.writes=[] then rB G else cb G (po j at_ ws) a
def rC (j:cS) (G:List (List aL)):cn:=nj j G (e4 j.a3+8) (fc j.seq j.writes) 1
def tx (j:cS) (G:List (List aL)):cn:=nj j G (e4 j.a3) [fN j.seq] 2
def kG (A:a5) (w0 u:ak) (tb B:Nat) (R:cn) (v:a4) (bq:ak):Prop:=v=.tuple #[bB.val ⟨R.out.1,R.out.2⟩,.bool R.ok]/\gv A w0 u tb B R bq
theorem gv.skip (c:eO A w0 u tb T G) (a:fT T) (b:ai u bq):gv A w0 u tb B (rB G) bq:=
 ⟨ao.b3 b,T,c.new b,a.dC,a.c5⟩
theorem gv.put {j bu l:ak} {B':Nat} {R:cn} (h:gv A w0 bE tb B R j) (t:ai u bE) (a:ai j bu) (f:ao (λk=>k=b) bu l) (z:u.heap.size<=b) (r:b<B) (d:b≠tb) (y:B'<=B):gv A w0 u tb B' R l:=by
 obtain ⟨g,n,w,hw,c⟩:=h;refine ⟨(((ao.b3 t).trans g λ_ _ e=>e).new a).trans f λk s e=>by omega,n,(w.new a).az f λe=>d e.symm,hw,?_⟩;cases i:R.ask with
 |none=>rw [i] at c;exact c
 |some vs=>rw [i] at c;obtain ⟨o,w1,p,x,q⟩:=c;exact ⟨o,w1,p,by omega,(q.new a).az f λk e=>by omega⟩
theorem Ef (au:av u b zs eQ) (l:zs.length=2) (o:bB) (j:∀ bu i,ai u bu->ao (λk=>k=b) bu i->K o i) :
  ∀ aA g,aA=u.heap.size->g=u.alloc (.cells #[.int .i64 0,.int .i64 0] eQ)->eh g ⟨aA,0,none⟩ 0 o.cells/\∀ c,c=ct g ⟨aA,0,none⟩ 0 o.cells->bB.ex λr=>b6 c ⟨aA,0,none⟩ 0 r.cells/\eh c ⟨b,0,none⟩ 0 r.cells/\∀ a,a=ct c ⟨b,0,none⟩ 0 r.cells->bB.ex λres=>b6 a ⟨b,0,none⟩ 0 res.cells/\a=a/\K res a:=by
 refine ea (zs:=[.int .i64 0,.int .i64 0]) (vs:=o.cells) rfl (bB.single _) λaA c n e h=>?_
 refine bB.aS o ⟨bK e rfl,dO (ai.aj h au) (by rw [l];rfl) (bB.single _) λa f d=>?_⟩;exact bB.aS o ⟨bK f rfl,rfl,j c a h d⟩
theorem NE (z:e5 w0 u aY tb r m j) (J:eO A w0 u tb T G) (p:fT T) {at_:Int} {ws:bb} (hw:j.writes≠[]->bh u a (us ws)/\n=ws.length/\n<=cap/\(a=none->ws=[])/\(∀ x ∈ ws,b8 x)/\ws.length<=1000000) (b:Int) :
  a_ 208 [ptr aY,.int .i64 at_,.slice a n cap,.int .i64 b] u (kG A w0 u tb u.heap.size (nj j G at_ ws b)):=by
 refine bc Tryz.func208 ?_;rw [ptr,Sv];rintro b1 bE y w;obtain ⟨d,c⟩:=bl y w;have d:av bE b1 (bB.cells ⟨0,0⟩) eQ:=d;clear w;have f:=z.bx c;have o:=J.new c;have hlen:=z.bN.bS.len;have s:=c.size;have q:=d.lt;have S:=J.aj.lt;unfold nj;refine ⟨_,_,_,f.aj.cell (i:=6) rfl,dJ (λe=>?_) (λe=>?_)⟩
 ·have k:j.writes=[]:=fB (by omega);rw [if_pos k];exact mc d rfl 0 0 λK C=>⟨rfl,(gv.skip (B:=bE.heap.size) o p (ao.refl _ _)).put c (ao.refl _ _) C (by omega) q (by omega) s⟩
 ·have k:j.writes≠[]:=λL=>by rw [L] at hlen;simp at hlen <;> omega
  rw [if_neg k];obtain ⟨M,N,O,P,Q,R⟩:=hw k;have F:cE (λ_=>False) bE ⟨2,0,at_,0,0,0,a,n,cap,0,0⟩ ⟨2,0,at_,0,0,0,ws,0,0⟩:=pK (M.new c) N O P Q R hd hd;have l:=N_ f F;refine aC l ?_;rintro v U ⟨aa,ac,rfl,H,h⟩;refine ⟨_,_,_,rfl,?_⟩;have g:=rq (f.bx h) (o.new h) p f.new (w1:=bE) (by omega) H (by rw [fC];have:=z.cj.mem;omega) b;refine aC g ?_;rintro v K ⟨dA,dc,raw,rfl,t,_⟩;refine ⟨_,_,_,bB.aS ⟨(cb G (po j at_ ws) b).out.1,(cb G (po j at_ ws) b).out.2⟩ ⟨(cb G (po j at_ ws) b).ok,rfl,?_⟩⟩;have I:av K b1 (bB.cells ⟨0,0⟩) eQ:=t.az.aj (ai.aj h d) (by omega);refine Ef I rfl _ λV W E D=>⟨rfl,t.put (c.new h) E D (by omega) q (by omega) s⟩
end
section
theorem L3 {r:bX} {W:List aJ} (h:i0 w r.ei r.dI W) (an:fr r.Seq W 256≠0):a_ 210 [r.val] w λv w'=>v=.slice none 0 0/\ai w w':=by refine bc Tryz.func210 ?_;rw [GF];rintro b1 w1 c b;obtain ⟨au,a⟩:=bl c b;have au:av w1 b1 r.cells 271:=au;clear b;refine bX.aS r ⟨bK au rfl,?_⟩;refine aC (xU (h.new a) 256) ?_;rintro v f ⟨rfl,d⟩;exact ⟨_,rfl,dw (λe=>⟨rfl,a.new d⟩) (λe=>absurd e an)⟩
theorem JU (w:ak) (s:Int):a_ 214 [.int .i64 s] w λv w'=>∃ x e:Int,v=.tuple #[.int .u64 x,.int .i64 e]/\w'=w/\(1<=s/\s<1073741824->x=fN s):=by
 refine bc Tryz.func214 ?_;rw [Ag];refine aC (sE w s 1 1073741823) ?_;rintro v w1 ⟨rfl,rfl⟩;refine ⟨_,rfl,er (λa=>⟨_,_,rfl,rfl,λe=>absurd (of_decide_eq_false a) (by omega)⟩) (λ_=>⟨_,_,rfl,rfl,λe=>?_⟩)⟩
 rw [j8 (x:=s) (by omega) (by omega)];rfl
theorem Dn {seq:Int} {W:List aJ} (g:b8 seq) (h:W.length<=12) (eT:∀ p ∈ W,b8 p.bn/\b8 p.Head/\∀ x ∈ hz p,b8 x):∀ x ∈ fc seq W,b8 x:=by
 intro x a;unfold fc nu at a;rcases jL.1 a with a | a
 ·rcases e9.1 a with rfl | a
  ·exact g
  rcases e9.1 a with rfl | a
  ·unfold b8;omega
  obtain ⟨l,b,a⟩:=oO.1 a;obtain ⟨p,f,rfl⟩:=cW.1 b;obtain ⟨c,d,e⟩:=eT p f;rcases e9.1 a with rfl | a
  ·exact c
  rcases e9.1 a with rfl | a
  ·exact d
  exact e x a
 ·simp at a;subst a;exact K9 _
def oX (j:cS):Prop:=∀ p ∈ j.writes,∀ x ∈ hz p,b8 x
theorem Nr (F:e5 w0 u aY tb r m j) (ar:oX j) (X:eO A w0 u tb T G) (P:fT T) :
  a_ 172 [ptr aY] u (kG A w0 u tb u.heap.size (rC j G)):=by
 refine bc Tryz.func172 ?_;rw [ptr,Sz];rintro b1 bE O K;obtain ⟨l,J⟩:=bl O K;have l:av bE b1 (bB.cells ⟨0,0⟩) eQ:=l;clear K;rintro Z L;have w:ai bE Z:=by rw [L];exact cD _
 clear L;have k:=J.new w;have h:=F.bx k;have N:=X.new k;have Vv:=J.size;have Vw:=w.size;have Vu:=l.lt;have Vy:=X.aj.lt;have Q:=F.bN.a3;have I:=F.bN.seq;have t:=F.cj;have Vt:=t.a3;have H:=t.sM;refine ⟨λy=>av y aY (lE r tb m) l5,h.aj,_,λy V=>V.cell (i:=0) rfl,dv.aS r ⟨λy V=>bK V rfl,?_⟩⟩;refine aC (Dl Z (by omega)) ?_;rintro v bu ⟨rfl,rfl⟩;refine ⟨_,rfl,h.aj,?_⟩;refine aC (CR bu r) ?_;rintro v Vr ⟨rfl,z⟩;refine bX.aS _ ⟨rfl,(h.bx z).aj,?_⟩;have q:=h.bx z;have B:i0 Vr r.ei r.dI j.writes:=F.bN.bS.new q.new;have fin:∀ {E:ak} {a:al} {n cap:Nat},ai Vr E->(j.writes≠[]->bh E a (us (fc j.seq j.writes))/\n=(fc j.seq j.writes).length/\n<=cap/\(a=none->fc j.seq j.writes=[])/\(∀ x ∈ fc j.seq j.writes,b8 x)/\(fc j.seq j.writes).length<=1000000)->
   Calls prog 208 #[(.pointer (some ⟨aY,0,none⟩)),(.int .i64 (e4 r.Client+8)),(.slice a n cap),(.int .i64 1)] E λe W=>bB.ex λo=>∃ b:Bool,e=.returned (.tuple #[o.val,(.bool b)])/\av W aY (lE r tb m) l5/\eh W ⟨b1,0,none⟩ 0 o.cells/\∀ M,M=ct W ⟨b1,0,none⟩ 0 o.cells->bB.ex λres=>b6 M ⟨b1,0,none⟩ 0 res.cells/\M=M/\kG A w0 u tb u.heap.size (rC j G) (.tuple #[res.val,(.bool b)]) M:=by
  intro E a n cap f hw;have c:=z.new f;have s:=NE (A:=A) (h.bx c) (N.new c) P (at_:=e4 j.a3+8) hw 1;rw [Q];refine aC s ?_;rintro v VA ⟨rfl,C⟩;have Vx:=c.size;refine bB.aS _ ⟨_,rfl,C.az.aj (h.bx c).aj F.ne,?_⟩;exact mc (C.az.aj (ai.aj (w.new c) l) (by omega)) rfl _ _ λVB R=>⟨rfl,C.put (k.new c) (ao.refl _ _) R (by omega) (by omega) (by omega) (by omega)⟩
 by_cases D:j.writes=[]
 ·have S:fr r.Seq j.writes 256≠0:=λe=>by have:=(ji e).2.1.2.2.1;rw [D] at this;simp at this
  refine aC (L3 (r:=⟨r.Seq,r.ei,r.dI,r.gq⟩) B S) ?_;rintro v E ⟨rfl,f⟩;exact ⟨_,_,_,rfl,(q.bx f).aj,fin f λe=>absurd D e⟩
 ·obtain ⟨an,Y⟩:=t.wr D;rw [<-I] at an Y;refine aC (yk (r:=⟨r.Seq,r.ei,r.dI,r.gq⟩) B an Y H t.wl) ?_;rintro v E ⟨a,cap,rfl,f,d,Vs⟩;refine ⟨_,_,_,rfl,(q.bx f).aj,fin f λ_=>?_⟩
  have d:a2 E 30 1 a (3+9 * j.writes.length) cap (us (fc j.seq j.writes)):=by rw [<-I];exact d
  refine ⟨d.rd,(ps _ _).symm,a2.le d,λe=>?_,Dn (by unfold b8;omega) H λp U=>?_,by rw [ps];omega⟩
  ·rcases d.2 with ⟨Vz,_,_⟩ | ⟨g,cur,t,_⟩
   ·omega
   ·rw [t] at e;cases e
  ·have:=t.wl p U;exact ⟨by unfold b8;omega,B.u64 p U,ar p U⟩
theorem L4 (p:e5 w0 u aY tb r m j) (D:eO A w0 u tb T G) (t:fT T) :
  a_ 174 [ptr aY] u (kG A w0 u tb u.heap.size (tx j G)):=by
 refine bc Tryz.func174 ?_;rw [ptr,SA];rintro b1 bE q l;obtain ⟨d,c⟩:=bl q l;have d:av bE b1 (bB.cells ⟨0,0⟩) eQ:=d;clear l;have g:=p.bx c;have J:=c.size;have I:=d.lt;have L:=D.aj.lt;have w:=p.bN.a3;have z:=p.bN.seq;have E:=p.cj;have H:=E.a3;refine ⟨_,g.aj.cell (i:=1) rfl,?_⟩;refine aC (JU bE r.Seq) ?_;rintro v N ⟨x,e,rfl,rfl,M⟩;refine ⟨_,_,rfl,_,g.aj.cell (i:=0) rfl,?_⟩;refine aC (yy N (by omega)) ?_;rintro v bu ⟨rfl,rfl⟩;refine ⟨_,rfl,?_⟩;rintro aA O s o;obtain ⟨f,b⟩:=bl s o;have f:av O aA (us [x]) n_:=f;clear o;have K:=b.size;rw [w];have h:=NE (A:=A) (g.bx b) ((D.new c).new b) t (a:=some ⟨aA,0,none⟩) (n:=1) (cap:=1) (at_:=e4 j.a3) (ws:=[fN j.seq]) (λhw=>by obtain ⟨_,P⟩:=E.wr hw;have C:=M (by omega);rw [C,z] at f;exact ⟨fk f rfl,rfl,by omega,(λe=>by cases e),(λy F=>by simp at F;subst F;exact yx _),by simp⟩) 2
 refine aC h ?_;rintro v Q ⟨rfl,k⟩;refine bB.aS _ ⟨_,rfl,?_⟩;exact mc (k.az.aj (ai.aj b d) (by omega)) rfl _ _ λR B=>⟨rfl,k.put (c.new b) (ao.refl _ _) B (by omega) (by omega) (by omega) (by omega)⟩
theorem xE (l:List aG):(l.map aG.cells).flatten=(dP l).flatten:=rfl
theorem bH.tJ {E:ak} {F:al} {q G:Nat} {p:List aP} (h:bH w0 bE a n cap vs) (H:ai w0 bE) (L:bH E bE F q G p) (o:∀ k,aK a k->k<E.heap.size) (Q:w0.heap.size<=E.heap.size) (R:n+q<=100000) {K:al->Nat->Nat->aE}
  (A:∀ ap f i,bH w0 i ap (n+q) f (vs++p)->ao (aK a) bE i->ai w0 i->K ap (n+q) f i) :
  ∃ (ap:al) (d c:Nat),∃ i,(Builtin.append_ #[gp,gp] gp #[(.slice a n cap),(.slice F q G)]).run prog bE=.ok (.slice ap d c) i/\K ap d c i:=by
 obtain ⟨⟨cf,O,D⟩,N,t⟩:=h;obtain ⟨⟨b,B,j⟩,u,I⟩:=L;obtain ⟨inf,M,au,x,y⟩:=fL (T:=cy) (z:=.agg #[.int .i64 0,.int .i64 0,.int .i64 0,.int .i64 0,.int .u64 0,.int .u64 0,.slice none 0 0,.int .u64 0,.int .i64 0]) (n:=9) (m:=88) (by kernel_rfl);have P:=H.size;refine q5 (cells:=aG.cells) (sz:=9) aG.len aG.single Tryz.underlying125 M au (by rw [x];rfl) x (by decide) (by rw [y];decide) (l:=cf) (by rw [xE];exact O) (l2:=b) (m:=q) (by rw [xE];exact B.rd) (by rw [j.1];exact u) (by omega) λap f i J g r=>?_
 have s:∀ k,aK ap k->w0.heap.size<=k:=λk A=>by
  rcases r k A with e | e
  ·exact t k e
  ·omega
 refine A ap f i ⟨⟨cf++b,J,?_⟩,by rw [dH,N,u],s⟩ g (H.trans g λk o e=>by have:=t k e;omega);have w:∀ k,k<bE.heap.size->(k<w0.heap.size\/aK ap k)->(k<w0.heap.size\/aK a k):=λk o e=>e.imp id λe=>by
  rcases r k e with e | e
  ·exact e
  ·omega
 refine en.app (D.az (g.mono λk _ e=>.inr e) w) ?_;have C:en (λk=>k<w0.heap.size\/aK a k) bE b p:=j.az (ao.refl _ _) λk _ e=>by
  rcases e with e | e
  ·left;omega
  ·left;exact o k e
 exact C.az (g.mono λk _ e=>.inr e) w
def jV (j:cS) (m:aZ):List aP:=if j.writes=[] then [] else j.writes.map (js j m)++[qr j m]
def p8 (j:cS):List aP:=(j.v.mem.tail.map (jV j)).flatten
def nV (j:cS) (G:List (List aL)):cn:=cb G (p8 j) 3
theorem Lb (j:cS) (m:aZ):(jV j m).length<=j.writes.length+1:=by
 unfold jV;split
 ·simp
 ·simp
theorem yz {α:Type} {b:Nat}:∀ (l:List (List α)),(∀ x ∈ l,x.length<=b)->l.flatten.length<=l.length * b
 | [],_=>by simp
 |x::l,h=>by
  have c:=h x e_;have d:=yz l λy a=>h y (fD _ a)
  rw [gR,dH,hh,h5];omega
theorem L5 (Q:e5 w0 u aY tb r bO j) (ar:oX j) (VG:eO A w0 u tb T G) (Vs:fT T) :
  a_ 175 [ptr aY] u (kG A w0 u tb u.heap.size (nV j G)):=by
 refine bc Tryz.func175 ?_;rw [ptr,Rk];rintro b1 bE X N;obtain ⟨p,B⟩:=bl X N;have p:av bE b1 (bB.cells ⟨0,0⟩) eQ:=p;clear N;have t:=Q.bx B;have VZ:=B.size;have VW:=p.lt;have V3:=VG.aj.lt;have R:=Q.cj;have Vu:=R.mem;have VT:=R.sM;have hlen:=Q.bN.bS.len;obtain ⟨V8,D⟩:=Q.bN.view;refine cX.aS r.View ⟨bK t.aj rfl,?_⟩;refine aC (BU (D.new t.new) Vu.1) ?_;rintro v U ⟨VN,fa,rfl,g,Z⟩;refine ⟨_,_,_,rfl,?_⟩;have w:=t.bx g;have V0:=g.size;have VI:j.v.mem.tail.length=j.v.mem.length - 1:=ri;refine c2 mix (λq env z=>∃ (i n:Nat) (pa:al) (pc:Nat) (VK:ax),q=j.v.mem.tail.length - i/\i<=j.v.mem.tail.length/\env=tN ⟨aY,0,none⟩ ⟨b1,0,none⟩ pa n pc VN (j.v.mem.length - 1) fa ((j.v.mem.length - 1:Nat):Int) i VK/\ai U z/\bH U z pa n pc (((j.v.mem.tail.take i).map (jV j)).flatten)) j.v.mem.tail.length
  ⟨0,0,none,0,_,rfl,by omega,rfl,ao.refl _ _,bH.nil _ _⟩ ?_
 rintro q env z ⟨i,n,pa,pc,VK,rfl,Wa,rfl,d,a⟩;rw [P3];have f:=w.bx d;have V2:=d.size;have V4:=a.len;have VH:n<=1000:=by
  have VO:=yz (b:=j.writes.length+1) ((j.v.mem.tail.take i).map (jV j)) λx V5=>by obtain ⟨m,_,rfl⟩:=cW.1 V5;exact Lb j m
  rw [fC,iG] at VO;have V_:min i j.v.mem.tail.length * (j.writes.length+1)<=5 * 13:=p1 (by omega) (by omega);omega
 refine a' (λVX=>?_) (λVS=>?_)
 ·obtain ⟨m,hm⟩:∃ m,j.v.mem.tail[i]?=some m:=⟨_,bF (by omega)⟩;have VY:=R.ee m (s5 (cg hm));have H:ec m.ck:=by unfold ec;omega
  have F:((j.v.mem.tail.take (i+1)).map (jV j)).flatten=((j.v.mem.tail.take i).map (jV j)).flatten++jV j m:=by rw [e7,hm];simp
  refine eo (cells:=aZ.cells) aZ.len (by omega) (Z.new d) hm rfl (by omega) λb o Vr _=>aZ.aS m ⟨Vr,?_⟩
  refine ea (vs:=m.cells) rfl (aZ.single _) λVM V7 VR O c=>⟨_,_,_,(f.bx c).aj.cell (i:=6) rfl,?_⟩
  have V1:=c.size;rw [bC (x:=(i:Int)+1) (by omega) (by omega)];refine a' (λhw=>?_) (λhw=>?_)
  ·have l:j.writes≠[]:=λe=>by rw [e] at hlen;simp at hlen <;> omega
   obtain ⟨_,Vz⟩:=R.wr l;refine aZ.aS m ⟨bK O rfl,?_⟩;refine aC (Ck (f.bx c) ar H) ?_;rintro v Wd ⟨gH,gc,rfl,VB,h⟩;refine ⟨_,_,_,rfl,?_⟩;have L:∀ k,aK pa k->k<V7.heap.size:=λk S=>by obtain ⟨cf,K,_⟩:=a.ex;have:=K.lt S;omega
   refine bH.tJ ((a.new c).new h) ((d.new c).new h) VB L (by omega) (by omega) λap VE VL VQ J C=>?_
   have I:e5 w0 VL aY tb r bO j:=((f.bx c).bx h).az J λk S=>by
    have V':=a.f9 k S;have VP:=w.new.size;refine ⟨by omega,λe=>?_⟩
    obtain ⟨cf,K,_⟩:=a.ex;obtain ⟨cs,Vt⟩:=fI K S;exact absurd (e▸Vt |>.ne f.aj (by decide)) (λVU=>VU rfl)
   have P:av VL VM m.cells eH:=J.aj (ai.aj h O) λe=>by obtain ⟨cf,K,_⟩:=a.ex;have:=K.lt e;omega
   refine aZ.aS m ⟨bK P rfl,?_⟩;refine aC (Cj I Vz H) ?_;rintro v We ⟨bj,rfl,VA,Vx⟩;refine aG.aS bj ⟨rfl,?_⟩;rintro V9 Wf Y VD;refine bH.lN VQ C Vx VA (by omega) Y VD λV E Wg VF VV Vy=>?_
   have W:((j.v.mem.tail.take i).map (jV j)).flatten++j.writes.map (js j m)++[qr j m]=((j.v.mem.tail.take (i+1)).map (jV j)).flatten:=by rw [F];unfold jV;rw [if_neg l,ln]
   rw [W] at VF;exact ⟨j.v.mem.tail.length - (i+1),by omega,i+1,_,V,E,_,rfl,by omega,rfl,Vy,VF⟩
  ·have l:j.writes=[]:=fB (by omega);refine ⟨j.v.mem.tail.length - (i+1),by omega,i+1,n,pa,pc,_,rfl,by omega,rfl,d.new c,?_⟩;have W:jV j m=[]:=by unfold jV;rw [if_pos l]
   rw [F,W,iW];exact a.new c
 ·have Vv:i=j.v.mem.tail.length:=by omega
  subst Vv;rw [Qb];rw [hv] at a;have a:bH U z pa n pc (p8 j):=a;have VJ:=a.len;have s:=(B.new g).new d;have y:=rq (A:=A) f (VG.new s) Vs w.new (w1:=U) (by omega) a (by omega) 3;refine aC y ?_;rintro v V6 ⟨dA,dc,raw,rfl,M,_⟩;refine ⟨_,_,_,bB.aS ⟨(nV j G).out.1,(nV j G).out.2⟩ ⟨(nV j G).ok,rfl,?_⟩⟩;have VC:av V6 b1 (bB.cells ⟨0,0⟩) eQ:=M.az.aj (ai.aj (g.new d) p) (by omega);refine Ef VC rfl _ λWb Wc C Vw=>⟨rfl,M.put s C Vw (by omega) (by omega) (by omega) (by omega)⟩
end
end Go.Proofs.YtmkljjbioomepaaGreat
