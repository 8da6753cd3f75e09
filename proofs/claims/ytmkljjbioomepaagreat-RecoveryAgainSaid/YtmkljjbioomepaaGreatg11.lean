import Derived.Test.YtmkljjbioomepaaGreatg10
set_option linter.all false
set_option maxHeartbeats 4000000
set_option maxRecDepth 100000
namespace Go.Proofs.YtmkljjbioomepaaGreat
open Go.Proofs.Tryz Go.bJ
variable {A M M':a4}{B B' b c gj cap aY i n fm tb:Nat}{K:ak->Nat->Nat->aJ}{a bW:ak}{lines seq:Int}{u bB bQ cl bw cq w w' w0:an}{ws:a7}{zs:ax}
section
structure Ha (j:cJ):Prop where
 aL:0<=j.aL/\j.aL<6
 num:0<=j.v.number/\j.v.number<16
 mem:0<j.v.mem.length/\j.v.mem.length<=5
 eX:∀ m ∈ j.v.mem,1<=m.cK/\m.cK<=31
 t':j.writes.length<=12
 yO:j.reads.length<=24
 wr:j.writes≠[]->gk j.seq j.writes 256=0/\1<=j.seq/\j.seq<1073741824
 wl:∀ p ∈ j.writes,96<=p.bt/\p.bt<256
 JU:∀ p ∈ j.writes,mG p.Head=true/\lZ p.Head=true
 qy:∀ s ∈ j.reads,96<=s.bt/\s.bt<256
theorem jA {W:List aN}(h:gk seq W lines=0):(98<=lines/\lines<=256)/\(1<=seq/\seq<1073741824/\1<=W.length/\W.length<=12)/\(∀ p ∈ W,96<=p.bt/\p.bt<lines)/\(∀ p ∈ W,mG p.Head=true/\lZ p.Head=true)/\(W.all λp=>jf p.bt lines)=true/\(List.range W.length).all (λi=>k1 W i && l0 (W.getD i iA))=true:=by
 unfold gk at h;split at h
 ·omega
 rename_i f;split at h
 ·omega
 rename_i g;split at h
 ·omega
 rename_i a;split at h
 ·omega
 rename_i b;have a:(W.all λp=>jf p.bt lines)=true:=wy _▸a;have b:(List.range W.length).all (λi=>k1 W i && l0 (W.getD i iA))=true:=wy _▸b;refine⟨by omega,by omega,λp d=>?_,λp d=>?_,a,b⟩
 ·have:=jt.1 a p d;unfold jf at this
  grind
 ·obtain⟨i,e⟩:=List.getElem?_of_mem d;have c:=cS e;have:=jt.1 b i (gS.2 c);rw[pA e]at this;unfold l0 at this
  grind
theorem Cf {W:List aN}(h:gk seq W lines=0):gk seq W 256=0:=by
 obtain⟨b,c,d,_,e,f⟩:=jA h;have a:(W.all λp=>jf p.bt 256)=true:=jt.2 λp g=>by
  grind[jf,decide_eq_true]
 unfold gk
 grind
theorem Gk {l:List aS}(h:(List.range l.length).all (kO n l)=true):l.length<=n:=by
 have key:∀ i,i<l.length->(i:Int)<=(l.getD i kk).Node/\(l.getD i kk).Node<n:=by
  intro i;induction i with
  |zero=>
   intro a;have:=jt.1 h 0 (gS.2 a)
   grind[kO]
  |succ i b=>
   intro a;have c:=b (by omega);have:=jt.1 h (i+1) (gS.2 a)
   grind[kO]
 grind
theorem PP {j:cJ}(h:j.valid=0):Ha j:=by
 unfold cJ.valid at h;split at h
 ·omega
 rename_i i;split at h
 ·omega
 rename_i b;have b:j.v.valid 5=0:=by omega
 split at h
 ·omega
 rename_i k;split at h
 ·omega
 rename_i u;split at h
 ·omega
 rename_i w;split at h
 ·omega
 rename_i f;split at h
 ·omega
 rename_i x;have f:(j.reads.all λs=>jf s.bt j.lines)=true:=wy _▸f;have hw:j.writes≠[]->gk j.seq j.writes j.lines=0:=λa=>by
  grind
 unfold jT.valid at b;split at b
 ·omega
 rename_i o;split at b
 ·omega
 rename_i q;split at b
 ·omega
 rename_i r;split at b
 ·omega
 rename_i d;split at b
 ·omega
 rename_i g;have g:j.v.mem.all nF=true:=by grind
 have d:(List.range j.v.mem.length).all (kO (5:Nat) j.v.mem)=true:=wy _▸d;have t:=Gk d;have emp:∀ {P:aN->Prop},(j.writes≠[]->∀ p ∈ j.writes,P p)->∀ p ∈ j.writes,P p:=λl p c=>l (List.ne_nil_of_mem c) p c
 refine⟨by omega,by omega,by omega,λm hm=>?_,?_,by omega,λa=>?_,emp λa p c=>?_,emp λa p c=>(jA (hw a)).2.2.2.1 p c,λs n=>?_⟩
 ·have:=jt.1 g m hm;unfold nF at this
  grind
 ·by_cases e:j.writes=[]
  ·grind
  ·exact(jA (hw e)).2.1.2.2.2
 ·obtain⟨_,b,_⟩:=jA (hw a)
  grind[Cf]
 ·obtain⟨i,_,k,_⟩:=jA (hw a)
  grind
 ·have:=jt.1 f s n;unfold jf at this
  grind
abbrev m3:bY:=212
abbrev e3:bY:=171
abbrev o6:bY:=30
def ml (r:dj)(tb:Nat)(m:aS):ax:=r.cells++(ptr tb::m.cells)
structure fv (w0 u:an)(aY tb:Nat)(r:dj)(m:aS)(j:cJ):Prop where
 aj:av u aY (ml r tb m) m3
 bp:qS w0 r j
 cg:Ha j
 mem:j.v.mem[0]?=some m
 new:ai w0 u
 HN:w0.heap.size<=aY
 lv:w0.heap.size<=tb
 ne:aY≠tb
theorem fv.bH {r:dj}{m:aS}{j:cJ}(h:fv w0 u aY tb r m j)(a:ai u bB):fv w0 bB aY tb r m j:=
 ⟨ai.aj a h.aj,h.bp,h.cg,h.mem,h.new.new a,h.HN,h.lv,h.ne⟩
theorem fv.aA {r:dj}{m:aS}{j:cJ}(h:fv w0 u aY tb r m j)(a:ao M u bB)(b:∀ k,M k->w0.heap.size<=k/\k≠aY):fv w0 bB aY tb r m j:=
 ⟨a.aj h.aj λe=>(b _ e).2 rfl,h.bp,h.cg,h.mem,h.new.trans a λk c e=>by grind,h.HN,h.lv,h.ne⟩
theorem fv.num {w0 u:an}{aY tb:Nat}{r:dj}{m:aS}{j:cJ}(h:fv w0 u aY tb r m j):r.View.Number=j.v.number:=by obtain⟨M,al⟩:=h.bp.view;exact al.num
theorem tN {r:dj}{bS:aS}{j:cJ}(h:fv w0 w aY tb r bS j){m:aS}(G:dU m.cK){v:aG}{x:bc}(al:cT M w v x) :
  a5 212 [ptr aY,m.val,v.val] w λy w'=>∃ l:aG,y=l.val/\cT (λk=>k<w.heap.size) w' l (addr j.v.number m x)/\ai w w':=by
 refine ba Tryz.func212 ?_;rw[ptr,VT];rintro b1 w1 D t;obtain⟨g,o⟩:=bo D t;have g:av w1 b1 m.cells eL:=g;clear t;rintro L U E u;obtain⟨i,f⟩:=bo E u;have i:av U L v.cells cP:=i;clear u;rintro N K F z;obtain⟨d,c⟩:=bo F z;have d:av K N (aG.cells ⟨0,0,0,0,0,0,none,0,0,0,0⟩) cP:=d;clear z;rintro C A;have b:ai K C:=by rw[A];exact cR _
 clear A;have a:=((o.new f).new c).new b;have Q:=o.size;have R:=f.size;have S:=c.size;have T:=b.size;have O:=h.bH a;have q:=h.num;have W:=h.cg.num;refine⟨λy=>ai C y,ao.refl _ _,da.aV r.View ⟨λy B=>bX (ai.aj B O.aj) rfl,aS.aV m ⟨λy B=>bX (ai.aj (((f.new c).new b).new B) g) rfl,aG.aV v ⟨λy B=>bX (ai.aj ((c.new b).new B) i) rfl,?_⟩⟩⟩⟩;refine aB (C1 C (by omega) (by omega) G (al.aA (ao.cm a) λ_ _ e=>e)) ?_;rintro y X ⟨l,rfl,s,p⟩;refine aG.aV l ⟨rfl,dY (ai.aj (b.new p) d) rfl (aG.single _) λV I n=>?_⟩;have J:=d.lt;refine aG.aV l ⟨bX I rfl,rfl,l,rfl,?_,(a.new p).trans n λk P e=>by omega⟩;rw[q]at s;have H:cT (λk=>k<C.heap.size) V l (addr j.v.number m x):=s.aA (n.mono λk _ e=>by omega) λ_ _ e=>e
 exact H.aA (ao.refl _ _) λk _ e=>by omega
theorem cT.mono {v:aG}{x:bc}(h:cT M w v x)(a:∀ k,M' k->M k):cT M' w v x:=h.aA (ao.refl _ _) λk _ e=>a k e
theorem qI {k at_ nn old new:Int}(i:bl w a (us ws))(g:n=ws.length)(e:n<=c)(b:a=none->ws=[])(hu:∀ x ∈ ws,cy x)(f:ws.length<=1000000)(h:cy old)(d:cy new) :
  cT (λ_=>False) w ⟨k,0,at_,nn,old,new,a,n,c,0,0⟩ ⟨k,0,at_,nn,old,new,ws,0,0⟩:=by
 subst g;refine⟨rfl,i,b,.inr ?_,hu,d,h,?_,?_,e,f⟩
 ·cases a with
  |none=>trivial
  |some a=>exact id
 ·grind[cy]
 grind[dU]
def l3 (j:cJ)(m:aS):bc:=addr j.v.number m ⟨2,0,32+j.aL,0,0,0,[j.seq],0,0⟩
def j_ (j:cJ)(m:aS)(p:aN):bc:=addr j.v.number m ⟨2,0,p.bt*8,0,0,0,jU p,0,0⟩
theorem hL:cy 0:=⟨by decide,by decide⟩
theorem ET {r:dj}{bS:aS}{j:cJ}(h:fv w0 w aY tb r bS j)(aR:1<=j.seq/\j.seq<1073741824){m:aS}(G:dU m.cK) :
  a5 218 [ptr aY,m.val] w λy w'=>∃ a:aG,y=a.val/\cT (λk=>k<w.heap.size) w' a (l3 j m)/\ai w w':=by
 refine ba Tryz.func218 ?_;rw[ptr,Wp];rintro b1 w1 U K;obtain⟨C,I⟩:=bo U K;have C:av w1 b1 m.cells eL:=C;clear K;rintro Q ag V L;obtain⟨q,B⟩:=bo V L;have q:av ag Q (aG.cells ⟨0,0,0,0,0,0,none,0,0,0,0⟩) cP:=q;clear L;rintro T M;have o:ai ag T:=by rw[M];exact cR _
 clear M;have s:=(I.new B).new o;have aH:=I.size;have aO:=B.size;have aP:=o.size;have S:=h.bH s;have a8:=h.cg.aL;have Y:=h.bp.aL;have Z:=h.bp.seq;have af:=q.lt;refine ⟨λy=>ai T y,ao.refl _ _,aS.aV m ⟨λy P=>bX (ai.aj ((B.new o).new P) C) rfl,⟨_,λy P=>(ai.aj P S.aj).cell (i:=0) rfl,_,λy P=>(ai.aj P S.aj).cell (i:=1) rfl,?_⟩⟩⟩;dsimp only;rw [Y,Z,kP (x:=j.seq) (by omega) (by omega)];have fin:∀ {n E:an} {a:aG},ai T n->ai n E->cT (λk=>k<n.heap.size) E a (l3 j m)->
   (ej E ⟨Q,0,none⟩ 0 a.cells/\∀ z,z=cI E ⟨Q,0,none⟩ 0 a.cells->aG.ex λg=>cn z ⟨Q,0,none⟩ 0 g.cells/\z=z/\∃ a:aG,g.val=a.val/\cT (λk=>k<w.heap.size) z a (l3 j m)/\ai w z):=by
  intro n E a A F l;have aQ:=A.size;refine dY (ai.aj ((o.new A).new F) q) rfl (aG.single _) λz ad H=>?_
  refine aG.aV a ⟨bX ad rfl,rfl,a,rfl,?_,((s.new A).new F).trans H λk ah e=>by omega⟩;have ab:cT (λk=>k<n.heap.size) z a (l3 j m):=l.aA (H.mono λk _ e=>by omega) λ_ _ e=>e
  exact ab.mono λk e=>by omega
 have u:∀ {n:an} {R:Nat},av n R [.int .u64 j.seq] o6->cT (λ_=>False) n ⟨2,0,32+j.aL,0,0,0,some ⟨R,0,none⟩,1,1,0,0⟩ ⟨2,0,32+j.aL,0,0,0,[j.seq],0,0⟩:=by intro n R D;exact qI (fj D rfl) rfl (by omega) (λe=>by cases e) (λx a'=>by grind[cy]) (by simp) hL hL
 refine⟨?_,?_⟩
 ·refine aB (wZ T (by omega)) ?_;rintro y bb ⟨rfl,c⟩;refine⟨_,rfl,c,?_⟩;rintro R n W N;obtain⟨D,p⟩:=bo W N;clear N;refine⟨c.new p,?_⟩;have b:=tN (S.bH (c.new p)) G (u D);refine aB b ?_;rintro y E ⟨a,rfl,l,J⟩;exact aG.aV a ⟨rfl,(c.new p).new J,fin (c.new p) J l⟩
 ·rintro a0 aZ X O;obtain⟨ae,d⟩:=bo X O;clear O;refine⟨d,?_⟩;refine aB (wZ aZ (by omega)) ?_;rintro y bh ⟨rfl,f⟩;refine⟨_,rfl,d.new f,?_⟩;have b:=tN (S.bH (d.new f)) G (u (ai.aj f ae));refine aB b ?_;rintro y aX ⟨a,rfl,l,t⟩;exact aG.aV a ⟨rfl,(d.new f).new t,fin (d.new f) t l⟩
theorem Gl {p:aN}(h:∀ x ∈ h7 p,cy x):∀ x ∈ jU p,cy x:=λx a=>by
 grind[jU,Qi]
theorem EU {r:dj}{bS:aS}{j:cJ}(h:fv w0 w aY tb r bS j)(bl:∀ p ∈ j.writes,∀ x ∈ h7 p,cy x){m:aS}(X:dU m.cK) :
  a5 217 [ptr aY,m.val] w λy w'=>∃ (a:ak) (cap:Nat),y=.slice a j.writes.length cap/\bP w w' a j.writes.length cap (j.writes.map (j_ j m))/\ai w w':=by
 refine ba Tryz.func217 ?_;rw[ptr,Wo];rintro b1 w1 V R;obtain⟨c,F⟩:=bo V R;have c:av w1 b1 m.cells eL:=c;clear R;have ao:=h.bH F;have hlen:=h.bp.b6.len;have bq:=h.cg.t';have bx:=F.size;refine⟨_,_,_,ao.aj.cell (i:=6) rfl,?_⟩;refine cZ mix (λq env u=>∃ (i:Nat) (aW:ak) (pc:Nat) (aC:ax),q=j.writes.length-i/\i<=j.writes.length/\env=xT ⟨aY,0,none⟩ ⟨b1,0,none⟩ aW i pc r.eN r.dZ r.hR r.dZ i aC/\ai w u/\bP w u aW i pc ((j.writes.take i).map (j_ j m))/\av u b1 m.cells eL/\fv w0 u aY tb r bS j) j.writes.length
  ⟨0,none,0,_,rfl,by omega,rfl,F,bP.nil _ _,c,ao⟩ ?_
 rintro q env u ⟨i,aW,pc,aC,rfl,bO,rfl,L,s,c,D⟩;rw[UL,hlen];have M:ai w0 u:=h.new.new L;refine bb (λbr=>?_) (λbm=>?_)
 ·obtain⟨p,aZ⟩:∃ p,j.writes[i]?=some p:=⟨_,b2 (by omega)⟩;have t:=b9 aZ;have P:=h.cg.wl p t;have ad:=h.cg.JU p t;have ae:=h.bp.b6.u64 p t;refine eQ (cells:=aN.cells) aN.len (by omega) (h.bp.b6.rd.new M) aZ rfl rfl λb o Y _=>aN.aV p ⟨Y,?_⟩
  refine io (vs:=p.cells) rfl (aN.single _) λa' cl bk g I=>?_
  refine aN.aV p ⟨bX g rfl,?_⟩;refine aB (DX cl p ae ad.2) ?_;rintro y bw ⟨aa,ac,rfl,J,A,bj⟩;refine⟨_,_,_,_,rfl,?_⟩;rintro cq S;have G:ai bw cq:=by rw[S];exact cR _
  clear S;have f:=J.new G;have d:=(I.new J).new G;refine⟨λy=>av y a' p.cells fr/\av y b1 m.cells eL,⟨ai.aj f g,ai.aj d c⟩,aS.aV m ⟨λy ah=>bX ah.2 rfl,_,λy ah=>ah.1.cell (i:=0) rfl,?_⟩⟩;refine aB (qV cq P.1 P.2) ?_;rintro y bA ⟨rfl,rfl⟩;refine⟨_,rfl,⟨ai.aj f g,ai.aj d c⟩,?_⟩;have ag:cT (λ_=>False) bA ⟨2,0,p.bt*8,0,0,0,aa,8,ac,0,0⟩ ⟨2,0,p.bt*8,0,0,0,jU p,0,0⟩:=qI (aX.new G A).rd (by rfl) (aX.le A) (λe=>by
   obtain⟨_,bN⟩:=A
   grind) (Gl (bl p t)) (by simp[jU,h7]) hL hL
  have B:=tN (D.bH d) X ag;refine aB B ?_;rintro y bC ⟨bK,rfl,af,n⟩;have l:=d.new n;refine aG.aV bK ⟨rfl,⟨ai.aj (f.new n) g,ai.aj l c⟩,?_⟩;have Q:=s.new d;rintro bM bD W T;have K:ai bC bD:=by rw[T];exact hF _ _
  refine⟨⟨ai.aj ((f.new n).new K) g,ai.aj (l.new K) c⟩,?_⟩;have aR:=g.lt;have aQ:=c.lt;have a0:∀ k,aP aW k->k<u.heap.size:=λk U=>by obtain⟨z,N,_⟩:=s.ex;exact N.lt U
  have bz:=I.size;refine bP.mC Q (L.new d) n af (by omega) W T λap H u8 aH E ab=>?_
  have O:¬ aP aW b1:=λe=>by have aO:=s.ex;obtain⟨z,N,_⟩:=aO;obtain⟨cs,C⟩:=gN N e;exact cp (C.ne c (by decide)) (λZ=>Z rfl)
  have a8:av u8 b1 m.cells eL:=E.aj (ai.aj l c) O;refine⟨⟨E.aj (ai.aj (f.new n) g) λe=>by grind,a8⟩,?_⟩;rw[bI (x:=(i:Int)+1) (by omega) (by omega)];have e:(j.writes.take i).map (j_ j m)++[addr j.v.number m ⟨2,0,p.bt*8,0,0,0,jU p,0,0⟩]=(j.writes.take (i+1)).map (j_ j m):=by
   grind[List.take_add_one,j_]
  rw[e]at aH;refine⟨j.writes.length-(i+1),by omega,i+1,ap,H,_,rfl,by omega,by rw[<-hlen];rfl,ab,aH,a8,(D.bH l).aA E λk U=>?_⟩;have aO:=s.g0 k U;have bh:=h.new.size;refine⟨by omega,λe=>?_⟩
  obtain⟨z,N,_⟩:=s.ex;obtain⟨cs,C⟩:=gN N U;exact cp (e▸C |>.ne D.aj (by decide)) (λZ=>Z rfl)
 grind[U',List.take_length]
end
section
def hY:ck->Int
 | []=>0
 |d::ds=>if d.code=0 then hY ds else d.code
theorem LI {ds:ck}{x:cN}(h:ds[i]?=some x):hY (ds.drop i)=if x.code=0 then hY (ds.drop (i+1))else x.code:=by have a:=cS h;rw[wv a];rw[b2 a]at h;cases h;rfl
theorem EV (hw:ai w0 w){raw:List bV}{ds:ck}(C:n=raw.length)(E:bl w0 a (gv raw).flatten)(s:gT A w0 raw ds)(y:raw.length<=1000000):a5 242 [.slice a n c] w λx w'=>x=.int .i64 (hY ds)/\ai w w':=by
 subst C;refine ba Tryz.func242 ?_;rw[K1];have B:=s.1;refine cZ mix (λm env u=>∃ (i:Nat) (aC:ax),m=raw.length-i/\i<=raw.length/\env=yD a raw.length c raw.length i aC/\ai w u/\hY ds=hY (ds.drop i)) raw.length
  ⟨0,_,by omega,by omega,rfl,ao.refl _ _,rfl⟩ ?_
 rintro m env u ⟨i,aC,rfl,F,rfl,f,t⟩;rw[XW];refine bb (λD=>?_) (λD=>?_)
 ·have r:i<raw.length:=by omega
  have q:raw[i]?=some raw[i]:=b2 r;obtain⟨x,h⟩:∃ x,ds[i]?=some x:=⟨_,b2 (by omega)⟩;have g:=s.2 i _ _ q h;generalize raw[i]=d at q g;have p:=g.code;rw[LI h]at t;refine eQ (cells:=bV.cells) bV.len (by omega) (E.new (hw.new f)) q rfl rfl λb o l _=>bV.aV d ⟨l,?_⟩
  refine io (vs:=d.cells) rfl (bV.single _) λb1 G z k j=>⟨_,k.cell (i:=0) rfl,d8 (λe=>⟨_,k.cell (i:=0) rfl,?_,f.new j⟩) (λe=>?_)⟩
  ·grind
  ·rw[bI (x:=(i:Int)+1) (by omega) (by omega)];exact⟨raw.length-(i+1),by omega,i+1,_,rfl,by omega,rfl,f.new j,by grind⟩
 ·rw[YS];refine⟨?_,f⟩;rw[t,List.drop_of_length_le (by omega)];rfl
structure cd where
 ok:Bool
 done:ck
 out:Int×Int
 a2:a3
 ask:Option a_
 dH:Bool
def cA (G:a3)(vs:a_)(a:Int):cd:=
 if(batch G vs).ok=false then⟨false,[],(0,0),(batch G vs).a2,(batch G vs).ask,(batch G vs).dH⟩
 else if hY (batch G vs).done≠0 then⟨false,[],(hY (batch G vs).done,a),(batch G vs).a2,none,false⟩
 else⟨true,(batch G vs).done,(0,0),(batch G vs).a2,none,false⟩
structure eV (A:a4)(w0 u:an)(tb:Nat)(T:eM)(G:a3):Prop where
 aj:av u tb T.cells p5
 a2:ic A w0 T.vA G
 f9:T.f9=G.length
 gc:T.f9<=T.gc
theorem eV.new {T:eM}{G:a3}(h:eV A w0 u tb T G)(a:ai u bB):eV A w0 bB tb T G:=⟨ai.aj a h.aj,h.a2,h.f9,h.gc⟩
theorem eV.aA {T:eM}{G:a3}(h:eV A w0 u tb T G)(b:ao M u bB)(a:¬ M tb):eV A w0 bB tb T G:=⟨b.aj h.aj a,h.a2,h.f9,h.gc⟩
structure g5 (A:a4)(w0 u:an)(tb B:Nat)(R:cd)(bB:an):Prop where
 aA:ao (λk=>k=tb) u bB
 gz:∃ iO:eM,eV A w0 bB tb iO R.a2/\iO.dH=R.dH/\(match R.ask with
  |none=>iO.e_=0
  |some vs=>0<vs.length/\∃ w1,ai w0 w1/\B<=w1.heap.size/\bP w1 bB iO.aa iO.e_ iO.ac vs)
structure gF (T:eM):Prop where
 e_:T.e_=0
 dH:T.dH=false
theorem g5.new {A:a4}{w0 u bB a:an}{tb B:Nat}{R:cd}(h:g5 A w0 u tb B R bB)(b:ai bB a):g5 A w0 u tb B R a:=by
 obtain⟨k,d,l,hw,c⟩:=h;refine⟨k.new b,d,l.new b,hw,?_⟩;cases j:R.ask with
 |none=>grind
 |some vs=>rw[j]at c;obtain⟨e,w1,f,g,i⟩:=c;exact⟨e,w1,f,g,i.new b⟩
theorem m' (aq:av u b zs e3)(h:zs.length=2)(c f:Int){K:bA->aJ}(g:∀ cq,ao (λk=>k=b) u cq->K ⟨c,f⟩ cq) :
  ej u ⟨b,0,none⟩ 0 [(.int .i64 c),(.int .i64 f)]/\∀ a,a=cI u ⟨b,0,none⟩ 0 [(.int .i64 c),(.int .i64 f)]->bA.ex λres=>cn a ⟨b,0,none⟩ 0 res.cells/\a=a/\K res a:=
 dY aq (vs:=bA.cells ⟨c,f⟩) (by rw[h];rfl) (bA.single _) λa e d=>bA.aV ⟨c,f⟩ ⟨bX e rfl,rfl,g a d⟩
theorem FB {G:a3}{vs ws:a_}(h:(batch G vs).ask=some ws):0<vs.length:=by
 unfold batch at h
 grind
theorem sD {r:dj}{m:aS}{j:cJ}(X:fv w0 u aY tb r m j){T:eM}{G:a3}(aO:eV A w0 u tb T G)(E:gF T){w1:an}(ag:ai w0 w1)(ae:tb<w1.heap.size){vs:a_}(al:bP w1 u a n cap vs)(aP:vs.length<=100000)(b:Int) :
  a5 213 [ptr aY,.slice a n cap,.int .i64 b] u λv bB=>∃ (dJ:ak) (dc:Nat) (raw:List bV),v=.tuple #[.slice dJ raw.length dc,bA.val ⟨(cA G vs b).out.1,(cA G vs b).out.2⟩,.bool (cA G vs b).ok]/\
   g5 A w0 u tb w1.heap.size (cA G vs b) bB/\bl w0 dJ (gv raw).flatten/\gT A w0 raw (cA G vs b).done/\(raw=[]\/raw.length=vs.length):=by
 refine ba Tryz.func213 ?_;rw[ptr,Xp];rintro b1 bQ U N;obtain⟨C,o⟩:=bo U N;have C:av bQ b1 (bA.cells ⟨0,0⟩) e3:=C;clear N;have y:=X.bH o;have p:=aO.new o;have B:=al.new o;obtain⟨P,w,O⟩:=B.ex;have bk:=O.1;have ad:=B.len;have a':=o.size;have bb:=aO.aj.lt;have W:b1≠tb:=by omega
 refine⟨_,y.aj.cell (i:=7) rfl,?_⟩;have J:n=P.length:=by omega
 rw[J]at w;have aH:=Fy (A:=A) y.new X.lv p.aj p.a2 p.f9 p.gc (aa:=a) (ac:=cap) w.rd O (by omega);rw[<-J]at aH;refine aB aH ?_;rintro v cl ⟨aG,dJ,dc,raw,rfl,V,q,M,z,F,Z,Y,ah,h⟩;rw[E.dH,Bool.false_or]at ah;have D:av cl b1 (bA.cells ⟨0,0⟩) e3:=q.aj C W;have bj:bP w1 cl a n cap vs:=B.aA q λk e=>by omega
 have H:ao (λk=>k=tb) u cl:=(ao.cm o).trans q λ_ _ e=>e
 have c:(batch G vs).done.length=raw.length:=z.1.symm;refine⟨_,_,_,_,rfl,?_⟩;have fin:∀ {bw cq:an},ai cl bw->ao (λk=>k=b1) bw cq->∀ {R:cd},R.a2=(batch G vs).a2->R.dH=(batch G vs).dH->R.ask=(batch G vs).ask->g5 A w0 u tb w1.heap.size R cq:=by
  intro bw cq l f R aR bm aV;have t:ao (λk=>k=b1) cl cq:=(ao.cm l).trans f λ_ _ e=>e
  have s:ao (λk=>k=tb) u cq:=H.trans t λk ab e=>by omega
  refine⟨s,aG,?_,by grind,?_⟩
  ·rw[aR];exact⟨t.aj V (by omega),F,Z,Y⟩
  ·rw[aV];cases Q:(batch G vs).ask with
   |none=>rw[Q]at h;obtain⟨_,S,_⟩:=h;show aG.e_=0;rw[S];exact E.e_
   |some ws=>rw[Q]at h;obtain⟨aX,S,aZ⟩:=h;have:=DW Q;subst this;refine⟨FB Q,w1,ag,db _,?_⟩;rw[aX,S,aZ,<-ad];exact al.aA s λk e=>e▸ae
 unfold cA;have a0:=@rQ G vs;refine eF (λg=>?_) (λg=>?_)
 ·rw[bh g];exact m' D rfl 0 0 λcq f=>⟨none,0,[],rfl,fin (ao.refl _ _) f rfl rfl rfl,.inl rfl,⟨rfl,λi v x al=>by grind⟩,.inl rfl⟩
 ·rw[aQ (by grind)];obtain⟨K,L⟩:=ER g;have I:ai w0 cl:=y.new.trans q λk ab e=>by have:=X.lv;omega
  refine aB (EV I rfl M z (by omega)) ?_;rintro v bw ⟨rfl,l⟩;refine⟨_,rfl,d8 (λe=>?_) (λe=>?_)⟩
  ·rw[bh e];exact m' (ai.aj l D) rfl _ _ λcq f=>⟨none,0,[],rfl,fin l f rfl L.symm K.symm,.inl rfl,⟨rfl,λi v x al=>by grind⟩,.inl rfl⟩
  ·rw[aQ (by grind)];refine m' (ai.aj l D) rfl 0 0 λcq f=>⟨dJ,dc,raw,rfl,fin l f rfl L.symm K.symm,M,z,?_⟩
   by_cases af:vs.length=0
   ·grind
   ·right;unfold batch at g c;rw[aQ af]at g c;cases G with
    |nil=>grind
    |cons d G'=>
     simp only at g c;split at g
     ·rename_i a8;rw[bh a8]at c
      grind[wC]
     grind
theorem S4 {r:dj}{bS:aS}{j:cJ}(h:fv w0 w aY tb r bS j){v:aG}{x:bc}(al:cT M w v x) :
  a5 237 [ptr aY,v.val] w λy w'=>∃ (a:ak) (cap:Nat),y=.slice a j.v.mem.length cap/\bP w w' a j.v.mem.length cap (j.v.mem.map λm=>addr j.v.number m x)/\ai w w':=by
 refine ba Tryz.func237 ?_;rw[ptr,XH];rintro b1 w1 F D;obtain⟨d,l⟩:=bo F D;have d:av w1 b1 v.cells cP:=d;clear D;have E:=h.bH l;obtain⟨aH,g⟩:=h.bp.view;have hlen:=g.len;have Y:=h.cg.mem;have L:=l.size;have ab:=d.lt;refine⟨_,_,_,E.aj.cell (i:=4) rfl,?_⟩;refine cZ mix (λq env u=>∃ (i:Nat) (aW:ak) (pc:Nat) (aC:ax),q=j.v.mem.length-i/\i<=j.v.mem.length/\env=x8 ⟨aY,0,none⟩ ⟨b1,0,none⟩ aW i pc r.View.f7 r.View.fq r.View.gB r.View.fq i aC/\ai w1 u/\bP w1 u aW i pc ((j.v.mem.take i).map λm=>addr j.v.number m x)/\av u b1 v.cells cP/\fv w0 u aY tb r bS j) j.v.mem.length
  ⟨0,none,0,_,rfl,by omega,rfl,ao.refl _ _,bP.nil _ _,d,E⟩ ?_
 rintro q env u ⟨i,aW,pc,aC,rfl,aR,rfl,n,f,d,s⟩;rw[Vc,hlen];have B:ai w0 u:=E.new.new n;refine bb (λad=>?_) (λX=>?_)
 ·obtain⟨m,hm⟩:∃ m,j.v.mem[i]?=some m:=⟨_,b2 (by omega)⟩;have ae:=h.cg.eX m (b9 hm);refine eQ (cells:=aS.cells) aS.len (by omega) (g.rd.new B) hm rfl rfl λb o H _=>aS.aV m ⟨H,?_⟩
  refine io (vs:=m.cells) rfl (aS.single _) λaO cl W Q c=>?_
  refine aS.aV m ⟨bX Q rfl,aG.aV v ⟨bX (ai.aj c d) rfl,?_⟩⟩;have O:cT M cl v x:=al.aA (ao.cm ((l.new n).new c)) λ_ _ e=>e
  have p:=tN (s.bH c) (m:=m) (by grind[dU]) O;refine aB p ?_;rintro y bw ⟨ah,rfl,N,t⟩;refine aG.aV ah ⟨rfl,?_⟩;rintro aQ aX G P;have ag:=c.size;refine bP.mC (f.new c) (n.new c) t N (by omega) G P λap z u8 R A K=>?_
  have C:¬ aP aW b1:=λe=>by have V:=f.g0 _ e;omega
  rw[bI (x:=(i:Int)+1) (by omega) (by omega)];have e:(j.v.mem.take i).map (λm=>addr j.v.number m x)++[addr j.v.number m x]=(j.v.mem.take (i+1)).map λm=>addr j.v.number m x:=by
   grind[List.take_add_one]
  rw[e]at R;refine⟨j.v.mem.length-(i+1),by omega,i+1,ap,z,_,rfl,by omega,by rw[<-hlen];rfl,K,R,A.aj (ai.aj (c.new t) d) C,(s.bH (c.new t)).aA A λk S=>?_⟩;have V:=f.g0 k S;have U:=h.new.size;refine⟨by omega,λe=>?_⟩
  obtain⟨T,af,_⟩:=f.ex;obtain⟨cs,I⟩:=gN af S;exact cp (e▸I |>.ne s.aj (by decide)) (λZ=>Z rfl)
 ·have J:i=j.v.mem.length:=by omega
  subst J;rw[Vy];rw[ja]at f;exact⟨aW,pc,rfl,f.mono L,l.new n⟩
def u3 (R:cd)(f:a3->cd):cd:=if R.ok then f R.a2 else R
def sK (G:a3):cd:=⟨true,[],(0,0),G,none,false⟩
def qi (j:cJ)(at_:Int)(ws:a7):a_:=j.v.mem.map λm=>addr j.v.number m ⟨2,0,at_,0,0,0,ws,0,0⟩
def oj (j:cJ)(G:a3)(at_:Int)(ws:a7)(a:Int):cd:=if j.writes=[]then sK G else cA G (qi j at_ ws) a
def sL (j:cJ)(G:a3):cd:=oj j G (fN j.aL+8) (fW j.seq j.writes) 1
def u4 (j:cJ)(G:a3):cd:=oj j G (fN j.aL) [gw j.seq] 2
def lB (A:a4)(w0 u:an)(tb B:Nat)(R:cd)(v:bf)(bB:an):Prop:=v=.tuple #[bA.val ⟨R.out.1,R.out.2⟩,.bool R.ok]/\g5 A w0 u tb B R bB
theorem g5.skip {T:eM}{G:a3}(c:eV A w0 u tb T G)(a:gF T)(b:ai u bB):g5 A w0 u tb B (sK G) bB:=
 ⟨ao.cm b,T,c.new b,a.dH,a.e_⟩
theorem g5.put {R:cd}(h:g5 A w0 bQ tb B R cl)(r:ai u bQ)(a:ai cl bw)(d:ao (λk=>k=b) bw cq)(x:u.heap.size<=b)(p:b<B)(c:b≠tb)(w:B'<=B):g5 A w0 u tb B' R cq:=by
 obtain⟨f,i,s,hw,g⟩:=h;refine⟨(((ao.cm r).trans f λ_ _ e=>e).new a).trans d λk q e=>by omega,i,(s.new a).aA d λe=>c e.symm,hw,?_⟩;cases o:R.ask with
 |none=>grind
 |some vs=>rw[o]at g;obtain⟨j,w1,l,t,n⟩:=g;exact⟨j,w1,l,by omega,(n.new a).aA d λk e=>by omega⟩
theorem Hb (aq:av u b zs e3)(l:zs.length=2)(o:bA){K:bA->aJ}(j:∀ bw cq,ai u bw->ao (λk=>k=b) bw cq->K o cq) :
  ∀ d h,d=u.heap.size->h=u.alloc (.cells #[.int .i64 0,.int .i64 0] e3)->ej h ⟨d,0,none⟩ 0 o.cells/\∀ c,c=cI h ⟨d,0,none⟩ 0 o.cells->bA.ex λr=>cn c ⟨d,0,none⟩ 0 r.cells/\ej c ⟨b,0,none⟩ 0 r.cells/\∀ a,a=cI c ⟨b,0,none⟩ 0 r.cells->bA.ex λres=>cn a ⟨b,0,none⟩ 0 res.cells/\a=a/\K res a:=by
 refine io (zs:=[.int .i64 0,.int .i64 0]) (vs:=o.cells) rfl (bA.single _) λd c n f i=>?_
 refine bA.aV o ⟨bX f rfl,dY (ai.aj i aq) (by rw[l];rfl) (bA.single _) λa g e=>?_⟩;exact bA.aV o ⟨bX g rfl,rfl,j c a i e⟩
theorem Hc {r:dj}{m:aS}{j:cJ}(z:fv w0 u aY tb r m j){T:eM}{G:a3}(J:eV A w0 u tb T G)(p:gF T){at_:Int}(hw:j.writes≠[]->bl u a (us ws)/\n=ws.length/\n<=cap/\(a=none->ws=[])/\(∀ x ∈ ws,cy x)/\ws.length<=1000000)(b:Int) :
  a5 208 [ptr aY,.int .i64 at_,.slice a n cap,.int .i64 b] u (lB A w0 u tb u.heap.size (oj j G at_ ws b)):=by
 refine ba Tryz.func208 ?_;rw[ptr,XJ];rintro b1 bQ y w;obtain⟨d,c⟩:=bo y w;have d:av bQ b1 (bA.cells ⟨0,0⟩) e3:=d;clear w;have f:=z.bH c;have o:=J.new c;have hlen:=z.bp.b6.len;have s:=c.size;have q:=d.lt;have Q:=J.aj.lt;unfold oj;refine⟨_,_,_,f.aj.cell (i:=6) rfl,eg (λe=>?_) (λe=>?_)⟩
 ·have k:j.writes=[]:=hN (by omega);rw[bh k];exact m' d rfl 0 0 λcq C=>⟨rfl,(g5.skip (B:=bQ.heap.size) o p (ao.refl _ _)).put c (ao.refl _ _) C (by omega) q (by omega) s⟩
 ·have k:j.writes≠[]:=λR=>by grind
  rw[aQ k];obtain⟨K,L,M,N,O,P⟩:=hw k;have F:cT (λ_=>False) bQ ⟨2,0,at_,0,0,0,a,n,cap,0,0⟩ ⟨2,0,at_,0,0,0,ws,0,0⟩:=qI (K.new c) L M N O P hL hL;have l:=S4 f F;refine aB l ?_;rintro v cl ⟨aa,ac,rfl,H,h⟩;refine⟨_,_,_,rfl,?_⟩;have g:=sD (f.bH h) (o.new h) p f.new (w1:=bQ) (by omega) H (by rw[gR];have:=z.cg.mem;omega) b;refine aB g ?_;rintro v cq ⟨dJ,dc,raw,rfl,t,_⟩;refine⟨_,_,_,bA.aV ⟨(cA G (qi j at_ ws) b).out.1,(cA G (qi j at_ ws) b).out.2⟩ ⟨(cA G (qi j at_ ws) b).ok,rfl,?_⟩⟩;have I:av cq b1 (bA.cells ⟨0,0⟩) e3:=t.aA.aj (ai.aj h d) (by omega);refine Hb I rfl _ λS U E D=>⟨rfl,t.put (c.new h) E D (by omega) q (by omega) s⟩
end
section
theorem Qk {r:b7}{W:List aN}(h:fM w r.eN r.dZ W)(al:gk r.Seq W 256≠0):a5 210 [r.val] w λv w'=>v=.slice none 0 0/\ai w w':=by refine ba Tryz.func210 ?_;rw[JQ];rintro b1 w1 c b;obtain⟨aq,a⟩:=bo c b;have aq:av w1 b1 r.cells 271:=aq;clear b;refine b7.aV r ⟨bX aq rfl,?_⟩;refine aB (wB (h.new a) 256) ?_;rintro v f ⟨rfl,d⟩;exact⟨_,rfl,d8 (λe=>⟨rfl,a.new d⟩) (λe=>cp e al)⟩
theorem NU (w:an)(s:Int):a5 214 [.int .i64 s] w λv w'=>∃ x e:Int,v=.tuple #[.int .u64 x,.int .i64 e]/\w'=w/\(1<=s/\s<1073741824->x=gw s):=by
 refine ba Tryz.func214 ?_;rw[B5];refine aB (tW w s 1 1073741823) ?_;rintro v w1 ⟨rfl,rfl⟩;refine⟨_,rfl,eF (λa=>⟨_,_,rfl,rfl,λe=>cp (of_decide_eq_false a) (by omega)⟩) (λ_=>⟨_,_,rfl,rfl,λe=>?_⟩)⟩
 rw[kP (x:=s) (by omega) (by omega)];rfl
theorem FC {W:List aN}(c:cy seq)(b:W.length<=12)(fu:∀ p ∈ W,cy p.bt/\cy p.Head/\∀ x ∈ h7 p,cy x):∀ x ∈ fW seq W,cy x:=by
 intro x a;unfold fW ow at a;rcases i'.1 a with a | a
 ·grind[cy,List.mem_flatten]
 grind[OO]
def pT (j:cJ):Prop:=∀ p ∈ j.writes,∀ x ∈ h7 p,cy x
theorem RI {r:dj}{m:aS}{j:cJ}(D:fv w0 u aY tb r m j)(Z:pT j){T:eM}{G:a3}(X:eV A w0 u tb T G)(O:gF T) :
  a5 172 [ptr aY] u (lB A w0 u tb u.heap.size (sL j G)):=by
 refine ba Tryz.func172 ?_;rw[ptr,Xq];rintro b1 bQ N I;obtain⟨l,H⟩:=bo N I;have l:av bQ b1 (bA.cells ⟨0,0⟩) e3:=l;clear I;rintro cl J;have t:ai bQ cl:=by rw[J];exact cR _
 clear J;have k:=H.new t;have h:=D.bH k;have M:=X.new k;have af:=H.size;have ag:=t.size;have ae:=l.lt;have aG:=X.aj.lt;have P:=D.bp.aL;have Q:=D.bp.seq;have E:=D.cg;have ad:=E.aL;have F:=E.t';refine ⟨λy=>av y aY (ml r tb m) m3,h.aj,_,λy V=>V.cell (i:=0) rfl,dj.aV r ⟨λy V=>bX V rfl,?_⟩⟩;refine aB (FA cl (by omega)) ?_;rintro v bw ⟨rfl,rfl⟩;refine ⟨_,rfl,h.aj,?_⟩;refine aB (Eg bw r) ?_;rintro v cq ⟨rfl,w⟩;refine b7.aV _ ⟨rfl,(h.bH w).aj,?_⟩;have q:=h.bH w;have z:fM cq r.eN r.dZ j.writes:=D.bp.b6.new q.new;have fin:∀ {C:an} {a:ak} {n cap:Nat},ai cq C->(j.writes≠[]->bl C a (us (fW j.seq j.writes))/\n=(fW j.seq j.writes).length/\n<=cap/\(a=none->fW j.seq j.writes=[])/\(∀ x ∈ fW j.seq j.writes,cy x)/\(fW j.seq j.writes).length<=1000000)->
   Calls prog 208 #[(.pointer (some ⟨aY,0,none⟩)),(.int .i64 (fN r.Client+8)),(.slice a n cap),(.int .i64 1)] C λe W=>bA.ex λo=>∃ b:Bool,e=.returned (.tuple #[o.val,(.bool b)])/\av W aY (ml r tb m) m3/\ej W ⟨b1,0,none⟩ 0 o.cells/\∀ L,L=cI W ⟨b1,0,none⟩ 0 o.cells->bA.ex λres=>cn L ⟨b1,0,none⟩ 0 res.cells/\L=L/\lB A w0 u tb u.heap.size (sL j G) (.tuple #[res.val,(.bool b)]) L:=by
  intro C a n cap d hw;have c:=w.new d;have s:=Hc (A:=A) (h.bH c) (M.new c) O (at_:=fN j.aL+8) hw 1;rw[P];refine aB s ?_;rintro v aO ⟨rfl,B⟩;have ah:=c.size;refine bA.aV _ ⟨_,rfl,B.aA.aj (h.bH c).aj D.ne,?_⟩;exact m' (B.aA.aj (ai.aj (t.new c) l) (by omega)) rfl _ _ λaP R=>⟨rfl,B.put (k.new c) (ao.refl _ _) R (by omega) (by omega) (by omega) (by omega)⟩
 by_cases K:j.writes=[]
 ·have S:gk r.Seq j.writes 256≠0:=λe=>by
   have:=(jA e).2.1.2.2.1
   grind
  refine aB (Qk (r:=⟨r.Seq,r.eN,r.dZ,r.hR⟩) z S) ?_;rintro v C ⟨rfl,d⟩;exact⟨_,_,_,rfl,(q.bH d).aj,fin d λe=>cp K e⟩
 ·obtain⟨al,Y⟩:=E.wr K;rw[<-Q]at al Y;refine aB (z2 (r:=⟨r.Seq,r.eN,r.dZ,r.hR⟩) z al Y F E.wl) ?_;rintro v C ⟨a,cap,rfl,d,f,ab⟩;refine⟨_,_,_,rfl,(q.bH d).aj,fin d λ_=>?_⟩
  have f:aX C 30 1 a (3+9*j.writes.length) cap (us (fW j.seq j.writes)):=by grind
  refine⟨f.rd,(pq _ _).symm,aX.le f,λe=>?_,FC (by grind[cy]) F λp U=>?_,by grind[pq]⟩
  ·rcases f.2 with⟨aH,_,_⟩ | ⟨g,cur,E,_⟩
   ·omega
   grind
  ·have:=E.wl p U;exact⟨by grind[cy],z.u64 p U,Z p U⟩
theorem Ql {r:dj}{m:aS}{j:cJ}(p:fv w0 u aY tb r m j){T:eM}{G:a3}(E:eV A w0 u tb T G)(t:gF T) :
  a5 174 [ptr aY] u (lB A w0 u tb u.heap.size (u4 j G)):=by
 refine ba Tryz.func174 ?_;rw[ptr,Xr];rintro b1 bQ q l;obtain⟨d,c⟩:=bo q l;have d:av bQ b1 (bA.cells ⟨0,0⟩) e3:=d;clear l;have g:=p.bH c;have J:=c.size;have I:=d.lt;have L:=E.aj.lt;have w:=p.bp.aL;have z:=p.bp.seq;have F:=p.cg;have H:=F.aL;refine⟨_,g.aj.cell (i:=1) rfl,?_⟩;refine aB (NU bQ r.Seq) ?_;rintro v cl ⟨x,e,rfl,rfl,M⟩;refine⟨_,_,rfl,_,g.aj.cell (i:=0) rfl,?_⟩;refine aB (Ab cl (by omega)) ?_;rintro v bw ⟨rfl,rfl⟩;refine⟨_,rfl,?_⟩;rintro D cq s o;obtain⟨f,b⟩:=bo s o;have f:av cq D (us [x]) o6:=f;clear o;have K:=b.size;rw[w];have h:=Hc (A:=A) (g.bH b) ((E.new c).new b) t (a:=some ⟨D,0,none⟩) (n:=1) (cap:=1) (at_:=fN j.aL) (ws:=[gw j.seq]) (λhw=>by obtain⟨_,N⟩:=F.wr hw;have C:=M (by omega);rw[C,z]at f;exact⟨fj f rfl,rfl,by omega,(λe=>by cases e),(λy O=>by grind[Aa]),by simp⟩) 2
 refine aB h ?_;rintro v P ⟨rfl,k⟩;refine bA.aV _ ⟨_,rfl,?_⟩;exact m' (k.aA.aj (ai.aj b d) (by omega)) rfl _ _ λQ B=>⟨rfl,k.put (c.new b) (ao.refl _ _) B (by omega) (by omega) (by omega) (by omega)⟩
theorem y_ (l:List aG):(l.map aG.cells).flatten=(dS l).flatten:=rfl
theorem bP.vg {y:an}{vs p:a_}(h:bP w0 bQ a n cap vs)(A:ai w0 bQ)(E:bP y bQ bW fm gj p)(r:∀ k,aP a k->k<y.heap.size)(M:w0.heap.size<=y.heap.size)(N:n+fm<=100000)
  (C:∀ ap f i,bP w0 i ap (n+fm) f (vs++p)->ao (aP a) bQ i->ai w0 i->K ap (n+fm) f i) :
  ∃ (ap:ak) (d c:Nat),∃ i,(Builtin.append_ #[gZ,gZ] gZ #[(.slice a n cap),(.slice bW fm gj)]).run prog bQ=.ok (.slice ap d c) i/\K ap d c i:=by
 obtain⟨⟨o,P,x⟩,O,H⟩:=h;obtain⟨⟨b,u,j⟩,J,B⟩:=E;obtain⟨inf,I,aq,t,G⟩:=fV (T:=cP) (z:=.agg #[.int .i64 0,.int .i64 0,.int .i64 0,.int .i64 0,.int .u64 0,.int .u64 0,.slice none 0 0,.int .u64 0,.int .i64 0]) (n:=9) (m:=88) (by kernel_rfl);have L:=A.size;refine qW (cells:=aG.cells) (sz:=9) aG.len aG.single Tryz.underlying125 I aq (by rw[t];rfl) t (by decide) (by grind) (l:=o) (by grind[y_]) (l2:=b) (m:=fm) (by rw[y_];exact u.rd) (by rw[j.1];grind) (by omega) λap f i D g F=>?_
 have q:∀ k,aP ap k->w0.heap.size<=k:=λk C=>by
  grind
 refine C ap f i ⟨⟨o++b,D,?_⟩,by grind,q⟩ g (A.trans g λk r e=>by grind);have s:∀ k,k<bQ.heap.size->(k<w0.heap.size\/aP ap k)->(k<w0.heap.size\/aP a k):=λk r e=>e.imp id λe=>by
  grind
 refine et.app (x.aA (g.mono λk _ e=>.inr e) s) ?_;have w:et (λk=>k<w0.heap.size\/aP a k) bQ b p:=j.aA (ao.refl _ _) λk _ e=>by
  grind
 exact w.aA (g.mono λk _ e=>.inr e) s
def kG (j:cJ)(m:aS):a_:=if j.writes=[]then[]else j.writes.map (j_ j m)++[l3 j m]
def q7 (j:cJ):a_:=(j.v.mem.tail.map (kG j)).flatten
def oQ (j:cJ)(G:a3):cd:=cA G (q7 j) 3
theorem Ok (j:cJ)(m:aS):(kG j m).length<=j.writes.length+1:=by
 grind[kG]
theorem Ac {α:Type}{b:Nat}:∀ (l:List (List α)),(∀ x ∈ l,x.length<=b)->l.flatten.length<=l.length*b
 | [],_=>by simp
 |x::l,h=>by
  have c:=h x fR;have d:=Ac l λy a=>h y (fG _ a)
  grind[List.flatten_cons,List.length_append,List.length_cons,Nat.succ_mul]
theorem Qm {r:dj}{bS:aS}{j:cJ}(R:fv w0 u aY tb r bS j)(bM:pT j){T:eM}{G:a3}(bh:eV A w0 u tb T G)(ad:gF T) :
  a5 175 [ptr aY] u (lB A w0 u tb u.heap.size (oQ j G)):=by
 refine ba Tryz.func175 ?_;rw[ptr,VU];rintro b1 bQ X N;obtain⟨l,B⟩:=bo X N;have l:av bQ b1 (bA.cells ⟨0,0⟩) e3:=l;clear N;have t:=R.bH B;have b7:=B.size;have b0:=l.lt;have cb:=bh.aj.lt;have S:=R.cg;have af:=S.mem;have bO:=S.t';have hlen:=R.bp.b6.len;obtain⟨cn,D⟩:=R.bp.view;refine da.aV r.View ⟨bX t.aj rfl,?_⟩;refine aB (DA (D.new t.new) af.1) ?_;rintro v cl ⟨br,bx,rfl,g,Z⟩;refine⟨_,_,_,rfl,?_⟩;have w:=t.bH g;have b8:=g.size;have bk:j.v.mem.tail.length=j.v.mem.length-1:=zx;refine cZ mix (λq env z=>∃ (i n:Nat) (aW:ak) (pc:Nat) (aC:ax),q=j.v.mem.tail.length-i/\i<=j.v.mem.tail.length/\env=vk ⟨aY,0,none⟩ ⟨b1,0,none⟩ aW n pc br (j.v.mem.length-1) bx ((j.v.mem.length-1:Nat):Int) i aC/\ai cl z/\bP cl z aW n pc (((j.v.mem.tail.take i).map (kG j)).flatten)) j.v.mem.tail.length
  ⟨0,0,none,0,_,rfl,by omega,rfl,ao.refl _ _,bP.nil _ _⟩ ?_
 rintro q env z ⟨i,n,aW,pc,aC,rfl,cz,rfl,d,a⟩;rw[Ug];have f:=w.bH d;have ca:=d.size;have cd:=a.len;have bj:n<=1000:=by
  have bz:=Ac (b:=j.writes.length+1) ((j.v.mem.tail.take i).map (kG j)) λx cA=>by
   grind[Ok]
  rw[gR,lE]at bz;have cu:min i j.v.mem.tail.length*(j.writes.length+1)<=5*13:=wm (by omega) (by omega);omega
 refine bb (λb3=>?_) (λbN=>?_)
 ·obtain⟨m,hm⟩:∃ m,j.v.mem.tail[i]?=some m:=⟨_,b2 (by omega)⟩;have b5:=S.eX m (uw (b9 hm));have H:dU m.cK:=by grind[dU]
  have F:((j.v.mem.tail.take (i+1)).map (kG j)).flatten=((j.v.mem.tail.take i).map (kG j)).flatten++kG j m:=by
   grind[List.take_add_one]
  refine eQ (cells:=aS.cells) aS.len (by omega) (Z.new d) hm rfl (by omega) λb o ab _=>aS.aV m ⟨ab,?_⟩
  refine io (vs:=m.cells) rfl (aS.single _) λbq cm bK P c=>⟨_,_,_,(f.bH c).aj.cell (i:=6) rfl,?_⟩
  have b_:=c.size;rw[bI (x:=(i:Int)+1) (by omega) (by omega)];refine bb (λhw=>?_) (λhw=>?_)
  ·have O:j.writes≠[]:=λe=>by grind
   obtain⟨_,aQ⟩:=S.wr O;refine aS.aV m ⟨bX P rfl,?_⟩;refine aB (EU (f.bH c) bM H) ?_;rintro v cG ⟨ct,gc,rfl,aX,h⟩;refine⟨_,_,_,rfl,?_⟩;have L:∀ k,aP aW k->k<cm.heap.size:=λk U=>by obtain⟨s,K,_⟩:=a.ex;have:=K.lt U;omega
   refine bP.vg ((a.new c).new h) ((d.new c).new h) aX L (by omega) (by omega) λap a8 bm bD J C=>?_
   have I:fv w0 bm aY tb r bS j:=((f.bH c).bH h).aA J λk U=>by
    have cy:=a.g0 k U;have bC:=w.new.size;refine⟨by omega,λe=>?_⟩
    obtain⟨s,K,_⟩:=a.ex;obtain⟨cs,ae⟩:=gN K U;exact cp (e▸ae |>.ne f.aj (by decide)) (λbT=>bT rfl)
   have Q:av bm bq m.cells eL:=J.aj (ai.aj h P) λe=>by obtain⟨s,K,_⟩:=a.ex;have:=K.lt e;omega
   refine aS.aV m ⟨bX Q rfl,?_⟩;refine aB (ET I aQ H) ?_;rintro v cI ⟨cj,rfl,aR,aH⟩;refine aG.aV cj ⟨rfl,?_⟩;rintro cr cP Y a0;refine bP.mC bD C aH aR (by omega) Y a0 λV E cQ a' bV aO=>?_
   have W:((j.v.mem.tail.take i).map (kG j)).flatten++j.writes.map (j_ j m)++[l3 j m]=((j.v.mem.tail.take (i+1)).map (kG j)).flatten:=by
    rw[F];unfold kG
    grind
   rw[W]at a';exact⟨j.v.mem.tail.length-(i+1),by omega,i+1,_,V,E,_,rfl,by omega,rfl,aO,a'⟩
  ·have O:j.writes=[]:=hN (by omega);refine⟨j.v.mem.tail.length-(i+1),by omega,i+1,n,aW,pc,_,rfl,by omega,rfl,d.new c,?_⟩;have W:kG j m=[]:=by unfold kG;grind
   rw[F,W,kV];exact a.new c
 ·have ag:i=j.v.mem.tail.length:=by omega
  subst ag;rw[Us];rw[ja]at a;have a:bP cl z aW n pc (q7 j):=a;have bl:=a.len;have p:=(B.new g).new d;have y:=sD (A:=A) f (bh.new p) ad w.new (w1:=cl) (by omega) a (by omega) 3;refine aB y ?_;rintro v cq ⟨dJ,dc,raw,rfl,M,_⟩;refine⟨_,_,_,bA.aV ⟨(oQ j G).out.1,(oQ j G).out.2⟩ ⟨(oQ j G).ok,rfl,?_⟩⟩;have aZ:av cq b1 (bA.cells ⟨0,0⟩) e3:=M.aA.aj (ai.aj (g.new d) l) (by omega);refine Hb aZ rfl _ λcB cF C ah=>⟨rfl,M.put p C ah (by omega) (by omega) (by omega) (by omega)⟩
end
section
theorem av.get {cs:ax}{T:bY}{v:bf}(h:av w b cs T)(a:w.cell? ⟨b,i,none⟩=some v):cs[i]?=some v:=by
 unfold World.cell? at a;simp only[show w.heap[(⟨b,i,none⟩:aU).block]?=_ from h]at a
 grind
theorem bP.T6 {vs:a_}(h:bP w0 u a n cap vs){o:bA}(z:av u b o.cells e3)(p:ao (λk=>k=b) u bB):bP w0 bB a n cap vs:=by
 obtain⟨⟨l,A,al⟩,G,F⟩:=h;have q:¬ aP a b:=λe=>by obtain⟨cs,r⟩:=gN A e;exact r.ne z (by decide) rfl
 refine⟨⟨l,A.aA p λk p e=>q (e▸p),al.1,λi v x f D=>?_⟩,G,F⟩;have c:=al.2 i v x f D;have s:cT (λk=>k=b\/(k<w0.heap.size\/aP a k)) u v x:=by
  refine⟨c.eq,c.rd,c.nil,?_,c.wf,c.new,c.old,c.key,c.eX,c.cap,c.lx⟩;by_cases he:x.words=[]
  ·grind
  ·right;have d:=c.off.resolve_left he;have g:=c.rd;cases hw:v.Words with
   |none=>trivial
   |some bF=>
    rw[hw]at d g;rintro(e | e)
    ·obtain⟨y,ys,j⟩:=um he;rcases g with B | ⟨b',C,t,E⟩
     ·rw[j]at B;cases B
     ·simp only[hM]at t;subst t;have e:b'=b:=e;subst e;have w:=E 0 (.int .u64 y) (by rw[j];rfl);rw[mJ]at w;have f:=av.get z w;rcases C with _ | _ | C
      ·cases f
      ·cases f
      ·cases f
    ·exact d e
 exact(s.aA (p.mono λk _ e=>.inl e) λ_ _ e=>e).mono λk e=>.inr e
theorem g5.V9 {R:cd}(h:g5 A w0 bQ tb B R cl)(r:ai u bQ)(a:ai cl bw){o:bA}(s:av bw b o.cells e3)(d:ao (λk=>k=b) bw cq)(y:u.heap.size<=b)(c:b≠tb)(x:B'<=B):g5 A w0 u tb B' R cq:=by
 obtain⟨f,i,t,hw,g⟩:=h;refine⟨(((ao.cm r).trans f λ_ _ e=>e).new a).trans d λk q e=>by omega,i,(t.new a).aA d λe=>c e.symm,hw,?_⟩;cases p:R.ask with
 |none=>grind
 |some vs=>rw[p]at g;obtain⟨j,w1,l,w,n⟩:=g;exact⟨j,w1,l,by omega,(n.new a).T6 s d⟩
def kZ (M:a4)(w:an)(a:ak)(n:Nat)(vs:a_):Prop:=∃ b:List aG,bl w a (dS b).flatten/\et M w b vs/\n=vs.length
theorem kZ.new {M:a4}{w w':an}{a:ak}{n:Nat}{vs:a_}(h:kZ M w a n vs)(c:ai w w'):kZ M w' a n vs:=by obtain⟨b,d,f,g⟩:=h;exact⟨b,d.new c,f.aA (ao.cm c) λ_ _ e=>e,g⟩
theorem bP.ia {vs:a_}(h:bP w0 u a n cap vs)(d:∀ k,k<u.heap.size->M k->k<w0.heap.size):kZ M u a n vs:=by obtain⟨⟨b,g,al⟩,f,i⟩:=h;exact⟨b,g.rd,al.aA (ao.refl _ _) λk c e=>.inl (d k c e),f⟩
theorem kZ.wide {vs:a_}(h:kZ M w a n vs)(c:ai w w')(j:∀ k,k<w.heap.size->M' k->M k):kZ M' w' a n vs:=by obtain⟨b,d,f,g⟩:=h;refine⟨b,d.new c,?_,g⟩;have i:et M' w b vs:=f.aA (ao.refl _ _) j;exact i.aA (ao.cm c) λ_ _ e=>e
theorem bP.HG {vs s:a_}(h:bP w0 bQ a n cap vs)(w:ai w0 bQ)(A:kZ (λk=>k<w0.heap.size\/aP a k) bQ bW fm s)(I:n+fm<=100000)
  (x:∀ ap d i,bP w0 i ap (n+fm) d (vs++s)->ao (aP a) bQ i->ai w0 i->K ap (n+fm) d i) :
  ∃ (ap:ak) (c b:Nat),∃ i,(Builtin.append_ #[gZ,gZ] gZ #[(.slice a n cap),(.slice bW fm gj)]).run prog bQ=.ok (.slice ap c b) i/\K ap c b i:=by
 obtain⟨⟨o,L,u⟩,J,D⟩:=h;obtain⟨f,G,j,F⟩:=A;obtain⟨inf,E,aq,r,C⟩:=fV (T:=cP) (z:=.agg #[.int .i64 0,.int .i64 0,.int .i64 0,.int .i64 0,.int .u64 0,.int .u64 0,.slice none 0 0,.int .u64 0,.int .i64 0]) (n:=9) (m:=88) (by kernel_rfl);have H:=w.size;refine qW (cells:=aG.cells) (sz:=9) aG.len aG.single Tryz.underlying125 E aq (by rw[r];rfl) r (by decide) (by grind) (l:=o) (by grind[y_]) (l2:=f) (m:=fm) (by grind[y_]) (by rw[j.1];grind) (by omega) λap d i y g B=>?_
 have p:∀ k,aP ap k->w0.heap.size<=k:=λk x=>by
  grind
 have q:∀ k,k<bQ.heap.size->(k<w0.heap.size\/aP ap k)->(k<w0.heap.size\/aP a k):=λk t e=>e.imp id λe=>by
  grind
 exact x ap d i ⟨⟨o++f,y,et.app (u.aA (g.mono λk _ e=>.inr e) q) (j.aA (g.mono λk _ e=>.inr e) q)⟩,by grind,p⟩ g (w.trans g λk t e=>by grind)
theorem bP.box {v:aG}{x:bc}(h:ai bw w)(al:cT (λk=>k<bw.heap.size) w v x)(d:b=w.heap.size)(hw:w'=w.alloc (.cells v.cells.toArray cP)):bP bw w' (some ⟨b,0,none⟩) 1 1 [x]/\ai w w':=by
 obtain⟨aq,a⟩:=bo d hw;have aq:av w' b v.cells cP:=aq;have j:=h.size;refine⟨⟨⟨[v],⟨rfl,.inr ⟨b,_,rfl,aq,by omega,by decide,rfl,by rw[show(dS [v]).flatten=v.cells by simp[dS]];rfl⟩⟩,et.one ?_⟩,rfl,λk f=>by obtain⟨o,i⟩:=f;grind⟩,a⟩;have c:cT (λk=>k<bw.heap.size\/aP (some ⟨b,0,none⟩) k) w v x:=al.aA (ao.refl _ _) λk g e=>by
  rcases e with e | ⟨o,i⟩
  ·exact e
  grind
 exact c.aA (ao.cm a) λ_ _ e=>e
def iu (j:cJ):a_:=match j.v.mem with
 |m::_=>l3 j m::j.writes.map (j_ j m)
 | []=>[]
def oe (j:cJ)(G:a3):cd:=if j.writes=[]then sK G else cA G (iu j) 3
structure FS (A:a4)(w0 bw:an)(aY tb b1:Nat)(r:dj)(bS:aS)(j:cJ)(T:eM)(G:a3)(w:an):Prop where
 dw:fv w0 w aY tb r bS j
 gz:eV A w0 w tb T G
 b1:av w b1 (bA.cells ⟨0,0⟩) e3
 new:ai bw w
theorem FS.bH {A:a4}{w0 bw w w':an}{aY tb b1:Nat}{r:dj}{bS:aS}{j:cJ}{T:eM}{G:a3}(h:FS A w0 bw aY tb b1 r bS j T G w)(a:ai w w'):FS A w0 bw aY tb b1 r bS j T G w':=
 ⟨h.dw.bH a,h.gz.new a,ai.aj a h.b1,h.new.new a⟩
theorem FS.aA {A:a4}{w0 bw w w':an}{aY tb b1:Nat}{r:dj}{bS:aS}{j:cJ}{T:eM}{G:a3}(h:FS A w0 bw aY tb b1 r bS j T G w){M:a4}(a:ao M w w')(d:∀ k,M k->bw.heap.size<=k)(g:aY<bw.heap.size)(i:tb<bw.heap.size)(f:b1<bw.heap.size)(c:w0.heap.size<=bw.heap.size):FS A w0 bw aY tb b1 r bS j T G w':=
 ⟨h.dw.aA a λk e=>by grind,h.gz.aA a λe=>by grind,a.aj h.b1 λe=>by grind,h.new.trans a λk b e=>by grind⟩
section
variable {A:a4}{w0 u bw:an}{aY tb b1:Nat}{r:dj}{bS:aS}{j:cJ}{T:eM}{G:a3}
theorem RJ (J:ai u bw)(U:aY<bw.heap.size)(S:tb<bw.heap.size)(L:b1<bw.heap.size)(M:u.heap.size<=b1)(C:b1≠tb)(F:ai w0 bw)(D:gF T){R:cM}(K:∀ v w',lB A w0 u tb u.heap.size (cA G (iu j) 3) v w'->R v w'){w:an}(f:FS A w0 bw aY tb b1 r bS j T G w){a:ak}{n cap:Nat}(al:bP bw w a n cap (iu j))(V:n<=100000) :
  Calls prog 213 #[(.pointer (some ⟨aY,0,none⟩)),(.slice a n cap),(.int .i64 3)] w λe p=>∃ (k:ak) (l m:Nat),bA.ex λz=>∃ (n:Bool),e=.returned (.tuple #[(.slice k l m),z.val,(.bool n)])/\av p aY (ml r tb bS) m3/\∀ i q,i=p.heap.size->q=p.alloc (.cells #[(.int .i64 0),(.int .i64 0)] e3)->av q aY (ml r tb bS) m3/\ej q ⟨i,0,none⟩ 0 z.cells/\∀ cD,cD=cI q ⟨i,0,none⟩ 0 z.cells->bA.ex λr=>cn cD ⟨i,0,none⟩ 0 r.cells/\ej cD ⟨b1,0,none⟩ 0 r.cells/\∀ o,o=cI cD ⟨b1,0,none⟩ 0 r.cells->bA.ex λgj=>cn o ⟨b1,0,none⟩ 0 gj.cells/\o=o/\R (.tuple #[gj.val,(.bool n)]) o:=by
 have d:=sD (A:=A) f.dw f.gz D F S al (by have:=al.len;omega) 3;refine aB d ?_;rintro v p ⟨dJ,dc,raw,rfl,b,_⟩;refine⟨_,_,_,bA.aV ⟨(cA G (iu j) 3).out.1,(cA G (iu j) 3).out.2⟩ ⟨_,rfl,?_⟩⟩;have c:av p aY (ml r tb bS) m3:=b.aA.aj f.dw.aj f.dw.ne;refine⟨c,?_⟩;rintro i q B y;obtain⟨h,g⟩:=bo B y;have h:av q i (bA.cells ⟨0,0⟩) e3:=h;clear y;have P:=b.aA.size;have Q:=f.new.size;have O:=J.size;refine⟨ai.aj g c,dY h rfl (bA.single _) λcD H t=>bA.aV _ ⟨bX H rfl,?_⟩⟩;have s:av cD b1 (bA.cells ⟨0,0⟩) e3:=t.aj (ai.aj g (b.aA.aj f.b1 C)) (by omega);refine dY s rfl (bA.single _) λo I E=>bA.aV _ ⟨bX I rfl,rfl,K _ _ ⟨rfl,?_⟩⟩
 have x:ai p cD:=g.trans t λk N e=>by omega
 exact b.put (J.new f.new) x E (by omega) L (by omega) (by omega)
theorem S5 (E:ai u bw)(P:aY<bw.heap.size)(N:tb<bw.heap.size)(H:b1<bw.heap.size)(J:u.heap.size<=b1)(t:b1≠tb)(z:ai w0 bw)(x:gF T){R:cM}(F:∀ v w',lB A w0 u tb u.heap.size (cA G (iu j) 3) v w'->R v w'){w:an}(f:FS A w0 bw aY tb b1 r bS j T G w){a:ak}{n cap:Nat}(al:bP bw w a n cap (iu j))(Q:n<=100000){g:Nat}(D:av w g (bA.cells ⟨0,0⟩) e3)(I:bw.heap.size<=g) :
  Calls prog 213 #[(.pointer (some ⟨aY,0,none⟩)),(.slice a n cap),(.int .i64 3)] w λe q=>∃ (k:ak) (l m:Nat),bA.ex λs=>∃ (n:Bool),e=.returned (.tuple #[(.slice k l m),s.val,(.bool n)])/\av q aY (ml r tb bS) m3/\ej q ⟨g,0,none⟩ 0 s.cells/\∀ cD,cD=cI q ⟨g,0,none⟩ 0 s.cells->bA.ex λr=>cn cD ⟨g,0,none⟩ 0 r.cells/\ej cD ⟨b1,0,none⟩ 0 r.cells/\∀ h,h=cI cD ⟨b1,0,none⟩ 0 r.cells->bA.ex λgj=>cn h ⟨b1,0,none⟩ 0 gj.cells/\h=h/\R (.tuple #[gj.val,(.bool n)]) h:=by
 have d:=sD (A:=A) f.dw f.gz x z N al (by have:=al.len;omega) 3;refine aB d ?_;rintro v O ⟨dJ,dc,raw,rfl,b,_⟩;refine⟨_,_,_,bA.aV ⟨(cA G (iu j) 3).out.1,(cA G (iu j) 3).out.2⟩ ⟨_,rfl,?_⟩⟩;have L:=b.aA.size;have M:=f.new.size;have K:=E.size;have c:av O g (bA.cells ⟨0,0⟩) e3:=b.aA.aj D (by omega);refine⟨b.aA.aj f.dw.aj f.dw.ne,dY c rfl (bA.single _) λcD B o=>bA.aV _ ⟨bX B rfl,?_⟩⟩;have i:av cD b1 (bA.cells ⟨0,0⟩) e3:=o.aj (b.aA.aj f.b1 t) (by omega);refine dY i rfl (bA.single _) λh C y=>bA.aV _ ⟨bX C rfl,rfl,F _ _ ⟨rfl,?_⟩⟩
 have p:=b.V9 (u:=u) (B':=bw.heap.size) (E.new f.new) (ao.refl _ _) c o (by omega) (by omega) (db _);exact p.put (ao.refl _ _) (ao.refl _ _) y (by omega) H (by omega) (by omega)
theorem Ol (bj:fv w0 u aY tb r bS j)(dA:pT j)(dg:eV A w0 u tb T G)(bV:gF T) :
  a5 176 [ptr aY] u (lB A w0 u tb u.heap.size (oe j G)):=by
 refine ba Tryz.func176 ?_;rw[ptr,qr];rintro b1 bQ cQ cz;obtain⟨bq,bk⟩:=bo cQ cz;have bq:av bQ b1 (bA.cells ⟨0,0⟩) e3:=bq;clear cz;have cr:=bj.bH bk;have cp:=dg.new bk;have hlen:=bj.bp.b6.len;have c4:=bk.size;have cY:=bq.lt;have dG:=dg.aj.lt;have dm:=bj.aj.lt;have cV:=bj.cg;have dB:=cV.t';have cZ:=bj.mem;have dC:=cV.eX bS (b9 cZ);have bK:dU bS.cK:=by grind[dU]
 have cd:iu j=[l3 j bS]++j.writes.map (j_ j bS):=by
  grind[iu]
 unfold oe;refine⟨_,_,_,cr.aj.cell (i:=6) rfl,eg (λe=>?_) (λe=>?_)⟩
 ·have bD:j.writes=[]:=hN (by omega);rw[bh bD];exact m' bq rfl 0 0 λcq cW=>⟨rfl,(g5.skip (B:=bQ.heap.size) cp bV (ao.refl _ _)).put bk (ao.refl _ _) cW (by omega) cY (by omega) c4⟩
 ·have bD:j.writes≠[]:=λdS=>by grind
  rw[aQ bD];obtain⟨_,c7⟩:=cV.wr bD;rintro bw cB;have bl:ai bQ bw:=by rw[cB];exact cR _
  clear cB;have cj:=bk.new bl;have dE:=bl.size;have bz:FS A w0 bw aY tb b1 r bS j T G bw:=⟨cr.bH bl,cp.new bl,ai.aj bl bq,ao.refl _ _⟩;have b7:=bz.dw.new;have dp:=b7.size;have so:=@RJ A w0 u bw aY tb b1 r bS j T G cj (by omega) (by omega) (by omega) (by omega) (by omega) b7 bV (lB A w0 u tb u.heap.size (cA G (iu j) 3)) (λ_ _ h=>h);have Q:=@S5 A w0 u bw aY tb b1 r bS j T G cj (by omega) (by omega) (by omega) (by omega) (by omega) b7 bV (lB A w0 u tb u.heap.size (cA G (iu j) 3)) (λ_ _ h=>h);have app:∀ {w:an} {V:Nat} {d:ak} {n g:Nat},FS A w0 bw aY tb b1 r bS j T G w->bP bw w (some ⟨V,0,none⟩) 1 1 [l3 j bS]->n=j.writes.length->kZ (λk=>k<bw.heap.size\/aP (some ⟨V,0,none⟩) k) w d n (j.writes.map (j_ j bS))->∀ {K:ak->Nat->Nat->aJ},(∀ ap m c w',FS A w0 bw aY tb b1 r bS j T G w'->bP bw w' ap m c (iu j)->m<=100000->ao (aP (some ⟨V,0,none⟩)) w w'->K ap m c w')->
    ∃ (ap:ak) (h i:Nat),∃ aZ,(Builtin.append_ #[gZ,gZ] gZ #[(.slice (some ⟨V,0,none⟩) 1 1),(.slice d n g)]).run prog w=.ok (.slice ap h i) aZ/\K ap h i aZ:=by
   intro w V d n g aX cI bC c3 K cn;refine bP.HG cI aX.new c3 (by omega) λap cb dK de N x=>?_
   rw[<-cd]at de;exact cn ap _ cb dK (aX.aA N (λk dn=>cI.g0 k dn) (by omega) (by omega) (by omega) (by omega)) de (by omega) N
  have I:∀ {w w':an} {b:Nat},FS A w0 bw aY tb b1 r bS j T G w->b=w.heap.size->w'=w.alloc (.cells #[(.int .i64 0),(.int .i64 0)] e3)->FS A w0 bw aY tb b1 r bS j T G w'/\ai w w'/\av w' b (bA.cells ⟨0,0⟩) e3/\bw.heap.size<=b:=by intro w w' b aX dz hw;obtain⟨aq,bC⟩:=bo dz hw;have:=aX.new.size;exact⟨aX.bH bC,bC,aq,by omega⟩
  have cE:∀ {w:an} {K:Ending->aJ},FS A w0 bw aY tb b1 r bS j T G w->(∀ (bI:aG) w',FS A w0 bw aY tb b1 r bS j T G w'->ai w w'->cT (λk=>k<bw.heap.size) w' bI (l3 j bS)->K (.returned bI.val) w')->Calls prog 218 #[(.pointer (some ⟨aY,0,none⟩)),bS.val] w K:=by intro w K aX cn;refine aB (ET aX.dw c7 bK) ?_;rintro v w' ⟨bI,rfl,b5,bC⟩;have:=aX.new.size;exact cn bI w' (aX.bH bC) bC (b5.mono λk dn=>by omega)
  have af:∀ {w:an} {K:Ending->aJ},FS A w0 bw aY tb b1 r bS j T G w->(∀ (a:ak) (c:Nat) w',FS A w0 bw aY tb b1 r bS j T G w'->ai w w'->bP w w' a j.writes.length c (j.writes.map (j_ j bS))->K (.returned (.slice a j.writes.length c)) w')->Calls prog 217 #[(.pointer (some ⟨aY,0,none⟩)),bS.val] w K:=by intro w K aX cn;refine aB (EU aX.dw dA bK) ?_;rintro v w' ⟨a,c,rfl,b5,bC⟩;exact cn a c w' (aX.bH bC) bC b5
  have bx:∀ {w:an} {V k:Nat},V<w.heap.size->(k<bw.heap.size\/aP (some ⟨V,0,none⟩) k)->bw.heap.size<=w.heap.size->k<w.heap.size:=by
   intro w V k dT dy dW;rcases dy with e | ⟨o,aH⟩
   ·omega
   grind
  have s:∀ {w:an} {V n c:Nat} {vs:a_},bP bw w (some ⟨V,0,none⟩) n c vs->V<w.heap.size:=by intro w V n c vs h;obtain⟨dq,aH,_⟩:=h.ex;exact aH.lt ⟨0,rfl⟩
  refine⟨λy=>av y aY (ml r tb bS) m3,bz.dw.aj,aS.aV bS ⟨λy c9=>bX c9 rfl,aS.aV bS ⟨λy c9=>bX c9 rfl,?_⟩⟩⟩;refine⟨cE bz λbI dL E cu ad=>aG.aV bI ⟨rfl,E.dw.aj,?_,?_,?_⟩,?_⟩
  ·
   rintro V dr a0 bm;obtain⟨t,ab⟩:=bP.box E.new ad a0 bm;have J:=E.bH ab;have aO:=J.new.size;have ah:=s t;refine⟨J.dw.aj,?_,?_⟩
   ·refine af J λd c ca l p z=>⟨_,_,_,rfl,l.dw.aj,?_,?_⟩
    ·refine app l (t.new p) rfl (z.ia λk _ e=>bx ah e aO) λap m br aZ f P O _=>⟨f.dw.aj,so f P O,?_⟩
     rintro du dx bO bT;obtain⟨q,F,L,R⟩:=I f bO bT;exact⟨q.dw.aj,Q q (P.new F) O L R⟩
    ·rintro db dd S bb;obtain⟨q,F,L,R⟩:=I l S bb;refine⟨q.dw.aj,?_⟩;have c5:=p.size;refine app q (t.new (p.new F)) rfl ((z.ia λk _ e=>bx ah e aO).new F) λap m br aZ f P O N=>⟨f.dw.aj,Q f P O (N.aj L λe=>?_) R⟩
     obtain⟨o,aH⟩:=e
     grind
   ·rintro dN dR cS cU;obtain⟨q,F,L,R⟩:=I J cS cU;have c5:=F.size;have cP:=L.lt;refine⟨q.dw.aj,af q λd c ca l p z=>⟨_,_,_,rfl,l.dw.aj,?_⟩⟩;refine app l (t.new (F.new p)) rfl (z.ia λk _ e=>by grind) λap m br aZ f P O N=>⟨f.dw.aj,Q f P O (N.aj (ai.aj p L) λe=>?_) R⟩
    grind
  ·
   refine af E λd c ca l p z=>⟨_,_,_,rfl,l.dw.aj,?_,?_⟩
   ·rintro bM bN W X;obtain ⟨D,x⟩:=bP.box l.new (ad.aA (ao.cm p) λ_ _ e=>e) W X;have f:=l.bH x;have b2:=E.new.size;have b3:=l.new.size;have H:kZ (λk=>k<bw.heap.size\/aP (some ⟨bM,0,none⟩) k) bN d j.writes.length (j.writes.map (j_ j bS)):=(z.ia (M:=λk=>k<bw.heap.size) λk _ e=>by omega).wide x λk b0 e=>by
     rcases e with e | ⟨o,aH⟩
     ·exact e
     grind
    refine⟨f.dw.aj,?_,?_⟩
    ·refine app f D rfl H λap m br aZ q cF ct _=>⟨q.dw.aj,so q cF ct,?_⟩
     rintro du dx bO bT;obtain⟨C,c2,da,a8⟩:=I q bO bT;exact⟨C.dw.aj,Q C (cF.new c2) ct da a8⟩
    ·rintro db dd S bb;obtain⟨q,F,L,R⟩:=I f S bb;refine⟨q.dw.aj,?_⟩;have di:=s D;refine app q (D.new F) rfl (H.new F) λap m br aZ C ae Z Y=>⟨C.dw.aj,Q C ae Z (Y.aj L λe=>?_) R⟩
     obtain⟨o,aH⟩:=e
     grind
   ·rintro db dd S bb;obtain ⟨q,F,L,R⟩:=I l S bb;refine ⟨q.dw.aj,?_⟩;rintro bM bN W X;obtain ⟨D,x⟩:=bP.box q.new (ad.aA (ao.cm (p.new F)) λ_ _ e=>e) W X;have f:=q.bH x;have b2:=E.new.size;have b3:=l.new.size;have cP:=L.lt;have H:kZ (λk=>k<bw.heap.size\/aP (some ⟨bM,0,none⟩) k) bN d j.writes.length (j.writes.map (j_ j bS)):=((z.ia (M:=λk=>k<bw.heap.size) λk _ e=>by omega).new F).wide x λk b0 e=>by
     rcases e with e | ⟨o,aH⟩
     ·exact e
     grind
    refine⟨f.dw.aj,?_⟩;refine app f D rfl H λap m br aZ C ae Z Y=>⟨C.dw.aj,Q C ae Z (Y.aj (ai.aj x L) λe=>?_) R⟩
    obtain⟨o,aH⟩:=e
    grind
  ·
   rintro dv dt a8 b8;obtain⟨U,cy,aR,a'⟩:=I E a8 b8;have cG:cT (λk=>k<bw.heap.size) dt bI (l3 j bS):=ad.aA (ao.cm cy) λ_ _ e=>e
   refine⟨U.dw.aj,?_⟩;refine⟨?_,?_⟩
   ·rintro V dr a0 bm;obtain⟨t,ab⟩:=bP.box U.new cG a0 bm;have J:=U.bH ab;have aO:=J.new.size;have ah:=s t;have b_:=aR.lt;refine⟨J.dw.aj,af J λd c ca l p z=>⟨_,_,_,rfl,l.dw.aj,?_⟩⟩;refine app l (t.new p) rfl (z.ia λk _ e=>bx ah e aO) λap m br aZ f P O N=>⟨f.dw.aj,Q f P O (N.aj (ai.aj (ab.new p) aR) λe=>?_) a'⟩
    obtain⟨o,aH⟩:=e
    grind
   ·refine af U λd c ca l p z=>⟨_,_,_,rfl,l.dw.aj,?_⟩
    rintro bM bN W X;obtain⟨D,x⟩:=bP.box l.new (cG.aA (ao.cm p) λ_ _ e=>e) W X;have f:=l.bH x;have b2:=U.new.size;have b3:=p.size;have b_:=aR.lt;have H:kZ (λk=>k<bw.heap.size\/aP (some ⟨bM,0,none⟩) k) bN d j.writes.length (j.writes.map (j_ j bS)):=(z.ia (M:=λk=>k<bw.heap.size) λk _ e=>by omega).wide x λk b0 e=>by
     rcases e with e | ⟨o,aH⟩
     ·exact e
     grind
    refine⟨f.dw.aj,?_⟩;refine app f D rfl H λap m br aZ C ae Z Y=>⟨C.dw.aj,Q C ae Z (Y.aj (ai.aj (p.new x) aR) λe=>?_) a'⟩
    obtain⟨o,aH⟩:=e
    grind
  ·rintro dv dt a8 b8;obtain⟨U,cy,aR,a'⟩:=I bz a8 b8;refine⟨U.dw.aj,cE U λbI dL E cu ad=>aG.aV bI ⟨rfl,E.dw.aj,?_⟩⟩;have ag:=ai.aj cu aR;refine⟨?_,?_⟩
   ·rintro V dr a0 bm;obtain⟨t,ab⟩:=bP.box E.new ad a0 bm;have J:=E.bH ab;have aO:=J.new.size;have ah:=s t;have b_:=ag.lt;refine⟨J.dw.aj,af J λd c ca l p z=>⟨_,_,_,rfl,l.dw.aj,?_⟩⟩;refine app l (t.new p) rfl (z.ia λk _ e=>bx ah e aO) λap m br aZ f P O N=>⟨f.dw.aj,Q f P O (N.aj (ai.aj (ab.new p) ag) λe=>?_) a'⟩
    obtain⟨o,aH⟩:=e
    grind
   ·refine af E λd c ca l p z=>⟨_,_,_,rfl,l.dw.aj,?_⟩
    rintro bM bN W X;obtain⟨D,x⟩:=bP.box l.new (ad.aA (ao.cm p) λ_ _ e=>e) W X;have f:=l.bH x;have b2:=E.new.size;have b3:=p.size;have b_:=ag.lt;have H:kZ (λk=>k<bw.heap.size\/aP (some ⟨bM,0,none⟩) k) bN d j.writes.length (j.writes.map (j_ j bS)):=(z.ia (M:=λk=>k<bw.heap.size) λk _ e=>by omega).wide x λk b0 e=>by
     rcases e with e | ⟨o,aH⟩
     ·exact e
     grind
    refine⟨f.dw.aj,?_⟩;refine app f D rfl H λap m br aZ C ae Z Y=>⟨C.dw.aj,Q C ae Z (Y.aj (ai.aj (p.new x) ag) λe=>?_) a'⟩
    obtain⟨o,aH⟩:=e
    grind
end
end
end Go.Proofs.YtmkljjbioomepaaGreat
