import Derived.Test.YtmkljjbioomepaaGreatb24
import Derived.Test.YtmkljjbioomepaaGreatb18
set_option linter.all false
set_option maxHeartbeats 4000000
set_option maxRecDepth 100000
namespace Go.Proofs.YtmkljjbioomepaaGreat
open Go.Proofs.Tryz Go.bu
variable {P:Program} {R:cB} {a:an} {b1 aA dq c cA cap n fE:Nat} {aJ l ws:bd} {fn:Func} {lines:Int} {w:ak}
section
open Go.RowKit Go.Shelf
theorem O6 {b sb so k c:Nat} {news:ax} (l:news.length=7) (i:k=7) (a:∀ j u,news[j]?=some u->w.cell? ⟨sb,so+j,none⟩=some u) (e:ec w ⟨b,2,none⟩ 0 news) :
  (Builtin.copy_ #[94,94] 3 #[.slice (some ⟨b,2,none⟩) 7 7,.slice (some ⟨sb,so,none⟩) k c]).run prog w=.ok (.int .i64 7) (cr w ⟨b,2,none⟩ 0 news):=by
 subst i;obtain ⟨inf,g,au,o,p⟩:=fO (T:=30) (z:=.int .u64 0) (n:=1) (m:=8) (by kernel_rfl);have f:=run_firstCells_some (P:=prog) w inf.size 7 ⟨sb,so,none⟩ 7 c news (by rw [o];exact l) (λj v h=>by rw [show (⟨sb,so,none⟩:aS).add j=⟨sb,so+j,none⟩ from k7 _ _ _];exact a j v h);have d:=bu.sM (P:=prog) e;have hu:prog.underlying 94=some (.slice 30):=Tryz.underlying94;simp [Builtin.copy_,run_underlying hu,sizeOf,typeInfo,g,Builtin.lenOf,f,d,goInt]
def q0 (ws:bd):aK:=⟨if 256<ws.getD 0 0 then 256 else ws.getD 0 0,ws.getD 1 0,ws.getD 2 0,ws.getD 3 0,ws.getD 4 0,ws.getD 5 0,ws.getD 6 0,ws.getD 7 0,ws.getD 8 0⟩
theorem m3 (h:bh w a (us ws)) {i:Nat} (c:i<ws.length) (g:n=ws.length) {z:Int} (au:z=i) {K:aS->Prop} (f:∀ b o,(∀ y,ai w y->y.cell? ⟨b,o,none⟩=some (.int .u64 (ws.getD i 0)))->K ⟨b,o,none⟩):bm a n z 1 K:=by
 have e:ws[i]?=some (ws.getD i 0):=by rw [bD c,dF,bD c];rfl
 refine iW (cells:=tO) (sz:=1) (λ_=>rfl) (by decide) (by rw [vF];exact h) e au g λb o d=>f b o λy j=>d y j 0 _ rfl
theorem No (h:l.length=9):∃ a b c d e f g i j,l=[a,b,c,d,e,f,g,i,j]:=by
 rcases l with _ | ⟨a,_ | ⟨b,_ | ⟨c,_ | ⟨d,_ | ⟨e,_ | ⟨f,_ | ⟨g,_ | ⟨i,_ | ⟨j,_ | ⟨y,l⟩⟩⟩⟩⟩⟩⟩⟩⟩⟩;case cons.cons.cons.cons.cons.cons.cons.cons.cons.nil=>exact ⟨_,_,_,_,_,_,_,_,_,rfl⟩
 all_goals simp at h
theorem O7 (U:bh w a (us ws)) (B:ws.length=9) (hu:∀ x ∈ ws,ca x) (Wc:9<=c):a9 254 [.slice a 9 c] w λv w'=>v=(q0 ws).val/\ai w w':=by
 refine bc Tryz.func254 ?_;rw [HG];rintro b1 w1 R D;obtain ⟨f,C⟩:=bl R D;have f:av w1 b1 hG.cells et:=f;clear D;rintro V3 E;have q:ai w1 V3:=by rw [E];exact cE _
 clear E;have d:=C.new q;refine ⟨λu=>ai V3 u,ao.refl _ _,?_⟩;have V:ca (ws.getD 0 0):=by
  match ws,B,hu with
  |x::_,_,hu=>exact hu x (by simp)
 refine m3 (U.new d) (i:=0) (by omega) (by omega) rfl λb o V_=>⟨_,V_,m3 (U.new d) (i:=1) (by omega) (by omega) rfl λb' Wd V'=>⟨_,V',?_⟩⟩
 have V9:IntKind.i64.wrap (if (256:Int)<ws.getD 0 0 then (256:Int) else ws.getD 0 0)=(q0 ws).bo:=by
  rw [bC]
  ·rfl
  ·split<;>have:=V.1<;>omega
  ·split<;>omega
 rw [V9];rintro aA Wa S F;obtain ⟨t,r⟩:=bl S F;have t:av Wa aA hG.cells et:=t;clear F;refine ⟨r,?_⟩;refine dQ (vs:=[.int .i64 (q0 ws).bo,.int .u64 (ws.getD 1 0),.int .u64 0,.int .u64 0,.int .u64 0,.int .u64 0,.int .u64 0,.int .u64 0,.int .u64 0]) t rfl (by intro v al;simp at al;rcases al with rfl | rfl | rfl<;>rfl) λWb X z=>?_
 rintro y G;have s:ai Wb y:=by rw [G];exact cE _
 clear G;have J:=ai.aj s X;have g:b1≠aA:=λe=>by have:=f.lt;have:=q.size;omega
 have l:ai w y:=((d.new r).trans z λk V2 e=>by have:=d.size;omega).new s;have H:av y b1 hG.cells et:=ai.aj s (z.aj (ai.aj (q.new r) f) g);obtain ⟨b,o,rfl,n⟩:∃ b o,a=some ⟨b,o,none⟩/\∀ j u,(us ws)[j]?=some u->y.cell? ⟨b,o+j,none⟩=some u:=by
  rcases U.new l with e | h
  ·exact absurd (congrArg List.length e) (by rw [hE,B];decide)
  ·exact h
 refine kA (by omega) (by omega) (by omega) (by omega) (by omega) λWf W=>?_
 rcases W with rfl | ⟨e,_⟩;case inr=>omega
 have p:=O6 (w:=y) (b:=aA) (sb:=b) (so:=o+2) (k:=7) (c:=c - 2) (news:=us (ws.drop 2)) (by rw [hE,l1,B]) rfl (λj u h=>by have:=n (2+j) u (by simp only [us,dR,lu] at h ⊢;exact h);rw [show o+2+j=o+(2+j) by omega];exact this) (gg J (by rw [hE,l1,B];simp) (pz _))
 have V6:((9:Nat):Int).toNat - (2:Int).toNat=7:=rfl;have V7:((c:Nat):Int).toNat - (2:Int).toNat=c - 2:=by simp
 have V8:o+(2:Int).toNat * 1=o+2:=rfl;rw [V6,V7,V8];refine ⟨_,_,p,?_⟩;obtain ⟨V4,V5,K,L,M,N,O,P,Q,rfl⟩:=No B;have Y:av (cr y ⟨aA,2,none⟩ 0 (us [K,L,M,N,O,P,Q])) aA (q0 [V4,V5,K,L,M,N,O,P,Q]).cells et:=J.cr (vs:=us [K,L,M,N,O,P,Q]) (o:=2) (i:=0);have A:=h0 y aA 2 0 (us [K,L,M,N,O,P,Q]);refine aK.aR _ ⟨bJ Y rfl,?_⟩;have I:=A.aj H g;refine dQ (vs:=(q0 [V4,V5,K,L,M,N,O,P,Q]).cells) I rfl (aK.single _) λWe Z T=>?_
 refine aK.aR _ ⟨bJ Z rfl,rfl,rfl,?_⟩;have:=C.size;refine (l.trans A λk V2 e=>?_).trans T λk V2 e=>?_
 ·have:=d.size;omega
 ·omega
theorem O8 {b:an} {m d:Nat} {l2:bd} (B:bh w a (us l)) (F:n=l.length) (C:bh w b (us l2)) (hm:m=l2.length) (G:n<=1000000):a9 255 [.slice a n c,.slice b m d] w λv w'=>v=.bool (decide (l=l2))/\ai w w':=by
 refine bc Tryz.func255 ?_;rw [Q'];refine dw (λe=>⟨?_,ao.refl _ _⟩) (λe=>?_)
 ·rw [decide_eq_false];intro j;subst j;omega
 have hlen:l.length=l2.length:=by omega
 refine c2 mix (λq env u=>∃ (i:Nat) (t:ax),q=l.length - i/\i<=l.length/\env=wE a n c b m d n i t/\ai w u/\l.take i=l2.take i) l.length
  ⟨0,_,by omega,by omega,rfl,ao.refl _ _,rfl⟩ ?_
 rintro q env u ⟨i,t,rfl,H,rfl,g,s⟩;rw [Qi];refine a8 (λE=>?_) (λD=>?_)
 ·rintro w1 h;have p:ai u w1:=by rw [h];exact cE _
  clear h;have f:=g.new p;refine ⟨λy=>ai w1 y,ao.refl _ _,?_⟩;refine m3 (B.new f) (i:=i) (by omega) F rfl λb1 I k=>⟨_,k,m3 (C.new f) (i:=i) (by omega) hm rfl λaA J o=>⟨_,o,?_⟩⟩
  have z:l[i]?=some (l.getD i 0):=by rw [dF,bD (by omega)];rfl
  have A:l2[i]?=some (l2.getD i 0):=by rw [dF,bD (by omega)];rfl
  refine dw (λr=>⟨?_,f⟩) (λhe=>?_)
  ·rw [decide_eq_false];intro j;subst j;exact r rfl
  ·rw [bC (x:=(i:Int)+1) (by omega) (by omega)];refine ⟨l.length - (i+1),by omega,i+1,_,rfl,by omega,rfl,f,?_⟩;rw [fc,fc,s,z,A,he]
 ·rw [Qw];refine ⟨?_,g⟩;rw [hS (by omega),hS (by omega)] at s;rw [decide_eq_true s]
theorem Np (w:ak) (a:an) (n c:Nat):a9 253 [.slice a n c,.int .i64 9] w λr w'=>r=.func (.func 257) #[] #[.pointer (some ⟨w.heap.size,0,none⟩),.pointer (some ⟨w.heap.size+1,0,none⟩)]/\
  av w' w.heap.size [.slice a n c] 94/\av w' (w.heap.size+1) [.int .i64 9] 3/\ai w w'/\w'.heap.size=w.heap.size+2:=by
 refine bc Tryz.func253 ?_;rw [Rb];rintro b1 w1 e b;obtain ⟨l,k⟩:=bl e b;have i:w1.heap.size=w.heap.size+1:=by rw [b];simp
 clear b;rintro aA p f d;obtain ⟨j,g⟩:=bl f d;have o:p.heap.size=w1.heap.size+1:=by rw [d];simp
 clear d;subst e f;refine ⟨9,j.cell rfl,a8 (λh=>absurd h (by decide)) (λ_=>⟨by rw [i],ai.aj g l,by rw [<-i];exact j,k.new g,by omega⟩)⟩
def j1 (a:an) (i:Nat):an:=a.map (·.add (9 * i))
def iN (b1 aA:Nat) (a:an) (n cap:Nat) (w:ak):Prop:=w.cell? ⟨b1,0,none⟩=some (.slice a n cap)/\w.cell? ⟨aA,0,none⟩=some (.int .i64 9)
theorem JU (l b1 aA:Nat) (a:an) (cap n:Nat) (a6 s:List (Fin n)->aE) (Y:n<=1000) (g:9 * n<=cap) (W:ak) (O:iN b1 aA a (9 * n) cap W)
  (L:AbidesFrom W.heap.size a6) (N:∀ pre x y,a6 pre y->pre.length<n->YieldAt Fence.wide 1 prog l #[.slice (j1 a x.val) 9 9] y λe W'=>
   (e=.returned (.bool true)/\a6 (pre++[x]) W'/\(iN b1 aA a (9 * n) cap y->iN b1 aA a (9 * n) cap W'))\/(e=.returned (.bool false)/\s (pre++[x]) W'))
  (J:a6 [] W) :
  CallsIn Fence.wide 2 prog 257 #[.func (.yield l) #[] #[],.pointer (some ⟨b1,0,none⟩),.pointer (some ⟨aA,0,none⟩)] W λe W'=>(∃ v,e=.returned v)/\
   ((∃ ys:List (Fin n),ys.map Fin.val=List.range n/\a6 ys W')\/(∃ pre,True/\s pre W')):=by
 refine callsIn_wide.2 (Calls.mono (R:=λe w'=>∃ x,e=.returned x/\((∃ ys:List (Fin n),ys.map Fin.val=List.range n/\a6 ys w')\/(∃ pre,True/\s pre w'))) ?_ λe w' ⟨x,T,w⟩=>⟨⟨x,T⟩,w⟩);refine bc Tryz.func257 (args:=[.func (.yield l) #[] #[],.pointer (some ⟨b1,0,none⟩),.pointer (some ⟨aA,0,none⟩)]) (R:=λ_ w'=>(∃ ys:List (Fin n),ys.map Fin.val=List.range n/\a6 ys w')\/(∃ pre,True/\s pre w')) ?_;rw [QM];refine c2 mix (λm env u=>∃ (i:Nat) (H:ax) (pre:List (Fin n)),m=n - i/\i<=n/\env=wC (.func (.yield l) #[] #[]) ⟨b1,0,none⟩ ⟨aA,0,none⟩ ((9 * i:Nat):Int) H/\pre.map Fin.val=List.range i/\a6 pre u/\iN b1 aA a (9 * n) cap u) n
  ⟨0,_,[],by omega,by omega,rfl,rfl,J,O⟩ ?_
 rintro m env u ⟨i,H,pre,rfl,X,rfl,d,j,r,E⟩;rw [P5];refine ⟨a,9 * n,cap,r,a8 (λQ=>?_) (λQ=>?_)⟩
 ·rintro w1 f;have b:Go.bu.ai u w1:=by rw [f];exact cE _
  have A:w1.cell? ⟨b1,0,none⟩=some (.slice a (9 * n) cap):=by rw [f];exact r
  have F:w1.cell? ⟨aA,0,none⟩=some (.int .i64 9):=by rw [f];exact E
  clear f;refine ⟨λz=>iN b1 aA a (9 * n) cap z,⟨A,F⟩,9,λz au=>au.2,a,9 * n,cap,λz au=>au.1,?_⟩;refine ⟨by omega,by omega,by omega,by omega,g,?_⟩;refine ⟨a,9 * n,cap,A,?_⟩;have q:(if (((((9 * n:Nat):Int)).toNat - ((9 * i:Nat):Int).toNat:Nat):Int)<9 then (((((9 * n:Nat):Int)).toNat - ((9 * i:Nat):Int).toNat:Nat):Int) else 9)=9:=by split<;>omega
  rw [q,bC (x:=((9 * i:Nat):Int)+9) (by omega) (by omega)];refine ⟨by omega,by omega,by omega,by omega,g,?_⟩;have I:(if ((9 * i:Nat):Int)+9=((9 * i:Nat):Int) then a else a.map (·.add ((((9 * i:Nat):Int)).toNat * 1)))=j1 a i:=by
   have t:(((9 * i:Nat):Int)).toNat * 1=9 * i:=by omega
   rw [if_neg (by omega),t];rfl
  have el:(((9 * i:Nat):Int)+9).toNat - (((9 * i:Nat):Int)).toNat=9:=by omega
  rw [I,el];have B:a6 pre w1:=L _ _ _ none j ⟨b.os,b.tape,b.output,b.size,λk P _=>b.block k P id⟩ (λ_ h=>by cases h);have D:=congrArg List.length d;rw [ft,ly] at D;have p:i<n:=by omega
  obtain ⟨fn,tmps,assign,body,U,w⟩:=N pre ⟨i,p⟩ w1 B (by omega);refine ⟨fn,tmps,assign,body,U,w.1,λc cs _=>?_⟩;obtain ⟨e,V,K,S⟩:=w.2 c cs (room_wide _);refine ⟨e,V,?_,S⟩;rcases K with ⟨rfl,C,M⟩ | ⟨rfl,o⟩
  ·have G:=M ⟨A,F⟩;refine ⟨true,rfl,cV rfl ⟨9,G.2,?_⟩⟩;dsimp only;rw [bC (x:=((9 * i:Nat):Int)+9) (by omega) (by omega),show ((9 * i:Nat):Int)+9=((9 * (i+1):Nat):Int) by omega];exact ⟨n - (i+1),by omega,i+1,_,pre++[⟨i,p⟩],rfl,by omega,rfl,by rw [ja,d,ki];rfl,C,G⟩
  ·exact ⟨false,rfl,ek rfl (.inr ⟨_,trivial,o⟩)⟩
 ·have:i=n:=by omega
  subst this;exact .inl ⟨_,d,j⟩
end
section
open Go.RowKit Go.Shelf
def oC (aJ:bd) (i:Nat):aK:=q0 ((aJ.drop (2+9 * i)).take 9)
def hl (aJ:bd) (n:Nat):List aK:=(List.range n).map (oC aJ)
abbrev eo:TypeId:=271
structure tT (Ha:ak) (dq:Nat) (seq:Int) (aJ:bd) (pre:cP) (u:ak):Prop where
 ex:∃ a cap,av u dq [.int .i64 seq,.slice a pre.length cap] eo/\a0 u et 9 a pre.length cap (h4 (pre.map (oC aJ))).flatten/\∀ k,aL a k->Ha.heap.size<=k
 az:ao (λk=>k=dq) Ha u
theorem Nq {l:ak} {seq:Int}:OwnFrom l.heap.size (λ(ys:List (Fin n)) u=>tT l dq seq aJ (ys.map Fin.val) u):=by
 rintro ys W W' row ⟨⟨a,cap,i,j,o⟩,d⟩ p f;have c:=sn p;refine ⟨⟨a,cap,c.aj i (tv (W':=W') f i),?_,o⟩,d.trans c λk q e=>?_⟩
 ·refine ⟨j.1,?_⟩;rcases j.2 with h | ⟨g,cur,he,b,rest⟩
  ·exact .inl h
  ·exact .inr ⟨g,cur,he,c.aj b (tv (W':=W') f b),rest⟩
 ·have:=(f k e.symm).1;omega
theorem Im (aJ:bd) (pre:cP) (i:Nat):(h4 ((pre++[i]).map (oC aJ))).flatten=(h4 (pre.map (oC aJ))).flatten++(oC aJ i).cells:=by simp [h4]
theorem iN.put {W:ak} {l:Nat} {o g:Obj} (i:W.heap[l]?=some o) (j:o.isCells=false) (h:iN b1 aA a n cap W):iN b1 aA a n cap (W.putObj l g):=by
 have same:∀ {b:Nat} {v:a2},W.cell? ⟨b,0,none⟩=some v->(W.putObj l g).cell? ⟨b,0,none⟩=some v:=by
  intro b v h;obtain ⟨k,c,f⟩:=cells_of_cell h;have d:b≠l:=by intro e;have c:W.heap[b]?=some k:=c;rw [e,i] at c;cases c;rw [j] at f;cases f
  rw [World.cell?_of_block (w:=W)]
  ·exact h
  ·exact World.putObj_heap_other d
 exact ⟨same h.1,same h.2⟩
theorem iN.az {W W':ak} {M:a3} (b:ao M W W') (c:¬ M b1) (d:¬ M aA) (h:iN b1 aA a n cap W):iN b1 aA a n cap W':=⟨jE b h.1 c,jE b h.2 d⟩
abbrev o1 (f:an) (fE cA:Nat) (lines:Int) (d dq:Nat) (g:Int) (h:a2) (a b:Nat) (c:a2) (e:ax):ax:=
 qH f fE cA lines ⟨d,0,none⟩ ⟨dq,0,none⟩ g h (.func (.func 257) #[] #[.pointer (some ⟨a,0,none⟩),.pointer (some ⟨b,0,none⟩)]) c e
theorem JF (q:ak) (V6 dq f j:Nat) (seq Wo lines:Int) (aJ:bd) (n fE cA p:Nat) (Wn b0:an) (Wm:ax) (WZ:n<=12)
  (V8:av q dq [.int .i64 seq,.slice none 0 0] eo) (V3:av q f [.slice b0 (9 * n) p] 94) (V4:av q j [.int .i64 9] 3) (Ww:dq≠f) (Wx:dq≠j) (V_:9 * n<=p)
  (WA:∀ i,i<n->bh q (j1 b0 i) (us ((aJ.drop (2+9 * i)).take 9))/\∀ k,aL (j1 b0 i) k->k≠dq) (WU:2+9 * n<=aJ.length) (hu:∀ x ∈ aJ,ca x) (Q:Exit->Act->aE)
  (dH:∀ D W (ys:List (Fin n)),q.heap.size<=D->ys.map Fin.val=List.range n->tT q dq seq aJ (ys.map Fin.val) W->W.heap[D]?=some (.deferred (some []))->
   Q .normal { tmps:=(o1 Wn fE cA lines V6 dq Wo undef f j undef Wm).toArray,defers:=[{ target:=.collected D,args:=#[] }] } W) :
  (Code.rangeFunc (.tmp 50) #[51] (sub (bp f251) [1,1,1,1,1,1,0,1,0,0]) (.block 1 (sub (bp f251) [1,1,1,1,1,1,0,1,0,1,0]))).wpIn Fence.wide 3 prog Q
   (act (o1 Wn fE cA lines V6 dq Wo undef f j undef Wm)) q:=by
 obtain ⟨inf,WW,au,J,Wv⟩:=fO (T:=et) (z:=hG.val) (n:=9) (m:=72) (by kernel_rfl);have V9:iN f j b0 (9 * n) p q:=⟨V3.cell rfl,V4.cell rfl⟩;have WI:=V8.lt;refine wpIn_rangeFunc_ownH rfl (by omega) (gf:=257) (lb:=#[.pointer (some ⟨f,0,none⟩),.pointer (some ⟨j,0,none⟩)]) rfl trivial (enters_of Tryz.func257 (by kernel_rfl) rfl)
  (encs:=λx:Fin n=>#[.slice (j1 b0 x.val) 9 9]) (Kp:=λA B=>iN f j b0 (9 * n) p A->iN f j b0 (9 * n) p B) (S:=λys=>ys.map Fin.val=List.range n) (Sp:=λ_=>True) (N:=n) (w0:=q)
  (λl a6 WL W eW WR WS WT WM=>JU l f j b0 p n a6 WL (by omega) V_ W ?Wq WR WT WM)
  (λWN WO h=>WO (WN h)) (λW l o W0 _ WJ r _ h=>h.put WJ r) (Below.refl _ _) (λ_=>rfl) (λys u=>tT q dq seq aJ (ys.map Fin.val) u) (λ_ _ _=>False) Nq (λ_ _ _ _ _ Wh _ _=>Wh)
  ⟨⟨none,0,V8,a0.nil _ _ _,λk C=>by obtain ⟨o,r⟩:=C;cases r⟩,ao.refl _ _⟩
  (λx WG W=>WG=act (o1 Wn fE cA lines V6 dq Wo (.slice (j1 b0 x.val) 9 9) f j (.slice (j1 b0 x.val) 9 9) Wm)) ?own ?assign ?body ?done ?stop
 case Wq=>
  have cell:∀ {b:Nat} {v:a2},b<q.heap.size->q.cell? ⟨b,0,none⟩=some v->W.cell? ⟨b,0,none⟩=some v:=λWc h=>(World.cell?_of_block (eW.block _ Wc)).trans h
  exact ⟨cell V3.lt V9.1,cell V4.lt V9.2⟩
 case own=>exact λ_ _ _ _ _ _ h _ _=>h
 case assign=>
  intro l pre x W K V7 Wr;suffices Wh:∀ a:Act,a=act (o1 Wn fE cA lines V6 dq Wo undef f j (.slice (j1 b0 x.val) 9 9) (ag Wm 0 66 []))->Code.wpIn (Fence.wide.inRound l) (3 - 1 - 1) prog (sub (bp f251) [1,1,1,1,1,1,0,1,0,0]) (Exit.then K (λ_ _ _=>False)) a W from Wh _ (by kernel_rfl)
  rintro _ rfl;refine wpIn_mono (ng mix (Hx l) (ds:=[]) _ _ (aU (λenv u=>K (act env) u) λ_ _ _=>False) W (by kernel_rfl) ?_) (λe a w h=>?_)
  ·rw [TB (d:=undef)];exact Wr _ _ (KeepsFrom.refl _ _) (λh=>h) V7 rfl
  ·obtain ⟨Wl,env,rfl,We⟩:=mm h;cases e with
   |normal=>exact We
   |panic c=>exact absurd rfl (Wl.1 c)
   |outgrown=>exact absurd rfl Wl.2
   | _=>exact We.elim
 case body=>
  rintro l pre x WG W WJ _ V7 rfl Wc;refine wpIn_block ?_;suffices Wh:∀ a:Act,a=act (o1 Wn fE cA lines V6 dq Wo (.slice (j1 b0 x.val) 9 9) f j (.slice (j1 b0 x.val) 9 9) (ag Wm 0 66 []))->Code.wpIn (Fence.wide.inRound l) (3 - 1 - 1) prog (sub (bp f251) [1,1,1,1,1,1,0,1,0,1,0]) (Exit.inBlock 1 (ownPostG q.heap.size (λA B=>iN f j b0 (9 * n) p A->iN f j b0 (9 * n) p B) (λ(ys:List (Fin n)) u=>tT q dq seq aJ (ys.map Fin.val) u) (λ_ _ _=>False) (pre++[x]) W)) a W from Wh _ (by kernel_rfl)
  rintro _ rfl;refine wpIn_mono (ng mix (Hx l) (ds:=[]) _ _ (aU (λenv u=>KeepsFrom q.heap.size W u/\(iN f j b0 (9 * n) p W->iN f j b0 (9 * n) p u)/\tT q dq seq aJ ((pre++[x]).map Fin.val) u) λ_ _ _=>False) W (by kernel_rfl) ?_) (λe a w h=>?_)
  ·rw [SN (s8:=undef) (d:=undef)];obtain ⟨⟨a,cap,U,V2,F⟩,V⟩:=V7;rw [ft] at U V2;rintro Wp Wi;have Y:Go.bu.ai W Wp:=by rw [Wi];exact cE _
   clear Wi;have M:=ai.aj Y U;refine ⟨λy=>Go.bu.ai Wp y,ao.refl _ _,a,pre.length,cap,λy WC=>(ai.aj WC M).cell (i:=1) rfl,?_⟩;obtain ⟨Wf,Wz⟩:=WA x.val x.isLt;have Wb:ao (λk=>k=dq) q Wp:=V.new Y;have WB:bh Wp (j1 b0 x.val) (us ((aJ.drop (2+9 * x.val)).take 9)):=Wf.az Wb (hn Wf Wz);have WX:=x.isLt;refine aC (O7 WB (by rw [iM,l1];omega) (λy WC=>hu y (oX (tn WC))) (cQ 9)) ?_;rintro v W1 ⟨rfl,Z⟩;refine aK.aR _ ⟨rfl,Z,?_⟩;rintro WH WY Wt Wj;obtain ⟨V5,Wd⟩:=bl Wt Wj;have V5:av WY WH (oC aJ x.val).cells et:=V5;clear Wj;refine ⟨Z.new Wd,?_⟩;have O:=Z.new Wd;have H:=Y.new O;have R:=a0.new H V2;rw [<-J] at R;obtain ⟨ap,E,WE,Wg,I,V',Ws⟩:=a0.append (P:=prog) (t:=37) (ty:=37) Tryz.underlying37 WW au (by rw [J];rfl) (by omega) R
    (s:=some ⟨WH,0,none⟩) (m:=1) (c:=1) (news:=(oC aJ x.val).cells) (by rw [J];rfl) (fm V5 rfl) (λu hu=>by have:=aK.single _ u hu;cases u<;>first | rfl | exact this) (by omega) (by rw [Wv];omega)
   rw [J] at I;have WK:=V.size;have Wy:¬ aL a dq:=λh=>by have:=F dq h;omega
   have G:av WE dq [.int .i64 seq,.slice a pre.length cap] eo:=V'.aj (ai.aj O M) Wy;refine ⟨ap,pre.length+1,E,WE,Wg,⟨_,G.cell (i:=1) rfl⟩,G.frozen,?_⟩;rintro WF Wk;have Wa:ao (λk=>k=dq) WE WF:=by rw [Wk];exact eY _ _ _ _
   have Wu:av WF dq [.int .i64 seq,.slice ap (pre.length+1) E] eo:=by rw [Wk];exact G.setCell (i:=1) _
   have L:∀ k,aL ap k->q.heap.size<=k:=by
    intro k C;rcases Ws with e | e
    ·exact F k (e▸C)
    ·obtain ⟨o,r⟩:=C;rw [e] at r;simp at r;have:=H.size;omega
   have X:ao (λk=>aL a k\/k=dq) W WF:=((ao.b4 H).trans V' (λ_ _ h=>.inl h)).trans Wa (λ_ _ h=>.inr h);refine ⟨AB X (λk C=>?_),λWP=>WP.az X ?_ ?_,⟨ap,E,?_,?_,L⟩,?_⟩
   ·rcases C with C | rfl
    ·rcases V2.2 with ⟨he,_⟩ | ⟨g,cur,he,WV,_⟩
     ·obtain ⟨o,r⟩:=C;rw [he] at r;cases r
     ·obtain ⟨o,r⟩:=C;rw [he] at r;simp at r;exact ⟨cur,_,r.1▸WV⟩
    ·exact ⟨_,_,U⟩
   ·rintro (hm | hm)
    ·have:=F _ hm;have:=V3.lt;omega
    ·exact Ww hm.symm
   ·rintro (hm | hm)
    ·have:=F _ hm;have:=V4.lt;omega
    ·exact Wx hm.symm
   ·simpa using Wu
   ·rw [ja,List.map_singleton,Im];have:=a0.az Wa I (λk C e=>by have:=L k C;omega);simpa using this
   ·refine (V.trans X λk C hm=>?_);rcases hm with hm | rfl
    ·have:=F k hm;omega
    ·rfl
  ·obtain ⟨Wl,env,rfl,We⟩:=mm h;cases e with
   |normal=>exact We
   |panic c=>exact absurd rfl (Wl.1 c)
   |outgrown=>exact absurd rfl Wl.2
   | _=>exact We.elim
 case done=>rintro D ys W WQ WD V7 Wr;exact dH D W ys WQ WD V7 Wr
 case stop=>rintro D c pre W _ _ h _;exact h.elim
end
section
open Go.RowKit Go.Shelf
def eg (aJ:bd) (lines:Int):Int:=
 if ¬ (98<=lines/\lines<=256) then 18 else if aJ.length<2\/1073741824<=aJ.getD 0 0\/12<aJ.getD 1 0 then 14
 else if (aJ.length:Int)<3+9 * aJ.getD 1 0 then 14
 else if fy (aJ.getD 0 0) (hl aJ (aJ.getD 1 0).toNat) lines≠0 then 14
 else if fi (aJ.getD 0 0) (hl aJ (aJ.getD 1 0).toNat)≠aJ.take (3+9 * (aJ.getD 1 0).toNat) then 14 else 0
def ew (aJ:bd) (lines:Int):Int×List aK:=if eg aJ lines=0 then (aJ.getD 0 0,hl aJ (aJ.getD 1 0).toNat) else (0,[])
def eZ (w:ak) (R:Int×List aK) (last:a2) (v:a2) (w':ak):Prop:=∃ a cap,v=.tuple #[bY.val ⟨R.1,a,R.2.length,cap⟩,last]/\ai w w'/\fh w' a R.2.length R.2/\∀ k,aL a k->w.heap.size<=k
theorem y2 (w:ak):fh w none 0 []:=⟨.inl rfl,rfl,by simp,λp a=>by cases a⟩
theorem Lc (h:eg aJ lines≠0):ew aJ lines=(0,[]):=if_neg h
theorem eZ.no {w':ak} {e:Int} (he:eg aJ lines=e) (a:e≠0) (c:ai w w'):eZ w (ew aJ lines) (.int .i64 (eg aJ lines)) (.tuple #[bY.val ⟨0,none,0,0⟩,.int .i64 e]) w':=by rw [Lc (by rw [he];exact a),he];exact ⟨none,0,rfl,c,y2 _,λk b=>absurd b nA⟩
abbrev iL:bY:=⟨0,none,0,0⟩
theorem o2 {u:ak} {b:Nat} {zs:ax} (au:av u b zs eo) (g:zs.length=2) (r:bY) {K:bY->aE} (f:∀ e,ao (λk=>k=b) u e->av e b r.cells eo->K r e) :
  ec u ⟨b,0,none⟩ 0 r.cells/\∀ a,a=cr u ⟨b,0,none⟩ 0 r.cells->bY.ex λres=>b6 a ⟨b,0,none⟩ 0 res.cells/\a=a/\K res a:=
 dQ au (by rw [g];rfl) (bY.single _) λa c d=>bY.aR r ⟨bJ c rfl,rfl,f a d c⟩
theorem g_ {Q:Exit->ax->aE} {c:Code} {env:ax} (a:∀ env w,Q .ret env w=dD P fn R .ret env w) (h:Go.bu.W P c env (bG P fn R Q) w):Go.bu.W P c env Q w:=(zR a).mp h
theorem JV (w:ak) (lines:Int):a9 203 [.int .i64 lines] w λv w'=>v=.bool (decide (98<=lines/\lines<=256))/\w'=w:=by
 refine bc Tryz.func203 ?_;rw [GB];refine a8 (λh=>⟨?_,rfl⟩) (λh=>⟨?_,rfl⟩)
 ·have h:98<=lines:=h;congr 1;simp [h]
 ·have h:¬ 98<=lines:=h;congr 1;simp [h]
structure r2 (w:ak) (a:an) (fE cA:Nat) (aJ:bd) (lines:Int) (n:Nat) (wy:Nat) (env:ax) (u:ak):Prop where
 ex:∃ (dq zU zV Fb:Nat) (b0:an) (Qf:ax),env=o1 a fE cA lines wy dq ((3+9 * n:Nat):Int) undef zU zV undef Qf/\av u dq [.int .i64 (aJ.getD 0 0),.slice none 0 0] eo/\av u zU [.slice b0 (9 * n) Fb] 94/\av u zV [.int .i64 9] 3/\dq≠zU/\dq≠zV/\wy≠dq/\w.heap.size<=dq/\9 * n<=Fb/\
  ∀ i,i<n->bh u (j1 b0 i) (us ((aJ.drop (2+9 * i)).take 9))/\∀ k,aL (j1 b0 i) k->k≠dq
 res:av u wy [.int .i64 0,.slice none 0 0] eo
 new:ai w u
 old:w.heap.size<=wy
theorem JW (lines:Int) (I:bh w a (us aJ)) (d:fE=aJ.length) (Wu:fE<=cA) (hu:∀ x ∈ aJ,ca x) (Wg:fE<=1000) :
  Go.bu.W prog dX ((.slice a fE cA)::(.int .i64 lines)::(bb 72 [])) (bG prog f251 (eZ w (ew aJ lines) (.int .i64 (eg aJ lines))) (o0 λenv u=>r2 w a fE cA aJ lines (aJ.getD 1 0).toNat w.heap.size env u/\(98<=lines/\lines<=256)/\3+9 * (aJ.getD 1 0).toNat<=aJ.length/\0<=aJ.getD 0 0/\aJ.getD 0 0<1073741824/\0<=aJ.getD 1 0/\aJ.getD 1 0<=12)) w:=by
 rw [VR];rintro b1 w1 D J;obtain ⟨g,t⟩:=bl D J;have g:av w1 b1 iL.cells eo:=g;clear J;subst D;have no:∀ {u:ak} {e:Int},ai w1 u->eg aJ lines=e->e≠0->ec u ⟨w.heap.size,0,none⟩ 0 iL.cells/\∀ j,j=cr u ⟨w.heap.size,0,none⟩ 0 iL.cells->bY.ex λres=>b6 j ⟨w.heap.size,0,none⟩ 0 res.cells/\j=j/\eZ w (ew aJ lines) (.int .i64 (eg aJ lines)) (.tuple #[res.val,.int .i64 e]) j:=by intro u e H he Wk;refine o2 (ai.aj H g) rfl iL (K:=λres j=>eZ w (ew aJ lines) (.int .i64 (eg aJ lines)) (.tuple #[res.val,.int .i64 e]) j) λWx O _=>eZ.no he Wk ((t.new H).trans O λk Wn e=>by omega)
 refine aC (JV w1 lines) ?_;rintro v j ⟨rfl,rfl⟩;refine ⟨_,rfl,ev (λWg=>no (ao.refl _ _) (if_pos (of_decide_eq_false Wg)) (by decide)) (λWs=>?_)⟩
 have V2:=of_decide_eq_true Ws;rw [TA,SM];refine g_ (fn:=f251) (R:=eZ w (ew aJ lines) (.int .i64 (eg aJ lines))) (λ_ _=>rfl) ?_;rw [t8];have p:=t;have q:aJ.length<2\/1073741824<=aJ.getD 0 0\/12<aJ.getD 1 0->eg aJ lines=14:=λh=>by unfold eg;rw [if_neg (λe=>e V2),if_pos h]
 have bad:eg aJ lines=14->∀ (s8 N:a2) (Wh:ax),aU (λenv B=>Go.bu.W prog (sub dX [1,1,0,1]) env (aU (λenv Wc=>Go.bu.W prog (sub dX [1,1,1]) env (bG prog f251 (eZ w (ew aJ lines) (.int .i64 (eg aJ lines))) (o0 λenv u=>r2 w a fE cA aJ lines (aJ.getD 1 0).toNat w.heap.size env u/\(98<=lines/\lines<=256)/\3+9 * (aJ.getD 1 0).toNat<=aJ.length/\0<=aJ.getD 0 0/\aJ.getD 0 0<1073741824/\0<=aJ.getD 1 0/\aJ.getD 1 0<=12)) Wc) (bG prog f251 (eZ w (ew aJ lines) (.int .i64 (eg aJ lines))) (o0 λenv u=>r2 w a fE cA aJ lines (aJ.getD 1 0).toNat w.heap.size env u/\(98<=lines/\lines<=256)/\3+9 * (aJ.getD 1 0).toNat<=aJ.length/\0<=aJ.getD 0 0/\aJ.getD 0 0<1073741824/\0<=aJ.getD 1 0/\aJ.getD 1 0<=12))) B) (aU (λenv B=>Go.bu.W prog (sub dX [1,1,1]) env (bG prog f251 (eZ w (ew aJ lines) (.int .i64 (eg aJ lines))) (o0 λenv u=>r2 w a fE cA aJ lines (aJ.getD 1 0).toNat w.heap.size env u/\(98<=lines/\lines<=256)/\3+9 * (aJ.getD 1 0).toNat<=aJ.length/\0<=aJ.getD 0 0/\aJ.getD 0 0<1073741824/\0<=aJ.getD 1 0/\aJ.getD 1 0<=12)) B) (bG prog f251 (eZ w (ew aJ lines) (.int .i64 (eg aJ lines))) (o0 λenv u=>r2 w a fE cA aJ lines (aJ.getD 1 0).toNat w.heap.size env u/\(98<=lines/\lines<=256)/\3+9 * (aJ.getD 1 0).toNat<=aJ.length/\0<=aJ.getD 0 0/\aJ.getD 0 0<1073741824/\0<=aJ.getD 1 0/\aJ.getD 1 0<=12))) .normal (uz a fE cA lines ⟨w.heap.size,0,none⟩ s8 true N Wh) j:=by intro he s8 N Wh;refine eU (g_ (fn:=f251) (R:=eZ w (ew aJ lines) (.int .i64 (eg aJ lines))) (λ_ _=>rfl) ?_);rw [F8];exact ek rfl (no (ao.refl _ _) he (by decide))
 refine a8 (λC=>bad (q (.inl (by omega))) _ _ _) (λC=>?_)
 have y:=I.new p;refine m3 y (i:=0) (by omega) d rfl λWi dy r=>⟨_,r _ (ao.refl _ _),a8 (λWd=>bad (q (.inr (.inl Wd))) _ _ _) (λWd=>?_)⟩
 refine m3 y (i:=1) (by omega) d rfl λdk gk s=>⟨_,s _ (ao.refl _ _),?_⟩
 by_cases U:aJ.getD 1 0>12
 ·dsimp only;rw [decide_eq_true U];exact bad (q (.inr (.inr U))) _ _ _
 dsimp only;rw [decide_eq_false U];refine eU (g_ (fn:=f251) (R:=eZ w (ew aJ lines) (.int .i64 (eg aJ lines))) (λ_ _=>rfl) ?_);rw [F8];refine cV rfl (eU ?_);rw [t9];have V8:ca (aJ.getD 0 0):=by
  match aJ,C,hu,d with
  | [],C,_,d=>simp at d <;> omega
  |x::_,_,hu,_=>exact hu x (by simp)
 have V9:ca (aJ.getD 1 0):=by
  match aJ,C,hu,d with
  | [],C,_,d=>simp at d <;> omega
  | [_],C,_,d=>simp at d <;> omega
  | _::x::_,_,hu,_=>exact hu x (by simp)
 have V6:=V8.1;have V7:=V9.1;refine m3 y (i:=0) (by omega) d rfl λWi dy r=>⟨_,r _ (ao.refl _ _),?_⟩
 dsimp only;rw [bC (x:=aJ.getD 0 0) (by omega) (by omega)];rintro dq Wt V L;obtain ⟨A,F⟩:=bl V L;have A:av Wt dq iL.cells eo:=A;clear L;refine dQ (vs:=bY.cells ⟨aJ.getD 0 0,none,0,0⟩) A rfl (bY.single _) λP z Z=>?_
 have Wo:=t.size;have Wp:=F.size;have Wf:=g.lt;have c:ai j P:=F.trans Z λk O e=>by omega
 have f:=p.new c;refine m3 (I.new f) (i:=1) (by omega) d rfl λdk gk s=>⟨_,s _ (ao.refl _ _),?_⟩
 obtain ⟨n,V3⟩:=p3 V7;have V4:(aJ.getD 1 0).toNat=n:=by omega
 rw [V4];have Wj:IntKind.i64.wrap (IntKind.i64.wrap (2+IntKind.i64.wrap (9 * IntKind.i64.wrap (aJ.getD 1 0)))+1)=((3+9 * n:Nat):Int):=by rw [V3];rw [bC (x:=(n:Int)) (by omega) (by omega),bC (x:=9 * (n:Int)) (by omega) (by omega),bC (x:=2+9 * (n:Int)) (by omega) (by omega),bC (by omega) (by omega)];omega
 rw [Wj];refine a8 (λWl=>no c ?_ (by decide)) (λWl=>?_)
 ·unfold eg;rw [if_neg (λe=>e V2),if_neg (by omega),if_pos (by omega)]
 rw [bC (x:=((3+9 * n:Nat):Int) - 1) (by omega) (by omega)];have G:us aJ≠[]:=λe=>by have:=congrArg List.length e;rw [hE,p8] at this;omega
 obtain ⟨b,o,rfl,X⟩:∃ b o,a=some ⟨b,o,none⟩/\True:=by
  rcases I with e | ⟨b,o,e,_⟩
  ·exact absurd e G
  ·exact ⟨b,o,e,trivial⟩
 refine kA (by omega) (by omega) (by omega) (by omega) (by omega) λQ Wa=>?_
 have T:(((3+9 * n:Nat):Int) - 1).toNat - (2:Int).toNat=9 * n:=by omega
 have S:((cA:Nat):Int).toNat - (2:Int).toNat=cA - 2:=by simp
 rw [T,S];refine aC (Np P Q (9 * n) (cA - 2)) ?_;rintro v Wy ⟨rfl,V_,V',l,Wr⟩;refine ⟨_,rfl,?_⟩;show _/\_;have Wq:=c.size;have M:=ai.aj l z;have E:=I.lt G;refine ⟨⟨⟨dq,P.heap.size,P.heap.size+1,cA - 2,Q,_,rfl,M,V_,V',?_,?_,?_,?_,by omega,λi Wv=>?_⟩,ai.aj (c.new l) g,f.new l,cQ _⟩,V2,by omega,V6,by omega,by omega,by omega⟩
 ·have:=z.lt;omega
 ·have:=z.lt;omega
 ·omega
 ·omega
 ·have Wb:Q=some ⟨b,o+2,none⟩:=by
   rcases Wa with h | ⟨h,_⟩
   ·exact h
   ·omega
  have Y:j1 Q i=some ⟨b,o+(2+9 * i),none⟩:=by rw [Wb];simp only [j1,mW,k7];congr 2;omega
  rw [Y];refine ⟨?_,λk O=>?_⟩
  ·have Wm:=(I.new (f.new l)).drop (2+9 * i);have We:=Wm.take 9;have e:((us aJ).drop (2+9 * i)).take 9=us ((aJ.drop (2+9 * i)).take 9):=by simp [us]
   rw [e] at We;exact We
  ·obtain ⟨Ww,V5⟩:=O;simp at V5;have E:b<w.heap.size:=E;omega
end
section
open Go.RowKit Go.Shelf
theorem O9 {ds:List Deferred} {e:Exit} {a:Act} (h:mU ds (bG P fn R λ_ _ _=>False) e a w):mU ds (dD P fn R) e a w:=by
 obtain ⟨d,env,rfl,b⟩:=mm h;cases e with
 |normal=>exact b.elim
 |ret=>exact gY b d
 |panic c=>exact absurd rfl (d.1 c)
 |outgrown=>exact absurd rfl d.2
 |exit i=>exact b.elim
 |goto i=>exact b.elim
theorem Dr (hu:∀ x ∈ aJ,ca x) (n:Nat):∀ p ∈ hl aJ n,ca p.Head:=by
 intro p a;obtain ⟨i,_,rfl⟩:=cT.1 a;show ca (((aJ.drop (2+9 * i)).take 9).getD 1 0);rw [dF];cases h:((aJ.drop (2+9 * i)).take 9)[1]? with
 |none=>exact hf
 |some x=>exact hu x (oX (tn (b7 h)))
theorem qQ (aJ:bd) (n:Nat):(hl aJ n).length=n:=by simp [hl]
theorem JX {w W:ak} (V8:bh w a (us aJ)) (Wt:fE=aJ.length) (Ws:fE<=cA) (hu:∀ x ∈ aJ,ca x) (Q:fE<=1000) (Wg:(aJ.getD 1 0)=n) (V7:n<=12) (Wf:98<=lines/\lines<=256) (hlen:3+9 * n<=aJ.length) (Wi:0<=aJ.getD 0 0) (Wj:aJ.getD 0 0<1073741824)
  {j D:Nat} {pa:an} (J:av W j iL.cells eo) (B:av W dq [.int .i64 (aJ.getD 0 0),.slice pa n cap] eo) (Wd:j≠dq) (d:a0 W et 9 pa n cap (h4 (hl aJ n)).flatten) (H:∀ k,aL pa k->k≠j/\w.heap.size<=k) (hw:ai w W) (Wq:w.heap.size<=j) (Wr:w.heap.size<=D) (f:W.heap[D]?=some (.deferred (some []))) (L:ax) :
  Go.bu.W prog (sub dX [1,1,1,1,1,1,1]) (Ai a fE cA lines ⟨j,0,none⟩ ⟨dq,0,none⟩ ((3+9 * n:Nat):Int) L) (bG prog f251 (λv u=>u.heap[D]?=some (.deferred (some []))/\eZ w (ew aJ lines) (.int .i64 (eg aJ lines)) v (u.putObj D (.deferred none))) λ_ _ _=>False) W:=by
 have P:D≠j:=λe=>by rw [e,show W.heap[j]?=_ from J] at f;cases f
 have T:∀ k,aL pa k->k≠D:=by
  intro k i e;obtain ⟨o,F⟩:=i;rcases d.2 with ⟨he,_⟩ | ⟨g,cur,he,We,_⟩
  ·rw [he] at F;cases F
  ·rw [he] at F;simp at F;rw [<-e,<-F.1,show W.heap[g]?=_ from We] at f;cases f
 have V_:∀ {u:ak},ao (λk=>k=j) W u->u.heap[D]?=some (.deferred (some []))/\ao (λk=>k=j\/k=D) W (u.putObj D (.deferred none))/\ai w (u.putObj D (.deferred none)):=by intro u i;have Wc:u.heap[D]?=some (.deferred (some [])):=(i.block D (u9.1 f).1 P).trans f;have V5:ao (λk=>k=j\/k=D) W (u.putObj D (.deferred none)):=(ao.mono i (λ_ _ h=>Or.inl h)).trans (sn (grownBy_putObj' u D (.deferred none))) (λk S e=>.inr (by simpa using e));exact ⟨Wc,V5,hw.trans V5 λk S e=>by rcases e with e | e<;>omega⟩
 have E:(aJ.getD 1 0).toNat=n:=by omega
 have M:eg aJ lines=if fy (aJ.getD 0 0) (hl aJ n) lines≠0 then 14 else if fi (aJ.getD 0 0) (hl aJ n)≠aJ.take (3+9 * n) then 14 else 0:=by unfold eg;rw [if_neg (λe=>e Wf),if_neg (by omega),if_neg (by omega),E]
 have Wb:eg aJ lines=0->ew aJ lines=(aJ.getD 0 0,hl aJ n):=λh=>by unfold ew;rw [if_pos h,E]
 rw [rt,SP];refine g_ (fn:=f251) (R:=λv u=>u.heap[D]?=some (.deferred (some []))/\eZ w (ew aJ lines) (.int .i64 (eg aJ lines)) v (u.putObj D (.deferred none))) (λ_ _=>rfl) ?_;rw [Uy];rintro w1 I;have l:ai W w1:=by rw [I];exact cE _
 clear I;have q:fh w1 pa n (hl aJ n):=⟨(bh.new l d.rd),(qQ aJ n).symm,by rw [qQ];omega,Dr hu n⟩;have V6:=ai.aj l B;have last:∀ (t:Bool) (u:ak),ai W u->(t=true->eg aJ lines=14)->(t=false->eg aJ lines=0)->∀ L,Go.bu.W prog (sub dX [1,1,1,1,1,1,1,0,1]) (xm ⟨j,0,none⟩ ⟨dq,0,none⟩ t L)
   (aU (λenv V2=>Go.bu.W prog (sub dX [1,1,1,1,1,1,1,1]) env (bG prog f251 (λv u=>u.heap[D]?=some (.deferred (some []))/\eZ w (ew aJ lines) (.int .i64 (eg aJ lines)) v (u.putObj D (.deferred none))) λ_ _ _=>False) V2) (bG prog f251 (λv u=>u.heap[D]?=some (.deferred (some []))/\eZ w (ew aJ lines) (.int .i64 (eg aJ lines)) v (u.putObj D (.deferred none))) λ_ _ _=>False)) u:=by
  intro t u z Wk Q L;refine g_ (fn:=f251) (R:=λv u=>u.heap[D]?=some (.deferred (some []))/\eZ w (ew aJ lines) (.int .i64 (eg aJ lines)) v (u.putObj D (.deferred none))) (λ_ _=>rfl) ?_;rw [Uz];have au:=ai.aj z J;cases t with
  |true=>refine ek rfl (o2 au rfl iL (K:=λres A=>A.heap[D]?=some (.deferred (some []))/\eZ w (ew aJ lines) (.int .i64 (eg aJ lines)) (.tuple #[res.val,.int .i64 14]) (A.putObj D (.deferred none))) λWl i _=>?_);obtain ⟨N,V4,O⟩:=V_ ((ao.b4 z).trans i λ_ _ e=>e);exact ⟨N,eZ.no (Wk rfl) (by decide) O⟩
  |false=>
   refine cV rfl (eU ?_);rw [UA];refine bY.aR ⟨aJ.getD 0 0,pa,n,cap⟩ ⟨bJ (ai.aj z B) rfl,?_⟩;refine o2 au rfl ⟨aJ.getD 0 0,pa,n,cap⟩ (K:=λres A=>A.heap[D]?=some (.deferred (some []))/\eZ w (ew aJ lines) (.int .i64 (eg aJ lines)) (.tuple #[res.val,.int .i64 0]) (A.putObj D (.deferred none))) λWl i _=>?_
   obtain ⟨N,V4,O⟩:=V_ ((ao.b4 z).trans i λ_ _ e=>e);rw [Wb (Q rfl),Q rfl];refine ⟨N,pa,cap,by rw [qQ],O,?_⟩;rw [qQ];exact ⟨⟨d.rd.az V4 (hn d.rd λk i e=>by rcases e with e | e;exact (H k i).1 e;exact T k i e),q.len,q.eD,q.u64⟩,λk i=>(H k i).2⟩
 refine ⟨λy=>ai w1 y,ao.refl _ _,bY.aR ⟨aJ.getD 0 0,pa,n,cap⟩ ⟨λu hu=>bJ (ai.aj hu V6) rfl,?_⟩⟩;refine aC (ye (r:=⟨aJ.getD 0 0,pa,n,cap⟩) q lines) ?_;rintro v A ⟨rfl,c⟩;refine ⟨_,rfl,c,dw (λhe=>?_) (λhe=>bY.aR ⟨aJ.getD 0 0,pa,n,cap⟩ ⟨λu hu=>bJ (ai.aj hu V6) rfl,?_⟩)⟩
 ·exact eU (last true A (l.new c) (λ_=>by rw [M,if_pos he]) (λh=>by cases h) _)
 have al:fy (aJ.getD 0 0) (hl aJ n) lines=0:=he;obtain ⟨_,V9,U,_⟩:=jj al;have V:=V8.new (hw.new (l.new c));obtain ⟨b,o,rfl⟩:∃ b o,a=some ⟨b,o,none⟩:=by
  rcases V8 with e | ⟨b,o,e,_⟩
  ·have:=congrArg List.length e;rw [hE,p8] at this;omega
  ·exact ⟨b,o,e⟩
 refine kA (by omega) (by omega) (by omega) (by omega) (by omega) λWo Y=>?_
 have Z:Wo=some ⟨b,o,none⟩:=by
  rcases Y with h | ⟨h,_⟩
  ·simpa using h
  ·omega
 subst Z;refine aC (yJ (r:=⟨aJ.getD 0 0,pa,n,cap⟩) (q.new c) (AL al) ⟨V9.1,V9.2.1⟩ (by rw [qQ];omega) (λp Wh=>by have:=U p Wh;omega)) ?_;rintro v Wm ⟨Wp,V3,rfl,s,G,_⟩;rw [qQ] at G ⊢;refine ⟨_,_,_,rfl,c.new s,?_⟩;have V':((3+9 * n:Nat):Int).toNat - (0:Int).toNat=3+9 * n:=by omega
 have Wa:((cA:Nat):Int).toNat - (0:Int).toNat=cA:=by simp
 rw [V',Wa];have X:bh Wm (some ⟨b,o,none⟩) (us (aJ.take (3+9 * n))):=by have:=(V.new s).take (3+9 * n);rwa [show (us aJ).take (3+9 * n)=us (aJ.take (3+9 * n)) by simp [us]] at this
 refine aC (O8 G.rd (by rw [pA,qQ]) X (by rw [iM];omega) (by omega)) ?_;rintro v Wn ⟨rfl,C⟩;refine ⟨_,rfl,(c.new s).new C,eU (last _ Wn (((l.new c).new s).new C) (λh=>?_) (λh=>?_) _)⟩
 ·have h:¬ fi (aJ.getD 0 0) (hl aJ n)=aJ.take (3+9 * n):=by simpa using h
  rw [M,if_neg (λe=>e al),if_pos h]
 ·have h:fi (aJ.getD 0 0) (hl aJ n)=aJ.take (3+9 * n):=by simpa using h
  rw [M,if_neg (λe=>e al),if_neg (λe=>e h)]
theorem Nr (lines:Int) (X:bh w a (us aJ)) (U:fE=aJ.length) (Q:fE<=cA) (hu:∀ x ∈ aJ,ca x) (S:fE<=1000) :
  a9 251 [.slice a fE cA,.int .i64 lines] w (eZ w (ew aJ lines) (.int .i64 (eg aJ lines))):=by
 refine (callsIn_wide (n:=3)).1 ?_;refine callsIn_of_wp_marks (c:=bp f251) Tryz.func251 (by kernel_rfl) trivial ?_ rfl;suffices V3:∀ x:Act,x=act ((.slice a fE cA)::(.int .i64 lines)::(bb 72 []))->Code.wpIn Fence.wide 3 prog (bp f251) (bodyPostM Fence.wide 3 prog f251 λe w'=>∃ v,e=.returned v/\eZ w (ew aJ lines) (.int .i64 (eg aJ lines)) v w') x w from V3 _ (by kernel_rfl)
 rintro _ rfl;refine OI mix Bp (ds:=[]) [1,1,1,1,1,1,0,1,0] _ _ _ _ _ (by kernel_rfl) (JW lines X U Q hu S) ?_ (λe x u h=>La (λv al=>⟨v,rfl,al⟩) (Lb h));intro env u B;have B:r2 w a fE cA aJ lines (aJ.getD 1 0).toNat w.heap.size env u/\(98<=lines/\lines<=256)/\3+9 * (aJ.getD 1 0).toNat<=aJ.length/\0<=aJ.getD 0 0/\aJ.getD 0 0<1073741824/\0<=aJ.getD 1 0/\aJ.getD 1 0<=12:=B;obtain ⟨⟨⟨dq,d,f,g,b0,Y,rfl,C,s,N,F,G,i,V5,b,r⟩,t,hw,Z⟩,V2,hlen,K,L,H,V⟩:=B;obtain ⟨n,I⟩:=p3 H;have o:(aJ.getD 1 0).toNat=n:=by omega
 rw [o] at s b hlen r;rw [show sub (bp f251) [1,1,1,1,1,1,0,1,0]=.rangeFunc (.tmp 50) #[51] (sub (bp f251) [1,1,1,1,1,1,0,1,0,0]) (.block 1 (sub (bp f251) [1,1,1,1,1,1,0,1,0,1,0])) by kernel_rfl];have E:∀ z,rz Fence.wide 3 prog (bp f251) [1,1,1,1,1,1,0,1,0] z=Exit.inBlock 0 (Exit.then (λa w=>(sub (bp f251) [1,1,1,1,1,1,1]).wpIn Fence.wide 3 prog z a w) z):=λz=>by kernel_rfl
 rw [E,o];refine JF u w.heap.size dq d f (aJ.getD 0 0) ((3+9 * n:Nat):Int) lines aJ n fE cA g a b0 Y (by omega) C s N F G b r (by omega) hu _ ?_;intro D W ys V6 O P A;rw [O] at P;obtain ⟨⟨pa,cap,p,q,J⟩,l⟩:=P;rw [ly] at p q;have y:=l.aj t (λe=>i e);have M:ai w W:=hw.trans l λk T e=>by omega
 have V4:=hw.size;have j:=JX (lines:=lines) X U Q hu S I (by omega) V2 hlen K L y p i q (λk T=>by have:=J k T;have:=t.lt;omega) M Z (by omega) A;show Code.wpIn Fence.wide 3 prog (sub (bp f251) [1,1,1,1,1,1,1]) (bodyPostM Fence.wide 3 prog f251 λe w'=>∃ v,e=.returned v/\eZ w (ew aJ lines) (.int .i64 (eg aJ lines)) v w') (l_ [{ target:=.collected D,args:=#[] }] (o1 a fE cA lines w.heap.size dq ((3+9 * n:Nat):Int) undef d f undef Y)) W;refine wpIn_mono (ng mix Bp (ds:=[{ target:=.collected D,args:=#[] }]) _ _ _ W (by kernel_rfl) ?_) (λe x u h=>Nn (R:=λv u=>u.heap[D]?=some (.deferred (some []))/\eZ w (ew aJ lines) (.int .i64 (eg aJ lines)) v (u.putObj D (.deferred none))) (λv al=>⟨al.1,v,rfl,al.2⟩) (O9 h));rw [show sub (bp f251) [1,1,1,1,1,1,1]=sub dX [1,1,1,1,1,1,1] by kernel_rfl];rw [o1,SO];exact j _
end
end Go.Proofs.YtmkljjbioomepaaGreat
