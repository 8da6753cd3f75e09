import Derived.Test.YtmkljjbioomepaaGreatc25
import Derived.Test.YtmkljjbioomepaaGreatc18
set_option linter.all false
set_option maxHeartbeats 4000000
set_option maxRecDepth 100000
namespace Go.Proofs.YtmkljjbioomepaaGreat
open Go.Proofs.Tryz Go.br
variable {P:Program} {R:cA} {a:al} {b1 aA dn c cz cap n fx:Nat} {aI l ws:bb} {fn:Func} {lines:Int} {w:ak}
section
open Go.RowKit Go.Shelf
theorem Pi {b sb so k c:Nat} {news:ax} (l:news.length=7) (i:k=7) (a:∀ j u,news[j]?=some u->w.cell? ⟨sb,so+j,none⟩=some u) (e:eh w ⟨b,2,none⟩ 0 news) :
  (Builtin.copy_ #[94,94] 3 #[.slice (some ⟨b,2,none⟩) 7 7,.slice (some ⟨sb,so,none⟩) k c]).run prog w=.ok (.int .i64 7) (ct w ⟨b,2,none⟩ 0 news):=by
 subst i;obtain ⟨inf,g,au,o,p⟩:=fL (T:=30) (z:=.int .u64 0) (n:=1) (m:=8) (by kernel_rfl);have f:=run_firstCells_some (P:=prog) w inf.size 7 ⟨sb,so,none⟩ 7 c news (by rw [o];exact l) (λj v h=>by rw [show (⟨sb,so,none⟩:aU).add j=⟨sb,so+j,none⟩ from k3 _ _ _];exact a j v h);have d:=br.su (P:=prog) e;have hu:prog.underlying 94=some (.slice 30):=Tryz.underlying94;simp [Builtin.copy_,run_underlying hu,sizeOf,typeInfo,g,Builtin.lenOf,f,d,goInt]
def qS (ws:bb):aJ:=⟨if 256<ws.getD 0 0 then 256 else ws.getD 0 0,ws.getD 1 0,ws.getD 2 0,ws.getD 3 0,ws.getD 4 0,ws.getD 5 0,ws.getD 6 0,ws.getD 7 0,ws.getD 8 0⟩
theorem nL (h:bh w a (us ws)) {i:Nat} (c:i<ws.length) (g:n=ws.length) {z:Int} (au:z=i) {K:aU->Prop} (f:∀ b o,(∀ y,ai w y->y.cell? ⟨b,o,none⟩=some (.int .u64 (ws.getD i 0)))->K ⟨b,o,none⟩):bk a n z 1 K:=by
 have e:ws[i]?=some (ws.getD i 0):=by rw [bF c,dD,bF c];rfl
 refine iR (cells:=tv) (sz:=1) (λ_=>rfl) (by decide) (by rw [ve];exact h) e au g λb o d=>f b o λy j=>d y j 0 _ rfl
theorem LR (h:l.length=9):∃ a b c d e f g i j,l=[a,b,c,d,e,f,g,i,j]:=by
 rcases l with _ | ⟨a,_ | ⟨b,_ | ⟨c,_ | ⟨d,_ | ⟨e,_ | ⟨f,_ | ⟨g,_ | ⟨i,_ | ⟨j,_ | ⟨y,l⟩⟩⟩⟩⟩⟩⟩⟩⟩⟩;case cons.cons.cons.cons.cons.cons.cons.cons.cons.nil=>exact ⟨_,_,_,_,_,_,_,_,_,rfl⟩
 all_goals simp at h
theorem O4 (U:bh w a (us ws)) (B:ws.length=9) (hu:∀ x ∈ ws,b8 x) (VD:9<=c):a_ 254 [.slice a 9 c] w λv w'=>v=(qS ws).val/\ai w w':=by
 refine bc Tryz.func254 ?_;rw [Ve];rintro b1 w1 R D;obtain ⟨f,C⟩:=bl R D;have f:av w1 b1 hE.cells ep:=f;clear D;rintro Vs E;have q:ai w1 Vs:=by rw [E];exact cD _
 clear E;have d:=C.new q;refine ⟨λu=>ai Vs u,ao.refl _ _,?_⟩;have V:b8 (ws.getD 0 0):=by
  match ws,B,hu with
  |x::_,_,hu=>exact hu x (by simp)
 refine nL (U.new d) (i:=0) (by omega) (by omega) rfl λb o Vz=>⟨_,Vz,nL (U.new d) (i:=1) (by omega) (by omega) rfl λb' VE VA=>⟨_,VA,?_⟩⟩
 have Vy:IntKind.i64.wrap (if (256:Int)<ws.getD 0 0 then (256:Int) else ws.getD 0 0)=(qS ws).bn:=by
  rw [bC]
  ·rfl
  ·split<;>have:=V.1<;>omega
  ·split<;>omega
 rw [Vy];rintro aA VB S F;obtain ⟨t,r⟩:=bl S F;have t:av VB aA hE.cells ep:=t;clear F;refine ⟨r,?_⟩;refine dO (vs:=[.int .i64 (qS ws).bn,.int .u64 (ws.getD 1 0),.int .u64 0,.int .u64 0,.int .u64 0,.int .u64 0,.int .u64 0,.int .u64 0,.int .u64 0]) t rfl (by intro v an;simp at an;rcases an with rfl | rfl | rfl<;>rfl) λVC X z=>?_
 rintro y G;have s:ai VC y:=by rw [G];exact cD _
 clear G;have J:=ai.aj s X;have g:b1≠aA:=λe=>by have:=f.lt;have:=q.size;omega
 have l:ai w y:=((d.new r).trans z λk Vr e=>by have:=d.size;omega).new s;have H:av y b1 hE.cells ep:=ai.aj s (z.aj (ai.aj (q.new r) f) g);obtain ⟨b,o,rfl,n⟩:∃ b o,a=some ⟨b,o,none⟩/\∀ j u,(us ws)[j]?=some u->y.cell? ⟨b,o+j,none⟩=some u:=by
  rcases U.new l with e | h
  ·exact absurd (congrArg List.length e) (by rw [hC,B];decide)
  ·exact h
 refine kt (by omega) (by omega) (by omega) (by omega) (by omega) λVG W=>?_
 rcases W with rfl | ⟨e,_⟩;case inr=>omega
 have p:=Pi (w:=y) (b:=aA) (sb:=b) (so:=o+2) (k:=7) (c:=c - 2) (news:=us (ws.drop 2)) (by rw [hC,lZ,B]) rfl (λj u h=>by have:=n (2+j) u (by simp only [us,d',lo] at h ⊢;exact h);rw [show o+2+j=o+(2+j) by omega];exact this) (f7 J (by rw [hC,lZ,B];simp) (pr _))
 have Vv:((9:Nat):Int).toNat - (2:Int).toNat=7:=rfl;have Vw:((c:Nat):Int).toNat - (2:Int).toNat=c - 2:=by simp
 have Vx:o+(2:Int).toNat * 1=o+2:=rfl;rw [Vv,Vw,Vx];refine ⟨_,_,p,?_⟩;obtain ⟨Vt,Vu,K,L,M,N,O,P,Q,rfl⟩:=LR B;have Y:av (ct y ⟨aA,2,none⟩ 0 (us [K,L,M,N,O,P,Q])) aA (qS [Vt,Vu,K,L,M,N,O,P,Q]).cells ep:=J.ct (vs:=us [K,L,M,N,O,P,Q]) (o:=2) (i:=0);have A:=hT y aA 2 0 (us [K,L,M,N,O,P,Q]);refine aJ.aS _ ⟨bK Y rfl,?_⟩;have I:=A.aj H g;refine dO (vs:=(qS [Vt,Vu,K,L,M,N,O,P,Q]).cells) I rfl (aJ.single _) λVF Z T=>?_
 refine aJ.aS _ ⟨bK Z rfl,rfl,rfl,?_⟩;have:=C.size;refine (l.trans A λk Vr e=>?_).trans T λk Vr e=>?_
 ·have:=d.size;omega
 ·omega
theorem O5 {b:al} {m d:Nat} {l2:bb} (B:bh w a (us l)) (F:n=l.length) (C:bh w b (us l2)) (hm:m=l2.length) (G:n<=1000000):a_ 255 [.slice a n c,.slice b m d] w λv w'=>v=.bool (decide (l=l2))/\ai w w':=by
 refine bc Tryz.func255 ?_;rw [QG];refine dw (λe=>⟨?_,ao.refl _ _⟩) (λe=>?_)
 ·rw [decide_eq_false];intro j;subst j;omega
 have hlen:l.length=l2.length:=by omega
 refine c2 mix (λq env u=>∃ (i:Nat) (t:ax),q=l.length - i/\i<=l.length/\env=wb a n c b m d n i t/\ai w u/\l.take i=l2.take i) l.length
  ⟨0,_,by omega,by omega,rfl,ao.refl _ _,rfl⟩ ?_
 rintro q env u ⟨i,t,rfl,H,rfl,g,s⟩;rw [PQ];refine a' (λE=>?_) (λD=>?_)
 ·rintro w1 h;have p:ai u w1:=by rw [h];exact cD _
  clear h;have f:=g.new p;refine ⟨λy=>ai w1 y,ao.refl _ _,?_⟩;refine nL (B.new f) (i:=i) (by omega) F rfl λb1 I k=>⟨_,k,nL (C.new f) (i:=i) (by omega) hm rfl λaA J o=>⟨_,o,?_⟩⟩
  have z:l[i]?=some (l.getD i 0):=by rw [dD,bF (by omega)];rfl
  have A:l2[i]?=some (l2.getD i 0):=by rw [dD,bF (by omega)];rfl
  refine dw (λr=>⟨?_,f⟩) (λhe=>?_)
  ·rw [decide_eq_false];intro j;subst j;exact r rfl
  ·rw [bC (x:=(i:Int)+1) (by omega) (by omega)];refine ⟨l.length - (i+1),by omega,i+1,_,rfl,by omega,rfl,f,?_⟩;rw [e7,e7,s,z,A,he]
 ·rw [P1];refine ⟨?_,g⟩;rw [hO (by omega),hO (by omega)] at s;rw [decide_eq_true s]
theorem LS (w:ak) (a:al) (n c:Nat):a_ 253 [.slice a n c,.int .i64 9] w λr w'=>r=.func (.func 257) #[] #[.pointer (some ⟨w.heap.size,0,none⟩),.pointer (some ⟨w.heap.size+1,0,none⟩)]/\
  av w' w.heap.size [.slice a n c] 94/\av w' (w.heap.size+1) [.int .i64 9] 3/\ai w w'/\w'.heap.size=w.heap.size+2:=by
 refine bc Tryz.func253 ?_;rw [QI];rintro b1 w1 e b;obtain ⟨l,k⟩:=bl e b;have i:w1.heap.size=w.heap.size+1:=by rw [b];simp
 clear b;rintro aA p f d;obtain ⟨j,g⟩:=bl f d;have o:p.heap.size=w1.heap.size+1:=by rw [d];simp
 clear d;subst e f;refine ⟨9,j.cell rfl,a' (λh=>absurd h (by decide)) (λ_=>⟨by rw [i],ai.aj g l,by rw [<-i];exact j,k.new g,by omega⟩)⟩
def jP (a:al) (i:Nat):al:=a.map (·.add (9 * i))
def iH (b1 aA:Nat) (a:al) (n cap:Nat) (w:ak):Prop:=w.cell? ⟨b1,0,none⟩=some (.slice a n cap)/\w.cell? ⟨aA,0,none⟩=some (.int .i64 9)
theorem JI (l b1 aA:Nat) (a:al) (cap n:Nat) (a1 s:List (Fin n)->aE) (Y:n<=1000) (g:9 * n<=cap) (W:ak) (O:iH b1 aA a (9 * n) cap W)
  (L:AbidesFrom W.heap.size a1) (N:∀ pre x y,a1 pre y->pre.length<n->YieldAt Fence.wide 1 prog l #[.slice (jP a x.val) 9 9] y λe W'=>
   (e=.returned (.bool true)/\a1 (pre++[x]) W'/\(iH b1 aA a (9 * n) cap y->iH b1 aA a (9 * n) cap W'))\/(e=.returned (.bool false)/\s (pre++[x]) W'))
  (J:a1 [] W) :
  CallsIn Fence.wide 2 prog 257 #[.func (.yield l) #[] #[],.pointer (some ⟨b1,0,none⟩),.pointer (some ⟨aA,0,none⟩)] W λe W'=>(∃ v,e=.returned v)/\
   ((∃ ys:List (Fin n),ys.map Fin.val=List.range n/\a1 ys W')\/(∃ pre,True/\s pre W')):=by
 refine callsIn_wide.2 (Calls.mono (R:=λe w'=>∃ x,e=.returned x/\((∃ ys:List (Fin n),ys.map Fin.val=List.range n/\a1 ys w')\/(∃ pre,True/\s pre w'))) ?_ λe w' ⟨x,T,w⟩=>⟨⟨x,T⟩,w⟩);refine bc Tryz.func257 (args:=[.func (.yield l) #[] #[],.pointer (some ⟨b1,0,none⟩),.pointer (some ⟨aA,0,none⟩)]) (R:=λ_ w'=>(∃ ys:List (Fin n),ys.map Fin.val=List.range n/\a1 ys w')\/(∃ pre,True/\s pre w')) ?_;rw [Qf];refine c2 mix (λm env u=>∃ (i:Nat) (H:ax) (pre:List (Fin n)),m=n - i/\i<=n/\env=v' (.func (.yield l) #[] #[]) ⟨b1,0,none⟩ ⟨aA,0,none⟩ ((9 * i:Nat):Int) H/\pre.map Fin.val=List.range i/\a1 pre u/\iH b1 aA a (9 * n) cap u) n
  ⟨0,_,[],by omega,by omega,rfl,rfl,J,O⟩ ?_
 rintro m env u ⟨i,H,pre,rfl,X,rfl,d,j,r,E⟩;rw [PB];refine ⟨a,9 * n,cap,r,a' (λQ=>?_) (λQ=>?_)⟩
 ·rintro w1 f;have b:Go.br.ai u w1:=by rw [f];exact cD _
  have A:w1.cell? ⟨b1,0,none⟩=some (.slice a (9 * n) cap):=by rw [f];exact r
  have F:w1.cell? ⟨aA,0,none⟩=some (.int .i64 9):=by rw [f];exact E
  clear f;refine ⟨λz=>iH b1 aA a (9 * n) cap z,⟨A,F⟩,9,λz au=>au.2,a,9 * n,cap,λz au=>au.1,?_⟩;refine ⟨by omega,by omega,by omega,by omega,g,?_⟩;refine ⟨a,9 * n,cap,A,?_⟩;have q:(if (((((9 * n:Nat):Int)).toNat - ((9 * i:Nat):Int).toNat:Nat):Int)<9 then (((((9 * n:Nat):Int)).toNat - ((9 * i:Nat):Int).toNat:Nat):Int) else 9)=9:=by split<;>omega
  rw [q,bC (x:=((9 * i:Nat):Int)+9) (by omega) (by omega)];refine ⟨by omega,by omega,by omega,by omega,g,?_⟩;have I:(if ((9 * i:Nat):Int)+9=((9 * i:Nat):Int) then a else a.map (·.add ((((9 * i:Nat):Int)).toNat * 1)))=jP a i:=by
   have t:(((9 * i:Nat):Int)).toNat * 1=9 * i:=by omega
   rw [if_neg (by omega),t];rfl
  have el:(((9 * i:Nat):Int)+9).toNat - (((9 * i:Nat):Int)).toNat=9:=by omega
  rw [I,el];have B:a1 pre w1:=L _ _ _ none j ⟨b.os,b.tape,b.output,b.size,λk P _=>b.block k P id⟩ (λ_ h=>by cases h);have D:=congrArg List.length d;rw [fC,lr] at D;have p:i<n:=by omega
  obtain ⟨fn,tmps,assign,body,U,w⟩:=N pre ⟨i,p⟩ w1 B (by omega);refine ⟨fn,tmps,assign,body,U,w.1,λc cs _=>?_⟩;obtain ⟨e,V,K,S⟩:=w.2 c cs (room_wide _);refine ⟨e,V,?_,S⟩;rcases K with ⟨rfl,C,M⟩ | ⟨rfl,o⟩
  ·have G:=M ⟨A,F⟩;refine ⟨true,rfl,cR rfl ⟨9,G.2,?_⟩⟩;dsimp only;rw [bC (x:=((9 * i:Nat):Int)+9) (by omega) (by omega),show ((9 * i:Nat):Int)+9=((9 * (i+1):Nat):Int) by omega];exact ⟨n - (i+1),by omega,i+1,_,pre++[⟨i,p⟩],rfl,by omega,rfl,by rw [iX,d,j9];rfl,C,G⟩
  ·exact ⟨false,rfl,eB rfl (.inr ⟨_,trivial,o⟩)⟩
 ·have:i=n:=by omega
  subst this;exact .inl ⟨_,d,j⟩
end
section
open Go.RowKit Go.Shelf
def ot (aI:bb) (i:Nat):aJ:=qS ((aI.drop (2+9 * i)).take 9)
def hn (aI:bb) (n:Nat):List aJ:=(List.range n).map (ot aI)
abbrev ek:TypeId:=271
structure tB (GO:ak) (dn:Nat) (seq:Int) (aI:bb) (pre:cQ) (u:ak):Prop where
 ex:∃ a cap,av u dn [.int .i64 seq,.slice a pre.length cap] ek/\a2 u ep 9 a pre.length cap (hV (pre.map (ot aI))).flatten/\∀ k,aK a k->GO.heap.size<=k
 az:ao (λk=>k=dn) GO u
theorem LU {l:ak} {seq:Int}:OwnFrom l.heap.size (λ(ys:List (Fin n)) u=>tB l dn seq aI (ys.map Fin.val) u):=by
 rintro ys W W' row ⟨⟨a,cap,i,j,o⟩,d⟩ p f;have c:=r5 p;refine ⟨⟨a,cap,c.aj i (ta (W':=W') f i),?_,o⟩,d.trans c λk q e=>?_⟩
 ·refine ⟨j.1,?_⟩;rcases j.2 with h | ⟨g,cur,he,b,rest⟩
  ·exact .inl h
  ·exact .inr ⟨g,cur,he,c.aj b (ta (W':=W') f b),rest⟩
 ·have:=(f k e.symm).1;omega
theorem H5 (aI:bb) (pre:cQ) (i:Nat):(hV ((pre++[i]).map (ot aI))).flatten=(hV (pre.map (ot aI))).flatten++(ot aI i).cells:=by simp [hV]
theorem iH.put {W:ak} {l:Nat} {o g:Obj} (i:W.heap[l]?=some o) (j:o.isCells=false) (h:iH b1 aA a n cap W):iH b1 aA a n cap (W.putObj l g):=by
 have same:∀ {b:Nat} {v:a4},W.cell? ⟨b,0,none⟩=some v->(W.putObj l g).cell? ⟨b,0,none⟩=some v:=by
  intro b v h;obtain ⟨k,c,f⟩:=cells_of_cell h;have d:b≠l:=by intro e;have c:W.heap[b]?=some k:=c;rw [e,i] at c;cases c;rw [j] at f;cases f
  rw [World.cell?_of_block (w:=W)]
  ·exact h
  ·exact World.putObj_heap_other d
 exact ⟨same h.1,same h.2⟩
theorem iH.az {W W':ak} {M:a5} (b:ao M W W') (c:¬ M b1) (d:¬ M aA) (h:iH b1 aA a n cap W):iH b1 aA a n cap W':=⟨jy b h.1 c,jy b h.2 d⟩
abbrev oZ (f:al) (fx cz:Nat) (lines:Int) (d dn:Nat) (g:Int) (h:a4) (a b:Nat) (c:a4) (e:ax):ax:=
 qz f fx cz lines ⟨d,0,none⟩ ⟨dn,0,none⟩ g h (.func (.func 257) #[] #[.pointer (some ⟨a,0,none⟩),.pointer (some ⟨b,0,none⟩)]) c e
theorem IG (r:ak) (Vw dn f j:Nat) (seq VQ lines:Int) (aI:bb) (n fx cz p:Nat) (VP q:al) (VO:ax) (Wp:n<=12)
  (Vy:av r dn [.int .i64 seq,.slice none 0 0] ek) (Vt:av r f [.slice q (9 * n) p] 94) (Vu:av r j [.int .i64 9] 3) (VY:dn≠f) (VZ:dn≠j) (VA:9 * n<=p)
  (V2:∀ i,i<n->bh r (jP q i) (us ((aI.drop (2+9 * i)).take 9))/\∀ k,aK (jP q i) k->k≠dn) (Wk:2+9 * n<=aI.length) (hu:∀ x ∈ aI,b8 x) (Q:Exit->Act->aE)
  (dG:∀ D W (ys:List (Fin n)),r.heap.size<=D->ys.map Fin.val=List.range n->tB r dn seq aI (ys.map Fin.val) W->W.heap[D]?=some (.deferred (some []))->
   Q .normal { tmps:=(oZ VP fx cz lines Vw dn VQ undef f j undef VO).toArray,defers:=[{ target:=.collected D,args:=#[] }] } W) :
  (Code.rangeFunc (.tmp 50) #[51] (sub (bo f251) [1,1,1,1,1,1,0,1,0,0]) (.block 1 (sub (bo f251) [1,1,1,1,1,1,0,1,0,1,0]))).wpIn Fence.wide 3 prog Q
   (act (oZ VP fx cz lines Vw dn VQ undef f j undef VO)) r:=by
 obtain ⟨inf,Wm,au,L,VX⟩:=fL (T:=ep) (z:=hE.val) (n:=9) (m:=72) (by kernel_rfl);have Vz:iH f j q (9 * n) p r:=⟨Vt.cell rfl,Vu.cell rfl⟩;have V_:=Vy.lt;refine wpIn_rangeFunc_ownH rfl (by omega) (gf:=257) (lb:=#[.pointer (some ⟨f,0,none⟩),.pointer (some ⟨j,0,none⟩)]) rfl trivial (enters_of Tryz.func257 (by kernel_rfl) rfl)
  (encs:=λx:Fin n=>#[.slice (jP q x.val) 9 9]) (Kp:=λA B=>iH f j q (9 * n) p A->iH f j q (9 * n) p B) (S:=λys=>ys.map Fin.val=List.range n) (Sp:=λ_=>True) (N:=n) (w0:=r)
  (λl a1 Wb W eT Wh Wi Wj Wc=>JI l f j q p n a1 Wb (by omega) VA W ?VS Wh Wj Wc)
  (λWd We h=>We (Wd h)) (λW l o Wq _ V' C _ h=>h.put V' C) (Below.refl _ _) (λ_=>rfl) (λys u=>tB r dn seq aI (ys.map Fin.val) u) (λ_ _ _=>False) LU (λ_ _ _ _ _ VJ _ _=>VJ)
  ⟨⟨none,0,Vy,a2.nil _ _ _,λk E=>by obtain ⟨o,C⟩:=E;cases C⟩,ao.refl _ _⟩
  (λx V8 W=>V8=act (oZ VP fx cz lines Vw dn VQ (.slice (jP q x.val) 9 9) f j (.slice (jP q x.val) 9 9) VO)) ?own ?assign ?body ?done ?stop
 case VS=>
  have cell:∀ {b:Nat} {v:a4},b<r.heap.size->r.cell? ⟨b,0,none⟩=some v->W.cell? ⟨b,0,none⟩=some v:=λVE h=>(World.cell?_of_block (eT.block _ VE)).trans h
  exact ⟨cell Vt.lt Vz.1,cell Vu.lt Vz.2⟩
 case own=>exact λ_ _ _ _ _ _ h _ _=>h
 case assign=>
  intro l pre x W K Vx VT;suffices VJ:∀ a:Act,a=act (oZ VP fx cz lines Vw dn VQ undef f j (.slice (jP q x.val) 9 9) (ag VO 0 66 []))->Code.wpIn (Fence.wide.inRound l) (3 - 1 - 1) prog (sub (bo f251) [1,1,1,1,1,1,0,1,0,0]) (Exit.then K (λ_ _ _=>False)) a W from VJ _ (by kernel_rfl)
  rintro _ rfl;refine wpIn_mono (m4 mix (G4 l) (ds:=[]) _ _ (aV (λenv u=>K (act env) u) λ_ _ _=>False) W (by kernel_rfl) ?_) (λe a w h=>?_)
  ·rw [Si (d:=undef)];exact VT _ _ (KeepsFrom.refl _ _) (λh=>h) Vx rfl
  ·obtain ⟨VN,env,rfl,VG⟩:=mj h;cases e with
   |normal=>exact VG
   |panic c=>exact absurd rfl (VN.1 c)
   |outgrown=>exact absurd rfl VN.2
   | _=>exact VG.elim
 case body=>
  rintro l pre x V8 W V' _ Vx rfl VE;refine wpIn_block ?_;suffices VJ:∀ a:Act,a=act (oZ VP fx cz lines Vw dn VQ (.slice (jP q x.val) 9 9) f j (.slice (jP q x.val) 9 9) (ag VO 0 66 []))->Code.wpIn (Fence.wide.inRound l) (3 - 1 - 1) prog (sub (bo f251) [1,1,1,1,1,1,0,1,0,1,0]) (Exit.inBlock 1 (ownPostG r.heap.size (λA B=>iH f j q (9 * n) p A->iH f j q (9 * n) p B) (λ(ys:List (Fin n)) u=>tB r dn seq aI (ys.map Fin.val) u) (λ_ _ _=>False) (pre++[x]) W)) a W from VJ _ (by kernel_rfl)
  rintro _ rfl;refine wpIn_mono (m4 mix (G4 l) (ds:=[]) _ _ (aV (λenv u=>KeepsFrom r.heap.size W u/\(iH f j q (9 * n) p W->iH f j q (9 * n) p u)/\tB r dn seq aI ((pre++[x]).map Fin.val) u) λ_ _ _=>False) W (by kernel_rfl) ?_) (λe a w h=>?_)
  ·rw [Sm (s8:=undef) (d:=undef)];obtain ⟨⟨a,cap,V,Vs,G⟩,X⟩:=Vx;rw [fC] at V Vs;rintro VR VK;have Z:Go.br.ai W VR:=by rw [VK];exact cD _
   clear VK;have O:=ai.aj Z V;refine ⟨λy=>Go.br.ai VR y,ao.refl _ _,a,pre.length,cap,λy V4=>(ai.aj V4 O).cell (i:=1) rfl,?_⟩;obtain ⟨VH,V1⟩:=V2 x.val x.isLt;have VD:ao (λk=>k=dn) r VR:=X.new Z;have V3:bh VR (jP q x.val) (us ((aI.drop (2+9 * x.val)).take 9)):=VH.az VD (g9 VH V1);have Wn:=x.isLt;refine aC (O4 V3 (by rw [iG,lZ];omega) (λy V4=>hu y (oP (s6 V4))) (cO 9)) ?_;rintro v Wr ⟨rfl,Vr⟩;refine aJ.aS _ ⟨rfl,Vr,?_⟩;rintro V9 Wo VV VL;obtain ⟨Vv,VF⟩:=bl VV VL;have Vv:av Wo V9 (ot aI x.val).cells ep:=Vv;clear VL;refine ⟨Vr.new VF,?_⟩;have R:=Vr.new VF;have I:=Z.new R;have U:=a2.new I Vs;rw [<-L] at U;obtain ⟨ap,F,V6,VI,J,VB,VU⟩:=a2.append (P:=prog) (t:=37) (ty:=37) Tryz.underlying37 Wm au (by rw [L];rfl) (by omega) U
    (s:=some ⟨V9,0,none⟩) (m:=1) (c:=1) (news:=(ot aI x.val).cells) (by rw [L];rfl) (fk Vv rfl) (λu hu=>by have:=aJ.single _ u hu;cases u<;>first | rfl | exact this) (by omega) (by rw [VX];omega)
   rw [L] at J;have Wa:=X.size;have V0:¬ aK a dn:=λh=>by have:=G dn h;omega
   have H:av V6 dn [.int .i64 seq,.slice a pre.length cap] ek:=VB.aj (ai.aj R O) V0;refine ⟨ap,pre.length+1,F,V6,VI,⟨_,H.cell (i:=1) rfl⟩,H.frozen,?_⟩;rintro V7 VM;have VC:ao (λk=>k=dn) V6 V7:=by rw [VM];exact eV _ _ _ _
   have VW:av V7 dn [.int .i64 seq,.slice ap (pre.length+1) F] ek:=by rw [VM];exact H.setCell (i:=1) _
   have M:∀ k,aK ap k->r.heap.size<=k:=by
    intro k E;rcases VU with e | e
    ·exact G k (e▸E)
    ·obtain ⟨o,C⟩:=E;rw [e] at C;simp at C;have:=I.size;omega
   have Y:ao (λk=>aK a k\/k=dn) W V7:=((ao.b3 I).trans VB (λ_ _ h=>.inl h)).trans VC (λ_ _ h=>.inr h);refine ⟨Ah Y (λk E=>?_),λWf=>Wf.az Y ?_ ?_,⟨ap,F,?_,?_,M⟩,?_⟩
   ·rcases E with E | rfl
    ·rcases Vs.2 with ⟨he,_⟩ | ⟨g,cur,he,Wl,_⟩
     ·obtain ⟨o,C⟩:=E;rw [he] at C;cases C
     ·obtain ⟨o,C⟩:=E;rw [he] at C;simp at C;exact ⟨cur,_,C.1▸Wl⟩
    ·exact ⟨_,_,V⟩
   ·rintro (hm | hm)
    ·have:=G _ hm;have:=Vt.lt;omega
    ·exact VY hm.symm
   ·rintro (hm | hm)
    ·have:=G _ hm;have:=Vu.lt;omega
    ·exact VZ hm.symm
   ·simpa using VW
   ·rw [iX,List.map_singleton,H5];have:=a2.az VC J (λk E e=>by have:=M k E;omega);simpa using this
   ·refine (X.trans Y λk E hm=>?_);rcases hm with hm | rfl
    ·have:=G k hm;omega
    ·rfl
  ·obtain ⟨VN,env,rfl,VG⟩:=mj h;cases e with
   |normal=>exact VG
   |panic c=>exact absurd rfl (VN.1 c)
   |outgrown=>exact absurd rfl VN.2
   | _=>exact VG.elim
 case done=>rintro D ys W Wg V5 Vx VT;exact dG D W ys Wg V5 Vx VT
 case stop=>rintro D c pre W _ _ h _;exact h.elim
end
section
open Go.RowKit Go.Shelf
def ef (aI:bb) (lines:Int):Int:=
 if ¬ (98<=lines/\lines<=256) then 18 else if aI.length<2\/1073741824<=aI.getD 0 0\/12<aI.getD 1 0 then 14
 else if (aI.length:Int)<3+9 * aI.getD 1 0 then 14
 else if fr (aI.getD 0 0) (hn aI (aI.getD 1 0).toNat) lines≠0 then 14
 else if fc (aI.getD 0 0) (hn aI (aI.getD 1 0).toNat)≠aI.take (3+9 * (aI.getD 1 0).toNat) then 14 else 0
def et (aI:bb) (lines:Int):Int×List aJ:=if ef aI lines=0 then (aI.getD 0 0,hn aI (aI.getD 1 0).toNat) else (0,[])
def eW (w:ak) (R:Int×List aJ) (last:a4) (v:a4) (w':ak):Prop:=∃ a cap,v=.tuple #[bX.val ⟨R.1,a,R.2.length,cap⟩,last]/\ai w w'/\i0 w' a R.2.length R.2/\∀ k,aK a k->w.heap.size<=k
theorem yD (w:ak):i0 w none 0 []:=⟨.inl rfl,rfl,by simp,λp a=>by cases a⟩
theorem Lq (h:ef aI lines≠0):et aI lines=(0,[]):=if_neg h
theorem eW.no {w':ak} {e:Int} (he:ef aI lines=e) (a:e≠0) (c:ai w w'):eW w (et aI lines) (.int .i64 (ef aI lines)) (.tuple #[bX.val ⟨0,none,0,0⟩,.int .i64 e]) w':=by rw [Lq (by rw [he];exact a),he];exact ⟨none,0,rfl,c,yD _,λk b=>absurd b nr⟩
abbrev iF:bX:=⟨0,none,0,0⟩
theorem oT {u:ak} {b:Nat} {zs:ax} (au:av u b zs ek) (g:zs.length=2) (r:bX) {K:bX->aE} (f:∀ e,ao (λk=>k=b) u e->av e b r.cells ek->K r e) :
  eh u ⟨b,0,none⟩ 0 r.cells/\∀ a,a=ct u ⟨b,0,none⟩ 0 r.cells->bX.ex λres=>b6 a ⟨b,0,none⟩ 0 res.cells/\a=a/\K res a:=
 dO au (by rw [g];rfl) (bX.single _) λa c d=>bX.aS r ⟨bK c rfl,rfl,f a d c⟩
theorem g7 {Q:Exit->ax->aE} {c:Code} {env:ax} (a:∀ env w,Q .ret env w=dB P fn R .ret env w) (h:Go.br.W P c env (bG P fn R Q) w):Go.br.W P c env Q w:=(zt a).mp h
theorem JJ (w:ak) (lines:Int):a_ 203 [.int .i64 lines] w λv w'=>v=.bool (decide (98<=lines/\lines<=256))/\w'=w:=by
 refine bc Tryz.func203 ?_;rw [FY];refine a' (λh=>⟨?_,rfl⟩) (λh=>⟨?_,rfl⟩)
 ·have h:98<=lines:=h;congr 1;simp [h]
 ·have h:¬ 98<=lines:=h;congr 1;simp [h]
structure rN (w:ak) (a:al) (fx cz:Nat) (aI:bb) (lines:Int) (n:Nat) (v7:Nat) (env:ax) (u:ak):Prop where
 ex:∃ (dn zx zy EN:Nat) (zu:al) (PN:ax),env=oZ a fx cz lines v7 dn ((3+9 * n:Nat):Int) undef zx zy undef PN/\av u dn [.int .i64 (aI.getD 0 0),.slice none 0 0] ek/\av u zx [.slice zu (9 * n) EN] 94/\av u zy [.int .i64 9] 3/\dn≠zx/\dn≠zy/\v7≠dn/\w.heap.size<=dn/\9 * n<=EN/\
  ∀ i,i<n->bh u (jP zu i) (us ((aI.drop (2+9 * i)).take 9))/\∀ k,aK (jP zu i) k->k≠dn
 res:av u v7 [.int .i64 0,.slice none 0 0] ek
 new:ai w u
 old:w.heap.size<=v7
theorem JK (lines:Int) (I:bh w a (us aI)) (d:fx=aI.length) (VV:fx<=cz) (hu:∀ x ∈ aI,b8 x) (VH:fx<=1000) :
  Go.br.W prog dX ((.slice a fx cz)::(.int .i64 lines)::(bd 72 [])) (bG prog f251 (eW w (et aI lines) (.int .i64 (ef aI lines))) (oY λenv u=>rN w a fx cz aI lines (aI.getD 1 0).toNat w.heap.size env u/\(98<=lines/\lines<=256)/\3+9 * (aI.getD 1 0).toNat<=aI.length/\0<=aI.getD 0 0/\aI.getD 0 0<1073741824/\0<=aI.getD 1 0/\aI.getD 1 0<=12)) w:=by
 rw [UW];rintro b1 w1 D J;obtain ⟨g,t⟩:=bl D J;have g:av w1 b1 iF.cells ek:=g;clear J;subst D;have no:∀ {u:ak} {e:Int},ai w1 u->ef aI lines=e->e≠0->eh u ⟨w.heap.size,0,none⟩ 0 iF.cells/\∀ j,j=ct u ⟨w.heap.size,0,none⟩ 0 iF.cells->bX.ex λres=>b6 j ⟨w.heap.size,0,none⟩ 0 res.cells/\j=j/\eW w (et aI lines) (.int .i64 (ef aI lines)) (.tuple #[res.val,.int .i64 e]) j:=by intro u e H he VL;refine oT (ai.aj H g) rfl iF (K:=λres j=>eW w (et aI lines) (.int .i64 (ef aI lines)) (.tuple #[res.val,.int .i64 e]) j) λVY O _=>eW.no he VL ((t.new H).trans O λk VO e=>by omega)
 refine aC (JJ w1 lines) ?_;rintro v j ⟨rfl,rfl⟩;refine ⟨_,rfl,er (λVH=>no (ao.refl _ _) (if_pos (of_decide_eq_false VH)) (by decide)) (λVT=>?_)⟩
 have Vr:=of_decide_eq_true VT;rw [Sh,Sl];refine g7 (fn:=f251) (R:=eW w (et aI lines) (.int .i64 (ef aI lines))) (λ_ _=>rfl) ?_;rw [TN];have p:=t;have q:aI.length<2\/1073741824<=aI.getD 0 0\/12<aI.getD 1 0->ef aI lines=14:=λh=>by unfold ef;rw [if_neg (λe=>e Vr),if_pos h]
 have bad:ef aI lines=14->∀ (s8 N:a4) (VI:ax),aV (λenv B=>Go.br.W prog (sub dX [1,1,0,1]) env (aV (λenv VD=>Go.br.W prog (sub dX [1,1,1]) env (bG prog f251 (eW w (et aI lines) (.int .i64 (ef aI lines))) (oY λenv u=>rN w a fx cz aI lines (aI.getD 1 0).toNat w.heap.size env u/\(98<=lines/\lines<=256)/\3+9 * (aI.getD 1 0).toNat<=aI.length/\0<=aI.getD 0 0/\aI.getD 0 0<1073741824/\0<=aI.getD 1 0/\aI.getD 1 0<=12)) VD) (bG prog f251 (eW w (et aI lines) (.int .i64 (ef aI lines))) (oY λenv u=>rN w a fx cz aI lines (aI.getD 1 0).toNat w.heap.size env u/\(98<=lines/\lines<=256)/\3+9 * (aI.getD 1 0).toNat<=aI.length/\0<=aI.getD 0 0/\aI.getD 0 0<1073741824/\0<=aI.getD 1 0/\aI.getD 1 0<=12))) B) (aV (λenv B=>Go.br.W prog (sub dX [1,1,1]) env (bG prog f251 (eW w (et aI lines) (.int .i64 (ef aI lines))) (oY λenv u=>rN w a fx cz aI lines (aI.getD 1 0).toNat w.heap.size env u/\(98<=lines/\lines<=256)/\3+9 * (aI.getD 1 0).toNat<=aI.length/\0<=aI.getD 0 0/\aI.getD 0 0<1073741824/\0<=aI.getD 1 0/\aI.getD 1 0<=12)) B) (bG prog f251 (eW w (et aI lines) (.int .i64 (ef aI lines))) (oY λenv u=>rN w a fx cz aI lines (aI.getD 1 0).toNat w.heap.size env u/\(98<=lines/\lines<=256)/\3+9 * (aI.getD 1 0).toNat<=aI.length/\0<=aI.getD 0 0/\aI.getD 0 0<1073741824/\0<=aI.getD 1 0/\aI.getD 1 0<=12))) .normal (ii a fx cz lines ⟨w.heap.size,0,none⟩ s8 true N VI) j:=by intro he s8 N VI;refine eS (g7 (fn:=f251) (R:=eW w (et aI lines) (.int .i64 (ef aI lines))) (λ_ _=>rfl) ?_);rw [FC];exact eB rfl (no (ao.refl _ _) he (by decide))
 refine a' (λC=>bad (q (.inl (by omega))) _ _ _) (λC=>?_)
 have y:=I.new p;refine nL y (i:=0) (by omega) d rfl λVJ dy r=>⟨_,r _ (ao.refl _ _),a' (λVE=>bad (q (.inr (.inl VE))) _ _ _) (λVE=>?_)⟩
 refine nL y (i:=1) (by omega) d rfl λdi ga s=>⟨_,s _ (ao.refl _ _),?_⟩
 by_cases U:aI.getD 1 0>12
 ·dsimp only;rw [decide_eq_true U];exact bad (q (.inr (.inr U))) _ _ _
 dsimp only;rw [decide_eq_false U];refine eS (g7 (fn:=f251) (R:=eW w (et aI lines) (.int .i64 (ef aI lines))) (λ_ _=>rfl) ?_);rw [FC];refine cR rfl (eS ?_);rw [TO];have Vx:b8 (aI.getD 0 0):=by
  match aI,C,hu,d with
  | [],C,_,d=>simp at d <;> omega
  |x::_,_,hu,_=>exact hu x (by simp)
 have Vy:b8 (aI.getD 1 0):=by
  match aI,C,hu,d with
  | [],C,_,d=>simp at d <;> omega
  | [_],C,_,d=>simp at d <;> omega
  | _::x::_,_,hu,_=>exact hu x (by simp)
 have Vv:=Vx.1;have Vw:=Vy.1;refine nL y (i:=0) (by omega) d rfl λVJ dy r=>⟨_,r _ (ao.refl _ _),?_⟩
 dsimp only;rw [bC (x:=aI.getD 0 0) (by omega) (by omega)];rintro dn VU V L;obtain ⟨A,F⟩:=bl V L;have A:av VU dn iF.cells ek:=A;clear L;refine dO (vs:=bX.cells ⟨aI.getD 0 0,none,0,0⟩) A rfl (bX.single _) λP z Z=>?_
 have VP:=t.size;have VQ:=F.size;have VG:=g.lt;have c:ai j P:=F.trans Z λk O e=>by omega
 have f:=p.new c;refine nL (I.new f) (i:=1) (by omega) d rfl λdi ga s=>⟨_,s _ (ao.refl _ _),?_⟩
 obtain ⟨n,Vs⟩:=pZ Vw;have Vt:(aI.getD 1 0).toNat=n:=by omega
 rw [Vt];have VK:IntKind.i64.wrap (IntKind.i64.wrap (2+IntKind.i64.wrap (9 * IntKind.i64.wrap (aI.getD 1 0)))+1)=((3+9 * n:Nat):Int):=by rw [Vs];rw [bC (x:=(n:Int)) (by omega) (by omega),bC (x:=9 * (n:Int)) (by omega) (by omega),bC (x:=2+9 * (n:Int)) (by omega) (by omega),bC (by omega) (by omega)];omega
 rw [VK];refine a' (λVM=>no c ?_ (by decide)) (λVM=>?_)
 ·unfold ef;rw [if_neg (λe=>e Vr),if_neg (by omega),if_pos (by omega)]
 rw [bC (x:=((3+9 * n:Nat):Int) - 1) (by omega) (by omega)];have G:us aI≠[]:=λe=>by have:=congrArg List.length e;rw [hC,p4] at this;omega
 obtain ⟨b,o,rfl,X⟩:∃ b o,a=some ⟨b,o,none⟩/\True:=by
  rcases I with e | ⟨b,o,e,_⟩
  ·exact absurd e G
  ·exact ⟨b,o,e,trivial⟩
 refine kt (by omega) (by omega) (by omega) (by omega) (by omega) λQ VB=>?_
 have T:(((3+9 * n:Nat):Int) - 1).toNat - (2:Int).toNat=9 * n:=by omega
 have S:((cz:Nat):Int).toNat - (2:Int).toNat=cz - 2:=by simp
 rw [T,S];refine aC (LS P Q (9 * n) (cz - 2)) ?_;rintro v VZ ⟨rfl,Vz,VA,l,VS⟩;refine ⟨_,rfl,?_⟩;show _/\_;have VR:=c.size;have M:=ai.aj l z;have E:=I.lt G;refine ⟨⟨⟨dn,P.heap.size,P.heap.size+1,cz - 2,Q,_,rfl,M,Vz,VA,?_,?_,?_,?_,by omega,λi VW=>?_⟩,ai.aj (c.new l) g,f.new l,cO _⟩,Vr,by omega,Vv,by omega,by omega,by omega⟩
 ·have:=z.lt;omega
 ·have:=z.lt;omega
 ·omega
 ·omega
 ·have VC:Q=some ⟨b,o+2,none⟩:=by
   rcases VB with h | ⟨h,_⟩
   ·exact h
   ·omega
  have Y:jP Q i=some ⟨b,o+(2+9 * i),none⟩:=by rw [VC];simp only [jP,mV,k3];congr 2;omega
  rw [Y];refine ⟨?_,λk O=>?_⟩
  ·have VN:=(I.new (f.new l)).drop (2+9 * i);have VF:=VN.take 9;have e:((us aI).drop (2+9 * i)).take 9=us ((aI.drop (2+9 * i)).take 9):=by simp [us]
   rw [e] at VF;exact VF
  ·obtain ⟨VX,Vu⟩:=O;simp at Vu;have E:b<w.heap.size:=E;omega
end
section
open Go.RowKit Go.Shelf
theorem O6 {ds:List Deferred} {e:Exit} {a:Act} (h:mM ds (bG P fn R λ_ _ _=>False) e a w):mM ds (dB P fn R) e a w:=by
 obtain ⟨d,env,rfl,b⟩:=mj h;cases e with
 |normal=>exact b.elim
 |ret=>exact gV b d
 |panic c=>exact absurd rfl (d.1 c)
 |outgrown=>exact absurd rfl d.2
 |exit i=>exact b.elim
 |goto i=>exact b.elim
theorem De (hu:∀ x ∈ aI,b8 x) (n:Nat):∀ p ∈ hn aI n,b8 p.Head:=by
 intro p a;obtain ⟨i,_,rfl⟩:=cW.1 a;show b8 (((aI.drop (2+9 * i)).take 9).getD 1 0);rw [dD];cases h:((aI.drop (2+9 * i)).take 9)[1]? with
 |none=>exact hd
 |some x=>exact hu x (oP (s6 (cg h)))
theorem qH (aI:bb) (n:Nat):(hn aI n).length=n:=by simp [hn]
theorem JL {w W:ak} (Vx:bh w a (us aI)) (VU:fx=aI.length) (VT:fx<=cz) (hu:∀ x ∈ aI,b8 x) (Q:fx<=1000) (VH:(aI.getD 1 0)=n) (Vw:n<=12) (VG:98<=lines/\lines<=256) (hlen:3+9 * n<=aI.length) (VJ:0<=aI.getD 0 0) (VK:aI.getD 0 0<1073741824)
  {j D:Nat} {pa:al} (J:av W j iF.cells ek) (B:av W dn [.int .i64 (aI.getD 0 0),.slice pa n cap] ek) (VE:j≠dn) (d:a2 W ep 9 pa n cap (hV (hn aI n)).flatten) (H:∀ k,aK pa k->k≠j/\w.heap.size<=k) (hw:ai w W) (VR:w.heap.size<=j) (VS:w.heap.size<=D) (f:W.heap[D]?=some (.deferred (some []))) (L:ax) :
  Go.br.W prog (sub dX [1,1,1,1,1,1,1]) (zX a fx cz lines ⟨j,0,none⟩ ⟨dn,0,none⟩ ((3+9 * n:Nat):Int) L) (bG prog f251 (λv u=>u.heap[D]?=some (.deferred (some []))/\eW w (et aI lines) (.int .i64 (ef aI lines)) v (u.putObj D (.deferred none))) λ_ _ _=>False) W:=by
 have P:D≠j:=λe=>by rw [e,show W.heap[j]?=_ from J] at f;cases f
 have T:∀ k,aK pa k->k≠D:=by
  intro k i e;obtain ⟨o,F⟩:=i;rcases d.2 with ⟨he,_⟩ | ⟨g,cur,he,VF,_⟩
  ·rw [he] at F;cases F
  ·rw [he] at F;simp at F;rw [<-e,<-F.1,show W.heap[g]?=_ from VF] at f;cases f
 have Vz:∀ {u:ak},ao (λk=>k=j) W u->u.heap[D]?=some (.deferred (some []))/\ao (λk=>k=j\/k=D) W (u.putObj D (.deferred none))/\ai w (u.putObj D (.deferred none)):=by intro u i;have VD:u.heap[D]?=some (.deferred (some [])):=(i.block D (uQ.1 f).1 P).trans f;have Vu:ao (λk=>k=j\/k=D) W (u.putObj D (.deferred none)):=(ao.mono i (λ_ _ h=>Or.inl h)).trans (r5 (grownBy_putObj' u D (.deferred none))) (λk S e=>.inr (by simpa using e));exact ⟨VD,Vu,hw.trans Vu λk S e=>by rcases e with e | e<;>omega⟩
 have E:(aI.getD 1 0).toNat=n:=by omega
 have M:ef aI lines=if fr (aI.getD 0 0) (hn aI n) lines≠0 then 14 else if fc (aI.getD 0 0) (hn aI n)≠aI.take (3+9 * n) then 14 else 0:=by unfold ef;rw [if_neg (λe=>e VG),if_neg (by omega),if_neg (by omega),E]
 have VC:ef aI lines=0->et aI lines=(aI.getD 0 0,hn aI n):=λh=>by unfold et;rw [if_pos h,E]
 rw [Sj,So];refine g7 (fn:=f251) (R:=λv u=>u.heap[D]?=some (.deferred (some []))/\eW w (et aI lines) (.int .i64 (ef aI lines)) v (u.putObj D (.deferred none))) (λ_ _=>rfl) ?_;rw [TP];rintro w1 I;have l:ai W w1:=by rw [I];exact cD _
 clear I;have q:i0 w1 pa n (hn aI n):=⟨(bh.new l d.rd),(qH aI n).symm,by rw [qH];omega,De hu n⟩;have Vv:=ai.aj l B;have last:∀ (t:Bool) (u:ak),ai W u->(t=true->ef aI lines=14)->(t=false->ef aI lines=0)->∀ L,Go.br.W prog (sub dX [1,1,1,1,1,1,1,0,1]) (w3 ⟨j,0,none⟩ ⟨dn,0,none⟩ t L)
   (aV (λenv Vr=>Go.br.W prog (sub dX [1,1,1,1,1,1,1,1]) env (bG prog f251 (λv u=>u.heap[D]?=some (.deferred (some []))/\eW w (et aI lines) (.int .i64 (ef aI lines)) v (u.putObj D (.deferred none))) λ_ _ _=>False) Vr) (bG prog f251 (λv u=>u.heap[D]?=some (.deferred (some []))/\eW w (et aI lines) (.int .i64 (ef aI lines)) v (u.putObj D (.deferred none))) λ_ _ _=>False)) u:=by
  intro t u z VL Q L;refine g7 (fn:=f251) (R:=λv u=>u.heap[D]?=some (.deferred (some []))/\eW w (et aI lines) (.int .i64 (ef aI lines)) v (u.putObj D (.deferred none))) (λ_ _=>rfl) ?_;rw [TQ];have au:=ai.aj z J;cases t with
  |true=>refine eB rfl (oT au rfl iF (K:=λres A=>A.heap[D]?=some (.deferred (some []))/\eW w (et aI lines) (.int .i64 (ef aI lines)) (.tuple #[res.val,.int .i64 14]) (A.putObj D (.deferred none))) λVM i _=>?_);obtain ⟨N,Vt,O⟩:=Vz ((ao.b3 z).trans i λ_ _ e=>e);exact ⟨N,eW.no (VL rfl) (by decide) O⟩
  |false=>
   refine cR rfl (eS ?_);rw [TR];refine bX.aS ⟨aI.getD 0 0,pa,n,cap⟩ ⟨bK (ai.aj z B) rfl,?_⟩;refine oT au rfl ⟨aI.getD 0 0,pa,n,cap⟩ (K:=λres A=>A.heap[D]?=some (.deferred (some []))/\eW w (et aI lines) (.int .i64 (ef aI lines)) (.tuple #[res.val,.int .i64 0]) (A.putObj D (.deferred none))) λVM i _=>?_
   obtain ⟨N,Vt,O⟩:=Vz ((ao.b3 z).trans i λ_ _ e=>e);rw [VC (Q rfl),Q rfl];refine ⟨N,pa,cap,by rw [qH],O,?_⟩;rw [qH];exact ⟨⟨d.rd.az Vt (g9 d.rd λk i e=>by rcases e with e | e;exact (H k i).1 e;exact T k i e),q.len,q.eA,q.u64⟩,λk i=>(H k i).2⟩
 refine ⟨λy=>ai w1 y,ao.refl _ _,bX.aS ⟨aI.getD 0 0,pa,n,cap⟩ ⟨λu hu=>bK (ai.aj hu Vv) rfl,?_⟩⟩;refine aC (xU (r:=⟨aI.getD 0 0,pa,n,cap⟩) q lines) ?_;rintro v A ⟨rfl,c⟩;refine ⟨_,rfl,c,dw (λhe=>?_) (λhe=>bX.aS ⟨aI.getD 0 0,pa,n,cap⟩ ⟨λu hu=>bK (ai.aj hu Vv) rfl,?_⟩)⟩
 ·exact eS (last true A (l.new c) (λ_=>by rw [M,if_pos he]) (λh=>by cases h) _)
 have an:fr (aI.getD 0 0) (hn aI n) lines=0:=he;obtain ⟨_,Vy,U,_⟩:=ji an;have V:=Vx.new (hw.new (l.new c));obtain ⟨b,o,rfl⟩:∃ b o,a=some ⟨b,o,none⟩:=by
  rcases Vx with e | ⟨b,o,e,_⟩
  ·have:=congrArg List.length e;rw [hC,p4] at this;omega
  ·exact ⟨b,o,e⟩
 refine kt (by omega) (by omega) (by omega) (by omega) (by omega) λVP Y=>?_
 have Z:VP=some ⟨b,o,none⟩:=by
  rcases Y with h | ⟨h,_⟩
  ·simpa using h
  ·omega
 subst Z;refine aC (yk (r:=⟨aI.getD 0 0,pa,n,cap⟩) (q.new c) (Am an) ⟨Vy.1,Vy.2.1⟩ (by rw [qH];omega) (λp VI=>by have:=U p VI;omega)) ?_;rintro v VN ⟨VQ,Vs,rfl,s,G,_⟩;rw [qH] at G ⊢;refine ⟨_,_,_,rfl,c.new s,?_⟩;have VA:((3+9 * n:Nat):Int).toNat - (0:Int).toNat=3+9 * n:=by omega
 have VB:((cz:Nat):Int).toNat - (0:Int).toNat=cz:=by simp
 rw [VA,VB];have X:bh VN (some ⟨b,o,none⟩) (us (aI.take (3+9 * n))):=by have:=(V.new s).take (3+9 * n);rwa [show (us aI).take (3+9 * n)=us (aI.take (3+9 * n)) by simp [us]] at this
 refine aC (O5 G.rd (by rw [ps,qH]) X (by rw [iG];omega) (by omega)) ?_;rintro v VO ⟨rfl,C⟩;refine ⟨_,rfl,(c.new s).new C,eS (last _ VO (((l.new c).new s).new C) (λh=>?_) (λh=>?_) _)⟩
 ·have h:¬ fc (aI.getD 0 0) (hn aI n)=aI.take (3+9 * n):=by simpa using h
  rw [M,if_neg (λe=>e an),if_pos h]
 ·have h:fc (aI.getD 0 0) (hn aI n)=aI.take (3+9 * n):=by simpa using h
  rw [M,if_neg (λe=>e an),if_neg (λe=>e h)]
theorem LV (lines:Int) (X:bh w a (us aI)) (U:fx=aI.length) (Q:fx<=cz) (hu:∀ x ∈ aI,b8 x) (S:fx<=1000) :
  a_ 251 [.slice a fx cz,.int .i64 lines] w (eW w (et aI lines) (.int .i64 (ef aI lines))):=by
 refine (callsIn_wide (n:=3)).1 ?_;refine callsIn_of_wp_marks (c:=bo f251) Tryz.func251 (by kernel_rfl) trivial ?_ rfl;suffices Vt:∀ x:Act,x=act ((.slice a fx cz)::(.int .i64 lines)::(bd 72 []))->Code.wpIn Fence.wide 3 prog (bo f251) (bodyPostM Fence.wide 3 prog f251 λe w'=>∃ v,e=.returned v/\eW w (et aI lines) (.int .i64 (ef aI lines)) v w') x w from Vt _ (by kernel_rfl)
 rintro _ rfl;refine Ny mix A_ (ds:=[]) [1,1,1,1,1,1,0,1,0] _ _ _ _ _ (by kernel_rfl) (JK lines X U Q hu S) ?_ (λe x u h=>Lo (λv an=>⟨v,rfl,an⟩) (Lp h));intro env u B;have B:rN w a fx cz aI lines (aI.getD 1 0).toNat w.heap.size env u/\(98<=lines/\lines<=256)/\3+9 * (aI.getD 1 0).toNat<=aI.length/\0<=aI.getD 0 0/\aI.getD 0 0<1073741824/\0<=aI.getD 1 0/\aI.getD 1 0<=12:=B;obtain ⟨⟨⟨dn,d,f,g,Z,Y,rfl,C,s,N,F,G,i,Vv,b,r⟩,t,hw,Vr⟩,Vs,hlen,K,L,H,V⟩:=B;obtain ⟨n,I⟩:=pZ H;have o:(aI.getD 1 0).toNat=n:=by omega
 rw [o] at s b hlen r;rw [show sub (bo f251) [1,1,1,1,1,1,0,1,0]=.rangeFunc (.tmp 50) #[51] (sub (bo f251) [1,1,1,1,1,1,0,1,0,0]) (.block 1 (sub (bo f251) [1,1,1,1,1,1,0,1,0,1,0])) by kernel_rfl];have E:∀ z,ru Fence.wide 3 prog (bo f251) [1,1,1,1,1,1,0,1,0] z=Exit.inBlock 0 (Exit.then (λa w=>(sub (bo f251) [1,1,1,1,1,1,1]).wpIn Fence.wide 3 prog z a w) z):=λz=>by kernel_rfl
 rw [E,o];refine IG u w.heap.size dn d f (aI.getD 0 0) ((3+9 * n:Nat):Int) lines aI n fx cz g a Z Y (by omega) C s N F G b r (by omega) hu _ ?_;intro D W ys Vw O P A;rw [O] at P;obtain ⟨⟨pa,cap,p,q,J⟩,l⟩:=P;rw [lr] at p q;have y:=l.aj t (λe=>i e);have M:ai w W:=hw.trans l λk T e=>by omega
 have Vu:=hw.size;have j:=JL (lines:=lines) X U Q hu S I (by omega) Vs hlen K L y p i q (λk T=>by have:=J k T;have:=t.lt;omega) M Vr (by omega) A;show Code.wpIn Fence.wide 3 prog (sub (bo f251) [1,1,1,1,1,1,1]) (bodyPostM Fence.wide 3 prog f251 λe w'=>∃ v,e=.returned v/\eW w (et aI lines) (.int .i64 (ef aI lines)) v w') (l8 [{ target:=.collected D,args:=#[] }] (oZ a fx cz lines w.heap.size dn ((3+9 * n:Nat):Int) undef d f undef Y)) W;refine wpIn_mono (m4 mix A_ (ds:=[{ target:=.collected D,args:=#[] }]) _ _ _ W (by kernel_rfl) ?_) (λe x u h=>LQ (R:=λv u=>u.heap[D]?=some (.deferred (some []))/\eW w (et aI lines) (.int .i64 (ef aI lines)) v (u.putObj D (.deferred none))) (λv an=>⟨an.1,v,rfl,an.2⟩) (O6 h));rw [show sub (bo f251) [1,1,1,1,1,1,1]=sub dX [1,1,1,1,1,1,1] by kernel_rfl];rw [oZ,Sn];exact j _
end
end Go.Proofs.YtmkljjbioomepaaGreat
