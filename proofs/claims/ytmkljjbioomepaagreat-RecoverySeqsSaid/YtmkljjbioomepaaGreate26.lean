import Derived.Test.YtmkljjbioomepaaGreatProg
import Derived.Test.YtmkljjbioomepaaGreate03
import Derived.Test.YtmkljjbioomepaaGreate25
import Derived.Test.YtmkljjbioomepaaGreate18
set_option linter.all false
set_option maxHeartbeats 4000000
set_option maxRecDepth 100000
namespace Go.Proofs.YtmkljjbioomepaaGreat
open Go.Proofs.Tryz Go.bn
variable {a:an} {b1 az c cap n:Nat} {aK l ws:a4} {lines:Int} {w:al}
section
open IntKind
variable (w:al) (R:cp) {s:an} {a b:Nat} {i:Int} {X:a0} {A B:aV} {j:aq}
theorem PP:bd prog f253 [ae s a b,ab i] R w=(aQ w #[ae s a b] 94 λe f=>aQ f #[ab i] 3 λd c=>bG c (af d 0) λx=>cond (x<1) (W prog (sb f253 [1,0,1,0]) [ae s a b,ab i,a' e,a' d,.nilFunc,ab x,ad (x<1),undef,undef] (aZ f253 [1,1] R) c) (R (.func (.func 257) #[] #[a' e,a' d]) c)):=by kernel_rfl
def u3 (a:a0) (s1 s2:aV) (b:Int) (j:aq):aq:=a::.pointer (some s1)::.pointer (some s2)::ag j 0 1 (ab b::ag j 1 26 [])
theorem Pn:bd prog f257 [X,a' a,a' b] R w=(cx prog (cY f257 [1,0,0]) (u3 X (af a 0) (af b 0) 0 (bx 27 [])) (aW 0 (bW f257 R)) w):=by kernel_rfl
theorem OI (v:aq->aE):W prog (sb f257 [1,0,0]) (u3 X A B i j) (a1 v (aW 0 (bW f257 R))) w=(b0 w A λx a b=>cond (i<(a:Nat)) (cu w λu r=>cP r B λo=>e1 r A λt c d=>ho t c d i (c:Nat) (d:Nat) 1 λz n y=>b0 u A λs f g=>ho s f g i (i64.wrap (i+(if (n:Int)<o then (n:Int) else o))) (i64.wrap (i+(if (n:Int)<o then (n:Int) else o))) 1 λm k l=>ix prog X #[ae m k l] u λe q=>∃ h,e=.returned (ad h)/\cond (!h) (R (.tuple #[]) q) (bG q B λp=>v (u3 X A B (i64.wrap (i+p)) [aN j 0,ab (if (n:Int)<o then (n:Int) else o),ab i,ae x a b,du a,ad (i<(a:Nat)),ab i,ab p,ab (i64.wrap (i+p)),ab o,ae t c d,ab i,ae z n y,du n,ab (if (n:Int)<o then (n:Int) else o),X,ae s f g,ab i,ab i,ab (if (n:Int)<o then (n:Int) else o),ab (i64.wrap (i+(if (n:Int)<o then (n:Int) else o))),ab i,ab (if (n:Int)<o then (n:Int) else o),ab (i64.wrap (i+(if (n:Int)<o then (n:Int) else o))),ae m k l,ad h,ad (!h)]) q)) (R (.tuple #[]) w)):=by kernel_rfl
end
section
open Go.RowKit Go.Shelf
theorem Np {b sb so k c:Nat} {news:aw} (l:news.length=7) (i:k=7) (a:∀ j u,news[j]?=some u->w.cell? ⟨sb,so+j,none⟩=some u) (e:dR w ⟨b,2,none⟩ 0 news) :
  (Builtin.copy_ #[94,94] 3 #[.slice (some ⟨b,2,none⟩) 7 7,.slice (some ⟨sb,so,none⟩) k c]).run prog w=.ok (.int .i64 7) (cl w ⟨b,2,none⟩ 0 news):=by
 subst i;obtain ⟨inf,g,au,o,p⟩:=fp (T:=30) (z:=.int .u64 0) (n:=1) (m:=8) (by kernel_rfl);have f:=run_firstCells_some (P:=prog) w inf.size 7 ⟨sb,so,none⟩ 7 c news (by rw [o];exact l) (λj v h=>by rw [show (⟨sb,so,none⟩:aV).add j=⟨sb,so+j,none⟩ from kJ _ _ _];exact a j v h);have d:=bn.rp (P:=prog) e;have hu:prog.underlying 94=some (.slice 30):=Tryz.underlying94;simp [Builtin.copy_,run_underlying hu,sizeOf,typeInfo,g,Builtin.lenOf,f,d,goInt]
def ra (ws:a4):aR:=⟨if 256<ws.getD 0 0 then 256 else ws.getD 0 0,ws.getD 1 0,ws.getD 2 0,ws.getD 3 0,ws.getD 4 0,ws.getD 5 0,ws.getD 6 0,ws.getD 7 0,ws.getD 8 0⟩
theorem m8 (h:bg w a (us ws)) {i:Nat} (c:i<ws.length) (g:n=ws.length) {z:Int} (au:z=i) {K:aV->Prop} (f:∀ b o,(∀ y,ai w y->y.cell? ⟨b,o,none⟩=some (.int .u64 (ws.getD i 0)))->K ⟨b,o,none⟩):bB a n z 1 K:=by
 have e:ws[i]?=some (ws.getD i 0):=by rw [bM c,cK,bM c];rfl
 refine j8 (cells:=sn) (sz:=1) (λ_=>rfl) (by decide) (by rw [t_];exact h) e au g λb o d=>f b o λy j=>d y j 0 _ rfl
theorem Lg (h:l.length=9):∃ a b c d e f g i j,l=[a,b,c,d,e,f,g,i,j]:=by
 rcases l with _ | ⟨a,_ | ⟨b,_ | ⟨c,_ | ⟨d,_ | ⟨e,_ | ⟨f,_ | ⟨g,_ | ⟨i,_ | ⟨j,_ | ⟨y,l⟩⟩⟩⟩⟩⟩⟩⟩⟩⟩;case cons.cons.cons.cons.cons.cons.cons.cons.cons.nil=>exact ⟨_,_,_,_,_,_,_,_,_,rfl⟩
 all_goals simp at h
theorem Nq (U:bg w a (us ws)) (B:ws.length=9) (hu:∀ x ∈ ws,b3 x) (Uu:9<=c):ba 254 [.slice a 9 c] w λv w'=>v=(ra ws).val/\ai w w':=by
 refine bc Tryz.func254 ?_;rw [T9];rintro b1 w1 R D;obtain ⟨f,C⟩:=bk R D;have f:av w1 b1 hB.cells eN:=f;clear D;rintro Uj E;have q:ai w1 Uj:=by rw [E];exact cL _
 clear E;have d:=C.new q;refine ⟨λu=>ai Uj u,ao.refl _ _,?_⟩;have V:b3 (ws.getD 0 0):=by
  match ws,B,hu with
  |x::_,_,hu=>exact hu x (by simp)
 refine m8 (U.new d) (i:=0) (by omega) (by omega) rfl λb o Uq=>⟨_,Uq,m8 (U.new d) (i:=1) (by omega) (by omega) rfl λb' Uv Ur=>⟨_,Ur,?_⟩⟩
 have Up:IntKind.i64.wrap (if (256:Int)<ws.getD 0 0 then (256:Int) else ws.getD 0 0)=(ra ws).bm:=by
  rw [bA]
  ·rfl
  ·split<;>have:=V.1<;>omega
  ·split<;>omega
 rw [Up];rintro az Us S F;obtain ⟨t,r⟩:=bk S F;have t:av Us az hB.cells eN:=t;clear F;refine ⟨r,?_⟩;refine dC (vs:=[.int .i64 (ra ws).bm,.int .u64 (ws.getD 1 0),.int .u64 0,.int .u64 0,.int .u64 0,.int .u64 0,.int .u64 0,.int .u64 0,.int .u64 0]) t rfl (by intro v aj;simp at aj;rcases aj with rfl | rfl | rfl<;>rfl) λUt X z=>?_
 rintro y G;have s:ai Ut y:=by rw [G];exact cL _
 clear G;have J:=ai.ak s X;have g:b1≠az:=λe=>by have:=f.lt;have:=q.size;omega
 have l:ai w y:=((d.new r).trans z λk Ui e=>by have:=d.size;omega).new s;have H:av y b1 hB.cells eN:=ai.ak s (z.ak (ai.ak (q.new r) f) g);obtain ⟨b,o,rfl,n⟩:∃ b o,a=some ⟨b,o,none⟩/\∀ j u,(us ws)[j]?=some u->y.cell? ⟨b,o+j,none⟩=some u:=by
  rcases U.new l with e | h
  ·exact absurd (congrArg List.length e) (by rw [hg,B];decide)
  ·exact h
 refine kc (by omega) (by omega) (by omega) (by omega) (by omega) λUx W=>?_
 rcases W with rfl | ⟨e,_⟩;case inr=>omega
 have p:=Np (w:=y) (b:=az) (sb:=b) (so:=o+2) (k:=7) (c:=c - 2) (news:=us (ws.drop 2)) (by rw [hg,jY,B]) rfl (λj u h=>by have:=n (2+j) u (by simp only [us,eL,kW] at h ⊢;exact h);rw [show o+2+j=o+(2+j) by omega];exact this) (fI J (by rw [hg,jY,B];simp) (oB _))
 have Um:((9:Nat):Int).toNat - (2:Int).toNat=7:=rfl;have Un:((c:Nat):Int).toNat - (2:Int).toNat=c - 2:=by simp
 have Uo:o+(2:Int).toNat * 1=o+2:=rfl;rw [Um,Un,Uo];refine ⟨_,_,p,?_⟩;obtain ⟨Uk,Ul,K,L,M,N,O,P,Q,rfl⟩:=Lg B;have Y:av (cl y ⟨az,2,none⟩ 0 (us [K,L,M,N,O,P,Q])) az (ra [Uk,Ul,K,L,M,N,O,P,Q]).cells eN:=J.cl (vs:=us [K,L,M,N,O,P,Q]) (o:=2) (i:=0);have A:=ht y az 2 0 (us [K,L,M,N,O,P,Q]);refine aR.aS _ ⟨bI Y rfl,?_⟩;have I:=A.ak H g;refine dC (vs:=(ra [Uk,Ul,K,L,M,N,O,P,Q]).cells) I rfl (aR.single _) λUw Z T=>?_
 refine aR.aS _ ⟨bI Z rfl,rfl,rfl,?_⟩;have:=C.size;refine (l.trans A λk Ui e=>?_).trans T λk Ui e=>?_
 ·have:=d.size;omega
 ·omega
theorem Nr {b:an} {m d:Nat} {l2:a4} (B:bg w a (us l)) (F:n=l.length) (C:bg w b (us l2)) (hm:m=l2.length) (G:n<=1000000):ba 255 [.slice a n c,.slice b m d] w λv w'=>v=.bool (decide (l=l2))/\ai w w':=by
 refine bc Tryz.func255 ?_;rw [PN];refine dt (λe=>⟨?_,ao.refl _ _⟩) (λe=>?_)
 ·rw [decide_eq_false];intro j;subst j;omega
 have hlen:l.length=l2.length:=by omega
 refine c1 mix (λq env u=>∃ (i:Nat) (t:aw),q=l.length - i/\i<=l.length/\env=u5 a n c b m d n i t/\ai w u/\l.take i=l2.take i) l.length
  ⟨0,_,by omega,by omega,rfl,ao.refl _ _,rfl⟩ ?_
 rintro q env u ⟨i,t,rfl,H,rfl,g,s⟩;rw [OX];refine a9 (λE=>?_) (λD=>?_)
 ·rintro w1 h;have p:ai u w1:=by rw [h];exact cL _
  clear h;have f:=g.new p;refine ⟨λy=>ai w1 y,ao.refl _ _,?_⟩;refine m8 (B.new f) (i:=i) (by omega) F rfl λb1 I k=>⟨_,k,m8 (C.new f) (i:=i) (by omega) hm rfl λaz J o=>⟨_,o,?_⟩⟩
  have z:l[i]?=some (l.getD i 0):=by rw [cK,bM (by omega)];rfl
  have A:l2[i]?=some (l2.getD i 0):=by rw [cK,bM (by omega)];rfl
  refine dt (λr=>⟨?_,f⟩) (λhe=>?_)
  ·rw [decide_eq_false];intro j;subst j;exact r rfl
  ·rw [bA (x:=(i:Int)+1) (by omega) (by omega)];refine ⟨l.length - (i+1),by omega,i+1,_,rfl,by omega,rfl,f,?_⟩;rw [eT,eT,s,z,A,he]
 ·rw [O_];refine ⟨?_,g⟩;rw [gb (by omega),gb (by omega)] at s;rw [decide_eq_true s]
theorem Lh (w:al) (a:an) (n c:Nat):ba 253 [.slice a n c,.int .i64 9] w λr w'=>r=.func (.func 257) #[] #[.pointer (some ⟨w.heap.size,0,none⟩),.pointer (some ⟨w.heap.size+1,0,none⟩)]/\
  av w' w.heap.size [.slice a n c] 94/\av w' (w.heap.size+1) [.int .i64 9] 3/\ai w w'/\w'.heap.size=w.heap.size+2:=by
 refine bc Tryz.func253 ?_;rw [PP];rintro b1 w1 e b;obtain ⟨l,k⟩:=bk e b;have i:w1.heap.size=w.heap.size+1:=by rw [b];simp
 clear b;rintro az p f d;obtain ⟨j,g⟩:=bk f d;have o:p.heap.size=w1.heap.size+1:=by rw [d];simp
 clear d;subst e f;refine ⟨9,j.cell rfl,a9 (λh=>absurd h (by decide)) (λ_=>⟨by rw [i],ai.ak g l,by rw [<-i];exact j,k.new g,by omega⟩)⟩
def jB (a:an) (i:Nat):an:=a.map (·.add (9 * i))
def ic (b1 az:Nat) (a:an) (n cap:Nat) (w:al):Prop:=w.cell? ⟨b1,0,none⟩=some (.slice a n cap)/\w.cell? ⟨az,0,none⟩=some (.int .i64 9)
theorem I_ (l b1 az:Nat) (a:an) (cap n:Nat) (a8 s:List (Fin n)->aE) (Y:n<=1000) (g:9 * n<=cap) (W:al) (O:ic b1 az a (9 * n) cap W)
  (L:AbidesFrom W.heap.size a8) (N:∀ pre x y,a8 pre y->pre.length<n->YieldAt Fence.wide 1 prog l #[.slice (jB a x.val) 9 9] y λe W'=>
   (e=.returned (.bool true)/\a8 (pre++[x]) W'/\(ic b1 az a (9 * n) cap y->ic b1 az a (9 * n) cap W'))\/(e=.returned (.bool false)/\s (pre++[x]) W'))
  (J:a8 [] W) :
  CallsIn Fence.wide 2 prog 257 #[.func (.yield l) #[] #[],.pointer (some ⟨b1,0,none⟩),.pointer (some ⟨az,0,none⟩)] W λe W'=>(∃ v,e=.returned v)/\
   ((∃ ys:List (Fin n),ys.map Fin.val=List.range n/\a8 ys W')\/(∃ pre,True/\s pre W')):=by
 refine callsIn_wide.2 (Calls.mono (R:=λe w'=>∃ x,e=.returned x/\((∃ ys:List (Fin n),ys.map Fin.val=List.range n/\a8 ys w')\/(∃ pre,True/\s pre w'))) ?_ λe w' ⟨x,T,w⟩=>⟨⟨x,T⟩,w⟩);refine bc Tryz.func257 (args:=[.func (.yield l) #[] #[],.pointer (some ⟨b1,0,none⟩),.pointer (some ⟨az,0,none⟩)]) (R:=λ_ w'=>(∃ ys:List (Fin n),ys.map Fin.val=List.range n/\a8 ys w')\/(∃ pre,True/\s pre w')) ?_;rw [Pn];refine c1 mix (λm env u=>∃ (i:Nat) (H:aw) (pre:List (Fin n)),m=n - i/\i<=n/\env=u3 (.func (.yield l) #[] #[]) ⟨b1,0,none⟩ ⟨az,0,none⟩ ((9 * i:Nat):Int) H/\pre.map Fin.val=List.range i/\a8 pre u/\ic b1 az a (9 * n) cap u) n
  ⟨0,_,[],by omega,by omega,rfl,rfl,J,O⟩ ?_
 rintro m env u ⟨i,H,pre,rfl,X,rfl,d,j,r,E⟩;rw [OI];refine ⟨a,9 * n,cap,r,a9 (λQ=>?_) (λQ=>?_)⟩
 ·rintro w1 f;have b:Go.bn.ai u w1:=by rw [f];exact cL _
  have A:w1.cell? ⟨b1,0,none⟩=some (.slice a (9 * n) cap):=by rw [f];exact r
  have F:w1.cell? ⟨az,0,none⟩=some (.int .i64 9):=by rw [f];exact E
  clear f;refine ⟨λz=>ic b1 az a (9 * n) cap z,⟨A,F⟩,9,λz au=>au.2,a,9 * n,cap,λz au=>au.1,?_⟩;refine ⟨by omega,by omega,by omega,by omega,g,?_⟩;refine ⟨a,9 * n,cap,A,?_⟩;have q:(if (((((9 * n:Nat):Int)).toNat - ((9 * i:Nat):Int).toNat:Nat):Int)<9 then (((((9 * n:Nat):Int)).toNat - ((9 * i:Nat):Int).toNat:Nat):Int) else 9)=9:=by split<;>omega
  rw [q,bA (x:=((9 * i:Nat):Int)+9) (by omega) (by omega)];refine ⟨by omega,by omega,by omega,by omega,g,?_⟩;have I:(if ((9 * i:Nat):Int)+9=((9 * i:Nat):Int) then a else a.map (·.add ((((9 * i:Nat):Int)).toNat * 1)))=jB a i:=by
   have t:(((9 * i:Nat):Int)).toNat * 1=9 * i:=by omega
   rw [if_neg (by omega),t];rfl
  have el:(((9 * i:Nat):Int)+9).toNat - (((9 * i:Nat):Int)).toNat=9:=by omega
  rw [I,el];have B:a8 pre w1:=L _ _ _ none j ⟨b.os,b.tape,b.output,b.size,λk P _=>b.block k P id⟩ (λ_ h=>by cases h);have D:=congrArg List.length d;rw [fc,mj] at D;have p:i<n:=by omega
  obtain ⟨fn,tmps,assign,body,U,w⟩:=N pre ⟨i,p⟩ w1 B (by omega);refine ⟨fn,tmps,assign,body,U,w.1,λc cs _=>?_⟩;obtain ⟨e,V,K,S⟩:=w.2 c cs (room_wide _);refine ⟨e,V,?_,S⟩;rcases K with ⟨rfl,C,M⟩ | ⟨rfl,o⟩
  ·have G:=M ⟨A,F⟩;refine ⟨true,rfl,dw rfl ⟨9,G.2,?_⟩⟩;dsimp only;rw [bA (x:=((9 * i:Nat):Int)+9) (by omega) (by omega),show ((9 * i:Nat):Int)+9=((9 * (i+1):Nat):Int) by omega];exact ⟨n - (i+1),by omega,i+1,_,pre++[⟨i,p⟩],rfl,by omega,rfl,by rw [jx,d,k0];rfl,C,G⟩
  ·exact ⟨false,rfl,fK rfl (.inr ⟨_,trivial,o⟩)⟩
 ·have:i=n:=by omega
  subst this;exact .inl ⟨_,d,j⟩
end
section
open Go.RowKit Go.Shelf
def pT (aK:a4) (i:Nat):aR:=ra ((aK.drop (2+9 * i)).take 9)
def hv (aK:a4) (n:Nat):List aR:=(List.range n).map (pT aK)
abbrev dW:TypeId:=271
structure sx (FL:al) (mw:Nat) (seq:Int) (aK:a4) (pre:d9) (u:al):Prop where
 ex:∃ a cap,av u mw [.int .i64 seq,.slice a pre.length cap] dW/\aY u eN 9 a pre.length cap (hz (pre.map (pT aK))).flatten/\∀ k,aL a k->FL.heap.size<=k
 ax:ao (λk=>k=mw) FL u
theorem Li {l:al} {o:Nat} {seq:Int}:OwnFrom l.heap.size (λ(ys:List (Fin n)) u=>sx l o seq aK (ys.map Fin.val) u):=by
 rintro ys W W' row ⟨⟨a,cap,i,j,p⟩,d⟩ q f;have c:=qY q;refine ⟨⟨a,cap,c.ak i (sd (W':=W') f i),?_,p⟩,d.trans c λk r e=>?_⟩
 ·refine ⟨j.1,?_⟩;rcases j.2 with h | ⟨g,cur,he,b,rest⟩
  ·exact .inl h
  ·exact .inr ⟨g,cur,he,c.ak b (sd (W':=W') f b),rest⟩
 ·have:=(f k e.symm).1;omega
theorem HB (aK:a4) (pre:d9) (i:Nat):(hz ((pre++[i]).map (pT aK))).flatten=(hz (pre.map (pT aK))).flatten++(pT aK i).cells:=by simp [hz]
theorem ic.put {W:al} {l:Nat} {o g:Obj} (i:W.heap[l]?=some o) (j:o.isCells=false) (h:ic b1 az a n cap W):ic b1 az a n cap (W.putObj l g):=by
 have same:∀ {b:Nat} {v:a0},W.cell? ⟨b,0,none⟩=some v->(W.putObj l g).cell? ⟨b,0,none⟩=some v:=by
  intro b v h;obtain ⟨k,c,f⟩:=cells_of_cell h;have d:b≠l:=by intro e;have c:W.heap[b]?=some k:=c;rw [e,i] at c;cases c;rw [j] at f;cases f
  rw [World.cell?_of_block (w:=W)]
  ·exact h
  ·exact World.putObj_heap_other d
 exact ⟨same h.1,same h.2⟩
theorem ic.ax {W W':al} {M:a2} (b:ao M W W') (c:¬ M b1) (d:¬ M az) (h:ic b1 az a n cap W):ic b1 az a n cap W':=⟨jj b h.1 c,jj b h.2 d⟩
abbrev n9 (h:an) (g cg:Nat) (lines:Int) (d e:Nat) (i:Int) (j:a0) (a b:Nat) (c:a0) (f:aw):aw:=
 pD h g cg lines ⟨d,0,none⟩ ⟨e,0,none⟩ i j (.func (.func 257) #[] #[.pointer (some ⟨a,0,none⟩),.pointer (some ⟨b,0,none⟩)]) c f
theorem HY (C:al) (Uo q f j:Nat) (seq UJ lines:Int) (aK:a4) (n UH cg p:Nat) (UI r:an) (UG:aw) (Vi:n<=12)
  (Uq:av C q [.int .i64 seq,.slice none 0 0] dW) (Ul:av C f [.slice r (9 * n) p] 94) (Um:av C j [.int .i64 9] 3) (UR:q≠f) (US:q≠j) (Us:9 * n<=p)
  (UV:∀ i,i<n->bg C (jB r i) (us ((aK.drop (2+9 * i)).take 9))/\∀ k,aL (jB r i) k->k≠q) (Vd:2+9 * n<=aK.length) (hu:∀ x ∈ aK,b3 x) (Q:Exit->Act->aE)
  (dp:∀ D W (ys:List (Fin n)),C.heap.size<=D->ys.map Fin.val=List.range n->sx C q seq aK (ys.map Fin.val) W->W.heap[D]?=some (.deferred (some []))->
   Q .normal { tmps:=(n9 UI UH cg lines Uo q UJ undef f j undef UG).toArray,defers:=[{ target:=.collected D,args:=#[] }] } W) :
  (Code.rangeFunc (.tmp 50) #[51] (sub (bh f251) [1,1,1,1,1,1,0,1,0,0]) (.block 1 (sub (bh f251) [1,1,1,1,1,1,0,1,0,1,0]))).wpIn Fence.wide 3 prog Q
   (act (n9 UI UH cg lines Uo q UJ undef f j undef UG)) C:=by
 obtain ⟨inf,Vf,au,M,UQ⟩:=fp (T:=eN) (z:=hB.val) (n:=9) (m:=72) (by kernel_rfl);have Ur:ic f j r (9 * n) p C:=⟨Ul.cell rfl,Um.cell rfl⟩;have U3:=Uq.lt;refine wpIn_rangeFunc_ownH rfl (by omega) (gf:=257) (lb:=#[.pointer (some ⟨f,0,none⟩),.pointer (some ⟨j,0,none⟩)]) rfl trivial (enters_of Tryz.func257 (by kernel_rfl) rfl)
  (encs:=λx:Fin n=>#[.slice (jB r x.val) 9 9]) (Kp:=λA B=>ic f j r (9 * n) p A->ic f j r (9 * n) p B) (S:=λys=>ys.map Fin.val=List.range n) (Sp:=λ_=>True) (N:=n) (w0:=C)
  (λl a8 U6 W cB Va Vb Vc U7=>I_ l f j r p n a8 U6 (by omega) Us W ?UL Va Vc U7)
  (λU8 U9 h=>U9 (U8 h)) (λW l o Vj _ U4 E _ h=>h.put U4 E) (Below.refl _ _) (λ_=>rfl) (λys u=>sx C q seq aK (ys.map Fin.val) u) (λ_ _ _=>False) Li (λ_ _ _ _ _ UB _ _=>UB)
  ⟨⟨none,0,Uq,aY.nil _ _ _,λk F=>by obtain ⟨o,E⟩:=F;cases E⟩,ao.refl _ _⟩
  (λx U1 W=>U1=act (n9 UI UH cg lines Uo q UJ (.slice (jB r x.val) 9 9) f j (.slice (jB r x.val) 9 9) UG)) ?own ?assign ?body ?done ?stop
 case UL=>
  have cell:∀ {b:Nat} {v:a0},b<C.heap.size->C.cell? ⟨b,0,none⟩=some v->W.cell? ⟨b,0,none⟩=some v:=λUw h=>(World.cell?_of_block (cB.block _ Uw)).trans h
  exact ⟨cell Ul.lt Ur.1,cell Um.lt Ur.2⟩
 case own=>exact λ_ _ _ _ _ _ h _ _=>h
 case assign=>
  intro l pre x W K Up UM;suffices UB:∀ a:Act,a=act (n9 UI UH cg lines Uo q UJ undef f j (.slice (jB r x.val) 9 9) (ag UG 0 66 []))->Code.wpIn (Fence.wide.inRound l) (3 - 1 - 1) prog (sub (bh f251) [1,1,1,1,1,1,0,1,0,0]) (Exit.then K (λ_ _ _=>False)) a W from UB _ (by kernel_rfl)
  rintro _ rfl;refine wpIn_mono (mv mix (F5 l) (ds:=[]) _ _ (a1 (λenv u=>K (act env) u) λ_ _ _=>False) W (by kernel_rfl) ?_) (λe a w h=>?_)
  ·rw [Rs (d:=undef)];exact UM _ _ (KeepsFrom.refl _ _) (λh=>h) Up rfl
  ·obtain ⟨UF,env,rfl,Uy⟩:=lR h;cases e with
   |normal=>exact Uy
   |panic c=>exact absurd rfl (UF.1 c)
   |outgrown=>exact absurd rfl UF.2
   | _=>exact Uy.elim
 case body=>
  rintro l pre x U1 W U4 _ Up rfl Uw;refine wpIn_block ?_;suffices UB:∀ a:Act,a=act (n9 UI UH cg lines Uo q UJ (.slice (jB r x.val) 9 9) f j (.slice (jB r x.val) 9 9) (ag UG 0 66 []))->Code.wpIn (Fence.wide.inRound l) (3 - 1 - 1) prog (sub (bh f251) [1,1,1,1,1,1,0,1,0,1,0]) (Exit.inBlock 1 (ownPostG C.heap.size (λA B=>ic f j r (9 * n) p A->ic f j r (9 * n) p B) (λ(ys:List (Fin n)) u=>sx C q seq aK (ys.map Fin.val) u) (λ_ _ _=>False) (pre++[x]) W)) a W from UB _ (by kernel_rfl)
  rintro _ rfl;refine wpIn_mono (mv mix (F5 l) (ds:=[]) _ _ (a1 (λenv u=>KeepsFrom C.heap.size W u/\(ic f j r (9 * n) p W->ic f j r (9 * n) p u)/\sx C q seq aK ((pre++[x]).map Fin.val) u) λ_ _ _=>False) W (by kernel_rfl) ?_) (λe a w h=>?_)
  ·rw [RE (s8:=undef) (d:=undef)];obtain ⟨⟨a,cap,X,Uk,H⟩,Y⟩:=Up;rw [fc] at X Uk;rintro UK UC;have Ui:Go.bn.ai W UK:=by rw [UC];exact cL _
   clear UC;have R:=ai.ak Ui X;refine ⟨λy=>Go.bn.ai UK y,ao.refl _ _,a,pre.length,cap,λy UX=>(ai.ak UX R).cell (i:=1) rfl,?_⟩;obtain ⟨Uz,UU⟩:=UV x.val x.isLt;have Uv:ao (λk=>k=q) C UK:=Y.new Ui;have UW:bg UK (jB r x.val) (us ((aK.drop (2+9 * x.val)).take 9)):=Uz.ax Uv (g0 Uz UU);have Vg:=x.isLt;refine aD (Nq UW (by rw [gR,jY];omega) (λy UX=>hu y (n1 (r3 UX))) (dd 9)) ?_;rintro v Vk ⟨rfl,Uj⟩;refine aR.aS _ ⟨rfl,Uj,?_⟩;rintro U2 Vh UO UD;obtain ⟨Un,Ux⟩:=bk UO UD;have Un:av Vh U2 (pT aK x.val).cells eN:=Un;clear UD;refine ⟨Uj.new Ux,?_⟩;have U:=Uj.new Ux;have J:=Ui.new U;have V:=aY.new J Uk;rw [<-M] at V;obtain ⟨ap,G,UZ,UA,L,Ut,UN⟩:=aY.append (P:=prog) (t:=37) (ty:=37) Tryz.underlying37 Vf au (by rw [M];rfl) (by omega) V
    (s:=some ⟨U2,0,none⟩) (m:=1) (c:=1) (news:=(pT aK x.val).cells) (by rw [M];rfl) (e9 Un rfl) (λu hu=>by have:=aR.single _ u hu;cases u<;>first | rfl | exact this) (by omega) (by rw [UQ];omega)
   rw [M] at L;have U5:=Y.size;have UT:¬ aL a q:=λh=>by have:=H q h;omega
   have I:av UZ q [.int .i64 seq,.slice a pre.length cap] dW:=Ut.ak (ai.ak U R) UT;refine ⟨ap,pre.length+1,G,UZ,UA,⟨_,I.cell (i:=1) rfl⟩,I.frozen,?_⟩;rintro U0 UE;have Uu:ao (λk=>k=q) UZ U0:=by rw [UE];exact eA _ _ _ _
   have UP:av U0 q [.int .i64 seq,.slice ap (pre.length+1) G] dW:=by rw [UE];exact I.setCell (i:=1) _
   have O:∀ k,aL ap k->C.heap.size<=k:=by
    intro k F;rcases UN with e | e
    ·exact H k (e▸F)
    ·obtain ⟨o,E⟩:=F;rw [e] at E;simp at E;have:=J.size;omega
   have Z:ao (λk=>aL a k\/k=q) W U0:=((ao.bZ J).trans Ut (λ_ _ h=>.inl h)).trans Uu (λ_ _ h=>.inr h);refine ⟨zf Z (λk F=>?_),λU_=>U_.ax Z ?_ ?_,⟨ap,G,?_,?_,O⟩,?_⟩
   ·rcases F with F | rfl
    ·rcases Uk.2 with ⟨he,_⟩ | ⟨g,cur,he,Ve,_⟩
     ·obtain ⟨o,E⟩:=F;rw [he] at E;cases E
     ·obtain ⟨o,E⟩:=F;rw [he] at E;simp at E;exact ⟨cur,_,E.1▸Ve⟩
    ·exact ⟨_,_,X⟩
   ·rintro (hm | hm)
    ·have:=H _ hm;have:=Ul.lt;omega
    ·exact UR hm.symm
   ·rintro (hm | hm)
    ·have:=H _ hm;have:=Um.lt;omega
    ·exact US hm.symm
   ·simpa using UP
   ·rw [jx,List.map_singleton,HB];have:=aY.ax Uu L (λk F e=>by have:=O k F;omega);simpa using this
   ·refine (Y.trans Z λk F hm=>?_);rcases hm with hm | rfl
    ·have:=H k hm;omega
    ·rfl
  ·obtain ⟨UF,env,rfl,Uy⟩:=lR h;cases e with
   |normal=>exact Uy
   |panic c=>exact absurd rfl (UF.1 c)
   |outgrown=>exact absurd rfl UF.2
   | _=>exact Uy.elim
 case done=>rintro D ys W U' UY Up UM;exact dp D W ys U' UY Up UM
 case stop=>rintro D c pre W _ _ h _;exact h.elim
end
section
open Go.RowKit Go.Shelf
def d8 (aK:a4) (lines:Int):Int:=
 if ¬ (98<=lines/\lines<=256) then 18 else if aK.length<2\/1073741824<=aK.getD 0 0\/12<aK.getD 1 0 then 14
 else if (aK.length:Int)<3+9 * aK.getD 1 0 then 14
 else if ff (aK.getD 0 0) (hv aK (aK.getD 1 0).toNat) lines≠0 then 14
 else if eD (aK.getD 0 0) (hv aK (aK.getD 1 0).toNat)≠aK.take (3+9 * (aK.getD 1 0).toNat) then 14 else 0
def d' (aK:a4) (lines:Int):Int×List aR:=if d8 aK lines=0 then (aK.getD 0 0,hv aK (aK.getD 1 0).toNat) else (0,[])
def eB (w:al) (R:Int×List aR) (last:a0) (v:a0) (w':al):Prop:=∃ a cap,v=.tuple #[bN.val ⟨R.1,a,R.2.length,cap⟩,last]/\ai w w'/\eY w' a R.2.length R.2/\∀ k,aL a k->w.heap.size<=k
theorem xH (w:al):eY w none 0 []:=⟨.inl rfl,rfl,by simp,λp a=>by cases a⟩
theorem Kk (h:d8 aK lines≠0):d' aK lines=(0,[]):=if_neg h
theorem eB.no {w':al} {e:Int} (he:d8 aK lines=e) (a:e≠0) (c:ai w w'):eB w (d' aK lines) (.int .i64 (d8 aK lines)) (.tuple #[bN.val ⟨0,none,0,0⟩,.int .i64 e]) w':=by rw [Kk (by rw [he];exact a),he];exact ⟨none,0,rfl,c,xH _,λk b=>absurd b mM⟩
abbrev ib:bN:=⟨0,none,0,0⟩
theorem n_ {u:al} {b:Nat} {zs:aw} (au:av u b zs dW) (g:zs.length=2) (r:bN) {K:bN->aE} (f:∀ e,ao (λk=>k=b) u e->av e b r.cells dW->K r e) :
  dR u ⟨b,0,none⟩ 0 r.cells/\∀ a,a=cl u ⟨b,0,none⟩ 0 r.cells->bN.ex λres=>b7 a ⟨b,0,none⟩ 0 res.cells/\a=a/\K res a:=
 dC au (by rw [g];rfl) (bN.single _) λa c d=>bN.aS r ⟨bI c rfl,rfl,f a d c⟩
theorem gK {P:Program} {fn:Func} {R:cp} {Q:Exit->aw->aE} {c:Code} {env:aw} (a:∀ env w,Q .ret env w=dh P fn R .ret env w) (h:Go.bn.W P c env (bC P fn R Q) w):Go.bn.W P c env Q w:=(yr a).mp h
theorem I' (w:al) (lines:Int):ba 203 [.int .i64 lines] w λv w'=>v=.bool (decide (98<=lines/\lines<=256))/\w'=w:=by
 refine bc Tryz.func203 ?_;rw [EJ];refine a9 (λh=>⟨?_,rfl⟩) (λh=>⟨?_,rfl⟩)
 ·have h:98<=lines:=h;congr 1;simp [h]
 ·have h:¬ 98<=lines:=h;congr 1;simp [h]
structure qC (w:al) (a:an) (Qb cg:Nat) (aK:a4) (lines:Int) (n:Nat) (uZ:Nat) (env:aw) (u:al):Prop where
 ex:∃ (mw yz yA DP:Nat) (yt:an) (OU:aw),env=n9 a Qb cg lines uZ mw ((3+9 * n:Nat):Int) undef yz yA undef OU/\av u mw [.int .i64 (aK.getD 0 0),.slice none 0 0] dW/\av u yz [.slice yt (9 * n) DP] 94/\av u yA [.int .i64 9] 3/\mw≠yz/\mw≠yA/\uZ≠mw/\w.heap.size<=mw/\9 * n<=DP/\
  ∀ i,i<n->bg u (jB yt i) (us ((aK.drop (2+9 * i)).take 9))/\∀ k,aL (jB yt i) k->k≠mw
 res:av u uZ [.int .i64 0,.slice none 0 0] dW
 new:ai w u
 old:w.heap.size<=uZ
theorem Ja {j cg:Nat} (lines:Int) (J:bg w a (us aK)) (d:j=aK.length) (UO:j<=cg) (hu:∀ x ∈ aK,b3 x) (UA:j<=1000) :
  Go.bn.W prog dI ((.slice a j cg)::(.int .i64 lines)::(bx 72 [])) (bC prog f251 (eB w (d' aK lines) (.int .i64 (d8 aK lines))) (n8 λenv u=>qC w a j cg aK lines (aK.getD 1 0).toNat w.heap.size env u/\(98<=lines/\lines<=256)/\3+9 * (aK.getD 1 0).toNat<=aK.length/\0<=aK.getD 0 0/\aK.getD 0 0<1073741824/\0<=aK.getD 1 0/\aK.getD 1 0<=12)) w:=by
 rw [TR];rintro b1 w1 E L;obtain ⟨g,y⟩:=bk E L;have g:av w1 b1 ib.cells dW:=g;clear L;subst E;have no:∀ {u:al} {e:Int},ai w1 u->d8 aK lines=e->e≠0->dR u ⟨w.heap.size,0,none⟩ 0 ib.cells/\∀ l,l=cl u ⟨w.heap.size,0,none⟩ 0 ib.cells->bN.ex λres=>b7 l ⟨w.heap.size,0,none⟩ 0 res.cells/\l=l/\eB w (d' aK lines) (.int .i64 (d8 aK lines)) (.tuple #[res.val,.int .i64 e]) l:=by intro u e I he UE;refine n_ (ai.ak I g) rfl ib (K:=λres l=>eB w (d' aK lines) (.int .i64 (d8 aK lines)) (.tuple #[res.val,.int .i64 e]) l) λUR P _=>eB.no he UE ((y.new I).trans P λk UH e=>by omega)
 refine aD (I' w1 lines) ?_;rintro v l ⟨rfl,rfl⟩;refine ⟨_,rfl,dZ (λUA=>no (ao.refl _ _) (if_pos (of_decide_eq_false UA)) (by decide)) (λUM=>?_)⟩
 have Uj:=of_decide_eq_true UM;rw [Rr,RD];refine gK (fn:=f251) (R:=eB w (d' aK lines) (.int .i64 (d8 aK lines))) (λ_ _=>rfl) ?_;rw [Sy];have q:=y;have r:aK.length<2\/1073741824<=aK.getD 0 0\/12<aK.getD 1 0->d8 aK lines=14:=λh=>by unfold d8;rw [if_neg (λe=>e Uj),if_pos h]
 have bad:d8 aK lines=14->∀ (s8 O:a0) (UB:aw),a1 (λenv C=>Go.bn.W prog (sub dI [1,1,0,1]) env (a1 (λenv Uv=>Go.bn.W prog (sub dI [1,1,1]) env (bC prog f251 (eB w (d' aK lines) (.int .i64 (d8 aK lines))) (n8 λenv u=>qC w a j cg aK lines (aK.getD 1 0).toNat w.heap.size env u/\(98<=lines/\lines<=256)/\3+9 * (aK.getD 1 0).toNat<=aK.length/\0<=aK.getD 0 0/\aK.getD 0 0<1073741824/\0<=aK.getD 1 0/\aK.getD 1 0<=12)) Uv) (bC prog f251 (eB w (d' aK lines) (.int .i64 (d8 aK lines))) (n8 λenv u=>qC w a j cg aK lines (aK.getD 1 0).toNat w.heap.size env u/\(98<=lines/\lines<=256)/\3+9 * (aK.getD 1 0).toNat<=aK.length/\0<=aK.getD 0 0/\aK.getD 0 0<1073741824/\0<=aK.getD 1 0/\aK.getD 1 0<=12))) C) (a1 (λenv C=>Go.bn.W prog (sub dI [1,1,1]) env (bC prog f251 (eB w (d' aK lines) (.int .i64 (d8 aK lines))) (n8 λenv u=>qC w a j cg aK lines (aK.getD 1 0).toNat w.heap.size env u/\(98<=lines/\lines<=256)/\3+9 * (aK.getD 1 0).toNat<=aK.length/\0<=aK.getD 0 0/\aK.getD 0 0<1073741824/\0<=aK.getD 1 0/\aK.getD 1 0<=12)) C) (bC prog f251 (eB w (d' aK lines) (.int .i64 (d8 aK lines))) (n8 λenv u=>qC w a j cg aK lines (aK.getD 1 0).toNat w.heap.size env u/\(98<=lines/\lines<=256)/\3+9 * (aK.getD 1 0).toNat<=aK.length/\0<=aK.getD 0 0/\aK.getD 0 0<1073741824/\0<=aK.getD 1 0/\aK.getD 1 0<=12))) .normal (sW a j cg lines ⟨w.heap.size,0,none⟩ s8 true O UB) l:=by intro he s8 O UB;refine ev (gK (fn:=f251) (R:=eB w (d' aK lines) (.int .i64 (d8 aK lines))) (λ_ _=>rfl) ?_);rw [Ex];exact fK rfl (no (ao.refl _ _) he (by decide))
 refine a9 (λD=>bad (r (.inl (by omega))) _ _ _) (λD=>?_)
 have z:=J.new q;refine m8 z (i:=0) (by omega) d rfl λUC dg s=>⟨_,s _ (ao.refl _ _),a9 (λUx=>bad (r (.inr (.inl Ux))) _ _ _) (λUx=>?_)⟩
 refine m8 z (i:=1) (by omega) d rfl λc9 fC t=>⟨_,t _ (ao.refl _ _),?_⟩
 by_cases V:aK.getD 1 0>12
 ·dsimp only;rw [decide_eq_true V];exact bad (r (.inr (.inr V))) _ _ _
 dsimp only;rw [decide_eq_false V];refine ev (gK (fn:=f251) (R:=eB w (d' aK lines) (.int .i64 (d8 aK lines))) (λ_ _=>rfl) ?_);rw [Ex];refine dw rfl (ev ?_);rw [Sz];have Up:b3 (aK.getD 0 0):=by
  match aK,D,hu,d with
  | [],D,_,d=>simp at d <;> omega
  |x::_,_,hu,_=>exact hu x (by simp)
 have Uq:b3 (aK.getD 1 0):=by
  match aK,D,hu,d with
  | [],D,_,d=>simp at d <;> omega
  | [_],D,_,d=>simp at d <;> omega
  | _::x::_,_,hu,_=>exact hu x (by simp)
 have Un:=Up.1;have Uo:=Uq.1;refine m8 z (i:=0) (by omega) d rfl λUC dg s=>⟨_,s _ (ao.refl _ _),?_⟩
 dsimp only;rw [bA (x:=aK.getD 0 0) (by omega) (by omega)];rintro Uw UN X M;obtain ⟨B,G⟩:=bk X M;have B:av UN Uw ib.cells dW:=B;clear M;refine dC (vs:=bN.cells ⟨aK.getD 0 0,none,0,0⟩) B rfl (bN.single _) λQ A Ui=>?_
 have UI:=y.size;have UJ:=G.size;have Uz:=g.lt;have c:ai l Q:=G.trans Ui λk P e=>by omega
 have f:=q.new c;refine m8 (J.new f) (i:=1) (by omega) d rfl λc9 fC t=>⟨_,t _ (ao.refl _ _),?_⟩
 obtain ⟨n,Uk⟩:=m1 Uo;have Ul:(aK.getD 1 0).toNat=n:=by omega
 rw [Ul];have UD:IntKind.i64.wrap (IntKind.i64.wrap (2+IntKind.i64.wrap (9 * IntKind.i64.wrap (aK.getD 1 0)))+1)=((3+9 * n:Nat):Int):=by rw [Uk];rw [bA (x:=(n:Int)) (by omega) (by omega),bA (x:=9 * (n:Int)) (by omega) (by omega),bA (x:=2+9 * (n:Int)) (by omega) (by omega),bA (by omega) (by omega)];omega
 rw [UD];refine a9 (λUF=>no c ?_ (by decide)) (λUF=>?_)
 ·unfold d8;rw [if_neg (λe=>e Uj),if_neg (by omega),if_pos (by omega)]
 rw [bA (x:=((3+9 * n:Nat):Int) - 1) (by omega) (by omega)];have H:us aK≠[]:=λe=>by have:=congrArg List.length e;rw [hg,nZ] at this;omega
 obtain ⟨b,o,rfl,Y⟩:∃ b o,a=some ⟨b,o,none⟩/\True:=by
  rcases J with e | ⟨b,o,e,_⟩
  ·exact absurd e H
  ·exact ⟨b,o,e,trivial⟩
 refine kc (by omega) (by omega) (by omega) (by omega) (by omega) λS Ut=>?_
 have U:(((3+9 * n:Nat):Int) - 1).toNat - (2:Int).toNat=9 * n:=by omega
 have T:((cg:Nat):Int).toNat - (2:Int).toNat=cg - 2:=by simp
 rw [U,T];refine aD (Lh Q S (9 * n) (cg - 2)) ?_;rintro v US ⟨rfl,Ur,Us,p,UL⟩;refine ⟨_,rfl,?_⟩;show _/\_;have UK:=c.size;have N:=ai.ak p A;have F:=J.lt H;refine ⟨⟨⟨Uw,Q.heap.size,Q.heap.size+1,cg - 2,S,_,rfl,N,Ur,Us,?_,?_,?_,?_,by omega,λi UP=>?_⟩,ai.ak (c.new p) g,f.new p,dd _⟩,Uj,by omega,Un,by omega,by omega,by omega⟩
 ·have:=A.lt;omega
 ·have:=A.lt;omega
 ·omega
 ·omega
 ·have Uu:S=some ⟨b,o+2,none⟩:=by
   rcases Ut with h | ⟨h,_⟩
   ·exact h
   ·omega
  have Z:jB S i=some ⟨b,o+(2+9 * i),none⟩:=by rw [Uu];simp only [jB,nX,kJ];congr 2;omega
  rw [Z];refine ⟨?_,λk P=>?_⟩
  ·have UG:=(J.new (f.new p)).drop (2+9 * i);have Uy:=UG.take 9;have e:((us aK).drop (2+9 * i)).take 9=us ((aK.drop (2+9 * i)).take 9):=by simp [us]
   rw [e] at Uy;exact Uy
  ·obtain ⟨UQ,Um⟩:=P;simp at Um;have F:b<w.heap.size:=F;omega
end
end Go.Proofs.YtmkljjbioomepaaGreat
