import Derived.Test.YtmkljjbioomepaaGreate37
import Derived.Test.YtmkljjbioomepaaGreate35
import Derived.Test.YtmkljjbioomepaaGreate36
set_option linter.all false
namespace Go.Proofs.YtmkljjbioomepaaGreat
open Go.Proofs.Tryz Go.bn
variable {L a b c j k m n:Nat} {Ls:List a4} {e4:Bool} {lines o w:Int} {ws:a4}
section
open dq dr
section
variable {c:Nat}
theorem lW {ns:List aH} {x:aH} (h:ns[j]?=some x):ns.getD j bp=x:=by rw [cK,h];rfl
theorem jF {ns:List aH} (h:j<ns.length):ns[j]?=some (ns.getD j bp):=by rw [cK,bM h];rfl
theorem x4 {ns:List aH}:∀ {vs:List aG},(∀ v ∈ vs,v.node.toNat<ns.length/\hY c v (ns.getD v.node.toNat bp)/\df v (ns.getD v.node.toNat bp)=ns.getD v.node.toNat bp)->j0 c ns vs/\ct ns vs=(ns,vs.map λv=>dB v (ns.getD v.node.toNat bp))
 | [],_=>⟨trivial,rfl⟩
 |v::vs,h=>by
  obtain ⟨a,f,g⟩:=h v d_;have b:ns.set v.node.toNat (df v (ns.getD v.node.toNat bp))=ns:=by rw [g];exact iM (jF a)
  obtain ⟨d,e⟩:=x4 (vs:=vs) λu hu=>h u (e2 _ hu)
  refine ⟨⟨a,f,by rw [b];exact d⟩,?_⟩;rw [mK,b,e];rfl
theorem xq {P:aH->Prop}:∀ {vs:List aG} {ns:List aH},(∀ x ∈ ns,P x)->(∀ v ∈ vs,v.node.toNat<ns.length/\∀ x,P x->hY c v x/\P (df v x)/\(dB v x).code=0/\((dB v x).words.length:Int)=v.v.g7)->j0 c ns vs/\(∀ x ∈ (ct ns vs).1,P x)/\Fit vs (ct ns vs).2
 | [],ns,a,_=>⟨trivial,a,rfl,λi v d h=>by cases h⟩
 |v::vs,ns,a,h=>by
  obtain ⟨f,p⟩:=h v d_;have q:=a _ (cj (jF f));obtain ⟨g,j,k,l⟩:=p _ q;obtain ⟨n,o,b⟩:=xq (P:=P) (vs:=vs) (ns:=ns.set v.node.toNat (df v (ns.getD v.node.toNat bp))) (λx hm=>by
   rcases ks hm with e | rfl
   ·exact a x e
   ·exact j) λu hu=>by obtain ⟨b1,az⟩:=h u (e2 _ hu);exact ⟨by rw [je];exact b1,az⟩
  refine ⟨⟨f,g,n⟩,?_,?_⟩
  ·rw [mK];exact o
  ·rw [mK];refine ⟨by simp only [fU];rw [b.len],λi w d hw aA=>?_⟩;cases i with
   |zero=>cases hw;cases aA;exact ⟨k,l⟩
   |succ i=>exact b.each i w d hw aA
theorem In:∀ {vs:List aG} {ns:List aH},(vs.map λv=>v.node.toNat).Nodup->(∀ v ∈ vs,v.node.toNat<ns.length)->(∀ v ∈ vs,hY c v (ns.getD v.node.toNat bp))->j0 c ns vs/\(ct ns vs).2=(vs.map λv=>dB v (ns.getD v.node.toNat bp))/\(∀ v ∈ vs,(ct ns vs).1[v.node.toNat]?=some (df v (ns.getD v.node.toNat bp)))/\∀ j,(∀ v ∈ vs,v.node.toNat≠j)->(ct ns vs).1[j]?=ns[j]?
 | [],ns,_,_,_=>⟨trivial,rfl,(λv h=>nomatch h),λj _=>rfl⟩
 |v::vs,ns,d,n,k=>by
  rw [g',List.nodup_cons] at d;have i:=n v d_;have b:∀ u ∈ vs,v.node.toNat≠u.node.toNat:=λu hu e=>d.1 (e▸o5 (f:=λv:aG=>v.node.toNat) hu)
  have a:∀ u ∈ vs,(ns.set v.node.toNat (df v (ns.getD v.node.toNat bp))).getD u.node.toNat bp=ns.getD u.node.toNat bp:=λu hu=>by rw [cK,gg (b u hu),<-cK]
  obtain ⟨o,p,q,g⟩:=In (vs:=vs) (ns:=ns.set v.node.toNat (df v (ns.getD v.node.toNat bp))) d.2 (λu hu=>by rw [je];exact n u (e2 _ hu)) (λu hu=>by rw [a u hu];exact k u (e2 _ hu));rw [mK];refine ⟨⟨i,k v d_,o⟩,?_,λu hu=>?_,λj l=>?_⟩
  ·simp only;rw [p,g'];congr 1;exact ml λu hu=>by rw [a u hu]
  ·simp only;rcases dy.1 hu with rfl | hu
   ·rw [g _ λw hw e=>b w hw e.symm,ei i]
   ·rw [q u hu,a u hu]
  ·simp only;rw [g j λu hu=>l u (e2 _ hu),gg (l v d_)]
end
section
variable {E:Env} {c:Nat}
theorem Kp.q1 (aJ:dP E) (i:1<=c/\c<6) {G:List (List aC)} {f:List (List aC)->b2×dj} (h:Kp E c G f) {vs:List aG} (d:(f []).1.ask=some vs) (a:vs≠[]) (l:vs.length<=1024) (g:gy E.n E.L vs=0) {ns:List aH} (j:j0 c ns vs) (b:G.length<=200) {o:dr.conv.O} {ns':List aH} {G':List (List aC)}
  (p:Lone dr.conv c E.n E.L (.inr (bV E c)) k (ct ns vs).1 (G++[(ct ns vs).2]) o ns' G'):Lone dr.conv c E.n E.L (.inr (bV E c)) (h_ vs+k) ns G o ns' G':=by
 have e:=h.ask aJ i d;exact .go b (by show (gp (bV E c) G).2.2=false;rw [e]) (by show (gp (bV E c) G).1=vs;rw [e]) a l g j p
theorem Kp.PC (aJ:dP E) (j:1<=c/\c<6) {G:List (List aC)} {f:List (List aC)->b2×dj} (h:Kp E c G f) (b:(f []).1.ask=none) (d:(f []).1.di=false) (g:(f []).1.a7=[]) (i:G.length<=200) {ns:List aH}:Lone dr.conv c E.n E.L (.inr (bV E c)) 0 ns G (.inr (f []).2) ns G:=by
 have e:=h.out aJ j b d g;have a:(dr.conv.next (.inr (bV E c)) G).2.1=.inr (f []).2:=by show Sum.inr (gp (bV E c) G).2.1=_;rw [e]
 rw [<-a];exact .fin i (by show (gp (bV E c) G).2.2=true;rw [e])
end
end
section
open dq dr
section
variable {E:Env} {c:Nat}
theorem Bk {v:aG} {pc:Int×Int} {ns:List aH} (e:n<=5) (f:∀ x ∈ ns,cQ L e4 x) (d:1<=c/\c<6) (aj:et n L v) (b:v.v.pieces=[pc]) (a:v.node.toNat<ns.length):j0 c ns [v]:=
 ⟨a,tu e (f _ (cj (jF a))) d aj b,trivial⟩
theorem x5 {x:aH} (h:cQ L e4 x) (b:30<=a):cQ L e4 (x.eU a o w):=by
 unfold aH.eU;split
 ·have c:pk a 1 x { x with words:=x.words.set (a:Int).toNat w }:=⟨by simp,rfl,λi d=>by unfold aH.get;simp only [cK,fT];rw [gg (by omega)]⟩
  exact c.aZ h b
 ·exact h
theorem CA {v:aG} (b:n<=5) (a:L<=256) (aj:v.v.valid n L=0):gy n L [v]=0:=by unfold gy;rw [if_neg (by rw [aj];simp)];rfl
theorem Cr {ns:List aH}:Fit [cS m a o w] (ct ns [cS m a o w]).2:=by
 have h:(ct ns [cS m a o w]).2=[⟨0,[(ns.getD m bp).get a]⟩]:=by rw [mK];show [dB (cS m a o w) _]=_;rw [kR.2];rfl
 rw [h];refine ⟨rfl,λq v d aj aA=>?_⟩;cases q with
 |zero=>cases aj;cases aA;exact ⟨rfl,rfl⟩
 |succ q=>cases aj
theorem NW (aJ:dP E) (i:1<=c/\c<6) {G:List (List aC)} {clk:Int} {dE:Int×Int} (h:Kp E c G (ot E c Ls clk dE)) {ns:List aH} (s:ns.length=E.n) (p:∀ x ∈ ns,cQ E.L true x) (q:G.length<=199) :
  ∃ ns' G',Lone dr.conv c E.n E.L (.inr (bV E c)) 1 ns G (.inr ⟨0,dE.1,dE.2,iv E.L clk Ls,0⟩) ns' G':=by
 have t:=aJ.e.n;have r:=aJ.e.L;have aj:et E.n E.L (cS 0 49 (ia c) 0):=sg (by omega) (by omega) (by omega) (by omega) (by omega);have k:j0 c ns (h2 c):=Bk (by omega) p i aj lg (by show (0:Int).toNat<ns.length;omega);have d:Fit (h2 c) (ct ns (h2 c)).2:=Cr;have l:=h.next (MD d);have b:=l.PC aJ i (f:=λX=>(y4 (ct ns (h2 c)).2 X,⟨0,dE.1,dE.2,iv E.L clk Ls,0⟩)) rfl rfl rfl (by rw [c8];simp;omega) (ns:=(ct ns (h2 c)).1);have g:=h.q1 aJ i MI (by simp [h2]) (by simp [h2]) (CA (by omega) (by omega) (aj.valid E.n (by omega) (by omega))) k (by omega) b;have j:h_ (h2 c)+0=1:=by unfold h_ h2;have o:(cS 0 49 (ia c) 0).v.pieces=[(((49:Nat):Int),1)]:=lg (m:=0) (a:=49);rw [g',o];rfl
 rw [j] at g;exact ⟨_,_,g⟩
end
theorem Dy {n L m:Nat} {a:Int} {ws:a4} {e4:Bool} {x:aH} (c:cQ L e4 x) (h:30<=a) (i:a+ws.length<=L * 8):∀ e,e<=(b5 m a ws).v.pieces.length->cQ L e4 (eJ (b5 m a ws) x e).1/\(eJ (b5 m a ws) x e).2=[]
 | 0,_=>⟨c,rfl⟩
 |e+1,he=>by
  obtain ⟨b,g⟩:=Dy (n:=n) (m:=m) c h i e (by omega);have hm:(b5 m a ws).v.pieces.getD e (0,0) ∈ (b5 m a ws).v.pieces:=by rw [cK,bM (by omega)];exact jw _
  obtain ⟨d,f⟩:=HW (x:=b5 m a ws) (n:=(eJ (b5 m a ws) x e).1) rfl (by show 0<=a;omega) (by have hlen:=b.len;show a+(ws.length:Int)<=((eJ (b5 m a ws) x e).1.words.length:Int);omega) hm;unfold eJ;refine ⟨d.aZ b (by show 30<=a.toNat;omega),?_⟩;simp only;rw [g,f];rfl
theorem Od {a:Int} {x:aH} (k:n<=5) (g:1<=c/\c<6) (l:cQ L e4 x) (f:30<=a) (o:1<=ws.length) (j:a+ws.length<=L * 8) (aj:et n L (b5 m a ws)):hY c (b5 m a ws) x/\cQ L e4 (df (b5 m a ws) x)/\(dB (b5 m a ws) x).code=0/\((dB (b5 m a ws) x).words.length:Int)=(b5 m a ws).v.g7:=by
 have h:=λe=>Dy (n:=n) (m:=m) (x:=x) l f j e
 have b:0<(b5 m a ws).v.pieces.length:=by
  have d:(b5 m a ws).v.pieces≠[]:=FD (b5 m a ws).v.count.toNat a (b5 m a ws).v.count (by show 1<=(ws.length:Int);omega) (by show 1<=(ws.length:Int).toNat;omega);cases au:(b5 m a ws).v.pieces with
  |nil=>exact absurd au d
  |cons p cn=>simp
 refine ⟨⟨b,λp e d i he=>ya k (h e (by omega)).1 aj d i g⟩,(h _ (dd _)).1,rfl,?_⟩;unfold dB;simp only;rw [(h _ (dd _)).2];rfl
theorem Pi {x:aH} (f:n<=5) (e:1<=c/\c<6) (b:cQ L e4 x) (d:30<=a) (aj:et n L (cS m a o w)):hY c (cS m a o w) x/\cQ L e4 (df (cS m a o w) x)/\(dB (cS m a o w) x).code=0/\((dB (cS m a o w) x).words.length:Int)=(cS m a o w).v.g7:=by
 refine ⟨tu f b e aj lg,?_,?_,?_⟩
 ·rw [kR.1];exact x5 b d
 ·rw [kR.2]
 ·rw [kR.2];rfl
theorem Oe {x:aH} (e:n<=5) (d:1<=c/\c<6) (b:cQ L e4 x) (f:a+1<=L * 8) (aj:et n L (c_ m a 1)):hY c (c_ m a 1) x/\cQ L e4 (df (c_ m a 1) x)/\(dB (c_ m a 1) x).code=0/\((dB (c_ m a 1) x).words.length:Int)=(c_ m a 1).v.g7:=by
 refine ⟨tu e b d aj tr,?_,?_,?_⟩
 ·rw [tt.1];exact b
 ·rw [tt.2]
 ·rw [tt.2];have:=b.len;simp only [gR,jY];show ((min 1 (x.words.length - a):Nat):Int)=1;omega
section
variable {E:Env} {c:Nat} {Ls:List a4} {clk:Int} {dE:Int×Int}
theorem NX (aJ:dP E) (i:1<=c/\c<6) {S:List (List aC)->b2} {ns ns1:List aH} {D:List (List aC)} (h:k1 c E.n E.L S k ns D ns1):∀ {G:List (List aC)},(∀ X,∃ cq,S (D++X)=iT cq X)->Kp E c G (λX=>mC E c Ls clk dE (S X))->ns1.length=E.n->(∀ x ∈ ns1,cQ E.L true x)->G.length+D.length<=199->
  ∃ ns' G',Lone dr.conv c E.n E.L (.inr (bV E c)) (k+1) ns G (.inr ⟨0,dE.1,dE.2,iv E.L clk Ls,0⟩) ns' G':=by
 induction h with
 | @nil S ns=>
  intro G b f j o g;have a:Kp E c G (ot E c Ls clk dE):=λX=>(f X).trans (by obtain ⟨cq,e⟩:=b X;have e:S X=iT cq X:=e;show mC E c Ls clk dE (S X)=_;rw [e];exact N' i.2 rfl)
  exact NW aJ i a j o (by simp at g <;> omega)
 | @cons S k ns ns1 vs D q p j r s _ u=>
  intro G b f l o g;have a:=f.next (D:=(ct ns vs).2) (f':=λX=>mC E c Ls clk dE (S ((ct ns vs).2::X))) λX=>rfl
  obtain ⟨ns',G',t⟩:=u b a l o (by rw [c8];simp at g ⊢;omega);have d:=f.q1 aJ i (vs:=vs) (by show (mC E c Ls clk dE (S [])).1.ask=_;rw [q];exact MH vs) p j r s (by omega) t;rw [<-p7] at d;exact ⟨ns',G',d⟩
end
end
section
open dq dr
section
variable {c n L:Nat}
structure k6 (c n L:Nat) (v:aG):Prop where
 go:et n L v
 at_:v.node.toNat<n
 dM:v.v.pieces.length<=128
 run:∀ x,cQ L true x->hY c v x/\cQ L true (df v x)/\(dB v x).code=0/\((dB v x).words.length:Int)=v.v.g7
theorem tv (e:n<=5) (f:1<=L/\L<=256) (h:1<=c/\c<6) {a:Int} (hm:m<n) (g:30<=a) (b:1<=ws.length) (j:ws.length<=128) (d:a+ws.length<=L * 8):k6 c n L (b5 m a ws):=by
 have aj:et n L (b5 m a ws):=ng e hm f (by omega) b (by omega) d;refine ⟨aj,?_,?_,λx i=>Od e h i g b d aj⟩
 ·show (m:Int).toNat<n;omega
 ·exact kq (pI (b5 m a ws).v.count.toNat a _) (by show (ws.length:Int).toNat<=128;omega)
theorem To (b:n<=5) (e:1<=L/\L<=256) (f:1<=c/\c<6) {a:Int} (hm:m<n) (h:30<=a) (d:a+1<=L * 8):k6 c n L (cS m a o w):=by
 have aj:et n L (cS m a o w):=sg b hm e (by omega) d;obtain ⟨k,rfl⟩:=m1 (show 0<=a by omega);refine ⟨aj,?_,?_,λx g=>Pi b f g (by omega) aj⟩
 ·show (m:Int).toNat<n;omega
 ·have:=lg (m:=m) (a:=k) (o:=o) (w:=w);rw [this];simp
theorem Tp (b:n<=5) (e:1<=L/\L<=256) (g:1<=c/\c<6) {a:Int} (hm:m<n) (f:32<=a) (d:a+1<=L * 8):k6 c n L (c_ m a 1):=by
 have aj:et n L (c_ m a 1):=x0 b hm e (by omega) (by omega) d (.inl f);obtain ⟨k,rfl⟩:=m1 (show 0<=a by omega);refine ⟨aj,?_,?_,λx h=>Oe b g h (by omega) aj⟩
 ·show (m:Int).toNat<n;omega
 ·have:=tr (m:=m) (a:=k);rw [this];simp
theorem Cs:∀ {vs:List aG},(∀ v ∈ vs,k6 c n L v)->h_ vs<=128 * vs.length
 | [],_=>dd _
 |v::vs,h=>by
  have b:=(h v d_).dM;have a:=Cs (vs:=vs) λu hu=>h u (e2 _ hu)
  unfold h_ at a ⊢;rw [g',m2,fU];omega
def gj (c n L:Nat) (P:List aC->Prop) (ns:List aH) (S:List (List aC)->b2) (b q:Nat):Prop:=
 ∃ k D ns1 cq,k1 c n L S k ns D ns1/\(∀ X,S (D++X)=iT cq X)/\P cq/\ns1.length=n/\(∀ x ∈ ns1,cQ L true x)/\k<=b/\D.length<=q
theorem gj.one (j:n<=5) {vs:List aG} (aj:∀ v ∈ vs,k6 c n L v) (i:vs.length<=1024) {ns:List aH} (a:ns.length=n) (d:∀ x ∈ ns,cQ L true x):gj c n L (λcq=>cq.length=vs.length) ns (λG=>bR G vs) (128 * vs.length) 1:=by
 by_cases b:vs=[]
 ·subst b;exact ⟨0,[],ns,[],.nil,λX=>K0 X,rfl,a,d,by simp,by simp⟩
 ·obtain ⟨e,f,g⟩:=xq (c:=c) (P:=cQ L true) (vs:=vs) d λv hm=>⟨by rw [a];exact (aj v hm).at_,(aj v hm).run⟩
  have h:gy n L vs=0:=kw rfl j λv hm=>(aj v hm).go
  have hlen:=hx vs ns;exact ⟨_,_,_,(ct ns vs).2,k1.one b i h e,λX=>Mf b g X,hlen.2,by rw [hlen.1];exact a,f,by have:=Cs aj;omega,by simp⟩
theorem gj.bind {P P':List aC->Prop} {ns:List aH} {S Z:List (List aC)->b2} {b q b' q':Nat} (h:gj c n L P ns S b q) (au:∀ G,(S G).ok=false->Z G=S G) (u:∀ cq ns1,P cq->ns1.length=n->(∀ x ∈ ns1,cQ L true x)->∃ Y,gj c n L P' ns1 Y b' q'/\∀ G G',S G=iT cq G'->Z G=Y G'):gj c n L P' ns Z (b+b') (q+q'):=by obtain ⟨k,D,ns1,cq,p,f,r,s,t,A,B⟩:=h;obtain ⟨Y,⟨w,e,d,a,g,i,j,l,o,y,z⟩,he⟩:=u cq ns1 r s t;refine ⟨k+w,D++e,d,a,p.bind f au he g,λX=>?_,j,l,o,by omega,by rw [c8];omega⟩;rw [jW,he _ _ (f (e++X)),i]
theorem gj.imp {P P':List aC->Prop} {ns:List aH} {S:List (List aC)->b2} {q b' q':Nat} (h:gj c n L P ns S b q) (i:∀ cq,P cq->P' cq) (o:b<=b') (p:q<=q'):gj c n L P' ns S b' q':=by obtain ⟨k,D,ns1,cq,a,d,e,f,g,j,l⟩:=h;exact ⟨k,D,ns1,cq,a,d,i _ e,f,g,by omega,by omega⟩
end
def qp (lines:Int) (R:Int×List aR):Prop:=R.2.length<=12/\∀ p ∈ R.2,96<=p.bm/\p.bm<lines
theorem Bl {L:a4} (e:fx L lines=true):qp lines (cI L lines):=by
 have d:=e;unfold fx at d;simp only [eH,decide_eq_true_eq,beq_iff_eq] at d;have c:=d.2;have f:cI L lines=((L.drop 8).getD 0 0,hv (L.drop 8) ((L.drop 8).getD 1 0).toNat):=by unfold cI d';rw [if_pos e,if_pos c]
 unfold d8 at c;split at c
 ·omega
 split at c
 ·omega
 split at c
 ·omega
 split at c
 ·omega
 obtain ⟨_,a,b,_⟩:=jD (by omega:ff ((L.drop 8).getD 0 0) (hv (L.drop 8) ((L.drop 8).getD 1 0).toNat) lines=0);rw [f];exact ⟨a.2.2.2,b⟩
theorem Mg (h:(dG lines Ls).2=true):qp lines (dG lines Ls).1:=by refine xn (P:=qp lines) Ls _ (λL d c=>?_) (λe=>by cases e) h;obtain ⟨a,b⟩:=zv c;rw [b];exact Bl a
section
variable {E:Env} {c:Nat}
theorem xr {j:bz} {s:Int} {W:List aR} {Ls:List a4}:∀ k,(lq j s W Ls k).length<=3 * k
 | 0=>dd _
 |k+1=>by
  rw [zI,c8];have a:=xr (j:=j) (s:=s) (W:=W) (Ls:=Ls) k;have b:(rC j s W Ls k).length<=3:=by
   unfold rC;split
   ·simp
   ·simp [ud]
  omega
theorem CB (aJ:dP E) (a:1<=c/\c<6) {s:Int} {W:List aR} (cB:qp E.L (s,W)) {Ls:List a4}:∀ k,k<=E.n->∀ v ∈ lq (bV E c) s W Ls k,k6 c E.n E.L v
 | 0,_,v,aj=>by cases aj
 |k+1,g,v,aj=>by
  rw [zI] at aj;rcases gH.1 aj with aj | aj
  ·exact CB aJ a cB k (by omega) v aj
  ·have h:=aJ.e.n;have f:=aJ.e.L;have d:=aJ.q0;have hw:=cB.1;unfold rC at aj;split at aj
   ·cases aj
   ·rw [Dk (by omega)] at aj;have aj:v ∈ [b5 k 48 [0],b5 k 56 (eD s W),b5 k 48 [eg s]]:=aj;have b:=kE s W;simp only at hw;rcases dy.1 aj with rfl | aj
    ·exact tv (by omega) (by omega) a (by omega) (by omega) (by simp) (by simp) (by simp;omega)
    rcases dy.1 aj with rfl | aj
    ·exact tv (by omega) (by omega) a (by omega) (by omega) (by omega) (by omega) (by omega)
    rcases dy.1 aj with rfl | aj
    ·exact tv (by omega) (by omega) a (by omega) (by omega) (by simp) (by simp) (by simp;omega)
    ·cases aj
theorem JY (aJ:dP E) (r:1<=c/\c<6) {ns:List aH} (M:ns.length=E.n) (S:∀ x ∈ ns,cQ E.L true x) (Ls:List a4):∃ dE,(∀ X,(eC (bV E c) (bb 0) Ls X).1=dE)/\gj c E.n E.L (λ_=>True) ns (λX=>(eC (bV E c) (bb 0) Ls X).2) 12000 4:=by
 have Uo:=aJ.e.n;have Ur:=aJ.e.L;have Ul:=aJ.q0;have f:1<=E.L/\E.L<=256:=by omega
 by_cases F:(dG (bV E c).lines Ls).2=true
 ·have a:=Mg F;generalize J:(dG (bV E c).lines Ls).1=R at a;obtain ⟨s,W⟩:=R;have a:qp E.L (s,W):=a;have he:∀ X,eC (bV E c) (bb 0) Ls X=((2,s),mQ (bV E c) (bb 0) s W Ls X):=λX=>by unfold eC;rw [if_pos F,J]
  refine ⟨(2,s),λX=>by rw [he],?_⟩;have t:(λX=>(eC (bV E c) (bb 0) Ls X).2)=λX=>mQ (bV E c) (bb 0) s W Ls X:=funext λX=>by rw [he]
  rw [t];have hw:W.length<=12:=a.1;have A:∀ p ∈ W,96<=p.bm/\p.bm<E.L:=a.2;have z:(bV E c).v.mem.length=E.n:=by rw [p3];simp
  have B:∀ m,m<E.n->∀ p ∈ W,k6 c E.n E.L (ep m p):=λm hm p i=>by have:=A p i;exact tv (by omega) f r hm (by omega) (by show 1<=8;omega) (by show 8<=128;omega) (by show p.bm * 8+(8:Int)<=_;omega)
  have u:∀ m,m<E.n->k6 c E.n E.L (b5 m 32 [s]):=λm hm=>tv (by omega) f r hm (by omega) (by simp) (by simp) (by simp;omega)
  have H:=gj.one (c:=c) (by omega) (vs:=lq (bV E c) s W Ls E.n) (CB aJ r a _ (dd _)) (by have:=xr (j:=bV E c) (s:=s) (W:=W) (Ls:=Ls) E.n;omega) M S;have H:=gj.imp H (P':=λ_=>True) (b':=1920) (q':=1) (λ_ _=>trivial) (by have:=xr (j:=bV E c) (s:=s) (W:=W) (Ls:=Ls) E.n;omega) (dd _);refine gj.imp (gj.bind (b':=9900) (q':=3) (P':=λ_=>True) H (λG d=>?_) λcq ns1 _ N T=>?_) (λ_ h=>h) (by omega) (by omega)
  ·unfold mQ j9;rw [z,if_pos d]
  refine ⟨λG=>ou (bV E c) (bb 0) s W (e' (bV E c) (bb 0) W G),?_,λG G' d=>by unfold mQ j9;rw [z,d];exact if_neg (by simp [iT])⟩
  have P:∀ v ∈ W.map λp=>c_ 0 (p.bm * 8) 1,k6 c E.n E.L v:=λv aj=>by obtain ⟨p,i,rfl⟩:=cD.1 aj;have:=A p i;exact Tp (by omega) f r (by omega) (by omega) (by omega)
  have D:=gj.one (c:=c) (by omega) P (by rw [fc];omega) N T;rw [fc] at D;have D:=gj.imp D (b':=1536) (q':=1) (λ_ h=>h) (by omega) (dd _);refine gj.imp (gj.bind (b':=8350) (q':=2) (P':=λ_=>True) D (λG d=>?_) λb V Uj w C=>?_) (λ_ h=>h) (by omega) (by omega)
  ·exact if_pos d
  generalize o:fY (bV E c) W b b.length=l;have y:∀ p ∈ l,p ∈ W:=by rw [<-o];exact Aq (by omega)
  have Um:l.length<=12:=by rw [<-o];exact kq (zH _ _ _ _) (by omega)
  have k:∀ G G',e' (bV E c) (bb 0) W G=iT b G'->ou (bV E c) (bb 0) s W (e' (bV E c) (bb 0) W G)=if l.length=0 then iT b G' else nC (bV E c) (bb 0) s l (bR G' (nS (bV E c) s l)):=λG G' d=>by rw [d];unfold ou;rw [if_neg (by simp [iT])];show (if (fY (bV E c) W b b.length).length=0 then _ else _)=_;rw [show (iT b G').done=b from rfl,o];rfl
  by_cases Y:l.length=0
  ·refine ⟨λG=>iT b G,⟨0,[],V,b,.nil,λX=>rfl,trivial,w,C,by omega,by simp⟩,λG G' d=>?_⟩;have h:=k G G' d;rw [if_pos Y] at h;exact h
  refine ⟨λG=>nC (bV E c) (bb 0) s l (bR G (nS (bV E c) s l)),?_,λG G' d=>by have h:=k G G' d;rw [if_neg Y] at h;exact h⟩
  have q:nS (bV E c) s l=((List.range (E.n - 1)).map λm=>l.map (ep (m+1))++[b5 (m+1) 32 [s]]).flatten:=by unfold nS;rw [MC Uo.1,jZ];rfl
  have K:∀ v ∈ nS (bV E c) s l,k6 c E.n E.L v:=λv aj=>by
   rw [q] at aj;obtain ⟨g,Uk,aj⟩:=kZ.1 aj;obtain ⟨m,hm,rfl⟩:=cD.1 Uk;have hm:=dS.1 hm;rcases gH.1 aj with aj | aj
   ·obtain ⟨p,i,rfl⟩:=cD.1 aj;exact B _ (by omega) p (y p i)
   ·rcases dy.1 aj with rfl | aj
    ·exact u _ (by omega)
    ·cases aj
  have Ui:(nS (bV E c) s l).length<=13 * (E.n - 1):=by
   rw [q,List.length_flatten,jZ];have:(List.map (List.length ∘ λm=>l.map (ep (m+1))++[b5 (m+1) 32 [s]]) (List.range (E.n - 1)))=List.replicate (E.n - 1) (l.length+1):=by rw [<-mj (n:=E.n - 1),<-List.map_const'];simp
   rw [this,List.sum_replicate_nat];rw [tP 13];exact Nat.mul_le_mul_left _ (by omega)
  have I:=gj.one (c:=c) (by omega) K (by omega) w C;have I:=gj.imp I (P':=λ_=>True) (b':=6660) (q':=1) (λ_ _=>trivial) (by omega) (dd _);refine gj.imp (gj.bind (b':=1680) (q':=1) (P':=λ_=>True) I (λG d=>if_pos d) λZ Uq _ O U=>⟨λG=>bR G (qv (bV E c) (bb 0) s l),?_,λG G' d=>?_⟩) (λ_ h=>h) (by omega) (by omega)
  ·have Q:∀ v ∈ qv (bV E c) (bb 0) s l,k6 c E.n E.L v:=λv aj=>by
    have aj:v ∈ b5 0 32 [s]::l.map (ep 0):=aj;rcases dy.1 aj with rfl | aj
    ·exact u _ (by omega)
    ·obtain ⟨p,i,rfl⟩:=cD.1 aj;exact B _ (by omega) p (y p i)
   have Up:(qv (bV E c) (bb 0) s l).length<=13:=by show (b5 0 32 [s]::l.map (ep 0)).length<=13;simp;omega
   exact gj.imp (gj.one (c:=c) (by omega) Q (by omega) O U) (λ_ _=>trivial) (by omega) (dd _)
  ·unfold nC;rw [d];exact if_neg (by simp [iT])
 ·by_cases hw:fx (Ls.getD 0 []) (bV E c).lines=true
  ·have a:=Bl hw;generalize J:cI (Ls.getD 0 []) (bV E c).lines=R at a;obtain ⟨s,W⟩:=R;have a:qp E.L (s,W):=a;have he:∀ X,eC (bV E c) (bb 0) Ls X=((3,s),qu (bV E c) (bb 0) W X):=λX=>by unfold eC;rw [if_neg F,if_pos hw,J]
   refine ⟨(3,s),λX=>by rw [he],?_⟩;have t:(λX=>(eC (bV E c) (bb 0) Ls X).2)=λX=>bR X (W.map λp=>cS 0 (p.bm * 8) (eP p.Head 0) p.Head):=funext λX=>by rw [he];rfl
   rw [t];have Un:W.length<=12:=a.1;have hu:∀ v ∈ W.map λp=>cS 0 (p.bm * 8) (eP p.Head 0) p.Head,k6 c E.n E.L v:=λv aj=>by obtain ⟨p,i,rfl⟩:=cD.1 aj;have:=a.2 p i;exact To (by omega) f r (by omega) (by omega) (by omega)
   have h:=gj.one (c:=c) (by omega) hu (by rw [fc];omega) M S;rw [fc] at h;exact gj.imp h (λ_ _=>trivial) (by omega) (by omega)
  ·have he:∀ X,eC (bV E c) (bb 0) Ls X=((1,0),iT [] X):=λX=>by unfold eC;rw [if_neg F,if_neg hw];rfl
   refine ⟨(1,0),λX=>by rw [he],?_⟩;have t:(λX=>(eC (bV E c) (bb 0) Ls X).2)=λX=>iT [] X:=funext λX=>by rw [he]
   rw [t];exact ⟨0,[],ns,[],.nil,λX=>rfl,trivial,M,S,by omega,by simp⟩
end
end
section
open dq dr
theorem xt {f:aG->aC}:∀ {vs:List aG},(∀ v ∈ vs,(f v).code=0/\((f v).words.length:Int)=v.v.g7)->Fit vs (vs.map f):=λ{vs} h=>⟨by simp,λi v d aj aA=>by rw [eL,aj] at aA;cases aA;exact h v (cj aj)⟩
theorem rE:∀ {vs:List aG},(∀ v ∈ vs,v.v.pieces.length<=128)->h_ vs<=128 * vs.length
 | [],_=>dd _
 |v::vs,h=>by
  have b:=h v d_;have a:=rE (vs:=vs) λu hu=>h u (e2 _ hu)
  unfold h_ at a ⊢;rw [g',m2,fU];omega
theorem CC {a k:Int} (h:k<=128):(c_ m a k).v.pieces.length<=128:=
 kq (pI (c_ m a k).v.count.toNat a k) (by show k.toNat<=128;omega)
theorem Ct {x:aH} (h:cQ L false x):cQ L true (x.eU 24 1 2)/\∀ a,a≠24->(x.eU 24 1 2).get a=x.get a:=by
 have f:x.get 24=1:=h.d0;have k:=h.len;have e:x.eU 24 1 2={ x with words:=x.words.set 24 2 }:=by
  unfold aH.eU;split
  ·rfl
  ·rename_i l;exact absurd f l
 have b:∀ a:Nat,a≠24->(x.eU 24 1 2).get a=x.get a:=λa n=>by rw [e];unfold aH.get;simp only [cK];rw [gg (by omega)]
 have d:24<x.words.length:=by
  by_cases j:24<x.words.length
  ·exact j
  ·have:x.get 24=0:=by unfold aH.get;rw [cK,wX.2 (by omega)];rfl
   omega
 refine ⟨⟨by rw [e];exact h.up,by rw [e];simp [k],by rw [b 0 (by omega)];exact h.key,by rw [b 1 (by omega)];exact h.dQ,?_,λc g i=>by rw [b _ (by omega)];exact h.dL c g i⟩,b⟩;rw [e];unfold aH.get;rw [cK,ei d];rfl
section
variable {E:Env} {c:Nat}
theorem NY (aJ:dP E) (B:1<=c/\c<6) {G:List (List aC)} (O:Kp E c G (pG E c)) {ns:List aH} (U:ns.length=E.n) (P:∀ x ∈ ns,cQ E.L true x) (Ui:G.length<=100) :
  ∃ k ns' G' Ls dE,Lone dr.conv c E.n E.L (.inr (bV E c)) k ns G (.inr ⟨0,dE.1,dE.2,iv E.L ((ns.getD 0 bp).get 32) Ls,0⟩) ns' G'/\k<=13500/\dE=(eC (bV E c) (bb 0) Ls []).1/\Ls=(List.range E.n).map λm=>((ns.getD m bp).words.drop 48).take 120:=by
 have Uk:=aJ.e.n;have Uj:=aJ.e.L;have V:=aJ.q0;have I:1<=E.L/\E.L<=256:=by omega
 have l:∀ m,m<E.n->cQ E.L true (ns.getD m bp):=λm hm=>P _ (cj (jF (by omega)))
 have b:∀ v ∈ gC E.n,∃ (m a k:Nat),m<E.n/\v=c_ m a k/\a % 8=0/\1<=k/\k<=120/\a+k<=E.L * 8/\(32<=a\/a+k<=32):=λv aj=>by
  unfold gC at aj;rcases gH.1 aj with aj | aj
  ·obtain ⟨g,M,aj⟩:=kZ.1 aj;obtain ⟨m,hm,rfl⟩:=cD.1 M;have hm:=dS.1 hm;rcases dy.1 aj with rfl | aj
   ·exact ⟨m,24,1,hm,rfl,by omega,by omega,by omega,by omega,by omega⟩
   rcases dy.1 aj with rfl | aj
   ·exact ⟨m,48,120,hm,rfl,by omega,by omega,by omega,by omega,by omega⟩
   ·cases aj
  ·rcases dy.1 aj with rfl | aj
   ·exact ⟨0,32,1,by omega,rfl,by omega,by omega,by omega,by omega,by omega⟩
   ·cases aj
 have y:∀ v ∈ gC E.n,et E.n E.L v:=λv aj=>by obtain ⟨m,a,k,d,rfl,j,p,F,s,H⟩:=b v aj;exact x0 (by omega) d I (by omega) (by omega) (by omega) (by omega)
 obtain ⟨S,C⟩:=x4 (c:=c) (ns:=ns) (vs:=gC E.n) λv aj=>by
  obtain ⟨m,a,k,d,e,j,p,F,s,H⟩:=b v aj;have M:=y v aj;subst e;have A:=l m d;refine ⟨by show (m:Int).toNat<ns.length;omega,?_,?_⟩
  ·show hY c _ (ns.getD m bp);exact JX (by omega) A B M j p s
  ·show df _ (ns.getD m bp)=ns.getD m bp;exact (Cq j (by rw [A.len];exact s)).1
 have q:∀ (m a k:Nat),m<E.n->a % 8=0->a+k<=E.L * 8->dB (c_ m a k) (ns.getD ((c_ m a k).node.toNat) bp)=⟨0,((ns.getD m bp).words.drop a).take k⟩:=λm a k d j p=>by show dB _ (ns.getD m bp)=_;exact (Cq j (by rw [(l m d).len];exact p)).2
 have r:Fit (gC E.n) ((gC E.n).map λv=>dB v (ns.getD v.node.toNat bp)):=xt λv aj=>by obtain ⟨m,a,k,d,rfl,j,p,F,s,H⟩:=b v aj;rw [q m a k d j s];refine ⟨rfl,?_⟩;have:=(l m d).len;simp only [gR,jY];show ((min k _:Nat):Int)=(k:Int);omega
 generalize T:((gC E.n).map λv=>dB v (ns.getD v.node.toNat bp))=D at r C;have f:∀ {i m a k:Nat},(gC E.n)[i]?=some (c_ m a k)->m<E.n->a % 8=0->a+k<=E.L * 8->D[i]?=some ⟨0,((ns.getD m bp).words.drop a).take k⟩:=λ{i m a k} u d j p=>by rw [<-T,eL,u];exact congrArg some (q m a k d j p)
 have K:∀ i,i<E.n->dv D (2 * i)=2:=λi u=>by have h:=f (m:=i) (a:=24) (k:=1) (Dx u).1 u (by omega) (by omega);unfold dv;rw [cK,h];show (((ns.getD i bp).words.drop 24).take 1).headD 0=2;rw [zJ];exact (l i u).d0
 have J:dv D (2 * E.n)=(ns.getD 0 bp).get 32:=by have h:=f (m:=0) (a:=32) (k:=1) (NU E.n) (by omega) (by omega) (by omega);unfold dv;rw [cK,h];show (((ns.getD 0 bp).words.drop 32).take 1).headD 0=_;rw [zJ];rfl
 have w:m' E.n D=(List.range E.n).map λm=>((ns.getD m bp).words.drop 48).take 120:=by
  unfold m';refine ml λm hm=>?_
  have hm:=dS.1 hm;have h:=f (m:=m) (a:=48) (k:=120) (Dx hm).2 hm (by omega) (by omega);rw [cK,h];rfl
 obtain ⟨dE,z,k,gi,ns1,cq,s1,s2,_,Y,Z,Ul,Um⟩:=JY aJ B U P (m' E.n D);have N:Kp E c (G++[D]) (λX=>mC E c (m' E.n D) (dv D (2 * E.n)) dE (eC (bV E c) (bb 0) (m' E.n D) X).2):=O.next λX=>by rw [MB r K,z]
 obtain ⟨ns',G',W⟩:=NX aJ B s1 (λX=>⟨cq,s2 X⟩) N Y Z (by rw [c8];simp;omega);have hlen:(gC E.n).length=2 * E.n+1:=by rw [NS];omega
 have Q:(ct ns (gC E.n)).1=ns:=by rw [C]
 have R:(ct ns (gC E.n)).2=D:=by rw [C]
 have t:=O.q1 aJ B M0 (yj _) (by omega) (kw rfl (by omega) y) S (by omega) (k:=k+1) (o:=.inr ⟨0,dE.1,dE.2,iv E.L (dv D (2 * E.n)) (m' E.n D),0⟩) (ns':=ns') (G':=G') (by rw [Q,R];exact W);rw [J,w] at t;refine ⟨_,ns',G',_,dE,t,?_,?_,rfl⟩
 ·have:=rE (vs:=gC E.n) λv aj=>by obtain ⟨m,a,k,d,rfl,j,p,F,s,H⟩:=b v aj;exact CC (m:=m) (a:=(a:Int)) (k:=(k:Int)) (by omega)
  omega
 ·rw [<-w,z]
end
end
section
open dq dr
theorem wM {x:aH} (h:b≠a):(x.eU a o w).get b=x.get b:=by
 unfold aH.eU;split
 ·unfold aH.get;simp only [cK,fT];rw [gg (by omega)]
 ·rfl
section
variable {E:Env} {c:Nat}
theorem NZ (aJ:dP E) (d:1<=c/\c<6) {G:List (List aC)} (C:Kp E c G (oq E c)) {ns:List aH} (M:ns.length=E.n) (u:∀ x ∈ ns,cQ E.L true x) (P:(ns.getD 0 bp).get 49=0) (R:G.length<=99) :
  ∃ k ns' G' Ls dE,Lone dr.conv c E.n E.L (.inr (bV E c)) k ns G (.inr ⟨0,dE.1,dE.2,iv E.L ((ns.getD 0 bp).get 32) Ls,0⟩) ns' G'/\k<=13628/\dE=(eC (bV E c) (bb 0) Ls []).1/\Ls.length=E.n/\∀ m,m<E.n->(Ls.getD m []).length=120/\∀ i,i<120->i≠1->(Ls.getD m []).getD i 0=(ns.getD m bp).get (48+i):=by
 have T:=aJ.e.n;have S:=aJ.e.L;have N:=aJ.q0;have p:1<=E.L/\E.L<=256:=by omega
 have aj:et E.n E.L (cS 0 49 0 (ia c)):=sg (by omega) (by omega) p (by omega) (by omega);have J:j0 c ns (gX c):=Bk (by omega) u d aj lg (by show (0:Int).toNat<ns.length;omega);have g:Fit (gX c) (ct ns (gX c)).2:=Cr;have he:ct ns (gX c)=(ns.set 0 ((ns.getD 0 bp).eU 49 0 (ia c)),[⟨0,[(ns.getD 0 bp).get 49]⟩]):=by unfold gX;rw [mK];show (ns.set 0 (df (cS 0 49 0 (ia c)) (ns.getD 0 bp)),[dB (cS 0 49 0 (ia c)) (ns.getD 0 bp)])=_;have e:=kR (m:=0) (x:=ns.getD 0 bp) (a:=49) (o:=0) (w:=ia c);have z:df (cS 0 49 0 (ia c)) (ns.getD 0 bp)=(ns.getD 0 bp).eU 49 0 (ia c):=e.1;have D:dB (cS 0 49 0 (ia c)) (ns.getD 0 bp)=⟨0,[(ns.getD 0 bp).get 49]⟩:=e.2;rw [z,D]
 have r:=C.next (MA d.2 g (by rw [he];exact P));have y:cQ E.L true (ns.getD 0 bp):=u _ (cj (jF (by omega)));have f:cQ E.L true ((ns.getD 0 bp).eU 49 0 (ia c)):=x5 (a:=49) y (by omega);have s:(ns.set 0 ((ns.getD 0 bp).eU 49 0 (ia c))).length=E.n:=by rw [je];exact M
 have l:∀ x ∈ ns.set 0 ((ns.getD 0 bp).eU 49 0 (ia c)),cQ E.L true x:=λx hm=>by
  rcases ks hm with h | rfl
  ·exact u x h
  ·exact f
 have b:∀ m a,m<E.n->a≠49->((ns.set 0 ((ns.getD 0 bp).eU 49 0 (ia c))).getD m bp).get a=(ns.getD m bp).get a:=λm a hm I=>by
  by_cases F:m=0
  ·subst F;rw [lW (ei (by omega))];exact wM (a:=49) I
  ·rw [cK,gg (by omega),<-cK]
 obtain ⟨k,ns',G',Ls,dE,A,Q,H,B⟩:=NY aJ d r (ns:=(ct ns (gX c)).1) (by rw [he];exact s) (by rw [he];exact l) (by rw [c8];simp;omega);have j:=C.q1 aJ d (MZ d.2) (by simp [gX]) (by simp [gX]) (CA (by omega) (by omega) (aj.valid E.n (by omega) (by omega))) J (by omega) A;have q:(((ct ns (gX c)).1).getD 0 bp).get 32=(ns.getD 0 bp).get 32:=by rw [he];exact b 0 32 (by omega) (by omega)
 rw [q] at j;refine ⟨_,ns',G',Ls,dE,j,?_,H,by rw [B];simp,λm hm=>?_⟩
 ·have z:h_ (gX c)<=128 * 1:=by
   have:=rE (vs:=gX c) λv aj=>by
    rcases dy.1 aj with rfl | aj
    ·have O:(cS 0 49 0 (ia c)).v.pieces=[(((49:Nat):Int),1)]:=lg (m:=0) (a:=49);rw [O];simp
    ·cases aj
   exact this
  omega
 ·have t:Ls.getD m []=(((ns.set 0 ((ns.getD 0 bp).eU 49 0 (ia c))).getD m bp).words.drop 48).take 120:=by rw [B,he,cK,eL,lA hm];rfl
  have hlen:=(l _ (cj (jF (by omega:m<_)))).len;rw [t];refine ⟨by simp only [gR,jY];omega,λi K A=>?_⟩;rw [<-b m (48+i) hm (by omega)];unfold aH.get;rw [cK,jX,if_pos K,kW,<-cK]
theorem JZ (aJ:dP E) (p:1<=c/\c<6) {ns:List aH} (Z:ns.length=E.n) (Um:∀ x ∈ ns,cQ E.L false x) (Ul:(ns.getD 0 bp).get 49=0) :
  ∃ k ns' G' Ls dE,Lone dr.conv c E.n E.L (.inr (bV E c)) k ns [] (.inr ⟨0,dE.1,dE.2,iv E.L ((ns.getD 0 bp).get 32) Ls,0⟩) ns' G'/\k<=15000/\dE=(eC (bV E c) (bb 0) Ls []).1/\Ls.length=E.n/\∀ m,m<E.n->(Ls.getD m []).length=120/\∀ i,i<120->i≠1->(Ls.getD m []).getD i 0=(ns.getD m bp).get (48+i):=by
 have z:=aJ.e.n;have Us:=aJ.e.L;have Ui:=aJ.q0;have j:1<=E.L/\E.L<=256:=by omega
 have b:∀ m,m<E.n->cQ E.L false (ns.getD m bp):=λm hm=>Um _ (cj (jF (by omega)))
 have q:∀ v ∈ il E.n,et E.n E.L v:=λv aj=>by obtain ⟨m,hm,rfl⟩:=cD.1 aj;exact x0 (by omega) (dS.1 hm) j (by omega) (by omega) (by omega) (by omega)
 obtain ⟨K,u⟩:=x4 (c:=c) (ns:=ns) (vs:=il E.n) λv aj=>by
  have y:=q v aj;obtain ⟨m,hm,rfl⟩:=cD.1 aj;have hm:=dS.1 hm;refine ⟨by show (m:Int).toNat<ns.length;omega,?_,?_⟩
  ·show hY c _ (ns.getD m bp);exact tu (by omega) (b m hm) p y (tr (m:=m) (a:=24))
  ·exact (tt (m:=m) (x:=ns.getD m bp) (a:=24)).1
 have C:∀ m,m<E.n->dB (c_ m 24 1) (ns.getD (c_ m 24 1).node.toNat bp)=⟨0,((ns.getD m bp).words.drop 24).take 1⟩:=λm hm=>(tt (m:=m) (x:=ns.getD m bp) (a:=24)).2
 have F:Fit (il E.n) ((il E.n).map λv=>dB v (ns.getD v.node.toNat bp)):=xt λv aj=>by obtain ⟨m,hm,rfl⟩:=cD.1 aj;have hm:=dS.1 hm;rw [C m hm];refine ⟨rfl,?_⟩;have:=(b m hm).len;simp only [gR,jY];show ((min 1 _:Nat):Int)=(1:Int);omega
 generalize V:((il E.n).map λv=>dB v (ns.getD v.node.toNat bp))=D at F u;have G:∀ i,i<E.n->dv D i=1:=λi d=>by
  have h:D[i]?=some ⟨0,((ns.getD i bp).words.drop 24).take 1⟩:=by rw [<-V,eL];unfold il;rw [eL,lA d];exact congrArg some (C i d)
  unfold dv;rw [cK,h];show (((ns.getD i bp).words.drop 24).take 1).headD 0=1;rw [zJ];exact (b i d).d0
 have A:th E.n D=List.range E.n:=List.filter_eq_self.2 λi d=>by rw [G i (dS.1 d)];rfl
 have J:Kp E c ([]++[D]) (pF E c (List.range E.n)):=El.next λX=>by rw [My z.1 F (λi d=>.inl (G i d)),A]
 have s:List.range E.n≠[]:=λe=>by have:=congrArg List.length e;simp at this <;> omega
 have r:∀ v ∈ ga (List.range E.n),et E.n E.L v:=λv aj=>by obtain ⟨m,hm,rfl⟩:=cD.1 aj;exact sg (by omega) (dS.1 hm) j (by omega) (by omega)
 obtain ⟨b1,az,M,Up⟩:=In (c:=c) (ns:=ns) (vs:=ga (List.range E.n)) (by
  have:(ga (List.range E.n)).map (λv=>v.node.toNat)=List.range E.n:=by unfold ga;rw [jZ];exact List.map_id' _
  rw [this];exact List.nodup_range) (λv aj=>by
  obtain ⟨m,hm,rfl⟩:=cD.1 aj;have hm:=dS.1 hm;show (m:Int).toNat<ns.length;omega) (λv aj=>by
  have y:=r v aj;obtain ⟨m,hm,rfl⟩:=cD.1 aj;exact tu (by omega) (b m (dS.1 hm)) p y (lg (m:=m) (a:=24)))
 have H:∀ m,m<E.n->dB (cS m 24 1 2) (ns.getD (cS m 24 1 2).node.toNat bp)=⟨0,[1]⟩:=λm hm=>by have h:=(kR (m:=m) (x:=ns.getD m bp) (a:=24) (o:=1) (w:=2)).2;rw [show (ns.getD m bp).get 24=1 from (b m hm).d0] at h;exact h
 have N:Fit (ga (List.range E.n)) (ct ns (ga (List.range E.n))).2:=by
  rw [az];exact xt λv aj=>by obtain ⟨m,hm,rfl⟩:=cD.1 aj;rw [H m (dS.1 hm)];exact ⟨rfl,rfl⟩
 have O:∀ i,i<(List.range E.n).length->dv (ct ns (ga (List.range E.n))).2 i=1\/dv (ct ns (ga (List.range E.n))).2 i=2:=λi d=>by
  rw [mj] at d;refine .inl ?_;have h:(ct ns (ga (List.range E.n))).2[i]?=some ⟨0,[1]⟩:=by rw [az,eL];unfold ga;rw [eL,lA d];exact congrArg some (H i d)
  unfold dv;rw [cK,h];rfl
 have Uo:=J.next (Mz s N O);have hlen:=(hx (ga (List.range E.n)) ns).1;have l:∀ m,m<E.n->(ct ns (ga (List.range E.n))).1.getD m bp=(ns.getD m bp).eU 24 1 2:=λm hm=>by have h:=M (cS m 24 1 2) (o5 (f:=λm=>cS m 24 1 2) (dS.2 hm));have h:(ct ns (ga (List.range E.n))).1[m]?=some (df (cS m 24 1 2) (ns.getD m bp)):=h;rw [lW h];exact (kR (m:=m) (x:=ns.getD m bp) (a:=24) (o:=1) (w:=2)).1
 have g:∀ m a,m<E.n->a≠24->((ct ns (ga (List.range E.n))).1.getD m bp).get a=(ns.getD m bp).get a:=λm a hm W=>by rw [l m hm];exact (Ct (b m hm)).2 a W
 have B:∀ x ∈ (ct ns (ga (List.range E.n))).1,cQ E.L true x:=λx hm=>by obtain ⟨m,hm⟩:=gh.1 hm;have Uj:=cz hm;have e:=lW hm;rw [<-e,l m (by omega)];exact (Ct (b m (by omega))).1
 obtain ⟨k,ns',G',Ls,dE,t,Ur,T,U,I⟩:=NZ aJ p Uo (by rw [hlen];exact Z) B (by rw [g 0 49 (by omega) (by omega)];exact Ul) (by simp);rw [g 0 32 (by omega) (by omega)] at t;have Un:(ga (List.range E.n)).length=E.n:=by unfold ga;simp
 have Y:(il E.n).length=E.n:=by unfold il;simp
 have S:=J.q1 aJ p (MY s) (λe=>by have:=congrArg List.length e;simp only [nZ] at this;omega) (by omega) (kw rfl (by omega) r) b1 (by simp) t;have P:(ct ns (il E.n)).1=ns:=by rw [u]
 have Q:(ct ns (il E.n)).2=D:=by rw [u]
 have R:=(El (E:=E) (c:=c)).q1 aJ p (MX z.1) (yi z.1) (by omega) (kw rfl (by omega) q) K (by simp) (by rw [P,Q];exact S);refine ⟨_,ns',G',Ls,dE,R,?_,T,U,λm hm=>⟨(I m hm).1,λi d t=>?_⟩⟩
 ·have b8:=rE (vs:=il E.n) λv aj=>by obtain ⟨m,hm,rfl⟩:=cD.1 aj;exact CC (by omega)
  have Uq:=rE (vs:=ga (List.range E.n)) λv aj=>by obtain ⟨m,hm,rfl⟩:=cD.1 aj;have Uk:(cS m 24 1 2).v.pieces=[(((24:Nat):Int),1)]:=lg (m:=m) (a:=24);rw [Uk];simp
  omega
 ·rw [(I m hm).2 i d t,g m _ hm (by omega)]
end
end
end Go.Proofs.YtmkljjbioomepaaGreat
