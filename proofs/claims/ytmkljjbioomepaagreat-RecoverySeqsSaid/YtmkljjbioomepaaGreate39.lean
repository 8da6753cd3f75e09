import Derived.Test.YtmkljjbioomepaaGreate38
import Derived.Test.YtmkljjbioomepaaGreate37
set_option linter.all false
set_option maxHeartbeats 4000000
set_option maxRecDepth 100000
namespace Go.Proofs.YtmkljjbioomepaaGreat
open Go.Proofs.Tryz Go.bn
variable {L a c m n:Nat} {b:Int} {e4:Bool} {ws:a4}
section
open dq dr
def q7 (last:Int):Int:=if last=0 then 0 else eg last
structure pa (last seq:Int) (L:a4):Prop where
 Ew:L.getD 0 0=q7 last\/L.getD 0 0=eg seq/\L.getD 8 0=seq
 aA:L.getD 8 0=last\/L.getD 8 0=seq
section
variable {last seq lines:Int} {L:a4} {Ls:List a4}
theorem Bm (h:fx L lines=true):(cI L lines).1=L.getD 8 0:=by have hw:=h;unfold fx at hw;simp only [eH,decide_eq_true_eq,beq_iff_eq] at hw;unfold cI d';rw [if_pos h,if_pos hw.2];show (L.drop 8).getD 0 0=_;rw [cK,kW,<-cK]
theorem Bn (b:pa last seq L) (h:fx L lines=true):(cI L lines).1=last/\1<=last\/(cI L lines).1=seq:=by
 have a:=zG h;rw [Bm h] at a ⊢;rcases b.aA with e | e
 ·exact .inl ⟨e,by omega⟩
 ·exact .inr e
theorem Mh (a:pa last seq L) (b:0<=last) (c:last<seq) (d:seq<1073741824) (h:(g9 (L.getD 0 0)).2=true):(g9 (L.getD 0 0)).1<=seq:=by
 rcases a.Ew with e | ⟨e,_⟩
 ·rw [e];unfold q7;split
  ·rw [J4];show (0:Int)<=seq;omega
  ·rw [Ba (by omega)];show last<=seq;omega
 ·rw [e,Ba (by omega)];exact Int.le_refl _
theorem Dz {a c:Int} (d:a<=c) (e:b<=c):j_ a b<=c:=by unfold j_;split<;>omega
theorem yb {a:Int}:a<=j_ a b/\b<=j_ a b:=by unfold j_;split<;>omega
theorem DA (b:pa last seq L) (d:0<=last) (f:last<seq) (i:seq<1073741824) {g:Int} (c:g<=seq):g<=fP lines g L/\fP lines g L<=seq:=by
 unfold fP;have hm:=Mh b d f i;have a:g<=(if (g9 (L.getD 0 0)).2=true then j_ g (g9 (L.getD 0 0)).1 else g)/\(if (g9 (L.getD 0 0)).2=true then j_ g (g9 (L.getD 0 0)).1 else g)<=seq:=by
  split
  ·rename_i h;exact ⟨yb.1,Dz c (hm h)⟩
  ·exact ⟨Int.le_refl _,c⟩
 simp only;split
 ·rename_i hw;have hle:(cI L lines).1<=seq:=by
   rcases Bn b hw with ⟨e,_⟩ | e
   ·omega
   ·omega
  exact ⟨tO a.1 yb.1,Dz a.2 hle⟩
 ·exact a
theorem xu (f:0<=last) (i:last<seq) (j:seq<1073741824):∀ (Ls:List a4) (g:Int),(∀ L ∈ Ls,pa last seq L)->g<=seq->g<=Ls.foldl (fP lines) g/\Ls.foldl (fP lines) g<=seq
 | [],g,_,e=>⟨Int.le_refl _,e⟩
 |L::Ls,g,h,e=>by obtain ⟨a,b⟩:=DA (lines:=lines) (h L d_) f i j e;obtain ⟨c,d⟩:=xu f i j Ls (fP lines g L) (λM k=>h M (e2 _ k)) b;exact ⟨tO a c,d⟩
theorem CD (d:0<=last) (e:last<seq) (f:seq<1073741824):∀ (Ls:List a4) (g:Int),(∀ L ∈ Ls,pa last seq L)->g<=seq->∀ L ∈ Ls,fx L lines=true->(cI L lines).1<=Ls.foldl (fP lines) g
 | [],g,_,j,L,c,_=>nomatch c
 |M::Ls,g,h,j,L,c,hw=>by
  obtain ⟨a,b⟩:=DA (lines:=lines) (h M d_) d e f j;rw [List.foldl_cons];rcases dy.1 c with rfl | c
  ·refine tO ?_ (xu d e f Ls _ (λN i=>h N (e2 _ i)) b).1;unfold fP;simp only;rw [if_pos hw];exact yb.2
  ·exact CD d e f Ls _ (λN i=>h N (e2 _ i)) b L c hw
theorem Az:∀ (Ls:List a4) (b:(Int×List aR)×Bool),b.2=true->(Ls.foldl (iN lines) b).2=true
 | [],b,h=>h
 |L::Ls,b,h=>by
  refine Az Ls _ ?_;unfold iN;split
  ·rfl
  ·exact h
theorem AA:∀ (Ls:List a4) (b:(Int×List aR)×Bool),(b.2=false->b.1.1=0)->(Ls.foldl (iN lines) b).2=false->∀ L ∈ Ls,hF L lines=false
 | [],b,_,_,L,d=>nomatch d
 |M::Ls,b,g,h,L,d=>by
  have a:(iN lines b M).2=false:=by
   cases e:(iN lines b M).2 with
   |false=>rfl
   |true=>have h:(Ls.foldl (iN lines) (iN lines b M)).2=false:=h;rw [Az Ls _ e] at h;cases h
  have c:¬ (hF M lines=true/\(fB M lines).1>b.1.1):=λf=>by unfold iN at a;rw [if_pos f] at a;cases a
  have e:iN lines b M=b:=if_neg c;rw [e] at a;rcases dy.1 d with rfl | d
  ·cases f:hF L lines with
   |false=>rfl
   |true=>obtain ⟨hw,he⟩:=zv f;have:=zG hw;exact absurd ⟨f,by rw [he,g a];omega⟩ c
  ·refine AA Ls b g ?_ L d;have h:(Ls.foldl (iN lines) (iN lines b M)).2=false:=h;rwa [e] at h
theorem IK (c:pa last seq L) (hw:fx L lines=true) (a:hF L lines=false):(cI L lines).1=seq:=by
 rcases Bn c hw with ⟨e,f⟩ | e
 ·have hm:eg (cI L lines).1≠L.getD 0 0:=λh=>by unfold hF at a;rw [hw,beq_iff_eq.2 h] at a;cases a
  rcases c.Ew with b | ⟨b,d⟩
  ·refine absurd ?_ hm;rw [e,b];unfold q7;rw [if_neg (by omega)]
  ·rw [Bm hw];exact d
 ·exact e
theorem K1 {j:bz} {m:aO} {clk:Int} (h:0<=last) (i:last<seq) (k:seq<1073741824) (l:clk=last\/clk=seq) (e:∀ L ∈ Ls,pa last seq L) (g:Ls≠[]) (X:List (List aC)):(last<iv j.lines clk Ls/\iv j.lines clk Ls<=seq+1)/\((eC j m Ls X).1.1=3->(eC j m Ls X).1.2=seq/\iv j.lines clk Ls=seq+1):=by
 have o:ir clk=clk:=by unfold ir;exact if_neg (by omega)
 obtain ⟨a,b⟩:=xu (lines:=j.lines) h i k Ls clk e (by omega);have q:iv j.lines clk Ls=Ls.foldl (fP j.lines) clk+1:=by unfold iv;rw [o]
 refine ⟨⟨by omega,by omega⟩,λt=>?_⟩
 by_cases d:(dG j.lines Ls).2=true
 ·have:(eC j m Ls X).1.1=2:=by unfold eC;rw [if_pos d]
  omega
 ·have f:(dG j.lines Ls).2=false:=by simpa using d
  by_cases hw:fx (Ls.getD 0 []) j.lines=true
  ·have he:(eC j m Ls X).1.2=(cI (Ls.getD 0 []) j.lines).1:=by unfold eC;rw [if_neg d,if_pos hw]
   have c:Ls.getD 0 [] ∈ Ls:=by
    cases Ls with
    |nil=>exact absurd rfl g
    |cons M s=>exact d_
   have p:=AA Ls ((0,[]),false) (λ_=>rfl) f _ c;have r:=IK (e _ c) hw p;have n:=CD (lines:=j.lines) h i k Ls clk e (by omega) _ c hw;exact ⟨by rw [he,r],by omega⟩
  ·have:(eC j m Ls X).1.1=1:=by unfold eC;rw [if_neg d,if_neg hw]
   omega
end
end
section
open dq dr
theorem Ho {x:aH} {u v:a4} (h:a<=x.words.length):(x.write a u).write (a+u.length) v=x.write a (u++v):=by
 have b:(x.words.take a++u++x.words.drop (a+u.length)).take (a+u.length)=x.words.take a++u:=by rw [List.take_append_of_le_length (by simp;omega),gb (by simp;omega)]
 have c:(x.words.take a++u++x.words.drop (a+u.length)).drop (a+u.length+v.length)=x.words.drop (a+(u++v).length):=by rw [List.drop_append,wV (by simp;omega),m4,tR];congr 1;simp;omega
 unfold aH.write;simp only;rw [b,c,jW (x.words.take a) u v]
theorem J0 {x:aH}:x.write a []=x:=by unfold aH.write;simp
section
variable {n L c m:Nat} {x:aH}
theorem EQ (e:Nat) (b:a % 8=0):(b5 m a ws).v.pieces[e]?=if 8 * (e:Int)<ws.length then some ((a:Int)+8 * e,if 8<(ws.length:Int) - 8 * e then 8 else (ws.length:Int) - 8 * e) else none:=by have h:(b5 m a ws).v.pieces=gI (b5 m a ws).v.count.toNat a ws.length:=rfl;rw [h];exact ua _ (a:Int) (ws.length:Int) (by omega) (by show (ws.length:Int)<=((ws.length:Int).toNat:Int);omega) e
theorem xv (c:a % 8=0) (e:Nat):e<(b5 m a ws).v.pieces.length↔8 * e<ws.length:=by
 have h:=EQ (m:=m) (ws:=ws) e c;by_cases b:8 * (e:Int)<ws.length
 ·rw [if_pos b] at h;have:=cz h;omega
 ·rw [if_neg b] at h;have:=wX.1 h;omega
theorem x6 {a:Nat} {ws:a4} (b:a % 8=0) (h:a+ws.length<=x.words.length):∀ e,e<=(b5 m a ws).v.pieces.length->eJ (b5 m a ws) x e=(x.write a (ws.take (8 * e)),[])
 | 0,_=>by show (x,([]:a4))=_;rw [Nat.mul_zero,List.take_zero,J0]
 |e+1,he=>by
  have j:=(xv (m:=m) (ws:=ws) b e).1 (by omega);have c:=EQ (m:=m) (ws:=ws) e b;rw [if_pos (by omega)] at c;unfold eJ;rw [x6 b h e (by omega),cK,c];simp only [Option.getD_some];have i:∀ (pc:Int×Int) (y:aH),exec (b5 m a ws) pc y=(y.write pc.1.toNat ((ws.drop (pc.1 - a).toNat).take pc.2.toNat),[]):=λpc y=>by unfold exec;rw [if_neg (show ¬ (b5 m a ws).kind=1 by show ¬ ((2:Int)=1);omega),if_pos (show (b5 m a ws).kind=2 from rfl)];rfl
  rw [i];simp only [g_];congr 1;have d:((a:Int)+8 * (e:Int)).toNat=a+(ws.take (8 * e)).length:=by simp;omega
  have f:((a:Int)+8 * (e:Int) - a).toNat=8 * e:=by omega
  rw [d,f,Ho (by omega)];congr 1;have g:ws.take (8 * (e+1))=ws.take (8 * e)++(ws.drop (8 * e)).take 8:=by rw [show 8 * (e+1)=8 * e+8 by omega,List.take_add]
  rw [g];congr 1;split
  ·rfl
  ·rw [gb (by simp;omega),gb (by simp;omega)]
theorem ss (b:a % 8=0) (e:a+ws.length<=x.words.length):df (b5 m a ws) x=x.write a ws/\dB (b5 m a ws) x=⟨0,[]⟩:=by
 unfold df dB;rw [x6 b e _ (dd _)];have d:ws.length<=8 * (b5 m a ws).v.pieces.length:=by
  by_cases c:8 * (b5 m a ws).v.pieces.length<ws.length
  ·have:=(xv (m:=m) b _).2 c;omega
  ·omega
 simp only;rw [gb d];exact ⟨rfl,trivial⟩
theorem Cu (d:n<=5) (f:cQ L e4 x) {v:aG} (aj:et n L v) {p:cF} (e:p.aP=(c:Int)) (b:p.inc=1) (a:c<6) (aA:¬ (e4=true/\c=0)):p.refusal v x=0:=by rw [xZ f d aj e b a,if_neg aA];split<;>rfl
theorem xi (b:cQ L e4 x) (c:30<=a) (f:a+ws.length<=L * 8):cQ L e4 (x.write a ws):=by have hlen:=b.len;have d:pk a ws.length x (x.write a ws):=⟨zP (by omega),rfl,λi e=>by rw [rf (by omega),if_neg (by omega)]⟩;exact d.aZ b c
theorem N0 (j:n<=5) (f:cQ L e4 x) (g:c<6) (aA:¬ (e4=true/\c=0)) (aj:et n L (b5 m a ws)) (d:a % 8=0) (b:30<=a) (l:1<=ws.length) (i:a+ws.length<=L * 8):hY c (b5 m a ws) x:=by refine ⟨(xv d 0).2 (by omega),λp e k h he=>?_⟩;rw [x6 d (by rw [f.len];exact i) e (by omega)];exact Cu j (xi f b (by rw [gR];omega)) aj k h g aA
theorem Mi {v:aG} {pc:Int×Int} (f:n<=5) (h:cQ L e4 x) (b:c<6) (aA:¬ (e4=true/\c=0)) (aj:et n L v) (a:v.v.pieces=[pc]):hY c v x:=by refine ⟨by rw [a];simp,λp e g d he=>?_⟩;rw [a] at he;simp at he;subst he;exact Cu f h aj g d b aA
end
end
section
open dq
structure k2 (E:Env) (last:Int) (bK:Nat) (x:aH):Prop where
 aZ:cQ E.L false x
 rG:x.get 49=0
 s0:x.get 48=q7 last\/(x.get 48=zk E/\2<=bK/\bK<=6)
 kz:x.get 56=gP E\/((bK=0\/bK=8)/\x.get 56=last)
 lL:x.get 32=last\/x.get 32=gP E
def Da (E:Env) (g:lC) (x:aH):Prop:=∀ (q:Nat) (p:aR),(gu E)[q]?=some p->(g.cq q=none->x.get (gD p * 8)=p.Head)/\∀ d,g.cq q=some d->e5 d=p.Head
structure jy (E:Env) (last:Int) (K:Nat->Option bf) (F:aB) (g:lC):Prop where
 fg:cb F
 lines:F.lines=E.L
 len:F.nodes.length=E.n
 mem:∀ (m:Nat) (x:aH),F.nodes[m]?=some x->k2 E last g.bK x
 yw:g.bK=0->∀ (m:Nat) (x:aH),F.nodes[m]?=some x->(∀ d,g.cq m=some d->x.get 56=gP E)/\∀ (C:bf) (l:cH),F.aU[0]?=some C->C.ay[m]?=some l->l.pair.bO≠0->x.get 56=gP E
 aA:∀ x,F.nodes[0]?=some x->(g.bK=0\/g.bK=8->∀ p ∈ gu E,x.get (gD p * 8)=p.Head)/\(g.bK=1->Da E g x)
 res:∀ (q:Nat) (d:aC),g.cq q=some d->∃ v,(eG E g.bK)[q]?=some v/\d.code=0/\(d.words.length:Int)=v.v.g7
 cg:∃ C,F.aU[0]?=some C/\ni E.n C/\(g.bK<=4->iE C (eG E g.bK) g.cq)/\(5<=g.bK->C.batch=none/\t7 C)
 vV:∀ k,k≠0->F.aU[k]?=K k
section
variable {E:Env} {last:Int} {K:Nat->Option bf} {F cw:aB} {g:lC}
theorem k2.fO {bK:Nat} {x jc:aH} (h:k2 E last bK x) (e:cQ E.L false jc) (a:jc.get 32=x.get 32) (b:jc.get 48=x.get 48) (c:jc.get 49=x.get 49) (d:jc.get 56=x.get 56):k2 E last bK jc:=
 ⟨e,c.trans h.rG,by rw [b];exact h.s0,by rw [d];exact h.kz,by rw [a];exact h.lL⟩
theorem Mj (aJ:dP E) (UW:fN 0 F) (h:jy E last K F g) {i:Nat} (UE:i=0) (UP:ft i m F=some cw):∃ j,jy E last K cw j/\j.bK=g.bK:=by
 subst UE;obtain ⟨C,l,x,Uk,R,O,aj,J⟩:=jk.1 UP;have M:=h.fg.ft UP;have Z:=cz Uk;have S:l.pair.a6≠[]:=λe=>aj (by rw [e];rfl)
 have UJ:=aJ.e.n;have P:cw.aU[0]?=some (C.comes m l (l.pair.step x).1 (l.pair.step x).2.2):=by rw [J];exact ei Z
 have Ur:∀ k,k≠0->cw.aU[k]?=F.aU[k]?:=λk Uj=>by rw [J];exact gg (λe=>Uj e.symm)
 have z:cw.nodes=F.nodes.set m (l.pair.step x).2.1:=by rw [J]
 obtain ⟨U2,UQ,UR,UY,UZ⟩:=h.cg;rw [Uk] at UQ;cases UQ;have UK:g.bK<=4:=by
  refine Nat.le_of_not_lt λZ=>?_
  exact S ((UZ Z).2 m l R)
 have W:=UY UK;obtain ⟨v,hJ,q,cn,aA⟩:=Oc h.fg Uk UR R O S W;obtain ⟨UD,UG⟩:=Cx aJ aA.at_;have b:=h.mem m x O;have UT:m<E.n:=by have:=cz O;rw [h.len] at this;exact this
 have s:=xZ b.aZ UJ.2 UD (p:=l.pair) (c:=0) aA.pc aA.pi (by omega);rw [if_neg (λe=>UG e.2),if_neg (λe=>by cases e.1)] at s;have UX:=b.aZ.len;have US:=aJ.q0;have f:=aA.at_;have mk:∀ j:lC,j.bK=g.bK->k2 E last g.bK (l.pair.step x).2.1->iE (C.comes m l (l.pair.step x).1 (l.pair.step x).2.2) (eG E g.bK) j.cq->(∀ (q:Nat) (d:aC),j.cq q=some d->∃ v,(eG E g.bK)[q]?=some v/\d.code=0/\(d.words.length:Int)=v.v.g7)->
   (g.bK=0->(l.pair.step x).2.1.get 56=gP E/\∀ t,t≠m->∀ d,j.cq t=some d->g.cq t=some d)->(m=0->(g.bK=0->∀ p ∈ gu E,(l.pair.step x).2.1.get (gD p * 8)=p.Head)/\(g.bK=1->Da E j (l.pair.step x).2.1))->(g.bK=1->m=0)->∃ j,jy E last K cw j/\j.bK=g.bK:=by
  intro j r hm UN UV Ux Q U;refine ⟨j,⟨M,by rw [J];exact h.lines,by rw [z,je];exact h.len,λt y u=>?_,λe=>?_,λy u=>?_,by rw [r];exact UV,⟨_,P,UR.comes R x,λ_=>by rw [r];exact UN,λe=>absurd e (by omega)⟩,λk Uj=>(Ur k Uj).trans (h.vV k Uj)⟩,r⟩
  ·rw [r];rw [z] at u;by_cases e:m=t
   ·subst e;rw [ei (cz O)] at u;cases u;exact hm
   ·rw [gg e] at u;exact h.mem t y u
  ·rw [r] at e;intro t y u;rw [z] at u;obtain ⟨Ui,Uv⟩:=Ux e;by_cases em:m=t
   ·subst em;rw [ei (cz O)] at u;cases u;exact ⟨λ_ _=>Ui,λ_ _ _ _ _=>Ui⟩
   ·rw [gg em] at u;obtain ⟨f1,f2⟩:=h.yw e t y u;refine ⟨λd UC=>f1 d (Uv t (λe=>em e.symm) d UC),λU3 l2 Ul Uo UL=>?_⟩;rw [P] at Ul;cases Ul;rw [ld (λe=>em e.symm)] at Uo;exact f2 C l2 Uk Uo UL
  ·rw [z] at u;rw [r];by_cases em:m=0
   ·subst em;rw [ei (cz O)] at u;cases u;obtain ⟨f1,f2⟩:=Q rfl;exact ⟨λe=>f1 (by omega),f2⟩
   ·rw [gg em] at u;obtain ⟨f1,f2⟩:=h.aA y u;exact ⟨f1,λe=>absurd (U e) em⟩
 have fin:∀ {ws:a4},(l.pair.step x).1=l.pair.done->(l.pair.step x).2.2=some ⟨0,ws⟩->iE (C.comes m l (l.pair.step x).1 (l.pair.step x).2.2) (eG E g.bK) (mY g.cq q ⟨0,ws⟩):=λ{ws} U Uu=>by rw [U,Uu];exact W.done aA.lane aA.iU (by show l.pair.a6.tail=hJ;rw [aA.iU];rfl) aA.pl _
 have rs:∀ {ws:a4},(ws.length:Int)=v.v.g7->∀ (q':Nat) (d:aC),mY g.cq q ⟨0,ws⟩ q'=some d->∃ v,(eG E g.bK)[q']?=some v/\d.code=0/\(d.words.length:Int)=v.v.g7:=λ{ws} hw q' d e=>by
  rcases xf e with ⟨rfl,rfl⟩ | ⟨_,e⟩
  ·exact ⟨v,f,rfl,hw⟩
  ·exact h.res q' d e
 have one:∀ {a:Nat} {ws:a4},v=b5 m (a:Int) ws->a % 8=0->ws.length<=8->a+ws.length<=x.words.length->l.pair.step x=(l.pair.done,x.write a ws,some ⟨0,[]⟩):=λ{a ws} e UA Uz R=>by have H:=aA.iU;rw [e] at H s;exact Ob aA.ca H s UA (aA.pA _ _ H rfl) R Uz
 have wr:∀ {a:Nat} {ws:a4},v=b5 m (a:Int) ws->a % 8=0->ws.length<=8->a+ws.length<=x.words.length->2<=g.bK->30<=a->(∀ y,y=x.write a ws->cQ E.L false y->(∀ i,y.get i=if a<=i/\i<a+ws.length then ws.getD (i - a) 0 else x.get i)->k2 E last g.bK y)->∃ j,jy E last K cw j/\j.bK=g.bK:=λ{a ws} e UA Uz R Uu Uy Uj=>by have o:=one e UA Uz R;refine mk ⟨g.bK,mY g.cq q ⟨0,[]⟩⟩ rfl (by rw [o];exact Uj _ rfl (xi b.aZ Uy (by omega)) (rf R)) (fin (by rw [o]) (by rw [o])) (rs (by rw [e];rfl)) (λe=>by omega) (λ_=>⟨λe=>by omega,λe=>by omega⟩) λe=>by omega
 obtain e | e | e | e:g.bK=0\/g.bK=1\/g.bK=2\/3<=g.bK:=by omega
 ·
  rw [e] at f
  simp only [eG,eL] at f
  obtain ⟨t,G,rfl⟩:=nW.1 f
  have UI:t=q:=by have UO:=cz G;rw [mj] at UO;rw [lA UO] at G;exact (p_ G).symm
  subst UI;have X:t=m:=by have:=aA.nd;simp [b5] at this;exact this
  subst X;have UN:=aJ.yx;obtain ⟨s1,s2,Ut,U0,U1⟩:=Dh (a:=56) aA.ca aA.iU s (by omega) (aA.pA _ _ aA.iU rfl) (by omega);have V:(l.pair.step x).2.1.get 56=gP E:=by
   refine U0 0 (by omega) ?_;by_cases Ux:l.pair.bO=0
   ·exact .inl (by omega)
   ·exact .inr (((h.yw e t x O).2 C l Uk aA.lane Ux))
  have Up:k2 E last g.bK (l.pair.step x).2.1:=⟨Ut.aZ b.aZ (by omega),by rw [Ut.get _ (by omega)];exact b.rG,by rw [Ut.get _ (by omega)];exact b.s0,.inl V,by rw [Ut.get _ (by omega)];exact b.lL⟩;have Un:t=0->(g.bK=0->∀ p ∈ gu E,(l.pair.step x).2.1.get (gD p * 8)=p.Head):=λT _ p r=>by have:=aJ.pl r;subst T;rw [Ut.get _ (by omega)];exact (h.aA x O).1 (.inl e) p r
  rcases U1 with ⟨t1,t2,t3⟩ | ⟨t1,t2,t3⟩
  ·exact mk g rfl Up (by rw [t2,t3];exact W.more aA.lane rfl) h.res (λ_=>⟨V,λ_ _ _ Q=>Q⟩) (λT=>⟨Un T,λUi=>by omega⟩) λUi=>by omega
  ·refine mk ⟨g.bK,mY g.cq t ⟨0,[]⟩⟩ rfl Up (fin t2 t3) (rs rfl) (λ_=>⟨V,λU5 Uu d Q=>?_⟩) (λT=>⟨Un T,λUi=>by omega⟩) λUi=>by omega
   rcases xf Q with ⟨I,_⟩ | ⟨_,I⟩
   ·exact absurd I Uu
   ·exact I
 ·
  rw [e] at f
  simp only [eG,eL] at f
  obtain ⟨p,r,rfl⟩:=nW.1 f
  have UF:m=0:=by have:=aA.nd;simp [cS] at this;exact this.symm
  subst UF;have Us:=cj r;have UH:=aJ.pl Us;have Y:=(h.aA x O).2 e;have Q:=(Y q p r).1 aA.cq;have H:l.pair.a6=cS 0 ((gD p * 8:Nat):Int) p.Head (eP p.Head 0)::hJ:=by rw [aA.iU,show p.bm * 8=((gD p * 8:Nat):Int) by omega]
  have o:=Nm (x:=x) aA.ca H (by rw [show p.bm * 8=((gD p * 8:Nat):Int) by omega] at s;exact s);rw [Q] at o;have Um:x.eU ((gD p * 8:Nat):Int) p.Head (eP p.Head 0)={ x with words:=x.words.set (gD p * 8) (eP p.Head 0) }:=by unfold aH.eU;rw [fT,if_pos Q]
  rw [Um] at o;have UM:=LC (n:=x) (a:=gD p * 8) (by omega) (eP p.Head 0);have B:pk (gD p * 8) 1 x { x with words:=x.words.set (gD p * 8) (eP p.Head 0) }:=⟨by simp,rfl,λi U4=>by rw [UM,if_neg (by omega)]⟩;refine mk ⟨g.bK,mY g.cq q ⟨0,[p.Head]⟩⟩ rfl ?_ (fin (by rw [o]) (by rw [o])) (rs rfl) (λT=>by omega) (λ_=>⟨λT=>by omega,λ_=>?_⟩) λ_=>rfl
  ·rw [o];exact b.fO (B.aZ b.aZ (by omega)) (B.get _ (by omega)) (B.get _ (by omega)) (B.get _ (by omega)) (B.get _ (by omega))
  ·rw [o];intro q' p' A;refine ⟨λU=>?_,λd U=>?_⟩
   ·obtain ⟨I,Uw⟩:=KZ U;have UU:gD p'≠gD p:=λUv=>by
     have:=aJ.inj (cj A) Us Uv;subst this;have N:=aJ.bs.nodup;have i1:((gu E).map (·.bm))[q']?=some p'.bm:=by rw [eL,A];rfl
     have i2:((gu E).map (·.bm))[q]?=some p'.bm:=by rw [eL,r];rfl
     exact I ((List.getElem?_inj (cz i1) N).1 (i1.trans i2.symm))
    show ({ x with words:=x.words.set (gD p * 8) (eP p.Head 0) }:aH).get _=_;rw [UM,if_neg (by omega)];exact (Y q' p' A).1 Uw
   ·rcases xf U with ⟨I,Uw⟩ | ⟨_,I⟩
    ·subst I Uw;rw [r] at A;cases A;rfl
    ·exact (Y q' p' A).2 d I
 ·
  rw [e] at f
  simp only [eG,eL] at f
  obtain ⟨t,G,rfl⟩:=nW.1 f
  have X:t=m:=by have:=aA.nd;simp [b5] at this;exact this
  subst X;refine wr (a:=48) (ws:=[zk E]) rfl (by omega) (by simp) (by simp;omega) (by omega) (by omega) λy _ Uq D=>⟨Uq,?_,.inr ⟨?_,by omega,by omega⟩,?_,?_⟩
  ·rw [D,if_neg (by simp)];exact b.rG
  ·rw [D,if_pos (by simp)];rfl
  ·rw [D,if_neg (by simp)];exact b.kz
  ·rw [D,if_neg (by simp)];exact b.lL
 ·
  have fR:∀ {p:aR},p ∈ gu E->v=ep m p->∃ j,jy E last K cw j/\j.bK=g.bK:=λ{p} r bT=>by
   have UH:=aJ.pl r;refine wr (a:=gD p * 8) (ws:=hc p) (by rw [bT];show b5 m (p.bm * 8) (hc p)=_;rw [show p.bm * 8=((gD p * 8:Nat):Int) by omega]) (by omega) (by show 8<=8;omega) (by show gD p * 8+8<=_;omega) (by omega) (by omega) λy _ Uq D=>b.fO Uq ?_ ?_ ?_ ?_
   all_goals rw [D,if_neg (by omega)]
  have lL:v=b5 m 32 [gP E]->∃ j,jy E last K cw j/\j.bK=g.bK:=λbT=>by
   refine wr (a:=32) (ws:=[gP E]) bT (by omega) (by simp) (by simp;omega) (by omega) (by omega) λy _ Uq D=>⟨Uq,?_,?_,?_,.inr ?_⟩
   ·rw [D,if_neg (by simp)];exact b.rG
   ·rw [D,if_neg (by simp)];exact b.s0
   ·rw [D,if_neg (by simp)];exact b.kz
   ·rw [D,if_pos (by simp)];rfl
  have N:=aA.nd;obtain e | e:g.bK=3\/g.bK=4:=by omega
  ·rw [e] at f
   obtain ⟨t,G,w,UB⟩:=Df (show (j3 E (gu E))[q]?=some v from f);have:m=t+1:=by rw [<-N,w];simp
   subst this;rcases UB with ⟨p,r,bT⟩ | ⟨bT,_⟩
   ·exact fR r bT
   ·exact lL bT
  ·rw [e] at f
   obtain ⟨w,UB⟩:=Dg (show (lY E (gu E))[q]?=some v from f);have:m=0:=by rw [<-N,w];rfl
   subst this;rcases UB with ⟨_,bT⟩ | ⟨_,p,r,bT⟩
   ·exact lL bT
   ·exact fR r bT
end
end
section
open dq
structure od (E:Env) (g:lC) (t:jf):Prop where
 cC:t.aP=((0:Nat):Int)
 bs:t.bs=.inl (E.a8 0)
 run:g.bK<=4->t.e0=false/\kv E g.bK t.a7/\(g.bK=3->1<E.n)/\t.a7.length<=g.bK
 fin:g.bK=6->t.e0=true
 new:g.bK=8->t.e0=false/\t.a7=[]
 bK:g.bK<=4\/g.bK=6\/g.bK=8
section
variable {E:Env} {last:Int} {K:Nat->Option bf} {F cw:aB} {g:lC} {t:jf}
theorem k2.to {bK p:Nat} {x:aH} (h:k2 E last bK x) (c:2<=bK/\bK<=6->2<=p/\p<=6) (d:bK=0\/bK=8->x.get 56=gP E\/p=0\/p=8):k2 E last p x:=by
 refine ⟨h.aZ,h.rG,h.s0.imp id λe=>⟨e.1,c e.2⟩,?_,h.lL⟩;rcases h.kz with e | ⟨e,a⟩
 ·exact .inl e
 ·exact (d e).imp id λb=>⟨b,a⟩
def qD (E:Env) (last:Int) (K:Nat->Option bf) (F:aB) (t:jf):Prop:=∃ a,jy E last K (b4 F t).1 a/\od E a (b4 F t).2
theorem qz (aJ:dP E) (h:jy E last K F g) (o:od E g t) {C:bf} (b:F.aU[0]?=some C) (G:ni E.n C) (r:t7 C) (N:t.e0=false) {p:Nat} (z:p<=4) (a:p=3->1<E.n) (i:kv E p (g5 t C)) (J:(g5 t C).length<=p) (hm:∀ (m:Nat) (x:aH),F.nodes[m]?=some x->k2 E last p x) (I:p<=1->∀ x,F.nodes[0]?=some x->∀ p ∈ gu E,x.get (gD p * 8)=p.Head):qD E last K F t:=by
 have M:=aJ.e.n;have y:dr.conv.next t.bs (g5 t C)=(eG E p,.inl (0,0),false):=by rw [o.bs];show ((cX (E.a8 0) (g5 t C)).1,Sum.inl (cX (E.a8 0) (g5 t C)).2.1,(cX (E.a8 0) (g5 t C)).2.2)=_;rw [i.ask aJ z a];rfl
 have j:=uy aJ p z a;have f:∀ v ∈ eG E p,et E.n E.L v:=λv aj=>by obtain ⟨q,r⟩:=gh.1 aj;exact (Cx aJ r).1
 have B:=I2 (n:=E.n) (L:=E.L) b G.live (z6 h.fg b r) o.cC N (by omega) y j (Md aJ p) h.len M.2 h.lines f;have s:=JP h.fg b G r (vs:=eG E p) λv aj=>by have:=(f v aj).node;omega
 have H:=h.fg.b4 t;unfold qD;rw [B] at H ⊢;refine ⟨⟨p,q6⟩,⟨H,h.lines,h.len,hm,λ_ m x D=>⟨λd e=>(by cases e),λO l c u w=>?_⟩,λx D=>⟨λe=>I (by have:p=0\/p=8:=e;omega) x D,λe q p' A=>⟨λ_=>I (by have:p=1:=e;omega) x D p' (cj A),λd e=>(by cases e)⟩⟩,λq d e=>(by cases e),⟨_,xg b,s.base,λ_=>s.qH,λe=>absurd e (by show ¬ 5<=p;omega)⟩,λk i=>(Cz i).trans (h.vV k i)⟩,o.cC,o.bs,λ_=>⟨rfl,i,a,J⟩,λe=>by have:p=6:=e;omega,λe=>by have:p=8:=e;omega,.inl z⟩;rw [xg b] at c;cases c;exact absurd (s.zero m l u).1 w
theorem Cv (aJ:dP E) (h:jy E last K F g) (f:od E g t):qD E last K F t:=by
 have W:=aJ.e.n;obtain ⟨C,o,i,R,S⟩:=h.cg;rcases f.bK with I | e | e
 ·obtain ⟨r1,r,M,X⟩:=f.run I;have z:=R I;by_cases u:t7 C
  ·obtain ⟨ds,d1,d2,d3,d4⟩:=z.all u;have c:g5 t C=t.a7++[ds]:=by unfold g5;rw [d1]
   have j:∀ {q:Nat} {v:aG},(eG E g.bK)[q]?=some v->∃ d,g.cq q=some d/\ds[q]?=some d:=λ{q v} aj=>by obtain ⟨d,aA⟩:=d4 q (cz aj);exact ⟨d,aA,d3 q d aA⟩
   have a:Fit (eG E g.bK) ds:=⟨d2,λq v d aj aA=>by obtain ⟨N,w,y⟩:=j aj;rw [aA] at y;cases y;obtain ⟨Y,H,O⟩:=h.res q d w;rw [aj] at H;cases H;exact O⟩
   have hlen:(g5 t C).length<=g.bK+1:=by rw [c,c8,List.length_singleton];omega
   obtain e | e | e | e | e:g.bK=0\/g.bK=1\/g.bK=2\/g.bK=3\/g.bK=4:=by omega
   ·rw [e] at r a hlen;refine qz aJ h f o i u r1 (p:=1) (by omega) (by omega) (by rw [c];exact r.next aJ (by omega) (by omega) a (by omega)) hlen (λm x b=>(h.mem m x b).to (by omega) λ_=>.inl ?_) λ_ x b=>(h.aA x b).1 (.inl e)
    have hm:m<E.n:=by have:=cz b;rw [h.len] at this;exact this
    obtain ⟨d,w,_⟩:=j (q:=m) (v:=b5 m 56 (zj E)) (by rw [e];simp [eG,lA hm]);exact (h.yw e m x b).1 d w
   ·rw [e] at r a hlen;obtain ⟨G,D⟩:∃ G,F.nodes[0]?=some G:=⟨_,bM (by rw [h.len];omega)⟩;have A:=(h.aA G D).2 e;have Q:uQ E ds:=λq p d L aA=>by obtain ⟨N,w,y⟩:=j (q:=q) (v:=cS 0 (p.bm * 8) p.Head (eP p.Head 0)) (by rw [e];simp only [eG];rw [eL,L];rfl);rw [aA] at y;cases y;exact (A q p L).2 d w
    exact qz aJ h f o i u r1 (p:=2) (by omega) (by omega) (by rw [c];exact r.next aJ (by omega) (by omega) a (λ_=>Q)) hlen (λm x b=>(h.mem m x b).to (by omega) (by omega)) (by omega)
   ·rw [e] at r a hlen;have s:=r.next aJ (by omega) (by omega) a (by omega);rw [<-c] at s;by_cases P:E.n=1
    ·exact qz aJ h f o i u r1 (p:=4) (by omega) (by omega) (s.skip aJ P) (by omega) (λm x b=>(h.mem m x b).to (by omega) (by omega)) (by omega)
    ·exact qz aJ h f o i u r1 (p:=3) (by omega) (λ_=>by omega) s hlen (λm x b=>(h.mem m x b).to (by omega) (by omega)) (by omega)
   ·rw [e] at r a hlen M;exact qz aJ h f o i u r1 (p:=4) (by omega) (by omega) (by rw [c];exact r.next aJ (by omega) (λ_=>M rfl) a (by omega)) hlen (λm x b=>(h.mem m x b).to (by omega) (by omega)) (by omega)
   ·rw [e] at r a hlen;have s:=r.next aJ (by omega) (by omega) a (by omega);rw [<-c] at s;have B:dr.conv.next t.bs (g5 t C)=([],.inl (0,3),true):=by rw [f.bs];show ((cX (E.a8 0) (g5 t C)).1,Sum.inl (cX (E.a8 0) (g5 t C)).2.1,(cX (E.a8 0) (g5 t C)).2.2)=_;rw [s.done aJ];rfl
    have l:=I3 o i.live (z6 h.fg o u) f.cC r1 (by omega) B;have J:=h.fg.b4 t;unfold qD;rw [l] at J ⊢;exact ⟨⟨6,q6⟩,⟨J,h.lines,h.len,λm x b=>(h.mem m x b).to (λ_=>by show 2<=6/\6<=6;omega) (by omega),λe=>by have:6=0:=e;omega,λx b=>⟨λe=>by have:6=0\/6=8:=e;omega,λe=>by have:6=1:=e;omega⟩,λq d e=>(by cases e),⟨_,xg o,⟨i.inc,i.live,i.ay,i.pA⟩,λe=>by have:6<=4:=e;omega,λ_=>⟨rfl,u⟩⟩,λk s=>(Cz s).trans (h.vV k s)⟩,f.cC,f.bs,λe=>by have:6<=4:=e;omega,λ_=>rfl,λe=>by have:6=8:=e;omega,.inr (.inl rfl)⟩
  ·have l:b4 F t=(F,t):=wc (by rw [f.cC];exact I5 h.fg o u);unfold qD;rw [l];exact ⟨g,h,f⟩
 ·have l:b4 F t=(F,t):=by unfold b4;rw [if_pos (.inl (f.fin e))]
  unfold qD;rw [l];exact ⟨g,h,f⟩
 ·obtain ⟨lj,T⟩:=f.new e;obtain ⟨U,V⟩:=S (by omega);have c:g5 t C=[]:=by unfold g5;rw [U];exact T
  exact qz aJ h f o i V lj (p:=0) (by omega) (by omega) (by rw [c];exact O7) (by rw [c];exact dd _) (λm x b=>(h.mem m x b).to (by omega) λ_=>.inr (.inl rfl)) λ_ x b=>(h.aA x b).1 (.inr e)
theorem DB (aJ:dP E) (cs sch:a4):∀ (f n:Nat) {F:aB} {t:jf} {g:lC},ha 0 (F,t)->jy E last K F g->od E g t->∃ cw l o,gl cs sch [] f n F [t]=(cw,[l])/\ha 0 (cw,l)/\jy E last K cw o/\od E o l
 | 0,n,F,t,g,b,h,i=>⟨F,t,g,rfl,b,h,i⟩
 |f+1,n,F,t,g,b,h,i=>by
  have a:=b.b4;obtain ⟨q,p,c⟩:=Cv aJ h i;unfold gl;have u:iP F cs n []=F:=rfl;rw [u,AQ];rcases a.lp.fL sch n with ⟨d,_⟩ | ⟨j,cw,d,s⟩
  ·rw [d,if_neg (by simp)];exact ⟨_,_,q,rfl,a,p,c⟩
  ·rw [s,if_pos rfl];obtain ⟨r,w,e⟩:=Mj aJ a.lp p rfl d;have k:od E r (b4 F t).2:=⟨c.cC,c.bs,by rw [e];exact c.run,by rw [e];exact c.fin,by rw [e];exact c.new,by rw [e];exact c.bK⟩;exact DB aJ cs sch f (n+1) (ha.ft a d) w k
theorem K2 (aJ:dP E) (sch:a4) (most:Nat) (a:ha 0 (F,t)) (h:jy E last K F g) (k:od E g t):∃ cw b i,eX F [t] sch [] most=(cw,[b])/\ha 0 (cw,b)/\jy E last K cw i:=by obtain ⟨l,t1,n,c,d,e,f⟩:=DB aJ ([t].map bL.aP) sch most 0 a h k;obtain ⟨j,b1,az⟩:=Cv aJ e f;refine ⟨_,_,j,?_,d.b4,b1⟩;unfold eX;rw [c];rfl
theorem N2 (i:ha 0 (F,t)) (h:jy E last K F g):∃ b,F.die ((0:Nat):Int)=(true,b)/\cb b/\b.nodes=F.nodes/\b.lines=F.lines/\(∀ k,k≠0->b.aU[k]?=K k)/\∀ C ∈ (hT b).aU,∀ l ∈ C.ay,l.pair.a6=[]:=by
 obtain ⟨C,o,s,_⟩:=h.cg;have f:=cz o;have aA:F.die ((0:Nat):Int)=(true,{ F with bP:=F.bP++(C.ay.map cH.pair).filter (λp=>decide (0<p.a6.length)),aU:=F.aU.set 0 { C with alive:=false,ay:=[],batch:=none,waiting:=0 } }):=by unfold aB.die;rw [iw,o];simp only;rw [if_neg (by rw [s.live];simp),fT]
 have q:=h.fg.die ((0:Nat):Int);rw [aA] at q;have c:∀ k,k≠0->(F.aU.set 0 { C with alive:=false,ay:=[],batch:=none,waiting:=0 })[k]?=F.aU[k]?:=λk a=>gg λe=>a e.symm
 refine ⟨_,aA,q,rfl,rfl,λk a=>(c k a).trans (h.vV k a),λn d l r=>?_⟩;obtain ⟨k,a⟩:=gh.1 d;have a:(F.aU.set 0 { C with alive:=false,ay:=[],batch:=none,waiting:=0 })[k]?=some n:=a;by_cases e:k=0
 ·subst e;rw [ei f] at a;cases a;cases r
 ·rw [c k e] at a;obtain ⟨j,u⟩:=gh.1 r;exact i.lp.idle k n e a j l u
theorem Bo (d:cb F) (h:F.bP=[]) (e:∀ C ∈ F.aU,∀ l ∈ C.ay,l.pair.a6=[]) (c:Nat):fN c F:=by
 refine ⟨h,λi C _ a j l b=>e C (cj a) l (cj b),λC a=>⟨λj l b=>((d.ca.ok.aP c C a).lane j l b).bt,λi j l l' _ b _ k f=>?_⟩,λC a=>?_⟩
 ·have aj:=e C (cj a) l (cj b);have g:=((d.ca.ok.aP c C a).lane i l b).bt;rw [aj] at g;rw [nY.1 g] at f;cases f
 ·have:=(d.ca.ok.aP c C a).ay;rw [this];split<;>omega
end
end
section
open dq dr
theorem Cw {ns:List aH}:∀ {l:List (Nat×Int×Int)} {x:aH},ns[0]?=some x->(l.map (·.1)).Nodup->(ct ns (l.map λt=>cS 0 t.1 t.2.1 t.2.2)).2=l.map (λt=>⟨0,[x.get t.1]⟩)/\(ct ns (l.map λt=>cS 0 t.1 t.2.1 t.2.2)).1=ns.set 0 (l.foldl (λy t=>y.eU t.1 t.2.1 t.2.2) x)
 | [],x,c,_=>⟨rfl,by rw [List.foldl_nil];exact (iM c).symm⟩
 |t::l,x,c,d=>by
  rw [g',List.nodup_cons] at d;have j:0<ns.length:=cz c;have g:ns.getD 0 bp=x:=lW c;have f:=kR (m:=0) (x:=x) (a:=t.1) (o:=t.2.1) (w:=t.2.2);have k:(ns.set 0 (x.eU t.1 t.2.1 t.2.2))[0]?=some (x.eU t.1 t.2.1 t.2.2):=ei j;obtain ⟨a,b⟩:=Cw (ns:=ns.set 0 (x.eU t.1 t.2.1 t.2.2)) (l:=l) k d.2;rw [g',mK];have h:ns.set (cS 0 t.1 t.2.1 t.2.2).node.toNat (df (cS 0 t.1 t.2.1 t.2.2) (ns.getD (cS 0 t.1 t.2.1 t.2.2).node.toNat bp))=ns.set 0 (x.eU t.1 t.2.1 t.2.2):=by show ns.set 0 (df (cS 0 t.1 t.2.1 t.2.2) (ns.getD 0 bp))=_;rw [g];exact congrArg _ f.1
  have i:dB (cS 0 t.1 t.2.1 t.2.2) (ns.getD (cS 0 t.1 t.2.1 t.2.2).node.toNat bp)=⟨0,[x.get t.1]⟩:=by show dB (cS 0 t.1 t.2.1 t.2.2) (ns.getD 0 bp)=_;rw [g];exact f.2
  rw [h,i];simp only;rw [a,b,mi];refine ⟨?_,rfl⟩;rw [g'];congr 1;refine ml λu hu=>?_
  rw [wM (λe=>d.1 (by rw [<-e];exact o5 hu))]
end
section
open dq dr
structure jA (c n L:Nat) (v:aG):Prop where
 go:et n L v
 at_:v.node.toNat<n
 dM:v.v.pieces.length<=128
 run:∀ x,cQ L false x->hY c v x/\cQ L false (df v x)/\(dB v x).code=0/\((dB v x).words.length:Int)=v.v.g7
theorem wj (i:n<=5) (h:c<6) (hm:m<n) (aj:et n L (b5 m a ws)) (f:a % 8=0) (b:30<=a) (g:1<=ws.length) (j:ws.length<=128) (d:a+ws.length<=L * 8):jA c n L (b5 m a ws):=by
 refine ⟨aj,?_,?_,λx e=>⟨N0 i e h (by simp) aj f b g d,?_,?_,?_⟩⟩
 ·show (m:Int).toNat<n;omega
 ·exact kq (pI (b5 m a ws).v.count.toNat a _) (by show (ws.length:Int).toNat<=128;omega)
 ·rw [(ss f (by rw [e.len];exact d)).1];exact xi e b d
 ·rw [(ss f (by rw [e.len];exact d)).2]
 ·rw [(ss f (by rw [e.len];exact d)).2];rfl
theorem Tn {o w:Int} (f:n<=5) (e:c<6) (hm:m<n) (aj:et n L (cS m a o w)) (b:30<=a):jA c n L (cS m a o w):=by
 refine ⟨aj,?_,?_,λx d=>⟨Mi f d e (by simp) aj lg,?_,?_,?_⟩⟩
 ·show (m:Int).toNat<n;omega
 ·rw [lg];simp
 ·rw [kR.1];exact x5 d b
 ·rw [kR.2]
 ·rw [kR.2];rfl
theorem iO {vs:List aG} {ns:List aH} (aj:∀ v ∈ vs,jA c n L v) (a:ns.length=n) (b:∀ x ∈ ns,cQ L false x):j0 c ns vs/\(∀ x ∈ (ct ns vs).1,cQ L false x)/\Fit vs (ct ns vs).2:=
 xq (P:=cQ L false) b λv hm=>⟨by rw [a];exact (aj v hm).at_,(aj v hm).run⟩
theorem tD {vs:List aG} (aj:∀ v ∈ vs,jA c n L v):h_ vs<=128 * vs.length:=rE λv h=>(aj v h).dM
theorem Bp:∀ {l:a4} {D:List aC},D=l.map (λw=>⟨0,[w]⟩)->fr l D=false
 | [],_,rfl=>rfl
 |w::l,_,rfl=>by
  show (decide (e5 ⟨0,[w]⟩≠w) || fr l (l.map λw=>⟨0,[w]⟩))=false
  rw [Bp rfl];simp [e5]
section
variable {E:Env} {j:b_} {ns:List aH}
def g4 (j:b_) (ns:List aH):List aH:=(ct ns (e_ j)).1
def iR (j:b_) (ns:List aH):List aH:=(ct (g4 j ns) (c2 j)).1
def hi (j:b_) (ns:List aH):List aH:=(ct (iR j ns) (gM j)).1
def iS (j:b_) (ns:List aH):List aH:=(ct (hi j ns) (hW j)).1
def h3 (j:b_) (ns:List aH):List aH:=(ct (iS j ns) (fo j)).1
theorem oQ (aJ:gN E) (h:db E 0 j):∀ v ∈ e_ j,jA 0 E.n E.L v:=λv aj=>by have e:=aJ.n;have c:=aJ.L;have d:=h.dM;have b:=kE j.seq j.writes;unfold e_ at aj;rw [h.log,h.cC] at aj;obtain ⟨m,hm,rfl⟩:=cD.1 aj;have hm:=dS.1 hm;exact wj (a:=56) (by omega) (by omega) hm (B3 aJ h hm).1 (by omega) (by omega) (by omega) (by omega) (by omega)
theorem tE (aJ:gN E) (h:db E 0 j):∀ v ∈ gM j,jA 0 E.n E.L v:=λv aj=>by have c:=aJ.n;have b:=aJ.L;unfold gM at aj;rw [h.log,h.cC] at aj;obtain ⟨m,hm,rfl⟩:=cD.1 aj;have hm:=dS.1 hm;exact wj (a:=48) (by omega) (by omega) hm (B3 aJ h hm).2 (by omega) (by omega) (by simp) (by simp) (by simp;omega)
theorem DC (aJ:gN E) (h:db E 0 j) (hm:m<E.n) {p:aR} (a:p ∈ j.writes):jA 0 E.n E.L (ep m p):=by
 have c:=aJ.n;obtain ⟨l,e,b6,l2⟩:=h.line p a;have aj:=MJ aJ h hm a;have b:ep m p=b5 m ((l * 8:Nat):Int) (hc p):=by unfold ep;rw [e];congr 1
 rw [b] at aj ⊢;exact wj (by omega) (by omega) hm aj (by omega) (by omega) (by show 1<=8;omega) (by show 8<=128;omega) (by show l * 8+8<=_;omega)
theorem DD (aJ:gN E) (h:db E 0 j) (hm:m<E.n):jA 0 E.n E.L (jC 0 j.seq m):=by have c:=aJ.n;have b:=aJ.L;exact wj (a:=32) (by omega) (by omega) hm (NR aJ h hm j.seq) (by omega) (by omega) (by simp) (by simp) (by simp;omega)
theorem tF (aJ:gN E) (h:db E 0 j) (f:j.reads=[]):∀ v ∈ c2 j,jA 0 E.n E.L v:=λv aj=>by
 have d:=aJ.n;rw [h.sZ d.1,f,qh,g_] at aj;obtain ⟨p,b,rfl⟩:=cD.1 aj;obtain ⟨l,e,b6,l2⟩:=h.line p b;have a:=L_ aJ h b p.Head (eP p.Head ((0:Nat):Int));have c:mz (p.bm * 8) p.Head (eP p.Head ((0:Nat):Int))=cS 0 ((l * 8:Nat):Int) p.Head (eP p.Head ((0:Nat):Int)):=by rw [e];rfl
 rw [c] at a ⊢;exact Tn (by omega) (by omega) (by omega) a (by omega)
theorem tG (aJ:gN E) (h:db E 0 j):∀ v ∈ hW j,jA 0 E.n E.L v:=λv aj=>by
 rw [h.qG] at aj;obtain ⟨g,a,aj⟩:=kZ.1 aj;obtain ⟨m,hm,rfl⟩:=cD.1 a;have hm:=dS.1 hm;rcases gH.1 aj with aj | aj
 ·obtain ⟨p,b,rfl⟩:=cD.1 aj;exact DC aJ h (by omega) b
 ·rcases dy.1 aj with rfl | aj
  ·exact DD aJ h (by omega)
  ·cases aj
theorem uz (aJ:gN E) (h:db E 0 j):∀ v ∈ fo j,jA 0 E.n E.L v:=λv aj=>by
 have a:=aJ.n;rw [h.ov a.1] at aj;rcases dy.1 aj with rfl | aj
 ·exact DD aJ h (by omega)
 ·obtain ⟨p,b,rfl⟩:=cD.1 aj;exact DC aJ h (by omega) b
end
end
end Go.Proofs.YtmkljjbioomepaaGreat
