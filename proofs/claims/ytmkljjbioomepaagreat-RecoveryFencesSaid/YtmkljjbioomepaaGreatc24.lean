import Derived.Test.YtmkljjbioomepaaGreatc23
set_option linter.all false
namespace Go.Proofs.YtmkljjbioomepaaGreat
open Go.Proofs.Tryz Go.br
variable {L a l m n s:Nat} {c i o t w:Int} {p:aJ} {ws:bb}
section
open e1
section
variable {E:Env} {A:bA} {m:Nat} {p:aJ}
theorem e2.Po (h:e2 E A) (m:Nat):e2 E (A.pM m):=by
 obtain ⟨cU,l2,ix,ni,lH,kV,kW⟩:=h;refine ⟨cU,λk b e=>⟨λc a=>?_,(l2 k b e).2⟩,ix,ni,lH,kV,kW⟩;have:=(l2 k b e).1 c a;simp only [bA.pM];split
 ·rfl
 ·exact this
theorem e2.zA (h:e2 E A) (m:Nat):e2 E (A.oD m):=⟨h.cU,h.l2,h.ix,h.ni,h.lH,h.kV,h.kW⟩
theorem e2.tag (h:e2 E A) (t:Int):e2 E (A.qZ t):=⟨h.cU,h.l2,h.ix,h.ni,h.lH,h.kV,h.kW⟩
theorem e2.jm (h:e2 E A) (j:s<=2) (n:1<=m->s≠1) (o:s=0->m=0->fP E A) (r:s=2->im E A) (t:s=2->m=0->A.dK 0=true) (u:1<=m->A.bS m l=2->s=2):e2 E (A.gO m l s):=by
 obtain ⟨cU,l2,ix,ni,lH,kV,kW⟩:=h;have e:∀ k q,(A.gO m l s).bS k q=if k=m/\q=l then s else A.bS k q:=λ_ _=>rfl
 refine ⟨λk a p b=>?_,λk a hm=>⟨(l2 k a hm).1,λp b=>?_⟩,λk a p b=>?_,ni,λp b=>?_,kV,λk c a d p b=>?_⟩
 ·rw [e];split
  ·rename_i g;rw [g.1];exact ⟨j,n⟩
  ·exact cU k a p b
 ·rw [e];split
  ·rename_i g;intro f;have hm:A.cF k=true:=hm;rw [o f g.1.symm k a] at hm;cases hm
  ·exact (l2 k a hm).2 p b
 ·rw [e];split
  ·exact r
  ·exact ix k a p b
 ·rw [e];split
  ·rename_i g;exact λi=>t i g.1.symm
  ·exact lH p b
 ·rw [e];split
  ·rename_i g;have:=kW k c a d p b;rw [g.1,g.2] at this;exact u (by omega) this
  ·exact kW k c a d p b
theorem e2.ug (h:e2 E A) (f:h7 E A) (d:∀ p ∈ bJ E,A.bS 0 (bp p)≠0) (m:Nat):e2 E (A.ju m):=by
 obtain ⟨cU,l2,ix,ni,lH,kV,kW⟩:=h;have up:∀ k,A.cF k=true->(A.ju m).cF k=true:=λk b=>by simp only [bA.ju];split;rfl;exact b
 exact ⟨cU,λk b e=>⟨f,d⟩,λk b p d e c a=>up c (ix k b p d e c a),λk b e c a=>up c (ni k b e c a),lH,kV,kW⟩
theorem e2.tT (h:e2 E A) (l:im E A) (i:m=0->p6 E A) (j:1<=m->∀ p ∈ bJ E,A.bS m (bp p)=2):e2 E (A.k_ m):=by
 obtain ⟨cU,l2,ix,ni,lH,kV,kW⟩:=h;have e:∀ k,(A.k_ m).dK k=if k=m then true else A.dK k:=λ_=>rfl
 have up:∀ k,A.dK k=true->(A.k_ m).dK k=true:=λk c=>by rw [e];split;rfl;exact c
 refine ⟨cU,l2,ix,λk c _=>l,λp d f=>up 0 (lH p d f),λb k a c=>?_,λk a c b p d=>?_⟩
 ·rw [e] at b;by_cases g:0=m
  ·exact up k (i g.symm k a c)
  ·rw [if_neg g] at b;exact up k (kV b k a c)
 ·rw [e] at b;by_cases g:k=m
  ·rw [g];exact j (by omega) p d
  ·rw [if_neg g] at b;exact kW k a c b p d
theorem vg (h:A.bS m l=2->s=2):dm E A (A.gO m l s):=⟨λ_ h=>h,λ_ h=>h,λ_ h=>h,λ_ h=>h,λk q e=>by
 show (if k=m/\q=l then s else A.bS k q)=2;split
 ·rename_i g;rw [g.1,g.2] at e;exact h e
 ·exact e⟩
theorem Da:dm E A (A.ju m):=⟨λk h=>by simp only [bA.ju];split;rfl;exact h,λ_ h=>h,λ_ h=>h,λ_ h=>h,λ_ _ h=>h⟩
theorem Db:dm E A (A.k_ m):=⟨λ_ h=>h,λk h=>by simp only [bA.k_];split;rfl;exact h,λ_ h=>h,λ_ h=>h,λ_ _ h=>h⟩
theorem Mc:dm E A (A.pM m):=⟨λ_ h=>h,λ_ h=>h,λk h=>by simp only [bA.pM];split;rfl;exact h,λ_ h=>h,λ_ _ h=>h⟩
theorem Md:dm E A (A.oD m):=⟨λ_ h=>h,λ_ h=>h,λ_ h=>h,λk h=>by simp only [bA.oD];split;rfl;exact h,λ_ _ h=>h⟩
theorem Dc:dm E A (A.qZ t):=⟨λ_ h=>h,λ_ h=>h,λ_ h=>h,λ_ h=>h,λ_ _ h=>h⟩
end
section
variable {E:Env} {A:bA} {bz:List a0} {m:Nat} {x:a0}
theorem Mem.wr (h:Mem E A m x) (ay:b5 E) (b:a+ws.length<=E.L * 8):o5 a ws.length x (x.write a ws):=
 ⟨B0 (by rw [h.aQ.len];exact b),rfl,λi c=>by rw [sq (by rw [h.aQ.len];exact b),if_neg (by omega)]⟩
theorem b5.mn {E:Env} (h:b5 E):784<=E.L * 8:=by have:=h.e.L;omega
theorem Mem.ug (ay:b5 E) (h:Mem E A m x):Mem E (A.ju m) m (x.write 48 [h4 E]):=by
 have b:=ay.mn;have g:=sq (n:=x) (a:=48) (ws:=[h4 E]) (by rw [h.aQ.len];simp;omega);refine h.low ay (h.wr ay (by simp;omega)) (by omega) (by simp) (λ_ _=>rfl) rfl (.inl (by omega)) ?_ ?_ (λe=>?_) λb k c=>?_
 ·rw [g,if_neg (by simp)];exact h.dK
 ·rw [g,if_pos (by simp)];simp [bA.ju]
 ·rw [g,if_neg (by simp)];exact h.dU e
 ·rw [g,if_neg (by simp;omega)];exact h.ey b k c
theorem Mem.UA (ay:b5 E) (h:Mem E A m x) (c:A.cF m=false):Mem E A m (x.write 48 [0]):=by
 have b:=ay.mn;have g:=sq (n:=x) (a:=48) (ws:=[0]) (by rw [h.aQ.len];simp;omega);refine h.low ay (h.wr ay (by simp;omega)) (by omega) (by simp) (λ_ _=>rfl) rfl (.inl (by omega)) ?_ ?_ (λe=>?_) λb k d=>?_
 ·rw [g,if_neg (by simp)];exact h.dK
 ·rw [g,if_pos (by simp),c];simp
 ·rw [g,if_neg (by simp)];exact h.dU e
 ·rw [g,if_neg (by simp;omega)];exact h.ey b k d
theorem Mem.tT (ay:b5 E) (h:Mem E A m x):Mem E (A.k_ m) m (x.write 32 [c7 E]):=by
 have b:=ay.mn;have g:=sq (n:=x) (a:=32) (ws:=[c7 E]) (by rw [h.aQ.len];simp;omega);refine h.low ay (h.wr ay (by simp;omega)) (by omega) (by simp) (λ_ _=>rfl) rfl (.inr (by simp)) ?_ ?_ (λe=>?_) λb k c=>?_
 ·rw [g,if_pos (by simp)];simp [bA.k_]
 ·rw [g,if_neg (by simp)];exact h.cF
 ·rw [g,if_neg (by simp)];exact h.dU e
 ·rw [g,if_neg (by simp;omega)];exact h.ey b k c
theorem Mem.new (ay:b5 E) (h:Mem E A m x) (b:p ∈ bJ E):Mem E (A.gO m (bp p) 2) m (x.write (bp p * 8) (ir p)):=by
 have d:=ay.pl b;refine h.d_ ay b (h.wr ay (a:=bp p * 8) (ws:=ir p) (by show bp p * 8+8<=_;omega)) λk c=>?_
 rw [sq (by rw [h.aQ.len];show bp p * 8+8<=_;omega),if_pos (by show bp p * 8<=bp p * 8+k/\bp p * 8+k<bp p * 8+8;omega)];congr 1;omega
theorem Mem.st (h:Mem E A m x) (ay:b5 E) (b:a<E.L * 8) (v:Int):o5 a 1 x { x with words:=x.words.set a v }/\∀ i,({ x with words:=x.words.set a v }:a0).get i=if i=a then v else x.get i:=by have g:=L' (n:=x) (a:=a) (by rw [h.aQ.len];exact b) v;exact ⟨⟨by simp,rfl,λi c=>by rw [g,if_neg (by omega)]⟩,g⟩
theorem Mem.Qv (ay:b5 E) (h:Mem E A m x) (d:p ∈ bJ E) (e:A.bS m (bp p)=0):Mem E (A.gO m (bp p) 1) m { x with words:=x.words.set (bp p * 8) (eJ p.Head 0) }:=by have n:=ay.pl d;obtain ⟨c,g⟩:=h.st ay (a:=bp p * 8) (by omega) (eJ p.Head 0);have b:=h.bS p d;rw [e] at b;refine h.d_ ay d ⟨c.len,c.down,λi l=>c.get i (by omega)⟩ ⟨by rw [g,if_pos rfl],λk j f=>?_⟩;rw [g,if_neg (by omega)];exact b k f
theorem Mem.lS (ay:b5 E) (h:Mem E A m x) (c:p ∈ bJ E) (f:A.bS m (bp p)=1):Mem E (A.gO m (bp p) 0) m { x with words:=x.words.set (bp p * 8) p.Head }:=by
 have n:=ay.pl c;obtain ⟨d,g⟩:=h.st ay (a:=bp p * 8) (by omega) p.Head;have b:=h.bS p c;rw [f] at b;refine h.d_ ay c ⟨d.len,d.down,λi l=>d.get i (by omega)⟩ λk j=>?_
 by_cases e:k=0
 ·subst e;rw [g,if_pos (by omega)];exact ay.bN.head p c
 ·rw [g,if_neg (by omega)];exact b.2 k (by omega) j
theorem Mem.zA (ay:b5 E) (h:Mem E A m x):Mem E (A.oD m) m { x with words:=x.words.set 24 2 }:=by
 have j:=ay.mn;obtain ⟨n,g⟩:=h.st ay (a:=24) (by omega) 2;have bU:∀ i,i≠24->({ x with words:=x.words.set 24 2 }:a0).get i=x.get i:=λi s=>by rw [g,if_neg s]
 refine ⟨⟨h.aQ.up,n.len.trans h.aQ.len,(bU 0 (by omega)).trans h.aQ.key,(bU 1 (by omega)).trans h.aQ.ee,by rw [g,if_pos rfl];simp [bA.oD],λc b d=>by rw [bU _ (by omega)];exact h.aQ.dR c b d⟩,λp o=>(h.bS p o).f9 n (by have:=ay.pl o;omega),λl b q r k f=>by rw [bU _ (by omega)];exact h.gw l b q r k f,λc b d=>by rw [bU _ (by omega)];exact h.cG c b d,by rw [bU _ (by omega)];exact h.dK,by rw [bU _ (by omega)];exact h.cF,λe=>by rw [bU _ (by omega)];exact h.dU e,λj k f=>by rw [bU _ (by omega)];exact h.ey j k f⟩
theorem Mem.tag (ay:b5 E) (h:Mem E A 0 x) (t:Int):Mem E (A.qZ t) 0 { x with words:=x.words.set 49 t }:=by
 have b:=ay.mn;obtain ⟨c,g⟩:=h.st ay (a:=49) (by omega) t;refine h.low ay c (by omega) (by omega) (λ_ _=>rfl) rfl (.inl (by omega)) ?_ ?_ (λe=>?_) λb k d=>?_
 ·rw [g,if_neg (by omega)];exact h.dK
 ·rw [g,if_neg (by omega)];exact h.cF
 ·rw [g,if_pos rfl];rfl
 ·rw [g,if_neg (by omega)];exact h.ey b k d
theorem Mem.ar (ay:b5 E) (h:Mem E A m x) (d:p ∈ bJ E) (i:A.bS m (bp p)<=2):(A.bS m (bp p)=0->x.get (bp p * 8)=p.Head)/\(x.get (bp p * 8)=eJ p.Head 0↔A.bS m (bp p)=1):=by
 have a:=h.bS p d;have g:=ay.bN;have j:=g.head p d;have f:=(g.Qu p d 0 (by omega)).1;have k:=ay.Qt p d;generalize l:A.bS m (bp p)=s at a i ⊢
 match s,a,i with
 | 0,a,_=>have e:=a 0 (by omega);rw [lY] at e;have c:x.get (bp p * 8)=p.Head:=e.trans j.symm;exact ⟨λ_=>c,⟨λb=>absurd (b.symm.trans c) f,λb=>by cases b⟩⟩
 | 1,a,_=>exact ⟨λe=>(by cases e),⟨λ_=>rfl,λ_=>a.1⟩⟩
 | 2,a,_=>have e:=a 0 (by omega);rw [lY] at e;have c:x.get (bp p * 8)=lf p.Head:=e;exact ⟨λe=>(by cases e),⟨λb=>absurd (b.symm.trans c) k,λb=>by cases b⟩⟩
end
end
section
open e1
def fR (m:Nat) (a o w:Int):aP:=⟨3,(m:Int),a,0,o,w,[],1,1⟩
def cN (m:Nat) (a k:Int):aP:=⟨1,(m:Int),a,k,0,0,[],1,1⟩
theorem oF {a:Int} (i:n<=5) (hm:m<n) (f:1<=L/\L<=256) (g:24<=a) (e:a+1<=L * 8):h9 n L (fR m a o w):=by
 refine ⟨λk h d=>?_,⟨by show (0:Int)<=m;omega,by show (m:Int)<n;omega⟩,rfl,rfl⟩;have b:(fR m a o w).v.count=1:=rfl;have c:(fR m a o w).v.inside k L=true:=by unfold aG.inside aG.cU aG.dd;rw [b];apply decide_eq_true;show 1<=k/\k<=5/\1<=(L:Int)/\(L:Int)<=256/\0<=(m:Int)/\(m:Int)<k/\0<=a/\a<(L:Int) * 8/\(1:Int)<=1024/\(a+1 - 1) / 8<(L:Int)/\(a+1 - 1) / 8 - a / 8<128;omega
 unfold aG.valid;rw [b,if_neg (by omega),c,if_neg (by simp),if_neg];unfold aG.cU aG.dd aG.last;rw [b];show ¬ (a / 8<=(if (3:Int)=1 then 3 else 2)/\(if (3:Int)=1 then 3 else 2)<(a+1 - 1) / 8);rw [if_neg (by omega)];omega
theorem nC {a:Int} (l:n<=5) (hm:m<n) (h:1<=L/\L<=256) (i:0<=a) (f:1<=c/\c<=1000) (g:a+c<=L * 8) (o:32<=a\/a+c<=32):h9 n L (cN m a c):=by
 refine ⟨λk j e=>?_,⟨by show (0:Int)<=m;omega,by show (m:Int)<n;omega⟩,rfl,rfl⟩;have b:(cN m a c).v.count=c:=rfl;have d:(cN m a c).v.inside k L=true:=by unfold aG.inside aG.cU aG.dd;rw [b];apply decide_eq_true;show 1<=k/\k<=5/\1<=(L:Int)/\(L:Int)<=256/\0<=(m:Int)/\(m:Int)<k/\0<=a/\a<(L:Int) * 8/\c<=1024/\(a+c - 1) / 8<(L:Int)/\(a+c - 1) / 8 - a / 8<128;omega
 unfold aG.valid;rw [b,if_neg (by omega),d,if_neg (by simp),if_neg];unfold aG.cU aG.dd aG.last;rw [b];show ¬ (a / 8<=(if (1:Int)=1 then 3 else 2)/\(if (1:Int)=1 then 3 else 2)<(a+c - 1) / 8);rw [if_pos rfl];omega
theorem yB:∀ (f:Nat) (a c:Int),a % 8=0->c<=f->∀ e:Nat,(hy f a c)[e]?=if 8 * (e:Int)<c then some (a+8 * e,if 8<c - 8 * e then 8 else c - 8 * e) else none
 | 0,a,c,g,i,e=>by rw [if_neg (by omega)];rfl
 |f+1,a,c,g,i,e=>by
  unfold hy;by_cases b:c<=0
  ·rw [if_pos b,if_neg (by omega)];rfl
  rw [if_neg b,g];by_cases d:8 - 0<c
  ·rw [if_pos d];cases e with
   |zero=>rw [if_pos (by omega)];simp only [rf];congr 1;rw [if_pos (by omega)];simp
   |succ e=>
    rw [nO,yB f _ _ (by omega) (by omega) e];by_cases h:8 * ((e+1:Nat):Int)<c
    ·rw [if_pos (by omega),if_pos h];congr 2
     ·omega
     ·congr 1
      ·simp;omega
      ·omega
    ·rw [if_neg (by omega),if_neg h]
  ·rw [if_neg d];cases e with
   |zero=>rw [if_pos (by omega)];simp only [rf];rw [if_neg (by omega)];simp
   |succ e=>
    rw [nO,if_neg (by omega)];cases f with
    |zero=>rfl
    |succ f=>unfold hy;rw [if_pos (by omega)];rfl
section
variable {p:c4} {x:a0} {eU:List aP} {m:Nat}
theorem y_ (t:fH p) (j:p.ba=cw m a ws::eU) (u:p.refusal (cw m a ws) x=0) (z:a % 8=0) (ar:p.words=[]) (C:a+ws.length<=x.words.length) :
  8 * p.bD<ws.length/\(p.step x).2.1=x.write (a+8 * p.bD) ((ws.drop (8 * p.bD)).take 8)/\o5 a ws.length x (p.step x).2.1/\(∀ k,k<ws.length->8 * p.bD<=k/\k<8 * (p.bD+1)\/x.get (a+k)=ws.getD k 0->(p.step x).2.1.get (a+k)=ws.getD k 0)/\
   ((8 * (p.bD+1)<ws.length/\(p.step x).1={ p with bD:=p.bD+1 }/\(p.step x).2.2=none)\/(ws.length<=8 * (p.bD+1)/\(p.step x).1=p.done/\(p.step x).2.2=some ⟨0,[]⟩)):=by
 have r:=t.hL _ _ j;have c:(cw m a ws).v.count=ws.length:=rfl;have s:∀ e:Nat,(cw m a ws).v.pieces[e]?=if 8 * (e:Int)<ws.length then some ((a:Int)+8 * e,if 8<(ws.length:Int) - 8 * e then 8 else (ws.length:Int) - 8 * e) else none:=λe=>by unfold aG.pieces;rw [c];exact yB _ _ _ (by show (a:Int) % 8=0;omega) (by omega) e
 have hlen:∀ e:Nat,e<(cw m a ws).v.pieces.length↔8 * e<ws.length:=λe=>by
  have:=s e;constructor
  ·intro h;rw [bF h] at this;by_cases o:8 * (e:Int)<ws.length
   ·omega
   ·rw [if_neg o] at this;cases this
  ·intro h;rw [if_pos (by omega)] at this;exact ch this
 have o:=(hlen _).1 r;have q:(cw m a ws).v.pieces.getD p.bD (0,0)=((a:Int)+8 * p.bD,if 8<(ws.length:Int) - 8 * p.bD then 8 else (ws.length:Int) - 8 * p.bD):=by rw [dD,s,if_pos (by omega)];rfl
 have y:exec (cw m a ws) ((cw m a ws).v.pieces.getD p.bD (0,0)) x=(x.write (a+8 * p.bD) ((ws.drop (8 * p.bD)).take 8),[]):=by
  rw [q];unfold exec;rw [if_neg (show ¬ (cw m a ws).kind=1 by show ¬ (2:Int)=1;omega),if_pos (show (cw m a ws).kind=2 from rfl)];show (x.write ((a:Int)+8 * p.bD).toNat ((ws.drop ((a:Int)+8 * p.bD - (a:Int)).toNat).take (if 8<(ws.length:Int) - 8 * p.bD then (8:Int) else (ws.length:Int) - 8 * p.bD).toNat),([]:bb))=_;have e:(ws.drop (8 * p.bD)).take (if 8<(ws.length:Int) - 8 * p.bD then (8:Int) else (ws.length:Int) - 8 * p.bD).toNat=(ws.drop (8 * p.bD)).take 8:=by
   split
   ·rfl
   ·rw [hO (by rw [lZ];omega),hO (by rw [lZ];omega)]
  rw [show ((a:Int)+8 * p.bD - (a:Int)).toNat=8 * p.bD by omega,show ((a:Int)+8 * p.bD).toNat=a+8 * p.bD by omega,e]
 have b:=uM j u;rw [y,ar] at b;have w:((ws.drop (8 * p.bD)).take 8).length<=8/\a+8 * p.bD+((ws.drop (8 * p.bD)).take 8).length<=a+ws.length:=by simp;omega
 have g:=sq (n:=x) (a:=a+8 * p.bD) (ws:=(ws.drop (8 * p.bD)).take 8) (by omega);have l:(p.step x).2.1=x.write (a+8 * p.bD) ((ws.drop (8 * p.bD)).take 8):=by rw [b];split<;>rfl
 refine ⟨o,l,?_,λk B d=>?_,?_⟩
 ·rw [l];exact ⟨B0 (by omega),rfl,λi A=>by rw [g,if_neg (by omega)]⟩
 ·rw [l,g];by_cases f:a+8 * p.bD<=a+k/\a+k<a+8 * p.bD+((ws.drop (8 * p.bD)).take 8).length
  ·rw [if_pos f,show a+k - (a+8 * p.bD)=k - 8 * p.bD by omega];simp only [dD];rw [s0 (by omega),lo];congr 2;omega
  ·rw [if_neg f];rcases d with d | d
   ·exfalso;simp at f <;> omega
   ·exact d
 ·rw [b];by_cases h:p.bD+1<(cw m a ws).v.pieces.length
  ·rw [if_pos h];exact .inl ⟨(hlen _).1 h,by simp [ar],rfl⟩
  ·rw [if_neg h];exact .inr ⟨by have:=(hlen (p.bD+1));omega,rfl,rfl⟩
theorem O1 {k:Nat} (q:fH p) (i:p.ba=cN m a k::eU) (r:p.refusal (cN m a k) x=0) (l:a % 8=0\/k=1) (ar:p.words=(x.words.drop a).take (8 * p.bD)) (s:a+k<=x.words.length) :
  (p.step x).2.1=x/\(((p.step x).1={ p with bD:=p.bD+1,words:=(x.words.drop a).take (8 * (p.bD+1)) }/\(p.step x).2.2=none)\/((p.step x).1=p.done/\(p.step x).2.2=some ⟨0,(x.words.drop a).take k⟩)):=by
 have f:=q.hL _ _ i;have c:(cN m a k).v.count=k:=rfl;have b:=uM i r;by_cases g:k=1
 ·subst g;have d:(cN m a (1:Nat)).v.pieces=[((a:Int),1)]:=qJ (v:=(cN m a (1:Nat)).v) (by show (1:Int)<=1;omega) (by show (a:Int) % 8+1<=8;omega) (by show (0:Int)<=a;omega);have he:p.bD=0:=by rw [d] at f;simp at f;exact f
  rw [d,he] at b;rw [b];refine ⟨by simp [exec,cN],.inr ⟨by simp,?_⟩⟩;rw [ar,he];simp [exec,cN,a0.read]
 have l:a % 8=0:=l.resolve_right g;have n:∀ e:Nat,(cN m a k).v.pieces[e]?=if 8 * (e:Int)<k then some ((a:Int)+8 * e,if 8<(k:Int) - 8 * e then 8 else (k:Int) - 8 * e) else none:=λe=>by unfold aG.pieces;rw [c];exact yB _ _ _ (by show (a:Int) % 8=0;omega) (by omega) e
 have hlen:∀ e:Nat,e<(cN m a k).v.pieces.length↔8 * e<k:=λe=>by
  have:=n e;constructor
  ·intro h;rw [bF h] at this;by_cases j:8 * (e:Int)<k
   ·omega
   ·rw [if_neg j] at this;cases this
  ·intro h;rw [if_pos (by omega)] at this;exact ch this
 have j:=(hlen _).1 f;have d:(cN m a k).v.pieces.getD p.bD (0,0)=((a:Int)+8 * p.bD,if 8<(k:Int) - 8 * p.bD then 8 else (k:Int) - 8 * p.bD):=by rw [dD,n,if_pos (by omega)];rfl
 have hw:p.words++(exec (cN m a k) ((cN m a k).v.pieces.getD p.bD (0,0)) x).2=(x.words.drop a).take (min (8 * (p.bD+1)) k):=by rw [d,ar];unfold exec;rw [if_pos (show (cN m a k).kind=1 from rfl)];simp only [a0.read];rw [show ((a:Int)+8 * p.bD).toNat=a+8 * p.bD by omega,<-uW,<-List.take_add];congr 1;split<;>omega
 have o:(exec (cN m a k) ((cN m a k).v.pieces.getD p.bD (0,0)) x).1=x:=by unfold exec;rw [if_pos (show (cN m a k).kind=1 from rfl)]
 rw [hw,o] at b;rw [b];by_cases h:p.bD+1<(cN m a k).v.pieces.length
 ·rw [if_pos h];have:=(hlen _).1 h;rw [show min (8 * (p.bD+1)) k=8 * (p.bD+1) by omega];exact ⟨rfl,.inl ⟨rfl,rfl⟩⟩
 ·rw [if_neg h];have:=hlen (p.bD+1);rw [show min (8 * (p.bD+1)) k=k by omega];exact ⟨rfl,.inr ⟨rfl,rfl⟩⟩
theorem tu (c:fH p) (b:p.ba=fR m a o w::eU) (e:p.refusal (fR m a o w) x=0):p.step x=(p.done,x.gh a o w,some ⟨0,[x.get a]⟩):=by have d:(fR m a o w).v.pieces=[((a:Int),1)]:=qJ (v:=(fR m a o w).v) (by show (1:Int)<=1;omega) (by show (a:Int) % 8+1<=8;omega) (by show (0:Int)<=a;omega);rw [Co c b e d,Li rfl];rfl
theorem yY {v:aP} (a:p.ba=v::eU) (b:p.refusal v x≠0):p.step x=(p.done,x,some ⟨p.refusal v x,[]⟩):=by unfold c4.step;rw [a];simp only;rw [if_pos b]
end
end
section
def oG (i:Int):Bool:=decide (1<=i/\i<=59) && (Int.tmod i 2 == 1)
def fW (i c:Int):Int:=if oG i=false then 2 else if ¬ (0<=c/\c<6) then 1 else 0
def gl (i c:Int):Int:=if fW i c=0 then i * 256+(c+1) else 0
def kv (t:Int):Int:=if fW (t / 256) (t % 256 - 1)=0 then t / 256 else 0
def kx (t:Int):Int:=if fW (t / 256) (t % 256 - 1)=0 then t % 256 - 1 else 0
def mC (t:Int):Bool:=decide (fW (t / 256) (t % 256 - 1)=0)
theorem uC (h:fW i c=0):(1<=i/\i<=59)/\0<=c/\c<6:=by
 unfold fW at h;split at h
 ·cases h
 ·rename_i a;split at h
  ·cases h
  ·rename_i b;have b:0<=c/\c<6:=by simpa using b
   have a:oG i=true:=by simpa using a
   unfold oG at a;have d:=of_decide_eq_true (Bool.and_eq_true_iff.1 a).1;exact ⟨d,b⟩
theorem Lk (h:59<i):fW i c=2:=by unfold fW;rw [if_pos];unfold oG;rw [decide_eq_false (by omega)];rfl
theorem Nw (h:fW i c=0):je .u64 (h_ .u64 (IntKind.u64.wrap i) 8) (IntKind.u64.wrap (IntKind.i64.wrap (c+1)))=i * 256+(c+1):=by
 obtain ⟨⟨f,g⟩,j,k⟩:=uC h;rw [bC (x:=c+1) (by omega) (by omega),jH (x:=c+1) (by omega) (by omega),jH (x:=i) (by omega) (by omega)];have b:h_ .u64 i 8=i * 256:=by show IntKind.u64.wrap (i * 2 ^ 8)=_;have:(2:Int) ^ 8=256:=rfl;rw [this];exact jH (by omega) (by omega)
 rw [b];obtain ⟨n,rfl⟩:=pZ (show 0<=i by omega);obtain ⟨m,hm⟩:=pZ (show 0<=c+1 by omega);rw [hm];have d:(n:Int) * 256=((n * 256:Nat):Int):=(Int.natCast_mul n 256).symm;rw [d,uN _ _ (by omega) (by omega)];have a:=vz n m 8 (by omega);have e:(2:Nat) ^ 8=256:=rfl;rw [e] at a;rw [a];exact Int.natCast_add _ _
theorem AE (w:ak) (x a b:Int):a_ 141 [.int .i64 x,.int .i64 a,.int .i64 b] w λv w'=>v=.bool (decide (a<=x/\x<=b))/\w'=w:=by
 refine bc Tryz.func141 ?_;rw [FJ];refine a' (λh=>⟨?_,rfl⟩) (λh=>⟨?_,rfl⟩)
 ·have:a<=x:=h;simp [this]
 ·have:¬ a<=x:=h;simp [this]
theorem Nx (w:ak) (i:Int):a_ 178 [.int .i64 i] w λv w'=>v=.bool (oG i)/\w'=w:=by refine bc Tryz.func178 ?_;rw [Hn];refine aC (AE w i 1 59) ?_;rintro v w1 ⟨rfl,rfl⟩;unfold oG;refine ⟨_,rfl,fS (λh=>⟨by rw [h];simp,rfl⟩) (λh=>⟨by rw [h];simp,rfl⟩)⟩
theorem JE (w:ak) (c:Int):a_ 158 [.int .i64 c] w λv w'=>v=.bool (decide (0<=c/\c<6))/\w'=w:=by refine bc Tryz.func158 ?_;rw [rx];refine aC (AE w c 0 5) ?_;rintro v w1 ⟨rfl,rfl⟩;refine ⟨_,rfl,?_,rfl⟩;congr 1;rw [decide_eq_decide];omega
abbrev LN (w:ak) (i c:Int):cA:=λx w'=>x=.tuple #[.int .u64 (gl i c),.int .i64 (fW i c)]/\w'=w
theorem Ll (h:oG i=false):gl i c=0/\fW i c=2:=by have e:fW i c=2:=if_pos h;refine ⟨?_,e⟩;unfold gl;rw [if_neg (by rw [e];omega)]
theorem Lm (h:oG i=true) (a:¬ (0<=c/\c<6)):gl i c=0/\fW i c=1:=by
 have e:fW i c=1:=by unfold fW;rw [if_neg (by rw [h];simp),if_pos a]
 refine ⟨?_,e⟩;unfold gl;rw [if_neg (by rw [e];omega)]
theorem DT (h:oG i=true) (a:0<=c/\c<6):fW i c=0:=by unfold fW;rw [if_neg (by rw [h];simp),if_neg (λe=>e a)]
theorem yC (h:fW i c=0):gl i c=i * 256+(c+1):=if_pos h
theorem vt (w:ak) (i c:Int):a_ 128 [.int .i64 i,.int .i64 c] w (LN w i c):=by
 refine bc Tryz.func128 ?_;rw [Ih];refine aC (Nx w i) ?_;rintro v w1 ⟨rfl,rfl⟩;refine ⟨_,rfl,er (λd=>?_) (λf=>?_)⟩
 ·obtain ⟨a,b⟩:=Ll (c:=c) d;exact ⟨by rw [a,b],rfl⟩
 refine aC (JE w1 c) ?_;rintro v h ⟨rfl,rfl⟩;refine ⟨_,rfl,er (λd=>?_) (λg=>?_)⟩
 ·obtain ⟨a,b⟩:=Lm f (of_decide_eq_false d);exact ⟨by rw [a,b],rfl⟩
 ·have e:=DT f (of_decide_eq_true g);exact ⟨by rw [Nw e,yC e,e],rfl⟩
abbrev JF (w:ak) (t:Int):cA:=λx w'=>x=.tuple #[.int .i64 (kv t),.int .i64 (kx t),.bool (mC t)]/\w'=w
theorem Cp (h:fW (t / 256) (t % 256 - 1)≠0):kv t=0/\kx t=0/\mC t=false:=⟨if_neg h,if_neg h,decide_eq_false h⟩
theorem AF (h:fW (t / 256) (t % 256 - 1)=0):kv t=t / 256/\kx t=t % 256 - 1/\mC t=true:=⟨if_pos h,if_pos h,decide_eq_true h⟩
theorem O2 (a:b8 t):db .u64 t 8=t / 256:=by show Int.fdiv t 256=_;rw [uS _ (by decide)]
theorem LO (w:ak):a_ 198 [.int .i64 8] w λv w'=>v=.int .u64 255/\w'=w:=by refine bc Tryz.func198 ?_;rw [HD];exact ⟨by decide,by rfl,rfl⟩
theorem G3 (w:ak) (f:b8 t):a_ 177 [.int .u64 t] w (JF w t):=by
 have j:=f.1;have k:=f.2;refine bc Tryz.func177 ?_;rw [UL];rw [O2 f];refine a' (λh=>?_) (λh=>?_)
 ·refine aC (LO w) ?_;rintro v w1 ⟨rfl,rfl⟩;refine ⟨_,rfl,?_⟩;have i:fq .u64 t 255=t % 256:=AI j k 8 (by omega);dsimp only;rw [i,bC (x:=t / 256) (by omega) (by omega),bC (x:=t % 256) (by omega) (by omega),bC (x:=t % 256 - 1) (by omega) (by omega)];refine aC (vt w1 (t / 256) (t % 256 - 1)) ?_;rintro v l ⟨rfl,rfl⟩;refine ⟨_,_,rfl,dw (λhe=>?_) (λhe=>?_)⟩
  ·obtain ⟨a,b,c⟩:=Cp he;exact ⟨by rw [a,b,c],rfl⟩
  ·obtain ⟨a,b,c⟩:=AF he;rw [yC he];refine dw (λe=>absurd (by omega) e) (λ_=>⟨by rw [a,b,c],rfl⟩)
 ·have d:fW (t / 256) (t % 256 - 1)=2:=Lk (by have h:¬ t / 256<=59:=h;omega);obtain ⟨a,b,c⟩:=Cp (t:=t) (by rw [d];omega);refine aC (vt w 0 0) ?_;rintro v l ⟨rfl,rfl⟩;have g:fW 0 0=2:=by decide
  refine ⟨_,_,rfl,dw (λhe=>⟨by rw [a,b,c],rfl⟩) (λhe=>absurd (g.symm.trans he) (by decide))⟩
structure b2 where
 a3:Int
 inc:Int
 lines:Int
 v:jd
 dead:Int
 dR:Int
 prev:Int
def b2.tail (j:b2):Int:=
 if j.lines<98\/256<j.lines then 18 else if j.dead=j.a3/\j.dR≠j.inc then 1
 else if j.dead≠j.a3/\(j.dR<2\/60<j.dR\/Int.tmod j.dR 2≠0) then 2
 else if j.prev≠0/\(mC j.prev=false\/kx j.prev=j.a3/\j.inc<=kv j.prev\/kx j.prev=j.dead/\j.dR<=kv j.prev) then 1 else 0
def b2.valid (j:b2):Int:=
 if fW j.inc j.a3≠0 then fW j.inc j.a3 else if j.dead<0\/6<=j.dead then 1 else if j.v.valid 5≠0 then j.v.valid 5 else j.tail
structure q8 (w:ak) (r:dr) (j:b2):Prop where
 a3:r.Client=j.a3
 inc:r.g5=j.inc
 lines:r.fF=j.lines
 view:∃ M,f0 M w r.View j.v
 dead:r.ew=j.dead
 dR:r.fi=j.dR
 prev:r.gD=j.prev
 u64:b8 r.gD
theorem q8.new {w w':ak} {r:dr} {j:b2} (h:q8 w r j) (a:ai w w'):q8 w' r j:=⟨h.a3,h.inc,h.lines,h.view.imp λ_ h=>h.new a,h.dead,h.dR,h.prev,h.u64⟩
end
end Go.Proofs.YtmkljjbioomepaaGreat
