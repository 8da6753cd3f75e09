import Derived.Test.YtmkljjbioomepaaGreatd22
import Derived.OrdersIn
import Derived.Test.YtmkljjbioomepaaGreatd04
set_option linter.all false
namespace Go.Proofs.YtmkljjbioomepaaGreat
open Go.bs e7
def f8 (m:Nat) (a o w:Int):aQ:=⟨3,(m:Int),a,0,o,w,[],1,1⟩
def cX (m:Nat) (a k:Int):aQ:=⟨1,(m:Int),a,k,0,0,[],1,1⟩
theorem oU {n L m:Nat} {a o w:Int} (i:n<=5) (hm:m<n) (f:1<=L/\L<=256) (g:24<=a) (e:a+1<=L * 8):iw n L (f8 m a o w):=by
 refine ⟨λk h d=>?_,⟨by show (0:Int)<=m;omega,by show (m:Int)<n;omega⟩,rfl,rfl⟩;have b:(f8 m a o w).v.count=1:=rfl;have c:(f8 m a o w).v.inside k L=true:=by unfold aG.inside aG.cN aG.c9;rw [b];apply decide_eq_true;show 1<=k/\k<=5/\1<=(L:Int)/\(L:Int)<=256/\0<=(m:Int)/\(m:Int)<k/\0<=a/\a<(L:Int) * 8/\(1:Int)<=1024/\(a+1 - 1) / 8<(L:Int)/\(a+1 - 1) / 8 - a / 8<128;omega
 unfold aG.valid;rw [b,if_neg (by omega),c,if_neg (by simp),if_neg];unfold aG.cN aG.c9 aG.last;rw [b];show ¬ (a / 8<=(if (3:Int)=1 then 3 else 2)/\(if (3:Int)=1 then 3 else 2)<(a+1 - 1) / 8);rw [if_neg (by omega)];omega
theorem nW {n L m:Nat} {a c:Int} (l:n<=5) (hm:m<n) (h:1<=L/\L<=256) (i:0<=a) (f:1<=c/\c<=1000) (g:a+c<=L * 8) (o:32<=a\/a+c<=32):iw n L (cX m a c):=by
 refine ⟨λk j e=>?_,⟨by show (0:Int)<=m;omega,by show (m:Int)<n;omega⟩,rfl,rfl⟩;have b:(cX m a c).v.count=c:=rfl;have d:(cX m a c).v.inside k L=true:=by unfold aG.inside aG.cN aG.c9;rw [b];apply decide_eq_true;show 1<=k/\k<=5/\1<=(L:Int)/\(L:Int)<=256/\0<=(m:Int)/\(m:Int)<k/\0<=a/\a<(L:Int) * 8/\c<=1024/\(a+c - 1) / 8<(L:Int)/\(a+c - 1) / 8 - a / 8<128;omega
 unfold aG.valid;rw [b,if_neg (by omega),d,if_neg (by simp),if_neg];unfold aG.cN aG.c9 aG.last;rw [b];show ¬ (a / 8<=(if (1:Int)=1 then 3 else 2)/\(if (1:Int)=1 then 3 else 2)<(a+c - 1) / 8);rw [if_pos rfl];omega
theorem zm:∀ (f:Nat) (a c:Int),a % 8=0->c<=f->∀ e:Nat,(hL f a c)[e]?=if 8 * (e:Int)<c then some (a+8 * e,if 8<c - 8 * e then 8 else c - 8 * e) else none
 | 0,a,c,g,i,e=>by rw [if_neg (by omega)];rfl
 |f+1,a,c,g,i,e=>by
  unfold hL;by_cases b:c<=0
  ·rw [if_pos b,if_neg (by omega)];rfl
  rw [if_neg b,g];by_cases d:8 - 0<c
  ·rw [if_pos d];cases e with
   |zero=>rw [if_pos (by omega)];simp only [rz];congr 1;rw [if_pos (by omega)];simp
   |succ e=>
    rw [n4,zm f _ _ (by omega) (by omega) e];by_cases h:8 * ((e+1:Nat):Int)<c
    ·rw [if_pos (by omega),if_pos h];congr 2
     ·omega
     ·congr 1
      ·simp;omega
      ·omega
    ·rw [if_neg (by omega),if_neg h]
  ·rw [if_neg d];cases e with
   |zero=>rw [if_pos (by omega)];simp only [rz];rw [if_neg (by omega)];simp
   |succ e=>
    rw [n4,if_neg (by omega)];cases f with
    |zero=>rfl
    |succ f=>unfold hL;rw [if_pos (by omega)];rfl
section
variable {p:cR} {x:aN} {e0:List aQ} {m:Nat}
theorem zS {a:Nat} {ws:a8} (t:fS p) (j:p.a3=cD m a ws::e0) (u:p.refusal (cD m a ws) x=0) (z:a % 8=0) (aq:p.words=[]) (C:a+ws.length<=x.words.length) :
  8 * p.bz<ws.length/\(p.step x).2.1=x.write (a+8 * p.bz) ((ws.drop (8 * p.bz)).take 8)/\pf a ws.length x (p.step x).2.1/\(∀ k,k<ws.length->8 * p.bz<=k/\k<8 * (p.bz+1)\/x.get (a+k)=ws.getD k 0->(p.step x).2.1.get (a+k)=ws.getD k 0)/\
   ((8 * (p.bz+1)<ws.length/\(p.step x).1={ p with bz:=p.bz+1 }/\(p.step x).2.2=none)\/(ws.length<=8 * (p.bz+1)/\(p.step x).1=p.done/\(p.step x).2.2=some ⟨0,[]⟩)):=by
 have r:=t.hX _ _ j;have c:(cD m a ws).v.count=ws.length:=rfl;have s:∀ e:Nat,(cD m a ws).v.pieces[e]?=if 8 * (e:Int)<ws.length then some ((a:Int)+8 * e,if 8<(ws.length:Int) - 8 * e then 8 else (ws.length:Int) - 8 * e) else none:=λe=>by unfold aG.pieces;rw [c];exact zm _ _ _ (by show (a:Int) % 8=0;omega) (by omega) e
 have hlen:∀ e:Nat,e<(cD m a ws).v.pieces.length↔8 * e<ws.length:=λe=>by
  have:=s e;constructor
  ·intro h;rw [bE h] at this;by_cases o:8 * (e:Int)<ws.length
   ·omega
   ·rw [if_neg o] at this;cases this
  ·intro h;rw [if_pos (by omega)] at this;exact b3 this
 have o:=(hlen _).1 r;have q:(cD m a ws).v.pieces.getD p.bz (0,0)=((a:Int)+8 * p.bz,if 8<(ws.length:Int) - 8 * p.bz then 8 else (ws.length:Int) - 8 * p.bz):=by rw [dq,s,if_pos (by omega)];rfl
 have y:exec (cD m a ws) ((cD m a ws).v.pieces.getD p.bz (0,0)) x=(x.write (a+8 * p.bz) ((ws.drop (8 * p.bz)).take 8),[]):=by
  rw [q];unfold exec;rw [if_neg (show ¬ (cD m a ws).kind=1 by show ¬ (2:Int)=1;omega),if_pos (show (cD m a ws).kind=2 from rfl)];show (x.write ((a:Int)+8 * p.bz).toNat ((ws.drop ((a:Int)+8 * p.bz - (a:Int)).toNat).take (if 8<(ws.length:Int) - 8 * p.bz then (8:Int) else (ws.length:Int) - 8 * p.bz).toNat),([]:a8))=_;have e:(ws.drop (8 * p.bz)).take (if 8<(ws.length:Int) - 8 * p.bz then (8:Int) else (ws.length:Int) - 8 * p.bz).toNat=(ws.drop (8 * p.bz)).take 8:=by
   split
   ·rfl
   ·rw [h1 (by rw [lH];omega),h1 (by rw [lH];omega)]
  rw [show ((a:Int)+8 * p.bz - (a:Int)).toNat=8 * p.bz by omega,show ((a:Int)+8 * p.bz).toNat=a+8 * p.bz by omega,e]
 have b:=vk j u;rw [y,aq] at b;have w:((ws.drop (8 * p.bz)).take 8).length<=8/\a+8 * p.bz+((ws.drop (8 * p.bz)).take 8).length<=a+ws.length:=by simp;omega
 have g:=pF (n:=x) (a:=a+8 * p.bz) (ws:=(ws.drop (8 * p.bz)).take 8) (by omega);have l:(p.step x).2.1=x.write (a+8 * p.bz) ((ws.drop (8 * p.bz)).take 8):=by rw [b];split<;>rfl
 refine ⟨o,l,?_,λk B d=>?_,?_⟩
 ·rw [l];exact ⟨Cu (by omega),rfl,λi A=>by rw [g,if_neg (by omega)]⟩
 ·rw [l,g];by_cases f:a+8 * p.bz<=a+k/\a+k<a+8 * p.bz+((ws.drop (8 * p.bz)).take 8).length
  ·rw [if_pos f,show a+k - (a+8 * p.bz)=k - 8 * p.bz by omega];simp only [dq];rw [tl (by omega),kv];congr 2;omega
  ·rw [if_neg f];rcases d with d | d
   ·exfalso;simp at f <;> omega
   ·exact d
 ·rw [b];by_cases h:p.bz+1<(cD m a ws).v.pieces.length
  ·rw [if_pos h];exact .inl ⟨(hlen _).1 h,by simp [aq],rfl⟩
  ·rw [if_neg h];exact .inr ⟨by have:=(hlen (p.bz+1));omega,rfl,rfl⟩
theorem QW {a k:Nat} (q:fS p) (i:p.a3=cX m a k::e0) (r:p.refusal (cX m a k) x=0) (l:a % 8=0\/k=1) (aq:p.words=(x.words.drop a).take (8 * p.bz)) (s:a+k<=x.words.length) :
  (p.step x).2.1=x/\(((p.step x).1={ p with bz:=p.bz+1,words:=(x.words.drop a).take (8 * (p.bz+1)) }/\(p.step x).2.2=none)\/((p.step x).1=p.done/\(p.step x).2.2=some ⟨0,(x.words.drop a).take k⟩)):=by
 have f:=q.hX _ _ i;have c:(cX m a k).v.count=k:=rfl;have b:=vk i r;by_cases g:k=1
 ·subst g;have d:(cX m a (1:Nat)).v.pieces=[((a:Int),1)]:=mt (v:=(cX m a (1:Nat)).v) (by show (1:Int)<=1;omega) (by show (a:Int) % 8+1<=8;omega) (by show (0:Int)<=a;omega);have he:p.bz=0:=by rw [d] at f;simp at f;exact f
  rw [d,he] at b;rw [b];refine ⟨by simp [exec,cX],.inr ⟨by simp,?_⟩⟩;rw [aq,he];simp [exec,cX,aN.read]
 have l:a % 8=0:=l.resolve_right g;have n:∀ e:Nat,(cX m a k).v.pieces[e]?=if 8 * (e:Int)<k then some ((a:Int)+8 * e,if 8<(k:Int) - 8 * e then 8 else (k:Int) - 8 * e) else none:=λe=>by unfold aG.pieces;rw [c];exact zm _ _ _ (by show (a:Int) % 8=0;omega) (by omega) e
 have hlen:∀ e:Nat,e<(cX m a k).v.pieces.length↔8 * e<k:=λe=>by
  have:=n e;constructor
  ·intro h;rw [bE h] at this;by_cases j:8 * (e:Int)<k
   ·omega
   ·rw [if_neg j] at this;cases this
  ·intro h;rw [if_pos (by omega)] at this;exact b3 this
 have j:=(hlen _).1 f;have d:(cX m a k).v.pieces.getD p.bz (0,0)=((a:Int)+8 * p.bz,if 8<(k:Int) - 8 * p.bz then 8 else (k:Int) - 8 * p.bz):=by rw [dq,n,if_pos (by omega)];rfl
 have hw:p.words++(exec (cX m a k) ((cX m a k).v.pieces.getD p.bz (0,0)) x).2=(x.words.drop a).take (min (8 * (p.bz+1)) k):=by rw [d,aq];unfold exec;rw [if_pos (show (cX m a k).kind=1 from rfl)];simp only [aN.read];rw [show ((a:Int)+8 * p.bz).toNat=a+8 * p.bz by omega,<-vw,<-List.take_add];congr 1;split<;>omega
 have o:(exec (cX m a k) ((cX m a k).v.pieces.getD p.bz (0,0)) x).1=x:=by unfold exec;rw [if_pos (show (cX m a k).kind=1 from rfl)]
 rw [hw,o] at b;rw [b];by_cases h:p.bz+1<(cX m a k).v.pieces.length
 ·rw [if_pos h];have:=(hlen _).1 h;rw [show min (8 * (p.bz+1)) k=8 * (p.bz+1) by omega];exact ⟨rfl,.inl ⟨rfl,rfl⟩⟩
 ·rw [if_neg h];have:=hlen (p.bz+1);rw [show min (8 * (p.bz+1)) k=k by omega];exact ⟨rfl,.inr ⟨rfl,rfl⟩⟩
theorem tX {a:Nat} {o w:Int} (c:fS p) (b:p.a3=f8 m a o w::e0) (e:p.refusal (f8 m a o w) x=0):p.step x=(p.done,x.fx a o w,some ⟨0,[x.get a]⟩):=by have d:(f8 m a o w).v.pieces=[((a:Int),1)]:=mt (v:=(f8 m a o w).v) (by show (1:Int)<=1;omega) (by show (a:Int) % 8+1<=8;omega) (by show (0:Int)<=a;omega);rw [Dx c b e d,MC rfl];rfl
theorem zJ {v:aQ} (a:p.a3=v::e0) (b:p.refusal v x≠0):p.step x=(p.done,x,some ⟨p.refusal v x,[]⟩):=by unfold cR.step;rw [a];simp only;rw [if_pos b]
end
end Go.Proofs.YtmkljjbioomepaaGreat
namespace Go.Proofs.YtmkljjbioomepaaGreat
open Go.bs
def oV (i:Int):Bool:=decide (1<=i/\i<=59) && (Int.tmod i 2 == 1)
def gg (i c:Int):Int:=if oV i=false then 2 else if ¬ (0<=c/\c<6) then 1 else 0
def gG (i c:Int):Int:=if gg i c=0 then i * 256+(c+1) else 0
def pu (t:Int):Int:=if gg (t / 256) (t % 256 - 1)=0 then t / 256 else 0
def kP (t:Int):Int:=if gg (t / 256) (t % 256 - 1)=0 then t % 256 - 1 else 0
def mT (t:Int):Bool:=decide (gg (t / 256) (t % 256 - 1)=0)
theorem u9 {i c:Int} (h:gg i c=0):(1<=i/\i<=59)/\0<=c/\c<6:=by
 unfold gg at h;split at h
 ·cases h
 ·rename_i a;split at h
  ·cases h
  ·rename_i b;have b:0<=c/\c<6:=by simpa using b
   have a:oV i=true:=by simpa using a
   unfold oV at a;have d:=of_decide_eq_true (Bool.and_eq_true_iff.1 a).1;exact ⟨d,b⟩
theorem ME {i c:Int} (h:59<i):gg i c=2:=by unfold gg;rw [if_pos];unfold oV;rw [decide_eq_false (by omega)];rfl
theorem OX {i c:Int} (h:gg i c=0):ju .u64 (ix .u64 (IntKind.u64.wrap i) 8) (IntKind.u64.wrap (IntKind.i64.wrap (c+1)))=i * 256+(c+1):=by
 obtain ⟨⟨f,g⟩,j,k⟩:=u9 h;rw [bH (x:=c+1) (by omega) (by omega),j3 (x:=c+1) (by omega) (by omega),j3 (x:=i) (by omega) (by omega)];have b:ix .u64 i 8=i * 256:=by show IntKind.u64.wrap (i * 2 ^ 8)=_;have:(2:Int) ^ 8=256:=rfl;rw [this];exact j3 (by omega) (by omega)
 rw [b];obtain ⟨n,rfl⟩:=p8 (show 0<=i by omega);obtain ⟨m,hm⟩:=p8 (show 0<=c+1 by omega);rw [hm];have d:(n:Int) * 256=((n * 256:Nat):Int):=(Int.natCast_mul n 256).symm;rw [d,vg _ _ (by omega) (by omega)];have a:=v_ n m 8 (by omega);have e:(2:Nat) ^ 8=256:=rfl;rw [e] at a;rw [a];exact Int.natCast_add _ _
theorem Bw (w:ak) (x a b:Int):bb 141 [.int .i64 x,.int .i64 a,.int .i64 b] w λv w'=>v=.bool (decide (a<=x/\x<=b))/\w'=w:=by
 refine bd Tryz.func141 ?_;rw [GI];refine bc (λh=>⟨?_,rfl⟩) (λh=>⟨?_,rfl⟩)
 ·have:a<=x:=h;simp [this]
 ·have:¬ a<=x:=h;simp [this]
theorem OY (w:ak) (i:Int):bb 178 [.int .i64 i] w λv w'=>v=.bool (oV i)/\w'=w:=by refine bd Tryz.func178 ?_;rw [It];refine aD (Bw w i 1 59) ?_;rintro v w1 ⟨rfl,rfl⟩;unfold oV;refine ⟨_,rfl,f' (λh=>⟨by rw [h];simp,rfl⟩) (λh=>⟨by rw [h];simp,rfl⟩)⟩
theorem La (w:ak) (c:Int):bb 158 [.int .i64 c] w λv w'=>v=.bool (decide (0<=c/\c<6))/\w'=w:=by refine bd Tryz.func158 ?_;rw [G6];refine aD (Bw w c 0 5) ?_;rintro v w1 ⟨rfl,rfl⟩;refine ⟨_,rfl,?_,rfl⟩;congr 1;rw [decide_eq_decide];omega
abbrev Ns (w:ak) (i c:Int):cz:=λx w'=>x=.tuple #[.int .u64 (gG i c),.int .i64 (gg i c)]/\w'=w
theorem MF {i c:Int} (h:oV i=false):gG i c=0/\gg i c=2:=by have e:gg i c=2:=if_pos h;refine ⟨?_,e⟩;unfold gG;rw [if_neg (by rw [e];omega)]
theorem MG {i c:Int} (h:oV i=true) (a:¬ (0<=c/\c<6)):gG i c=0/\gg i c=1:=by
 have e:gg i c=1:=by unfold gg;rw [if_neg (by rw [h];simp),if_pos a]
 refine ⟨?_,e⟩;unfold gG;rw [if_neg (by rw [e];omega)]
theorem EE {i c:Int} (h:oV i=true) (a:0<=c/\c<6):gg i c=0:=by unfold gg;rw [if_neg (by rw [h];simp),if_neg (λe=>e a)]
theorem zn {i c:Int} (h:gg i c=0):gG i c=i * 256+(c+1):=if_pos h
theorem wg (w:ak) (i c:Int):bb 128 [.int .i64 i,.int .i64 c] w (Ns w i c):=by
 refine bd Tryz.func128 ?_;rw [Ja];refine aD (OY w i) ?_;rintro v w1 ⟨rfl,rfl⟩;refine ⟨_,rfl,ev (λd=>?_) (λf=>?_)⟩
 ·obtain ⟨a,b⟩:=MF (c:=c) d;exact ⟨by rw [a,b],rfl⟩
 refine aD (La w1 c) ?_;rintro v h ⟨rfl,rfl⟩;refine ⟨_,rfl,ev (λd=>?_) (λg=>?_)⟩
 ·obtain ⟨a,b⟩:=MG f (of_decide_eq_false d);exact ⟨by rw [a,b],rfl⟩
 ·have e:=EE f (of_decide_eq_true g);exact ⟨by rw [OX e,zn e,e],rfl⟩
abbrev In (w:ak) (t:Int):cz:=λx w'=>x=.tuple #[.int .i64 (pu t),.int .i64 (kP t),.bool (mT t)]/\w'=w
theorem Dy {t:Int} (h:gg (t / 256) (t % 256 - 1)≠0):pu t=0/\kP t=0/\mT t=false:=⟨if_neg h,if_neg h,decide_eq_false h⟩
theorem Bx {t:Int} (h:gg (t / 256) (t % 256 - 1)=0):pu t=t / 256/\kP t=t % 256 - 1/\mT t=true:=⟨if_pos h,if_pos h,decide_eq_true h⟩
theorem QY {t:Int} (a:cj t):df .u64 t 8=t / 256:=by show Int.fdiv t 256=_;rw [vo _ (by decide)]
theorem Nt (w:ak):bb 198 [.int .i64 8] w λv w'=>v=.int .u64 255/\w'=w:=by refine bd Tryz.func198 ?_;rw [II];exact ⟨by decide,by rfl,rfl⟩
theorem H9 (w:ak) {t:Int} (f:cj t):bb 177 [.int .u64 t] w (In w t):=by
 have j:=f.1;have k:=f.2;refine bd Tryz.func177 ?_;rw [WU];rw [QY f];refine bc (λh=>?_) (λh=>?_)
 ·refine aD (Nt w) ?_;rintro v w1 ⟨rfl,rfl⟩;refine ⟨_,rfl,?_⟩;have i:fG .u64 t 255=t % 256:=Bm j k 8 (by omega);dsimp only;rw [i,bH (x:=t / 256) (by omega) (by omega),bH (x:=t % 256) (by omega) (by omega),bH (x:=t % 256 - 1) (by omega) (by omega)];refine aD (wg w1 (t / 256) (t % 256 - 1)) ?_;rintro v l ⟨rfl,rfl⟩;refine ⟨_,_,rfl,du (λhe=>?_) (λhe=>?_)⟩
  ·obtain ⟨a,b,c⟩:=Dy he;exact ⟨by rw [a,b,c],rfl⟩
  ·obtain ⟨a,b,c⟩:=Bx he;rw [zn he];refine du (λe=>absurd (by omega) e) (λ_=>⟨by rw [a,b,c],rfl⟩)
 ·have d:gg (t / 256) (t % 256 - 1)=2:=ME (by have h:¬ t / 256<=59:=h;omega);obtain ⟨a,b,c⟩:=Dy (t:=t) (by rw [d];omega);refine aD (wg w 0 0) ?_;rintro v l ⟨rfl,rfl⟩;have g:gg 0 0=2:=by decide
  refine ⟨_,_,rfl,du (λhe=>⟨by rw [a,b,c],rfl⟩) (λhe=>absurd (g.symm.trans he) (by decide))⟩
structure ca where
 aW:Int
 inc:Int
 lines:Int
 v:jt
 dead:Int
 dV:Int
 prev:Int
def ca.tail (j:ca):Int:=
 if j.lines<98\/256<j.lines then 18 else if j.dead=j.aW/\j.dV≠j.inc then 1
 else if j.dead≠j.aW/\(j.dV<2\/60<j.dV\/Int.tmod j.dV 2≠0) then 2
 else if j.prev≠0/\(mT j.prev=false\/kP j.prev=j.aW/\j.inc<=pu j.prev\/kP j.prev=j.dead/\j.dV<=pu j.prev) then 1 else 0
def ca.valid (j:ca):Int:=
 if gg j.inc j.aW≠0 then gg j.inc j.aW else if j.dead<0\/6<=j.dead then 1 else if j.v.valid 5≠0 then j.v.valid 5 else j.tail
structure rp (w:ak) (r:dE) (j:ca):Prop where
 aW:r.Client=j.aW
 inc:r.ir=j.inc
 lines:r.hs=j.lines
 view:∃ M,gp M w r.View j.v
 dead:r.eV=j.dead
 dV:r.f0=j.dV
 prev:r.hK=j.prev
 u64:cj r.hK
theorem rp.new {w w':ak} {r:dE} {j:ca} (h:rp w r j) (a:ai w w'):rp w' r j:=⟨h.aW,h.inc,h.lines,h.view.imp λ_ h=>h.new a,h.dead,h.dV,h.prev,h.u64⟩
end Go.Proofs.YtmkljjbioomepaaGreat
set_option linter.unusedSectionVars false
namespace Go.Proofs.YtmkljjbioomepaaGreat
open Go.bs Go.RowKit
def plus (a:Act) (ds:List Deferred):Act:={ a with defers:=a.defers++ds }
def mn (ds:List Deferred) (a:ax):Act:={ tmps:=a.toArray,defers:=ds }
theorem MH (ds:List Deferred) (a:ax):plus (act a) ds=mn ds a:=rfl
theorem k_ (a:Act) (ds:List Deferred) (d:Option Tmp) (v:a4):(plus a ds).put d v=plus (a.put d v) ds:=by cases d<;>rfl
theorem By (a:Act) (ds:List Deferred):(plus a ds).eval=a.eval:=by funext x;cases x<;>rfl
def hU (F:Fence):Prop:=F=Fence.wide\/∃ r,F=Fence.wide.inRound r
theorem BR:hU Fence.wide:=.inl rfl
theorem H' (r:Nat):hU (Fence.wide.inRound r):=.inr ⟨r,rfl⟩
section
variable {P:Program} {F:Fence} {n:Nat} {ds:List Deferred} {Q jr:Exit->Act->aF}
theorem hU.fn (h:hU F) (f:FuncId):F.fn f:=by rcases h with rfl | ⟨r,rfl⟩<;>trivial
theorem hU.depth (h:hU F):F.depth=none:=by rcases h with rfl | ⟨r,rfl⟩<;>rfl
theorem hU.fenced (h:hU F):Machine.fenced P F=Machine.fenced P Fence.wide:=by rcases h with rfl | ⟨r,rfl⟩<;>rfl
theorem hU.calls (h:hU F) {f:FuncId} {args:Array a4} {w:ak} {R:Ending->aF} (k:Calls P f args w R):CallsIn F n P f args w R:=by
 rcases h with rfl | ⟨r,rfl⟩
 ·exact callsIn_wide.2 k
 ·exact CallsIn.inRound r (callsIn_wide.2 k)
theorem hU.rows (h:hU F) {row:String} {args:Array a4} {w:ak} {R:cz} (k:Rows P row args w R):RowsIn F n P row args w R:=by intro c cs _;obtain ⟨v,w',r,s⟩:=k c cs;exact ⟨v,w',r,by rw [h.fenced];exact stepsIn_wide.2 s⟩
def sD (o:Oper):Bool:=match o.op with
 | .defer _=>false
 | _=>true
theorem hU.Hc (h:hU F) {o:Oper} (d:sD o=true) (a:Operand->a4):o.semAt F.round a=execOp a o:=by
 rcases h with rfl | ⟨r,rfl⟩
 ·exact Oper.semAt_none _ _
 ·exact Oper.semAt_some _ _ _ λc b=>by simp [sD,b] at d
theorem hU.one (h:hU F):F.depth.isSome=true->1<=n:=λa=>by rw [h.depth] at a;cases a
theorem Nu (j:hU F) {o:Oper} {a:Act} {next next':Act->aF} (b:∀ a w,next a w->next' (plus a ds) w) (k:∀ c a w,¬ Q (.panic c) a w) (l:¬ LetsOut Q) :
  ∀ {x:Result Go.Next},o.upon P a next Q x->o.uponIn F n P (plus a ds) next' jr x
 | .ok (.value v) w',h=>by rw [Oper.uponIn_value,k_];exact b _ _ h
 | .ok .skip w',h=>by rw [Oper.uponIn_skip,k_];exact b _ _ h
 | .ok (.defer d) w',h=>by rw [Oper.uponIn_defer];have e:({ plus a ds with defers:=d::(plus a ds).defers }:Act)=plus { a with defers:=d::a.defers } ds:=rfl;rw [e,k_];exact b _ _ h
 | .ok (.enter f args) w',h=>by
  rw [Oper.uponIn_enter];refine ⟨j.one,j.calls (Calls.mono h λe i g=>?_)⟩;cases e with
  |returned v=>show next' ((plus a ds).put o.dst v) i;rw [k_];exact b _ _ g
  |panicked c=>exact absurd g (k _ _ _)
  |outgrown=>exact absurd g l
 | .ok (.row row args) w',h=>by rw [Oper.uponIn_row];refine ⟨j.one,j.rows (Rows.mono h λv i g=>?_)⟩;rw [k_];exact b _ _ g
 | .ok (.round ..) w',h=>h.elim
 | .halt (.panic v) w',h=>absurd h (k _ _ _)
 | .halt .blocked _,h=>h.elim
 | .halt .waiting _,h=>h.elim
 | .halt (.exit _) _,h=>h.elim
 | .halt (.stuck _) _,h=>h.elim
 | .halt (.unsupported _) _,h=>h.elim
theorem EF (d:hU F) {md:Region.Mode} {ops:Array Oper} (aq:∀ o ∈ ops.toList,sD o=true) (p:∀ a w,Q .normal a w->jr .normal (plus a ds) w) (r:∀ c a w,¬ Q (.panic c) a w) (j:¬ LetsOut Q) :
  ∀ (fuel:Nat) (c3:Array Bool) (a:Act) (w:ak),wpAny P md ops Q fuel c3 a w->wpAnyIn F n P md ops jr fuel c3 (plus a ds) w
 | 0,c3,a,w,h=>⟨h.1,p _ _ h.2⟩
 |fuel+1,c3,a,w,h=>by
  refine ⟨λt=>p _ _ (h.1 t),λi s=>?_⟩;have b:=h.2 i s;have q:=EF (md:=md) d aq p r j fuel (c3.setIfInBounds i true);unfold wpOp at b;unfold wpOpIn;cases l:ops[i]? with
  |none=>simp only [l] at b ⊢;exact q _ _ b
  |some o=>
   simp only [l] at b ⊢;have g:o ∈ ops.toList:=by obtain ⟨k,e⟩:=vl.1 l;exact e▸(Array.getElem_mem_toList k)
   have u:(plus a ds).tmps=a.tmps:=rfl;rw [u];split at b
   ·rename_i hw;rw [if_pos hw];refine ⟨λf _=>d.fn f,?_⟩;rw [d.Hc (aq o g),By];rcases b with b | ⟨_,b⟩
    ·exact Nu d q r j b
    ·exact absurd b j
   ·rename_i hw;rw [if_neg hw];refine ⟨λf _=>d.fn f,?_⟩;rw [k_];exact q _ _ b
theorem Lb (g:hU F) {o:Oper} {a:Act} {next next':Act->aF} (i:∀ a w,next a w->next' (plus a ds) w) (k:∀ c a w,¬ Q (.panic c) a w) (r:¬ LetsOut Q) :
  ∀ {x:Result Go.Next},o.uponIn Fence.wide 0 P a next Q x->o.uponIn F n P (plus a ds) next' jr x
 | .ok (.value v) w',h=>by rw [Oper.uponIn_value,k_];exact i _ _ h
 | .ok .skip w',h=>by rw [Oper.uponIn_skip,k_];exact i _ _ h
 | .ok (.defer d) w',h=>by rw [Oper.uponIn_defer];have e:({ plus a ds with defers:=d::(plus a ds).defers }:Act)=plus { a with defers:=d::a.defers } ds:=rfl;rw [e,k_];exact i _ _ h
 | .ok (.enter f args) w',h=>by
  rw [Oper.uponIn_enter];refine ⟨g.one,g.calls (Calls.mono (callsIn_wide.1 h.2) λe q b=>?_)⟩;cases e with
  |returned v=>show next' ((plus a ds).put o.dst v) q;rw [k_];exact i _ _ b
  |panicked c=>exact absurd b (k _ _ _)
  |outgrown=>exact absurd b r
 | .ok (.row row args) w',h=>by rw [Oper.uponIn_row];refine ⟨g.one,λc cs _=>?_⟩;obtain ⟨v,j,b,p⟩:=h.2 c cs (room_wide _);refine ⟨v,j,?_,by rw [g.fenced];exact p⟩;show next' ((plus a ds).put o.dst v) j;rw [k_];exact i _ _ b
 | .ok (.round l f tmps assign body) w',h=>by
  rw [Oper.uponIn_round];refine ⟨g.one,g.fn _,λc cs _=>?_⟩;obtain ⟨e,j,b,p⟩:=h.2.2 c cs (room_wide _);refine ⟨e,j,?_,by rw [g.fenced];exact p⟩;cases e with
  |returned v=>show next' ((plus a ds).put o.dst v) j;rw [k_];exact i _ _ b
  |panicked c=>exact absurd b (k _ _ _)
  |outgrown=>exact absurd b r
 | .halt (.panic v) w',h=>absurd h (k _ _ _)
 | .halt .blocked _,h=>h.elim
 | .halt .waiting _,h=>h.elim
 | .halt (.exit _) _,h=>h.elim
 | .halt (.stuck _) _,h=>h.elim
 | .halt (.unsupported _) _,h=>h.elim
theorem Ek (b:hU F) {ops:Array Oper} (i:∀ a w,Q .normal a w->jr .normal (plus a ds) w) (g:∀ c a w,¬ Q (.panic c) a w) (e:¬ LetsOut Q) :
  ∀ (l:List Oper) (a:Act) (w:ak),(∀ o ∈ l,sD o=true)->wpListIn Fence.wide 0 P ops Q l a w->wpListIn F n P ops jr l (plus a ds) w
 | [],a,w,_,h=>i _ _ h
 |o::l,a,w,aq,h=>by
  have j:=λa w=>Ek b (ops:=ops) i g e l a w λo k=>aq o (fw _ k)
  unfold wpListIn at h ⊢;split at h
  ·rename_i hw;show (if Region.wanted o (yielded ops a.tmps) then _ else _);rw [if_pos hw];refine ⟨λf _=>b.fn f,?_⟩;have d:=h.2;rw [show Fence.wide.round=none from rfl,Oper.semAt_none] at d;rw [b.Hc (aq o eO),By];exact Lb b j g e d
  ·rename_i hw;show (if Region.wanted o (yielded ops a.tmps) then _ else _);rw [if_neg hw];refine ⟨λf _=>b.fn f,?_⟩;rw [k_];exact j _ _ h.2
end
def m5 (ds:List Deferred) (Q:Exit->ax->aF):Exit->Act->aF
 | .panic _,_,_=>False
 | .outgrown,_,_=>False
 |e,a,w=>a.defers=ds/\Q e a.tmps.toList w
theorem g_ {ds:List Deferred} {Q:Exit->ax->aF} {e:Exit} {env:ax} {w:ak} (h:Q e env w) (he:(∀ c,e≠.panic c)/\e≠.outgrown):m5 ds Q e (mn ds env) w:=by
 cases e with
 |panic c=>exact absurd rfl (he.1 c)
 |outgrown=>exact absurd rfl he.2
 | _=>exact ⟨rfl,by simpa [mn] using h⟩
theorem mA {ds:List Deferred} {Q:Exit->ax->aF} {e:Exit} {a:Act} {w:ak} (h:m5 ds Q e a w):((∀ c,e≠.panic c)/\e≠.outgrown)/\∃ env,a=mn ds env/\Q e env w:=by
 have mk:∀ (a:Act),a.defers=ds->a=mn ds a.tmps.toList:=λa b=>by
  cases a with
  |mk t d=>simp only at b;subst b;simp [mn]
 cases e with
 |panic c=>exact h.elim
 |outgrown=>exact h.elim
 |normal=>exact ⟨⟨λ_=>by simp,by simp⟩,_,mk a h.1,h.2⟩
 |exit i=>exact ⟨⟨λ_=>by simp,by simp⟩,_,mk a h.1,h.2⟩
 |goto i=>exact ⟨⟨λ_=>by simp,by simp⟩,_,mk a h.1,h.2⟩
 |ret=>exact ⟨⟨λ_=>by simp,by simp⟩,_,mk a h.1,h.2⟩
def kG:Code->Bool
 | .region _ ops _=>ops.toList.all sD
 | .seq a b=>kG a && kG b
 | .cond _ a b=>kG a && kG b
 | .block _ c=>kG c
 | .skip=>true
 | .exit _=>true
 | .ret=>true
 | _=>false
theorem QZ (ds:List Deferred) (a:ax):(mn ds a).eval=ch a:=by rw [<-MH,By,s5]
theorem Lc {P:Program} {ops:List Oper} {env:ax} {K:ax->aF} {Q:Exit->Act->aF} {w:ak} (d:Region.noSelect ops.toArray=true)
  (b:∀ env w,K env w->Q .normal (act env) w) (dH:∀ c a w,¬ Q (.panic c) a w) (h:tS P ops env K w):wpAny P .any ops.toArray Q ops.toArray.size (Array.replicate ops.toArray.size false) (act env) { w with drawn:=w.drawn+1 }:=by
 unfold tS at h;split at h
 ·obtain ⟨S,e,h⟩:=h _ rfl;refine uQ (S:=S) (nd:=wx ops (y8 ops)) _ _ _ _ ?_;have:=nC (EQ ops _) d b dH _ _ _ _ _ (xX _ _) (λ_=>e) h;simpa using this
 ·refine uQ (S:=λ_=>True) (nd:=qW ops) _ _ _ _ ?_;have:=nC (y9 ops) d b dH _ _ _ _ _ (xX _ _) (λ_=>trivial) (h _ rfl);simpa using this
def ub (K:ax->aF):Exit->Act->aF
 | .normal,a,w=>∃ env,a=act env/\K env w
 | _,_,_=>False
theorem nv {P:Program} (hm:P.follows .mixedOrders=true) {F:Fence} (j:hU F) {n:Nat} {ds:List Deferred}:∀ (c:Code) (env:ax) (Q:Exit->ax->aF) (w:ak),
  kG c=true->W P c env Q w->c.wpIn F n P (m5 ds Q) (mn ds env) w
 | .skip,env,Q,w,aq,h=>by rw [W.eq_def] at h;exact wpIn_skip (g_ h ⟨λ_=>by simp,by simp⟩)
 | .region id ops draw,env,Q,w,aq,h=>by
  have d:∀ a w,ub (Q .normal) .normal a w->m5 ds Q .normal (plus a ds) w:=by rintro _ w ⟨f,rfl,A⟩;exact g_ A ⟨λ_=>by simp,by simp⟩
  have s:∀ c a w,¬ ub (Q .normal) (.panic c) a w:=λc a w h=>h
  have y:¬ LetsOut (ub (Q .normal)):=λ⟨_,_,h⟩=>h
  have k:∀ o ∈ ops.toList,sD o=true:=fE.1 aq;rw [W.eq_def] at h;cases draw with
  |true=>
   simp only at h;split at h
   ·rename_i B;have u:=Lc (Q:=ub (Q .normal)) (by simpa using B) (λenv w r=>⟨env,rfl,r⟩) s h;simp only [Array.toArray_toList] at u;exact wpIn_region_any hm (EF j k d s y _ _ _ _ u)
   ·exact h.elim
  |false=>simp only at h;exact wpIn_region_list (Ek j d s y _ _ _ k (by simpa using oJ (all:=ops.toList) (Q:=ub (Q .normal)) ops.toList env w (Q .normal) (λenv w r=>⟨env,rfl,r⟩) h))
 | .seq a b,env,Q,w,aq,h=>by
  rw [W.eq_def] at h;have aq:(kG a && kG b)=true:=aq;simp only [ep] at aq;have p:=nv hm j (n:=n) (ds:=ds) a env _ w aq.1 h;refine wpIn_seq (wpIn_mono p λx z w' g=>?_);obtain ⟨e,f,q,d⟩:=mA g;subst q;clear g;cases x with
  |normal=>exact nv hm j b f Q w' aq.2 d
  |panic c=>exact absurd rfl (e.1 c)
  |outgrown=>exact absurd rfl e.2
  |exit i=>exact g_ d e
  |goto i=>exact g_ d e
  |ret=>exact g_ d e
 | .cond o a b,env,Q,w,aq,h=>by
  rw [W.eq_def] at h;have aq:(kG a && kG b)=true:=aq;simp only [ep] at aq;simp only at h;split at h
  ·rename_i t C;refine wpIn_cond (t:=t) (by rw [QZ];exact C) ?_;cases t with
   |true=>exact nv hm j a env Q w aq.1 h
   |false=>exact nv hm j b env Q w aq.2 h
  ·exact h.elim
 | .block id c,env,Q,w,aq,h=>by
  rw [W.eq_def] at h;have p:=nv hm j (n:=n) (ds:=ds) c env _ w aq h;refine wpIn_block (wpIn_mono p λx z w' g=>?_);obtain ⟨e,f,q,d⟩:=mA g;subst q;clear g;cases x with
  |exit i=>
   simp only [aP] at d;simp only [Exit.inBlock];cases l:Nat.beq i id with
   |true=>rw [l] at d;rw [if_pos (kW l)];exact g_ d ⟨λ_=>by simp,by simp⟩
   |false=>rw [l] at d;rw [if_neg (BD l)];exact g_ d e
  |panic c=>exact absurd rfl (e.1 c)
  |outgrown=>exact absurd rfl e.2
  |normal=>exact g_ d e
  |goto i=>exact g_ d e
  |ret=>exact g_ d e
 | .loop c,env,Q,w,aq,h=>by cases aq
 | .exit i,env,Q,w,aq,h=>by rw [W.eq_def] at h;exact wpIn_exit (g_ h ⟨λ_=>by simp,by simp⟩)
 | .ret,env,Q,w,aq,h=>by rw [W.eq_def] at h;exact wpIn_ret (g_ h ⟨λ_=>by simp,by simp⟩)
 | .rangeFunc ..,_,_,_,aq,_=>by cases aq
 | .scope _,_,_,_,aq,_=>by cases aq
 | .label _,_,_,_,aq,_=>by cases aq
 | .goto _,_,_,_,aq,_=>by cases aq
 | .refuse _,_,_,_,aq,_=>by cases aq
def kB (Q:Exit->ax->aF):Exit->ax->aF
 | .exit i,env,w=>match Nat.beq i 77 with
  |true=>False
  |false=>Q (.exit i) env w
 |e,env,w=>Q e env w
def kg:Code->Bool
 | .region ..=>true
 | .seq a b=>kg a && kg b
 | .cond _ a b=>kg a && kg b
 | .block id c=>!Nat.beq 77 id && kg c
 | .skip=>true
 | .exit i=>!Nat.beq i 77
 | .ret=>true
 | _=>false
theorem yV {N:ax->aF} {Q:Exit->ax->aF}:kB (aZ N Q)=aZ N (kB Q):=by funext e env w;cases e<;>rfl
theorem BS {id:Nat} (h:Nat.beq 77 id=false) {Q:Exit->ax->aF}:kB (aP id Q)=aP id (kB Q):=by
 funext e env w;cases e with
 |exit i=>
  simp only [kB,aP];cases c:Nat.beq i id with
  |true=>
   have a:=kW c;subst a;have:Nat.beq i 77=false:=by
    cases b:Nat.beq i 77 with
    |false=>rfl
    |true=>have:=kW b;subst this;rw [Nat.beq_refl] at h;cases h
   rw [this]
  |false=>rfl
 | _=>rfl
theorem qk {P:Program}:∀ (c:Code) (env:ax) (Q:Exit->ax->aF) (w:ak),kg c=true->W P c env (kB Q) w=W P c env Q w
 | .skip,env,Q,w,_=>by rw [W.eq_def,W.eq_def];rfl
 | .region id ops draw,env,Q,w,_=>by rw [W.eq_def,W.eq_def];rfl
 | .seq a b,env,Q,w,h=>by have h:(kg a && kg b)=true:=h;simp only [ep] at h;rw [W.eq_def P (.seq a b),W.eq_def P (.seq a b)];show W P a env (aZ (λenv w=>W P b env (kB Q) w) (kB Q)) w=W P a env (aZ (λenv w=>W P b env Q w) Q) w;rw [<-yV,qk a env _ w h.1];congr 2;funext env w;exact qk b env Q w h.2
 | .cond c x y,env,Q,w,h=>by have h:(kg x && kg y)=true:=h;simp only [ep] at h;rw [W.eq_def P (.cond c x y),W.eq_def P (.cond c x y)];simp only [qk x env Q w h.1,qk y env Q w h.2]
 | .block id c,env,Q,w,h=>by have h:(!Nat.beq 77 id && kg c)=true:=h;simp only [ep,qc] at h;rw [W.eq_def P (.block id c),W.eq_def P (.block id c)];show W P c env (aP id (kB Q)) w=W P c env (aP id Q) w;rw [<-BS h.1,qk c env _ w h.2]
 | .exit i,env,Q,w,h=>by have h:(!Nat.beq i 77)=true:=h;rw [W.eq_def,W.eq_def];simp only [qc] at h;simp only [kB,h]
 | .ret,env,Q,w,_=>by rw [W.eq_def,W.eq_def];rfl
 | .loop ..,_,_,_,h=>by cases h
 | .rangeFunc ..,_,_,_,h=>by cases h
 | .scope ..,_,_,_,h=>by cases h
 | .label ..,_,_,_,h=>by cases h
 | .goto ..,_,_,_,h=>by cases h
 | .refuse ..,_,_,_,h=>by cases h
def ni:Code->cT->Code
 | _,[]=>.exit 77
 | .seq a b,n::p=>match n with | 0=>.seq (ni a p) b | _=>.seq a (ni b p)
 | .block id c,_::p=>.block id (ni c p)
 |c,_=>c
def ql:Code->cT->Bool
 | _,[]=>true
 | .seq a b,n::p=>match n with | 0=>ql a p && (kG b && kg b) | _=>(kG a && kg a) && ql b p
 | .block id c,_::p=>!Nat.beq 77 id && ql c p
 | _,_=>false
def rH (F:Fence) (n:Nat) (P:Program):Code->cT->(Exit->Act->aF)->Exit->Act->aF
 | _,[],Q=>Q
 | .seq a b,m::p,Q=>match m with
  | 0=>rH F n P a p (Exit.then (λa w=>b.wpIn F n P Q a w) Q)
  | _=>rH F n P b p Q
 | .block id c,_::p,Q=>rH F n P c p (Exit.inBlock id Q)
 | _,_,Q=>Q
theorem OZ {P:Program} (hm:P.follows .mixedOrders=true) {F:Fence} (y:hU F) {n:Nat} {ds:List Deferred}:∀ (p:cT) (c:Code) (env:ax) (Q:Exit->ax->aF) (q:Exit->Act->aF) (w:ak),
  ql c p=true->W P (ni c p) env Q w->(∀ env w,Q (.exit 77) env w->(sub c p).wpIn F n P (rH F n P c p q) (mn ds env) w)->
  (∀ e a w,m5 ds (kB Q) e a w->q e a w)->c.wpIn F n P q (mn ds env) w:=by
 intro p;induction p with
 |nil=>
  intro c env Q q w j h r l;have k:W P (.exit 77) env Q w:=by cases c<;>exact h
  rw [W.eq_def] at k;have o:=r env w k;have z:sub c []=c:=by rw [sub.eq_def]
  have A:rH F n P c [] q=q:=by cases c<;>rfl
  rw [z,A] at o;exact o
 |cons m p x=>
  intro c env Q q w j h r l;cases c with
  |seq a b=>
   cases m with
   |zero=>
    have j:(ql a p && (kG b && kg b))=true:=j;simp only [ep] at j;have k:W P (.seq (ni a p) b) env Q w:=h;rw [W.eq_def] at k;refine wpIn_seq ?_;refine x a env _ (Exit.then (λa w=>b.wpIn F n P q a w) q) w j.1 k (λenv w o=>?_) (λe a w o=>?_)
    ·have:=r env w o;rw [sub.eq_def] at this;exact this
    ·obtain ⟨d,f,rfl,g⟩:=mA o;rw [yV] at g;cases e with
     |normal=>
      have u:W P b f (kB Q) w:=by rw [qk b f Q w j.2.2];exact g
      exact wpIn_mono (nv hm y b f _ w j.2.1 u) l
     |panic c=>exact absurd rfl (d.1 c)
     |outgrown=>exact absurd rfl d.2
     |exit i=>exact l _ _ _ (g_ g d)
     |goto i=>exact l _ _ _ (g_ g d)
     |ret=>exact l _ _ _ (g_ g d)
   |succ m=>
    have j:((kG a && kg a) && ql b p)=true:=j;simp only [ep] at j;have k:W P (.seq a (ni b p)) env Q w:=h;rw [W.eq_def] at k;have k:W P a env (aZ (λenv w=>W P (ni b p) env Q w) Q) w:=k;rw [<-qk a env _ w j.1.2,yV] at k;refine wpIn_seq (wpIn_mono (nv hm y a env _ w j.1.1 k) λe a w o=>?_);obtain ⟨d,f,rfl,g⟩:=mA o;cases e with
    |normal=>refine x b f Q q w j.2 g (λenv w t=>?_) l;have:=r env w t;rw [sub.eq_def] at this;exact this
    |panic c=>exact absurd rfl (d.1 c)
    |outgrown=>exact absurd rfl d.2
    |exit i=>exact l _ _ _ (g_ g d)
    |goto i=>exact l _ _ _ (g_ g d)
    |ret=>exact l _ _ _ (g_ g d)
  |block id c=>
   have j:(!Nat.beq 77 id && ql c p)=true:=j;simp only [ep,qc] at j;have k:W P (.block id (ni c p)) env Q w:=h;rw [W.eq_def] at k;have k:W P (ni c p) env (aP id Q) w:=k;refine wpIn_block ?_;refine x c env (aP id Q) _ w j.2 k (λenv w o=>?_) (λe a w o=>?_)
   ·have t:Q (.exit 77) env w:=by simp only [aP,j.1] at o;exact o
    have:=r env w t;rw [sub.eq_def] at this;exact this
   ·obtain ⟨d,f,rfl,g⟩:=mA o;rw [BS j.1] at g;cases e with
    |exit i=>
     simp only [aP] at g;simp only [Exit.inBlock];cases s:Nat.beq i id with
     |true=>rw [s] at g;rw [if_pos (kW s)];exact l _ _ _ (g_ g ⟨λ_=>by simp,by simp⟩)
     |false=>rw [s] at g;rw [if_neg (BD s)];exact l _ _ _ (g_ g d)
    |panic c=>exact absurd rfl (d.1 c)
    |outgrown=>exact absurd rfl d.2
    |normal=>exact l _ _ _ (g_ g d)
    |goto i=>exact l _ _ _ (g_ g d)
    |ret=>exact l _ _ _ (g_ g d)
  | _=>cases j
theorem Kj {P:Program} {t:TypeId} {x:a4} {K c:cz} {w w':ak} (e:∀ bx v,w.cell? bx=some v->w'.cell? bx=some v) (g:∀ v,K v w->c v w') (h:n5 P t x K w):n5 P t x c w':=by
 have b:∀ (vs:ax) (bx:aX) (i:Nat),cf w bx i vs->cf w' bx i vs:=by
  intro vs;induction vs with
  |nil=>intro bx i h;exact trivial
  |cons v vs j=>intro bx i h;exact ⟨e _ _ h.1,j _ _ h.2⟩
 unfold n5 at h ⊢;split at h
 ·split at h
  ·exact h.elim
  ·rename_i inf f;split at h
   ·rename_i a;split at h
    ·rename_i k;exact Dd (λvs h=>⟨b _ _ _ h.1,g _ h.2⟩) h
    ·exact h.elim
   ·rename_i a;split at h
    ·exact h.elim
    ·rename_i d aq;exact Dc (λv h=>⟨e _ _ h.1,g _ h.2⟩) h
 ·exact h.elim
theorem BL {P:Program} {env:ax} {w w':ak} (b:∀ bx v,w.cell? bx=some v->w'.cell? bx=some v):∀ (rs:List ResultVar) {K:ax->Prop},nQ P rs env K w->nQ P rs env K w'
 | [],K,h=>h
 | .tmp t::rs,K,h=>BL b rs h
 | .cell a t::rs,K,h=>Kj b (λv h=>⟨rfl,BL b rs h.2⟩) h
theorem M5 {P:Program} {fn:Func} {R:cz} {n D:Nat} {e:Exit} {a:Act} {w:ak} {d:Ending->aF} (k:∀ v,R v w->w.heap[D]?=some (.deferred (some []))/\d (.returned v) (w.putObj D (.deferred none)))
  (h:m5 [{ target:=.collected D,args:=#[] }] (dC P fn R) e a w):bodyPostM Fence.wide n P fn d e a w:=by
 have main:∀ env,nQ P fn.results.toList env (λvs=>R (sR vs) w) w->LeavesInM Fence.wide n P fn env.toArray d [{ target:=.collected D,args:=#[] }] .returning w:=by
  intro env h;obtain ⟨vs,_,g⟩:=yt _ _ h;have j:=(k _ g).1;have r:∀ bx v,w.cell? bx=some v->(w.putObj D (.deferred none)).cell? bx=some v:=by
   intro bx v h;obtain ⟨o,l,q⟩:=cells_of_cell h;have f:bx.block≠D:=by intro e;rw [e,j] at l;cases l;cases q
   rw [World.cell?_of_block (w:=w)]
   ·exact h
   ·exact World.putObj_heap_other f
  obtain ⟨v,al,g⟩:=xY (P:=P) (fn:=fn) (env:=env) (w:=w.putObj D (.deferred none)) (K:=λv=>R v w) (BL r _ h);exact ⟨by simp,.inl ⟨_,_,rfl,run_takeDeferred j,⟨_,al,(k v g).2⟩⟩⟩
 obtain ⟨p,env,rfl,b⟩:=mA h;cases e with
 |normal=>exact main env b
 |ret=>exact main env b
 |panic c=>exact absurd rfl (p.1 c)
 |outgrown=>exact absurd rfl p.2
 |exit i=>exact b.elim
 |goto i=>exact b.elim
theorem MI {P:Program} {fn:Func} {R:cz} {n:Nat} {e:Exit} {a:Act} {w:ak} {d:Ending->aF} (g:∀ v,R v w->d (.returned v) w)
  (h:m5 [] (dC P fn R) e a w):bodyPostM Fence.wide n P fn d e a w:=by
 have main:∀ env,nQ P fn.results.toList env (λvs=>R (sR vs) w) w->LeavesInM Fence.wide n P fn env.toArray d [] .returning w:=by intro env h;obtain ⟨v,al,j⟩:=xY (P:=P) (fn:=fn) (env:=env) (w:=w) (K:=λv=>R v w) h;exact ⟨_,al,g v j⟩
 obtain ⟨f,env,rfl,b⟩:=mA h;cases e with
 |normal=>exact main env b
 |ret=>exact main env b
 |panic c=>exact absurd rfl (f.1 c)
 |outgrown=>exact absurd rfl f.2
 |exit i=>exact b.elim
 |goto i=>exact b.elim
def o8 (K:ax->aF):Exit->ax->aF
 | .exit i,env,w=>match Nat.beq i 77 with
  |true=>K env w
  |false=>False
 | _,_,_=>False
theorem MJ {P:Program} {fn:Func} {R:cz} {K:ax->aF} {ds:List Deferred} {e:Exit} {a:Act} {w:ak} (h:m5 ds (kB (bI P fn R (o8 K))) e a w):m5 ds (dC P fn R) e a w:=by
 obtain ⟨f,env,rfl,b⟩:=mA h;cases e with
 |normal=>exact b.elim
 |ret=>exact g_ b f
 |panic c=>exact absurd rfl (f.1 c)
 |outgrown=>exact absurd rfl f.2
 |exit i=>
  simp only [kB] at b;cases d:Nat.beq i 77 with
  |true=>rw [d] at b;exact b.elim
  |false=>rw [d] at b;have b:o8 K (.exit i) env w:=b;simp only [o8,d] at b
 |goto i=>exact b.elim
end Go.Proofs.YtmkljjbioomepaaGreat
