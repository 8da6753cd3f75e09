/- A part of the proof. -/
import Derived.Test.YtafopfaomkklpaaGreatp32
import Derived.Test.YtafopfaomkklpaaGreatp37
import Derived.Test.YtafopfaomkklpaaGreatp34
import Derived.Test.YtafopfaomkklpaaGreatProg
import Derived.Test.YtafopfaomkklpaaGreatp03
import Derived.Test.YtafopfaomkklpaaGreatp31
import Derived.Test.YtafopfaomkklpaaGreatp18
import Derived.Test.YtafopfaomkklpaaGreatp13
import Derived.Test.YtafopfaomkklpaaGreatp05
set_option linter.unusedVariables false
namespace Go.Mx
open Go.Eng Go.Proofs Go.Proofs.YtafopfaomkklpaaGreat
noncomputable def pcs (f:Nat):Nat→Nat→(List C→Prop)→Prop:=@Nat.rec (λ_=>Nat→Nat→(List C→Prop)→Prop) (λ_ _ _=>False) (λ_ ih at_ left K=>iff (Nat.beq left 0) (K []) (fN (minN left (Nat.sub 8 (Nat.mod at_ 8))) λn=>fN (Nat.add at_ n) λa'=>fN (Nat.sub left n) λl'=>ih a' l' λvs=>K (.i 3 (.ofNat at_)::.i 3 (.ofNat n)::vs))) f
def pcL (l:List (Int×Int)):List C:=l.flatMap λp=>[.i 3 p.1,.i 3 p.2]
theorem E8 (a b:Nat):minN a b=min a b:=by
 unfold minN
 cases h:Nat.ble a b with
 |true=>have:=cM h;show a=_;omega
 |false=>have:=xS h;show b=_;omega
theorem DQ:∀ (f a l g:Nat) (K:List C→Prop),l≤g→pcs f a l K→K (pcL (dE g a l))
 | 0,_,_,_,_,_,h=>h.elim
 |f+1,a,l,g,K,hg,h=>by
  have h:iff (Nat.beq l 0) (K []) (fN (minN l (Nat.sub 8 (Nat.mod a 8))) λn=>fN (Nat.add a n) λa'=>fN (Nat.sub l n) λl'=>pcs f a' l' λvs=>K (.i 3 (.ofNat a)::.i 3 (.ofNat n)::vs)):=h
  rcases u9 h with ⟨h1,h2⟩ | ⟨h1,h2⟩
  ·have:=beq_eq h1
   subst this
   have:dE g (a:Int) ((0:Nat):Int)=[]:=by cases g<;>simp [dE]
   rw [this]
   exact h2
  ·have hl:=qv h1
   have h3:=dS.1 h2
   have h3:=dS.1 h3
   have h3:=dS.1 h3
   rw [E8] at h3
   obtain ⟨g,rfl⟩:∃ g',g=g'+1:=⟨g - 1,by omega⟩
   have hm:(8:Nat) - a % 8=8 - a % 8:=rfl
   have e:Nat.sub 8 (Nat.mod a 8)=8 - a % 8:=rfl
   rw [e] at h3
   generalize hn:min l (8 - a % 8)=n at h3
   have hn1:1≤n∧n≤l:=by omega
   have h4:=DQ f (a+n) (l - n) g _ (by omega) h3
   rw [dE,if_neg (by omega)]
   have e1:(if 8 - (a:Int) % 8<(l:Int) then 8 - (a:Int) % 8 else (l:Int))=(n:Int):=by split<;>omega
   simp only [e1]
   have e2:((a:Int)+(n:Int))=((a+n:Nat):Int):=by omega
   have e3:((l:Int) - (n:Int))=((l - n:Nat):Int):=by omega
   rw [e2,e3]
   exact h4
def lenW (w:C):Nat:=match w with
 | .s _ _ len _ _=>len
 | _=>0
noncomputable def cntP (kd n:Nat) (w:C):Nat:=@Bool.rec (λ_=>Nat) (@Bool.rec (λ_=>Nat) (@Bool.rec (λ_=>Nat) (@Bool.rec (λ_=>Nat) 0 1 (Nat.beq kd 4)) 1 (Nat.beq kd 3)) (lenW w) (Nat.beq kd 2)) n (Nat.beq kd 1)
noncomputable def okW (w:C):Bool:=match w with
 | .ns=>true
 | .es=>true
 | .s ..=>true
 | _=>false
noncomputable def zm (args:List V) (H:Hp) (K:KV):Prop:=
 one args λv=>onA v λdp d o n=>rT dp d n o λl=>match l with
 | [.i 3 (.ofNat kd),.i 3 nd,.i 3 (.ofNat a),.i 3 (.ofNat n),.i 7 old,.i 7 new,w,.i 7 key,.i 3 bt]=>
  iff (okW w) (fN (cntP kd n w) λc=>iff (Nat.ble 1 c) (iff (Nat.ble c 1000000) (iff (Nat.ble a 1000000) (pcs 300 a c λl=>fN l.length λn=>obL n l λb=>fN (Nat.div n 2) λq=>newS H q 2 b K) False) False) False) False
 | _=>False
theorem DR (m:Mp):∀ l:List (Int×Int),LR m (pcL l) (uZ l).flatten
 | []=>⟨rfl,λi u h=>by simp [uZ] at h⟩
 |p::l=>by
  obtain ⟨h1,h2⟩:=DR m l
  refine ⟨by simpa [pcL,uZ] using h1,λi u h=>?_⟩
  have e:(uZ (p::l)).flatten=.int .i64 p.1::.int .i64 p.2::(uZ l).flatten:=rfl
  have e':pcL (p::l)=.i 3 p.1::.i 3 p.2::pcL l:=rfl
  rw [e] at h
  rw [e']
  match i,h with
  | 0,h=>simp at h;exact ⟨_,rfl,h.symm,rfl⟩
  | 1,h=>simp at h;exact ⟨_,rfl,h.symm,rfl⟩
  |i+2,h=>simp at h;exact h2 i u h
theorem Aw (l:List (Int×Int)):(pcL l).length=l.length * 2:=by
 induction l with
 |nil=>rfl
 |cons p l ih=>
  have:pcL (p::l)=.i 3 p.1::.i 3 p.2::pcL l:=rfl
  rw [this]
  simp [ih]
  omega
theorem E9 {m:Mp} {w:C} {v:Value} (h:okW w=true) (hr:CR m w v):∃ a len cap,v=.slice a len cap∧lenW w=len:=by
 cases w with
 |ns=>exact ⟨_,_,_,hr,rfl⟩
 |es=>obtain ⟨a,cap,h⟩:=hr;exact ⟨_,_,_,h,rfl⟩
 |s o off len sz c=>obtain ⟨b,n,cap,_,h,_⟩:=hr;exact ⟨_,_,_,h,rfl⟩
 | _=>cases h
theorem zn (w0:Bs):ze Tryz.prog w0 205 zm:=by
 intro args vals m w H K h hS ha
 obtain ⟨x,rfl,h1⟩:=xX h
 obtain ⟨dp,d,o,n,rfl,h2⟩:=th h1
 rw [jM] at h2
 match vals,ha with
 | [rv],⟨hv,_⟩=>
 obtain ⟨cs,rfl,hl,ht⟩:=hv
 have hget:∀ i,i<n→∃ u,cs[i]?=some u∧∃ c,(sJ dp d n o)[i]?=some c∧CR m c u:=λi hi=>by
  have h1:i<cs.length:=by omega
  exact ⟨cs[i],List.getElem?_eq_getElem h1,_,mM dp d n o i hi,(ht.2 i _ (List.getElem?_eq_getElem h1)).1⟩
 have hln:=kt dp d n o
 split at h2
 rotate_left
 ·exact h2.elim
 rename_i kd nd a n' old new wd key bt heq
 rw [heq] at hln hget
 have hn9:n=9:=by simpa using hln.symm
 subst hn9
 obtain ⟨hw,h3⟩:=cT h2
 have h4:=dS.1 h3
 obtain ⟨hc1,h5⟩:=cT h4
 obtain ⟨hc2,h6⟩:=cT h5
 obtain ⟨ha1,h7⟩:=cT h6
 have hc1:=cM hc1
 have hc2:=cM hc2
 have ha1:=cM ha1
 obtain ⟨u0,e0,c0,f0,r0⟩:=hget 0 (by omega)
 obtain ⟨u1,e1,c1,f1,r1⟩:=hget 1 (by omega)
 obtain ⟨u2,e2,c2,f2,r2⟩:=hget 2 (by omega)
 obtain ⟨u3,e3,c3,f3,r3⟩:=hget 3 (by omega)
 obtain ⟨u4,e4,c4,f4,r4⟩:=hget 4 (by omega)
 obtain ⟨u5,e5,c5,f5,r5⟩:=hget 5 (by omega)
 obtain ⟨u6,e6,c6,f6,r6⟩:=hget 6 (by omega)
 obtain ⟨u7,e7,c7,f7,r7⟩:=hget 7 (by omega)
 obtain ⟨u8,e8,c8,f8,r8⟩:=hget 8 (by omega)
 simp only [List.getElem?_cons_zero,List.getElem?_cons_succ,Option.some.injEq] at f0 f1 f2 f3 f4 f5 f6 f7 f8
 subst f0 f1 f2 f3 f4 f5 f6 f7 f8
 obtain ⟨ad,len,cap,rfl,hlen⟩:=E9 hw r6
 have hcs:cs=[u0,u1,u2,u3,u4,u5,.slice ad len cap,u7,u8]:=by
  match cs,hl with
  | [a0,a1,a2,a3,a4,a5,a6,a7,a8],_=>simp_all
 have q0:u0=.int .i64 (kd:Int):=r0
 have q1:u1=.int .i64 nd:=r1
 have q2:u2=.int .i64 (a:Int):=r2
 have q3:u3=.int .i64 (n':Int):=r3
 have q4:u4=.int .u64 old:=r4
 have q5:u5=.int .u64 new:=r5
 have q7:u7=.int .u64 key:=r7
 have q8:u8=.int .i64 bt:=r8
 subst q0 q1 q2 q3 q4 q5 q7 q8 hcs
 let v:bA:=⟨(kd:Int),nd,(a:Int),(n':Int),old,new,ad,len,cap,key,bt⟩
 have hcnt:v.count=((cntP kd n' wd:Nat):Int):=by
  show (if (kd:Int)=1 then (n':Int) else if (kd:Int)=2 then (len:Int) else if (kd:Int)=3∨(kd:Int)=4 then 1 else 0)=_
  unfold cntP
  cases h1:Nat.beq kd 1 with
  |true=>rw [if_pos (by have:=beq_eq h1;omega)]
  |false=>
   rw [if_neg (by have:=qv h1;omega)]
   cases h2:Nat.beq kd 2 with
   |true=>rw [if_pos (by have:=beq_eq h2;omega)];exact congrArg _ hlen.symm
   |false=>
    rw [if_neg (by have:=qv h2;omega)]
    cases h3:Nat.beq kd 3 with
    |true=>rw [if_pos (by have:=beq_eq h3;omega)];rfl
    |false=>
     cases h4:Nat.beq kd 4 with
     |true=>rw [if_pos (by have:=beq_eq h4;omega)];rfl
     |false=>rw [if_neg (by have:=qv h3;have:=qv h4;omega)];rfl
 have hp:=DQ _ _ _ v.count.toNat _ (by omega) h7
 have hpe:dE v.count.toNat (a:Int) ((cntP kd n' wd:Nat):Int)=v.pieces:=by
  show _=dE v.count.toNat (a:Int) v.count
  rw [hcnt]
 rw [hpe] at hp
 have h8:=dS.1 hp
 obtain ⟨hle,h9⟩:=ya h8
 have h10:=dS.1 h9
 have e10:Nat.div (pcL v.pieces).length 2=v.pieces.length:=by
  rw [Aw]
  show v.pieces.length * 2 / 2=_
  omega
 rw [e10] at h10
 obtain ⟨hnx,h11⟩:=qz h10
 refine (EB w v (by show (0:Int)≤(a:Int);omega) (by show (a:Int)≤1000000;omega) (by omega) (by omega)).mono ?_
 rintro e w' ⟨x,he,ad',cap',rfl,ho,hnew,hfr⟩
 refine ⟨_,he,?_⟩
 have hne:v.pieces≠[]:=xQ _ _ _ (by omega) (by omega)
 have hpos:0<v.pieces.length:=List.length_pos_iff.2 hne
 rcases ho.2 with ⟨_,h0,_⟩ | ⟨g,cur,rfl,hblk,hnc,hcm,hcur,htake⟩
 ·omega
 have hg:w.heap.size≤g:=hfr g ⟨0,rfl⟩
 have hfl:(uZ v.pieces).flatten.length=(pcL v.pieces).length:=(DR m v.pieces).1.symm
 have hadd:=hS.hr.add (b:=g) (N:=cap' * 2) (n:=(pcL v.pieces).length) (cs:=cur) (T:=TPc) hnx (Keep.of_new hnew) (.inl (by have:=hS.hr.size;omega)) hblk (λh=>absurd h (by omega)) hcur (by rw [Aw];omega) (mi hle)
  (by
   have:cur.take (pcL v.pieces).length=(uZ v.pieces).flatten:=by rw [Aw];exact htake
   rw [this]
   exact uc (DR m v.pieces) hfl hle)
  (λo wr n dp d N hg' hm=>by have:=hS.hr.bl hm;omega)
 refine ⟨_,.c (.s H.next 0 v.pieces.length 2 none),_,i4 (hS.hr.unm _ (Nat.le_refl _)),⟨g,cap' * 2,cap',?_,rfl,hnc,?_⟩,⟨hadd,hS.new.trans (Keep.of_new hnew) λi hi hf=>hf⟩,xg hnx,h11⟩
 ·unfold mset;rw [if_pos rfl]
 ·show 0+cap' * 2=_;omega
end Go.Mx
namespace Go.Mx
def HS (f id:Nat):Option Plan:=match f with
 | 12=>(match id with | 8=>some [(0,[]),(1,[]),(2,[]),(3,[]),(4,[]),(5,[]),(6,[]),(7,[]),(8,[]),(9,[]),(12,[]),(10,[4]),(11,[]),(13,[])] | 11=>some [(0,[]),(1,[]),(2,[]),(3,[]),(4,[]),(5,[]),(6,[]),(7,[]),(8,[]),(10,[]),(11,[]),(9,[1,11]),(12,[]),(13,[])] | _=>none)
 | 16=>(match id with | 21=>some [(0,[]),(1,[]),(2,[]),(3,[]),(4,[]),(5,[]),(6,[]),(7,[]),(8,[]),(9,[]),(10,[]),(11,[]),(12,[]),(13,[]),(14,[4]),(15,[]),(16,[])] | 28=>some [(0,[]),(1,[]),(2,[]),(3,[]),(4,[]),(5,[]),(6,[]),(7,[]),(8,[5]),(9,[]),(10,[]),(11,[]),(12,[]),(13,[])] | _=>none)
 | 17=>(match id with | 22=>some [(0,[]),(1,[]),(2,[]),(3,[]),(4,[]),(5,[]),(6,[]),(7,[]),(8,[]),(9,[]),(10,[]),(11,[1,4,7]),(12,[]),(13,[]),(14,[]),(15,[])] | _=>none)
 | 19=>(match id with | 8=>some [(0,[]),(1,[]),(2,[]),(3,[]),(4,[]),(5,[]),(6,[]),(7,[]),(8,[]),(9,[]),(10,[1,3,5]),(11,[]),(12,[]),(13,[]),(14,[])] | _=>none)
 | 23=>(match id with | 5=>some [(0,[]),(1,[]),(2,[]),(3,[]),(4,[]),(5,[]),(6,[4]),(7,[]),(8,[]),(9,[]),(10,[]),(11,[])] | _=>none)
 | 24=>(match id with | 3=>some [(0,[]),(1,[]),(2,[]),(3,[]),(4,[]),(5,[]),(6,[]),(7,[]),(8,[]),(9,[]),(10,[]),(11,[]),(12,[]),(13,[]),(14,[3]),(15,[]),(16,[]),(17,[])] | _=>none)
 | 25=>(match id with | 1=>some [(0,[]),(1,[]),(2,[]),(3,[]),(4,[]),(5,[]),(6,[]),(7,[]),(8,[]),(9,[]),(10,[]),(11,[3]),(12,[]),(13,[])] | 6=>some [(0,[]),(1,[]),(2,[]),(3,[]),(4,[]),(5,[]),(6,[]),(7,[]),(8,[]),(9,[]),(10,[]),(12,[]),(13,[]),(11,[3,13]),(14,[]),(15,[])] | 12=>some [(0,[]),(1,[]),(2,[]),(3,[]),(4,[]),(5,[]),(7,[]),(8,[]),(9,[]),(10,[]),(6,[3,8,10]),(11,[3,8]),(12,[]),(13,[]),(14,[]),(15,[])] | 14=>some [(0,[]),(1,[]),(2,[]),(3,[]),(4,[]),(6,[]),(7,[]),(5,[3,7]),(8,[3]),(9,[]),(10,[]),(11,[])] | 16=>some [(0,[]),(1,[]),(2,[]),(3,[]),(4,[]),(6,[]),(7,[]),(11,[]),(12,[]),(5,[3,7,12]),(8,[3,12]),(9,[]),(10,[]),(13,[3]),(14,[3]),(15,[]),(16,[]),(17,[]),(18,[]),(19,[])] | 18=>some [(0,[]),(1,[]),(2,[]),(3,[]),(4,[]),(6,[]),(7,[]),(5,[3,7]),(8,[3]),(9,[]),(10,[]),(11,[])] | 20=>some [(0,[]),(1,[]),(2,[]),(3,[]),(4,[]),(5,[]),(6,[3]),(7,[]),(8,[]),(9,[])] | 22=>some [(0,[]),(1,[]),(2,[]),(3,[]),(4,[]),(5,[]),(6,[3]),(7,[]),(8,[]),(9,[]),(10,[])] | 33=>some [(0,[]),(1,[]),(2,[]),(3,[]),(4,[]),(6,[]),(7,[]),(11,[]),(12,[]),(5,[3,7,12]),(8,[3,12]),(9,[]),(10,[]),(13,[3]),(14,[3]),(15,[]),(16,[]),(17,[]),(18,[]),(19,[])] | _=>none)
 | 38=>(match id with | 11=>some [(0,[]),(1,[]),(2,[]),(3,[]),(4,[]),(5,[]),(6,[]),(7,[]),(8,[]),(9,[]),(10,[]),(11,[]),(12,[]),(13,[]),(14,[]),(15,[]),(16,[]),(17,[]),(24,[]),(18,[]),(19,[]),(20,[]),(21,[]),(22,[]),(23,[]),(25,[]),(26,[]),(27,[]),(28,[])] | _=>none)
 | 46=>(match id with | 7=>some [(0,[]),(1,[]),(2,[]),(3,[]),(4,[]),(5,[]),(6,[]),(7,[]),(9,[]),(10,[]),(11,[]),(12,[]),(13,[]),(14,[]),(8,[12]),(15,[]),(16,[]),(17,[]),(18,[]),(19,[]),(20,[]),(21,[])] | _=>none)
 | 55=>(match id with | 10=>some [(0,[]),(1,[]),(2,[]),(3,[]),(4,[]),(5,[]),(6,[]),(7,[2,5]),(8,[]),(9,[]),(10,[])] | _=>none)
 | 62=>(match id with | 1=>some [(0,[]),(1,[]),(2,[]),(3,[]),(4,[]),(5,[3]),(6,[]),(7,[])] | _=>none)
 | 74=>(match id with | 1=>some [(0,[]),(1,[]),(4,[]),(5,[]),(6,[]),(7,[]),(8,[]),(9,[]),(10,[]),(11,[]),(12,[]),(13,[]),(16,[]),(2,[5,7,10]),(3,[]),(14,[]),(15,[]),(17,[])] | 6=>some [(0,[]),(1,[]),(2,[]),(3,[]),(4,[]),(6,[]),(8,[]),(9,[]),(10,[]),(11,[]),(5,[3,11]),(7,[]),(12,[]),(13,[])] | 8=>some [(0,[]),(1,[]),(2,[]),(3,[]),(4,[]),(6,[]),(7,[]),(8,[]),(9,[]),(10,[]),(5,[3,7,9]),(11,[3,7]),(12,[]),(13,[]),(14,[3]),(15,[]),(16,[]),(17,[]),(18,[]),(19,[])] | 12=>some [(0,[]),(1,[]),(2,[]),(3,[]),(4,[]),(5,[]),(6,[]),(7,[]),(8,[]),(9,[]),(11,[]),(12,[]),(13,[]),(14,[]),(15,[]),(16,[]),(10,[3,12,15]),(17,[3]),(18,[]),(19,[]),(20,[]),(21,[]),(22,[])] | _=>none)
 | 79=>(match id with | 1=>some [(0,[]),(1,[]),(3,[]),(4,[]),(5,[]),(6,[]),(7,[]),(8,[]),(9,[]),(10,[]),(11,[]),(12,[]),(14,[]),(2,[4,6,11]),(13,[]),(15,[])] | 4=>some [(0,[]),(1,[]),(2,[]),(3,[]),(4,[]),(5,[]),(7,[]),(8,[]),(9,[]),(10,[]),(11,[]),(15,[]),(6,[3,10]),(12,[3]),(13,[]),(14,[]),(16,[3]),(17,[]),(18,[]),(19,[]),(20,[]),(21,[])] | _=>none)
 | 91=>(match id with | 9=>some [(0,[]),(1,[]),(2,[]),(3,[]),(4,[]),(6,[]),(7,[]),(8,[]),(9,[]),(5,[6]),(10,[]),(11,[]),(12,[]),(13,[])] | _=>none)
 | 92=>(match id with | 5=>some [(0,[]),(1,[]),(2,[]),(3,[]),(4,[]),(5,[]),(6,[]),(7,[]),(8,[]),(9,[]),(10,[]),(13,[]),(15,[]),(11,[1,5]),(12,[1,5]),(14,[1,5]),(16,[1,5]),(17,[]),(18,[])] | 12=>some [(0,[]),(1,[]),(2,[]),(3,[]),(4,[3]),(5,[]),(6,[]),(7,[])] | 14=>some [(0,[]),(1,[]),(3,[]),(4,[]),(5,[]),(6,[]),(7,[]),(8,[]),(9,[]),(10,[]),(2,[5,8,10]),(11,[]),(12,[]),(13,[]),(14,[])] | 22=>some [(0,[]),(1,[]),(2,[]),(3,[]),(4,[]),(5,[4]),(6,[]),(7,[]),(8,[])] | _=>none)
 | 93=>(match id with | 3=>some [(0,[]),(1,[]),(2,[]),(3,[]),(4,[]),(5,[]),(6,[]),(8,[]),(9,[]),(10,[]),(11,[]),(12,[]),(13,[]),(14,[]),(7,[11]),(15,[]),(16,[]),(17,[]),(18,[])] | _=>none)
 | 110=>(match id with | 1=>some [(0,[]),(1,[]),(2,[]),(3,[]),(4,[]),(5,[3]),(6,[]),(7,[])] | _=>none)
 | 113=>(match id with | 10=>some [(0,[]),(1,[]),(2,[]),(4,[]),(5,[]),(7,[]),(8,[]),(9,[]),(3,[4]),(6,[]),(10,[]),(11,[])] | _=>none)
 | 122=>(match id with | 3=>some [(0,[]),(1,[]),(2,[]),(3,[]),(4,[1]),(5,[]),(6,[])] | _=>none)
 | 123=>(match id with | 9=>some [(0,[]),(1,[]),(2,[]),(3,[]),(4,[]),(5,[]),(6,[]),(7,[]),(8,[]),(9,[]),(10,[]),(11,[5]),(12,[]),(13,[]),(14,[]),(15,[]),(16,[]),(17,[]),(18,[]),(19,[]),(20,[]),(21,[]),(22,[]),(23,[]),(24,[])] | _=>none)
 | 129=>(match id with | 7=>some [(0,[]),(1,[]),(2,[]),(3,[]),(4,[2]),(5,[]),(6,[]),(7,[])] | 11=>some [(0,[]),(1,[]),(2,[]),(3,[]),(4,[2]),(5,[]),(6,[]),(7,[])] | _=>none)
 | 135=>(match id with | 2=>some [(0,[]),(1,[]),(2,[]),(3,[1]),(4,[]),(5,[])] | _=>none)
 | 166=>(match id with | 6=>some [(0,[]),(1,[]),(2,[]),(3,[]),(4,[]),(5,[]),(6,[]),(7,[]),(8,[]),(9,[]),(10,[]),(11,[]),(12,[3,5,7,9]),(13,[]),(14,[5,7,9]),(15,[]),(16,[7,9]),(17,[]),(18,[9]),(19,[]),(20,[])] | 9=>some [(0,[]),(1,[]),(2,[]),(3,[]),(4,[]),(5,[]),(6,[]),(7,[]),(8,[3,5]),(9,[]),(10,[5]),(11,[]),(12,[])] | _=>none)
 | 169=>(match id with | 9=>some [(0,[]),(1,[]),(2,[]),(3,[]),(4,[]),(5,[]),(6,[]),(7,[]),(8,[]),(9,[]),(10,[]),(11,[]),(16,[]),(12,[]),(13,[]),(14,[]),(15,[]),(17,[]),(18,[])] | _=>none)
 | 170=>(match id with | 1=>some [(0,[]),(1,[]),(2,[]),(3,[1]),(4,[]),(5,[]),(6,[]),(7,[])] | _=>none)
 | 173=>(match id with | 6=>some [(0,[]),(1,[]),(2,[]),(3,[]),(4,[]),(5,[]),(6,[]),(7,[]),(8,[]),(9,[]),(10,[]),(11,[]),(12,[3,5,7,9]),(13,[]),(14,[5,7,9]),(15,[]),(16,[7,9]),(17,[]),(18,[9]),(19,[]),(20,[])] | 9=>some [(0,[]),(1,[]),(2,[]),(3,[]),(4,[]),(5,[]),(6,[]),(7,[]),(8,[3,5]),(9,[]),(10,[5]),(11,[]),(12,[])] | 12=>some [(0,[]),(1,[]),(2,[]),(3,[]),(4,[]),(5,[]),(6,[]),(7,[]),(8,[3,5]),(9,[]),(10,[5]),(11,[]),(12,[])] | 15=>some [(0,[]),(1,[]),(2,[]),(3,[]),(4,[]),(5,[]),(6,[]),(7,[]),(8,[]),(9,[]),(10,[]),(11,[]),(12,[3,5,7,9]),(13,[]),(14,[5,7,9]),(15,[]),(16,[7,9]),(17,[]),(18,[9]),(19,[]),(20,[])] | 18=>some [(0,[]),(1,[]),(2,[]),(3,[]),(4,[]),(5,[]),(6,[]),(7,[]),(8,[]),(9,[]),(10,[3,5,7]),(11,[]),(12,[5,7]),(13,[]),(14,[7]),(15,[]),(16,[])] | 21=>some [(0,[]),(1,[]),(2,[]),(3,[]),(4,[]),(5,[]),(6,[]),(7,[]),(8,[3,5]),(9,[]),(10,[5]),(11,[]),(12,[])] | _=>none)
 | 184=>(match id with | 4=>some [(0,[]),(1,[]),(2,[0]),(3,[]),(4,[]),(5,[])] | _=>none)
 | 186=>(match id with | 8=>some [(0,[]),(1,[]),(2,[]),(3,[]),(4,[]),(5,[]),(6,[4]),(7,[]),(8,[]),(9,[]),(10,[]),(11,[])] | _=>none)
 | 189=>(match id with | 4=>some [(0,[]),(1,[]),(2,[]),(3,[]),(4,[]),(5,[]),(6,[4]),(7,[]),(8,[]),(9,[])] | _=>none)
 | 190=>(match id with | 9=>some [(0,[]),(1,[]),(2,[]),(3,[]),(4,[]),(5,[]),(6,[]),(7,[]),(8,[]),(9,[]),(10,[]),(11,[]),(12,[]),(13,[]),(14,[4]),(15,[]),(16,[]),(17,[]),(18,[])] | _=>none)
 | 192=>(match id with | 4=>some [(0,[]),(1,[]),(2,[0]),(3,[]),(4,[]),(5,[])] | _=>none)
 | 193=>(match id with | 4=>some [(0,[]),(1,[]),(2,[0]),(3,[]),(4,[]),(5,[])] | _=>none)
 | 194=>(match id with | 4=>some [(0,[]),(1,[]),(2,[0]),(3,[]),(4,[]),(5,[])] | _=>none)
 | 200=>(match id with | 1=>some [(0,[]),(1,[]),(2,[]),(3,[]),(4,[]),(5,[]),(6,[1,4]),(7,[]),(8,[]),(9,[]),(10,[]),(11,[])] | _=>none)
 | 203=>(match id with | 3=>some [(0,[]),(1,[]),(2,[0]),(3,[]),(4,[])] | 7=>some [(0,[]),(1,[]),(2,[]),(3,[]),(4,[]),(5,[]),(6,[]),(8,[]),(7,[0,4]),(9,[0,4]),(10,[]),(11,[])] | _=>none)
 | 207=>(match id with | 9=>some [(0,[]),(2,[]),(3,[]),(1,[3]),(4,[]),(5,[])] | _=>none)
 | 217=>(match id with | 5=>some [(0,[]),(1,[]),(2,[]),(3,[]),(4,[]),(5,[]),(6,[]),(7,[]),(9,[]),(10,[]),(11,[]),(12,[]),(13,[]),(8,[2,10,13]),(14,[2,10]),(15,[]),(16,[]),(17,[]),(18,[])] | 16=>some [(0,[]),(1,[]),(2,[]),(3,[]),(4,[]),(5,[]),(6,[]),(7,[]),(8,[5]),(9,[]),(10,[]),(11,[]),(12,[])] | _=>none)
 | 232=>(match id with | 1=>some [(0,[]),(1,[]),(2,[]),(3,[]),(4,[]),(5,[]),(7,[]),(8,[]),(9,[]),(10,[]),(6,[10]),(11,[]),(12,[]),(13,[]),(14,[]),(15,[]),(16,[]),(17,[])] | _=>none)
 | 233=>(match id with | 7=>some [(0,[]),(1,[]),(2,[]),(3,[]),(4,[]),(5,[]),(6,[]),(7,[]),(9,[]),(10,[]),(11,[]),(8,[5,10]),(12,[]),(13,[]),(14,[]),(15,[]),(16,[])] | 13=>some [(0,[]),(1,[]),(2,[]),(3,[]),(4,[]),(5,[]),(6,[]),(7,[]),(8,[5]),(9,[]),(10,[]),(11,[]),(12,[]),(13,[])] | 23=>some [(0,[]),(2,[]),(3,[]),(4,[]),(5,[]),(1,[5]),(6,[]),(7,[])] | 27=>some [(0,[]),(1,[]),(2,[]),(3,[]),(4,[]),(5,[]),(6,[]),(7,[]),(8,[]),(9,[]),(10,[]),(11,[9]),(12,[]),(13,[])] | _=>none)
 | 236=>(match id with | 3=>some [(0,[]),(1,[]),(2,[]),(3,[]),(4,[]),(5,[]),(8,[]),(9,[]),(10,[]),(11,[]),(12,[]),(20,[]),(6,[12]),(7,[]),(13,[]),(14,[]),(15,[]),(16,[]),(17,[]),(18,[]),(19,[]),(21,[]),(22,[]),(23,[])] | _=>none)
 | 239=>(match id with | 9=>some [(0,[]),(1,[]),(2,[]),(3,[]),(4,[]),(5,[2]),(6,[]),(7,[]),(8,[]),(9,[])] | 20=>some [(0,[]),(1,[]),(2,[]),(3,[]),(4,[]),(5,[]),(6,[]),(7,[]),(9,[]),(8,[6]),(10,[]),(11,[])] | 25=>some [(0,[]),(1,[]),(2,[]),(3,[]),(4,[]),(6,[]),(7,[]),(8,[]),(5,[2,8]),(9,[]),(10,[]),(11,[]),(12,[])] | 34=>some [(0,[]),(2,[]),(3,[]),(4,[]),(5,[]),(6,[]),(1,[5]),(7,[]),(8,[])] | _=>none)
 | 240=>(match id with | 1=>some [(0,[]),(1,[]),(2,[]),(3,[]),(4,[]),(5,[]),(6,[]),(7,[]),(8,[]),(9,[]),(10,[]),(12,[]),(13,[]),(14,[]),(15,[]),(16,[]),(17,[]),(18,[]),(19,[]),(20,[]),(11,[5,16,20]),(21,[]),(22,[]),(23,[]),(24,[]),(25,[]),(26,[]),(27,[]),(28,[])] | _=>none)
 | 241=>(match id with | 5=>some [(0,[]),(1,[]),(2,[]),(3,[]),(4,[]),(5,[]),(6,[]),(7,[]),(10,[]),(11,[]),(12,[]),(13,[]),(14,[]),(15,[]),(16,[]),(8,[2,11,16]),(9,[11,16]),(17,[11]),(18,[]),(19,[]),(20,[]),(21,[])] | 7=>some [(0,[]),(1,[]),(2,[]),(3,[]),(4,[]),(5,[]),(6,[]),(7,[]),(8,[]),(9,[]),(10,[]),(11,[5]),(12,[]),(13,[]),(14,[]),(15,[])] | 15=>some [(0,[]),(1,[]),(2,[]),(3,[]),(4,[]),(5,[]),(6,[]),(8,[]),(9,[]),(10,[]),(11,[]),(12,[]),(13,[]),(7,[12]),(14,[]),(15,[]),(16,[])] | _=>none)
 | 242=>(match id with | 3=>some [(0,[]),(1,[]),(2,[]),(3,[]),(4,[1]),(5,[]),(6,[]),(7,[])] | 4=>some [(0,[]),(1,[]),(2,[]),(3,[]),(4,[]),(5,[]),(6,[]),(7,[]),(8,[]),(9,[]),(10,[]),(15,[]),(11,[]),(12,[]),(13,[]),(14,[]),(16,[]),(17,[])] | 6=>some [(0,[]),(1,[]),(2,[]),(3,[]),(4,[1]),(5,[]),(6,[]),(7,[])] | _=>none)
 | 243=>(match id with | 1=>some [(0,[]),(1,[]),(2,[]),(3,[]),(4,[]),(5,[]),(6,[]),(7,[]),(8,[]),(9,[]),(10,[]),(12,[]),(13,[]),(14,[]),(15,[]),(11,[5,15]),(16,[]),(17,[]),(18,[]),(19,[]),(20,[]),(21,[]),(22,[]),(23,[])] | _=>none)
 | 245=>(match id with | 2=>some [(0,[]),(1,[]),(2,[]),(3,[]),(4,[]),(5,[]),(10,[]),(6,[]),(7,[]),(8,[]),(9,[]),(11,[]),(12,[])] | _=>none)
 | 247=>(match id with | 6=>some [(0,[]),(1,[]),(2,[]),(4,[]),(5,[]),(6,[]),(3,[5]),(7,[]),(8,[]),(9,[]),(10,[])] | 14=>some [(0,[]),(1,[]),(2,[]),(3,[]),(4,[]),(5,[]),(6,[]),(7,[]),(8,[]),(9,[]),(10,[]),(11,[]),(12,[]),(13,[]),(14,[]),(15,[]),(16,[]),(17,[]),(18,[]),(19,[4]),(20,[]),(21,[]),(22,[]),(23,[]),(24,[])] | 23=>some [(0,[]),(1,[]),(3,[]),(4,[]),(5,[]),(6,[]),(7,[]),(12,[]),(2,[7]),(8,[]),(9,[]),(10,[]),(11,[]),(13,[]),(14,[])] | 24=>some [(0,[]),(1,[]),(2,[]),(3,[]),(4,[]),(5,[]),(6,[]),(7,[]),(8,[]),(9,[3]),(10,[]),(11,[]),(12,[])] | _=>none)
 | 248=>(match id with | 9=>some [(0,[]),(1,[]),(2,[]),(3,[]),(4,[]),(5,[]),(6,[]),(7,[]),(9,[]),(10,[]),(11,[]),(12,[]),(13,[]),(18,[]),(8,[13]),(14,[]),(15,[]),(16,[]),(17,[]),(19,[]),(20,[])] | 13=>some [(0,[]),(1,[]),(2,[]),(3,[]),(4,[]),(6,[]),(7,[]),(8,[]),(10,[]),(13,[]),(14,[]),(15,[]),(16,[]),(17,[]),(5,[7,10,14]),(9,[7,10,14]),(11,[7,14]),(12,[14]),(18,[]),(19,[]),(20,[]),(21,[])] | _=>none)
 | 249=>(match id with | 12=>some [(0,[]),(1,[]),(2,[]),(3,[]),(4,[]),(5,[]),(6,[]),(8,[]),(9,[]),(10,[]),(11,[]),(12,[]),(17,[]),(7,[12]),(13,[]),(14,[]),(15,[]),(16,[]),(18,[]),(19,[])] | _=>none)
 | 250=>(match id with | 8=>some [(0,[]),(1,[]),(2,[]),(3,[]),(4,[2]),(5,[]),(6,[]),(7,[]),(8,[])] | 27=>some [(0,[]),(1,[]),(2,[]),(3,[]),(5,[]),(4,[2]),(6,[]),(7,[]),(8,[]),(9,[])] | 30=>some [(0,[]),(1,[]),(2,[]),(3,[]),(5,[]),(6,[]),(4,[2]),(7,[]),(8,[]),(9,[]),(10,[]),(11,[])] | 37=>some [(0,[]),(1,[]),(2,[]),(3,[]),(5,[]),(4,[2]),(6,[]),(7,[]),(8,[]),(9,[])] | _=>none)
 | 256=>(match id with | 1=>some [(0,[]),(1,[]),(2,[]),(3,[]),(4,[1]),(5,[])] | _=>none)
 | 257=>(match id with | 0=>some [(0,[]),(1,[]),(2,[]),(3,[1]),(4,[]),(5,[])] | _=>none)
 | 271=>(match id with | 6=>some [(0,[]),(1,[]),(2,[]),(3,[]),(4,[]),(6,[]),(5,[2]),(7,[]),(8,[]),(9,[]),(10,[]),(11,[])] | _=>none)
 | 272=>(match id with | 1=>some [(0,[]),(1,[]),(2,[]),(3,[]),(4,[]),(5,[]),(6,[]),(8,[]),(9,[]),(10,[]),(11,[]),(12,[]),(13,[]),(14,[]),(7,[1,12]),(15,[]),(16,[]),(17,[])] | _=>none)
 | 281=>(match id with | 8=>some [(0,[]),(1,[]),(2,[]),(3,[]),(4,[]),(6,[]),(7,[]),(8,[]),(5,[7]),(9,[]),(10,[])] | 19=>some [(0,[]),(1,[]),(2,[]),(3,[]),(4,[]),(5,[]),(6,[]),(7,[]),(8,[]),(11,[]),(12,[]),(13,[]),(14,[]),(15,[]),(16,[]),(9,[15]),(10,[]),(17,[]),(18,[]),(19,[]),(20,[]),(21,[]),(22,[]),(23,[])] | _=>none)
 | 283=>(match id with | 7=>some [(0,[]),(1,[]),(2,[]),(3,[]),(4,[]),(5,[]),(6,[]),(7,[]),(9,[]),(10,[]),(11,[]),(8,[5,11]),(12,[]),(13,[]),(14,[]),(15,[])] | _=>none)
 | 285=>(match id with | 4=>some [(0,[]),(1,[]),(2,[]),(3,[]),(4,[]),(5,[]),(6,[]),(7,[]),(8,[5]),(9,[]),(10,[]),(11,[])] | 6=>some [(0,[]),(1,[]),(2,[]),(3,[]),(4,[]),(5,[]),(6,[3,5]),(7,[]),(8,[]),(9,[])] | 8=>some [(0,[]),(1,[]),(2,[]),(3,[]),(4,[0]),(5,[]),(6,[]),(7,[]),(8,[])] | _=>none)
 | 289=>(match id with | 12=>some [(0,[]),(1,[]),(2,[]),(3,[]),(4,[]),(5,[]),(6,[]),(7,[]),(12,[]),(8,[]),(9,[]),(10,[]),(11,[]),(13,[]),(14,[])] | _=>none)
 | 316=>(match id with | 6=>some [(0,[]),(1,[]),(2,[]),(3,[]),(4,[]),(5,[]),(6,[]),(7,[]),(8,[]),(9,[]),(10,[]),(11,[]),(16,[]),(12,[]),(13,[]),(14,[]),(15,[]),(17,[]),(18,[])] | 9=>some [(0,[]),(1,[]),(2,[]),(3,[]),(4,[]),(6,[]),(7,[]),(8,[]),(9,[]),(10,[]),(11,[]),(12,[]),(14,[]),(17,[]),(18,[]),(19,[]),(20,[]),(21,[]),(5,[7,12,14,18]),(13,[7,14,18]),(15,[7,18]),(16,[18]),(22,[]),(23,[]),(24,[]),(25,[])] | _=>none)
 | 317=>(match id with | 5=>some [(0,[]),(1,[]),(2,[]),(3,[]),(4,[]),(5,[]),(6,[]),(7,[]),(8,[5]),(9,[]),(10,[]),(11,[]),(12,[])] | _=>none)
 | 318=>(match id with | 6=>some [(0,[]),(1,[]),(2,[]),(3,[]),(4,[]),(6,[]),(5,[2]),(7,[]),(8,[]),(9,[]),(10,[])] | _=>none)
 | 320=>(match id with | 11=>some [(0,[]),(1,[]),(2,[]),(3,[1]),(4,[]),(5,[]),(6,[]),(7,[])] | 12=>some [(0,[]),(1,[]),(2,[]),(3,[]),(4,[]),(5,[]),(7,[]),(8,[]),(9,[]),(6,[]),(10,[]),(11,[]),(12,[])] | _=>none)
 | _=>none
end Go.Mx
namespace Go.Mx
open Go.Eng Go.Proofs Go.Proofs.YtafopfaomkklpaaGreat
noncomputable def S0:Sm:=λf=>match Nat.beq f 205 with | true=>some zm | false=>none
theorem It (w:Bs):∀ f g,S0 f=some g→ze Tryz.prog w f g:=by
 intro f g h
 unfold S0 at h
 split at h
 ·rename_i e
  cases h
  have:=beq_eq e
  subst this
  exact zn w
 ·cases h
def FI:List Nat:=[6,8,11,15,26,27,28,29,30,34,35,43,44,45,46,47,48,49,50,61,82,86,87,88,94,95,96,97,98,99,100,101,108,122,124,125,126,127,128,129,130,131,137,138,139,140,141,142,149,151,152,153,154,155,156,157,158,159,160,161,162,163,164,165,166,167,168,169,171,172,178,179,180,181,182,183,184,185,186,187,188,189,190,191,195,196,197,198,199,200,201,202,203,204,206,214,215,216,217,218,219,220,221,222,223,225,226,227,253,254,255,256]
theorem DS:FI.all (okF Tryz.prog HS)=true:=by kernel_rfl
theorem Iu:Gy Tryz.prog (Cn FI S0) HS 50 11 [] hp0 (λv _=>onB v True False)=True:=by kernel_rfl
theorem HT (w:World):Does 11 [] w λv w'=>v=.bool true∧New w w':=E7 mix (It _) DS Iu
end Go.Mx
namespace Go.Proofs.YtafopfaomkklpaaGreat
open Go.Eng IntKind
end Go.Proofs.YtafopfaomkklpaaGreat
namespace Go.Proofs.YtafopfaomkklpaaGreat
open Go.Eng
theorem uT (ws:List Int):∀ (k c:Nat) (acc l:List Int),i5 ws k c acc=some l→l.length=acc.length
 | 0,c,acc,l,h=>by unfold i5 at h;cases h;rfl
 |k+1,c,acc,l,h=>by
  unfold i5 at h
  split at h
  ·cases h
  ·have:=uT ws k (c+1) _ l h
   rw [this,List.length_set]
theorem qE (L:Ctl):∀ (ms:List aC) (acc l:List Int),fO L ms acc=some l→l.length=acc.length
 | [],acc,l,h=>by unfold fO at h;cases h;rfl
 |m::ms,acc,l,h=>by
  unfold fO at h
  split at h
  ·exact qE L ms acc l h
  ·split at h
   ·exact qE L ms acc l h
   ·split at h
    ·cases h
    ·rename_i e
     rw [qE L ms _ l h,uT _ _ _ _ _ e]
theorem Co (n:Int) (ds:List Done):(qH n ds).boots.length≤ds.length∧(qH n ds).keys.length≤ds.length∧(qH n ds).doors.length≤6:=by
 have bad:∀ L:Ctl,L.length=ds.length→(badF L).boots.length≤ds.length∧(badF L).keys.length≤ds.length∧(badF L).doors.length≤6:=λL h=>by
  simp [badF,h]
 have err:∀ c,(Fnd.err c).boots.length≤ds.length∧(Fnd.err c).keys.length≤ds.length∧(Fnd.err c).doors.length≤6:=λc=>by simp [Fnd.err]
 unfold qH
 cases ha:oR n ds with
 |none=>exact err 6
 |some p=>
  obtain ⟨L,k⟩:=p
  have hL:L.length=ds.length:=by
   unfold oR at ha
   split at ha
   ·cases ha
   ·split at ha
    ·simp only [Option.some.injEq,Prod.mk.injEq] at ha
     rw [←ha.1,List.length_map]
    ·cases ha
  show (ite _ _ _:Fnd).boots.length≤_∧(ite _ _ _:Fnd).keys.length≤_∧(ite _ _ _:Fnd).doors.length≤6
  by_cases h1:k<j3 n
  ·rw [if_pos h1];exact err 9
  rw [if_neg h1]
  by_cases h2:L.any dY=true
  ·rw [if_pos h2];exact err 14
  rw [if_neg h2]
  unfold vP
  by_cases h3:(kV (fD L) L).2=false
  ·rw [if_pos h3];simp [hL]
  rw [if_neg h3]
  unfold AQ
  split
  ·exact bad L hL
  ·split
   ·exact bad L hL
   ·rename_i e
    have:=qE L _ _ _ e
    simp at this
    simp [hL,this]
def oB (w:World) (x:Value) (w':World):Prop:=x=.bool true∧New w w'
theorem GO {w:World} {Av:Nat→Prop} {a:Option Addr} {n:Nat} (hr:Rd w a (kQ (rdB n)).flatten) (ho:∀ k,isB a k→¬ Av k):Bat w Av a (rdB n):=by
 refine ⟨hr,ho,λv hv=>?_⟩
 obtain ⟨i,_,rfl⟩:=List.mem_map.1 hv
 exact ⟨⟨⟨[],.inl rfl,rfl,by simp⟩,(show U64 0 by unfold U64;omega),Nat.zero_le _⟩,λk hk=>absurd hk noB⟩
end Go.Proofs.YtafopfaomkklpaaGreat
namespace Go.Proofs.YtafopfaomkklpaaGreat
open Go.Proofs.Tryz
open Go.ChangeShapes Go.WideShapes Go.ChangeAt Go.RowKit Go.Eng
section
variable {H:Type} {enc:TypeId×Value→H} {W:World} {held:Bool}
theorem cUo:prog.cellsOf 32=1:=by kernel_rfl
theorem Iv {cs:List Value} (h:cs.length=6):∃ a b c d e f,cs=[a,b,c,d,e,f]:=by
 match cs,h with
 | [a,b,c,d,e,f],_=>exact ⟨a,b,c,d,e,f,rfl⟩
set_option maxRecDepth 100000 in
theorem DT {fuel:Nat} {cs:List Value} {x:DataW H×List MemPlace} (h:DataW.trod enc prog W 0 (λ_=>true) held fuel 75 cs=some x):∃ p:tR,cs=aU.cells p∧rM p:=by
 obtain ⟨xs,n,_,_,hl,hlen,hfs⟩:=DataW.trod_struct Tryz.underlying75 h
 have hc:prog.cellsOf 75=6:=by kernel_rfl
 obtain ⟨c0,c1,c2,c3,c4,c5,rfl⟩:=Iv (hl.trans hc)
 obtain ⟨_,g0⟩:=fld hfs hlen 0 TIo 0 1 rfl cI
 obtain ⟨_,g1⟩:=fld hfs hlen 1 TIo 1 1 rfl cI
 obtain ⟨_,g2⟩:=fld hfs hlen 2 TIo 2 1 rfl cI
 obtain ⟨_,g3⟩:=fld hfs hlen 3 TIo 3 1 rfl cI
 obtain ⟨_,g4⟩:=fld hfs hlen 4 TIo 4 1 rfl cI
 obtain ⟨_,g5⟩:=fld hfs hlen 5 32 5 1 rfl cUo
 obtain ⟨n0,e0,_,w0⟩:=DataW.trod_int Tryz.underlying3 g0
 obtain ⟨n1,e1,_,w1⟩:=DataW.trod_int Tryz.underlying3 g1
 obtain ⟨n2,e2,_,w2⟩:=DataW.trod_int Tryz.underlying3 g2
 obtain ⟨n3,e3,_,w3⟩:=DataW.trod_int Tryz.underlying3 g3
 obtain ⟨n4,e4,_,w4⟩:=DataW.trod_int Tryz.underlying3 g4
 obtain ⟨n5,e5,_,w5⟩:=DataW.trod_int Tryz.underlying32 g5
 simp at e0 e1 e2 e3 e4 e5
 exact ⟨⟨n0,n1,n2,n3,n4,n5⟩,by rw [e0,e1,e2,e3,e4,e5];rfl,⟨sE w0,sE w1,sE w2,sE w3,sE w4,Fm w5⟩⟩
set_option maxRecDepth 100000 in
theorem Cp {r:Reach} {base:Nat} {v:Value} {d:DataW H} {p:List MemPlace} (hv:Value.okWide prog W r base 22 v) (h:DataW.Trod enc prog W 0 (λ_=>true) held 22 v d p) :
  ∃ (a:Option Addr) (c:Nat) (l:List tR),v=.slice a l.length c∧Rd W a (AX l).flatten∧∀ p ∈ l,rM p:=by
 have hm:prog.cellsOf 75=6:=by kernel_rfl
 obtain ⟨ad,cap,rows,rfl,hrd,hrows⟩:=yx Tryz.underlying22 hm (by omega) hv h
 obtain ⟨ms,rfl,hu⟩:=zy (cells:=aU.cells) (Ok:=rM) λr hr=>by
  obtain ⟨_,fuel,x,hx⟩:=hrows r hr
  exact DT hx
 rw [List.length_map]
 exact ⟨ad,cap,ms,rfl,hrd,hu⟩
end
end Go.Proofs.YtafopfaomkklpaaGreat
