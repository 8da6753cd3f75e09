/- This claim proves that the law DiscoverJudges returns true for every input: replies are judged as the reference judges them. -/
import Derived.Test.YtafopfaomkklpaaGreatp35
import Derived.Test.YtafopfaomkklpaaGreatp40
import Derived.Test.YtafopfaomkklpaaGreatp37
import Derived.Test.YtafopfaomkklpaaGreatProg
import Derived.Test.YtafopfaomkklpaaGreatp03
set_option linter.unusedVariables false
namespace Go.Mx
open Go.Eng Go.Proofs Go.Proofs.YtafopfaomkklpaaGreat
noncomputable def pcs (f:Nat):Nat→Nat→(List C→Prop)→Prop:=@Nat.rec (λ_=>Nat→Nat→(List C→Prop)→Prop) (λ_ _ _=>False) (λ_ ih at_ left K=>iff (Nat.beq left 0) (K []) (fN (minN left (Nat.sub 8 (Nat.mod at_ 8))) λn=>fN (Nat.add at_ n) λa'=>fN (Nat.sub left n) λl'=>ih a' l' λvs=>K (.i 3 (.ofNat at_)::.i 3 (.ofNat n)::vs))) f
def pcL (l:List (Int×Int)):List C:=l.flatMap λp=>[.i 3 p.1,.i 3 p.2]
theorem DU (a b:Nat):minN a b=min a b:=by
 unfold minN
 cases h:Nat.ble a b with
 |true=>have:=cH h;show a=_;omega
 |false=>have:=wB h;show b=_;omega
theorem CD:∀ (f a l g:Nat) (K:List C→Prop),l≤g→pcs f a l K→K (pcL (dB g a l))
 | 0,_,_,_,_,_,h=>h.elim
 |f+1,a,l,g,K,hg,h=>by
  have h:iff (Nat.beq l 0) (K []) (fN (minN l (Nat.sub 8 (Nat.mod a 8))) λn=>fN (Nat.add a n) λa'=>fN (Nat.sub l n) λl'=>pcs f a' l' λvs=>K (.i 3 (.ofNat a)::.i 3 (.ofNat n)::vs)):=h
  rcases t6 h with ⟨h1,h2⟩ | ⟨h1,h2⟩
  ·have:=beq_eq h1
   subst this
   have:dB g (a:Int) ((0:Nat):Int)=[]:=by cases g<;>simp [dB]
   rw [this]
   exact h2
  ·have hl:=pF h1
   have h3:=dM.1 h2
   have h3:=dM.1 h3
   have h3:=dM.1 h3
   rw [DU] at h3
   obtain ⟨g,rfl⟩:∃ g',g=g'+1:=⟨g - 1,by omega⟩
   have hm:(8:Nat) - a % 8=8 - a % 8:=rfl
   have e:Nat.sub 8 (Nat.mod a 8)=8 - a % 8:=rfl
   rw [e] at h3
   generalize hn:min l (8 - a % 8)=n at h3
   have hn1:1≤n∧n≤l:=by omega
   have h4:=CD f (a+n) (l - n) g _ (by omega) h3
   rw [dB,if_neg (by omega)]
   have e1:(if 8 - (a:Int) % 8<(l:Int) then 8 - (a:Int) % 8 else (l:Int))=(n:Int):=by split<;>omega
   simp only [e1]
   have e2:((a:Int)+(n:Int))=((a+n:Nat):Int):=by omega
   have e3:((l:Int) - (n:Int))=((l - n:Nat):Int):=by omega
   rw [e2,e3]
   exact h4
def lenW (w:C):Nat:=match w with
 | .s _ _ len _ _=>len
 | _=>0
noncomputable def cntP (kd n:Nat) (w:C):Nat:=@Bool.rec (λ_=>Nat) (@Bool.rec (λ_=>Nat) (@Bool.rec (λ_=>Nat) (@Bool.rec (λ_=>Nat) 0 1 (Nat.beq kd 4)) 1 (Nat.beq kd 3)) (lenW w) (Nat.beq kd 2)) n (Nat.beq kd 1)
noncomputable def okW (w:C):Bool:=match w with
 | .ns=>true
 | .es=>true
 | .s ..=>true
 | _=>false
noncomputable def yj (args:List V) (H:Hp) (K:KV):Prop:=
 one args λv=>onA v λdp d o n=>qM dp d n o λl=>match l with
 | [.i 3 (.ofNat kd),.i 3 nd,.i 3 (.ofNat a),.i 3 (.ofNat n),.i 7 old,.i 7 new,w,.i 7 key,.i 3 bt]=>
  iff (okW w) (fN (cntP kd n w) λc=>iff (Nat.ble 1 c) (iff (Nat.ble c 1000000) (iff (Nat.ble a 1000000) (pcs 300 a c λl=>fN l.length λn=>obL n l λb=>fN (Nat.div n 2) λq=>newS H q 2 b K) False) False) False) False
 | _=>False
theorem CE (m:Mp):∀ l:List (Int×Int),LR m (pcL l) (tZ l).flatten
 | []=>⟨rfl,λi u h=>by simp [tZ] at h⟩
 |p::l=>by
  obtain ⟨h1,h2⟩:=CE m l
  refine ⟨by simpa [pcL,tZ] using h1,λi u h=>?_⟩
  have e:(tZ (p::l)).flatten=.int .i64 p.1::.int .i64 p.2::(tZ l).flatten:=rfl
  have e':pcL (p::l)=.i 3 p.1::.i 3 p.2::pcL l:=rfl
  rw [e] at h
  rw [e']
  match i,h with
  | 0,h=>simp at h;exact ⟨_,rfl,h.symm,rfl⟩
  | 1,h=>simp at h;exact ⟨_,rfl,h.symm,rfl⟩
  |i+2,h=>simp at h;exact h2 i u h
theorem zh (l:List (Int×Int)):(pcL l).length=l.length * 2:=by
 induction l with
 |nil=>rfl
 |cons p l ih=>
  have:pcL (p::l)=.i 3 p.1::.i 3 p.2::pcL l:=rfl
  rw [this]
  simp [ih]
  omega
theorem DV {m:Mp} {w:C} {v:Value} (h:okW w=true) (hr:CR m w v):∃ a len cap,v=.slice a len cap∧lenW w=len:=by
 cases w with
 |ns=>exact ⟨_,_,_,hr,rfl⟩
 |es=>obtain ⟨a,cap,h⟩:=hr;exact ⟨_,_,_,h,rfl⟩
 |s o off len sz c=>obtain ⟨b,n,cap,_,h,_⟩:=hr;exact ⟨_,_,_,h,rfl⟩
 | _=>cases h
theorem yk (w0:Bs):yb Tryz.prog w0 205 yj:=by
 intro args vals m w H K h hS ha
 obtain ⟨x,rfl,h1⟩:=wF h
 obtain ⟨dp,d,o,n,rfl,h2⟩:=sa h1
 rw [jw] at h2
 match vals,ha with
 | [rv],⟨hv,_⟩=>
 obtain ⟨cs,rfl,hl,ht⟩:=hv
 have hget:∀ i,i<n→∃ u,cs[i]?=some u∧∃ c,(rF dp d n o)[i]?=some c∧CR m c u:=λi hi=>by
  have h1:i<cs.length:=by omega
  exact ⟨cs[i],List.getElem?_eq_getElem h1,_,l9 dp d n o i hi,(ht.2 i _ (List.getElem?_eq_getElem h1)).1⟩
 have hln:=j7 dp d n o
 split at h2
 rotate_left
 ·exact h2.elim
 rename_i kd nd a n' old new wd key bt heq
 rw [heq] at hln hget
 have hn9:n=9:=by simpa using hln.symm
 subst hn9
 obtain ⟨hw,h3⟩:=cQ h2
 have h4:=dM.1 h3
 obtain ⟨hc1,h5⟩:=cQ h4
 obtain ⟨hc2,h6⟩:=cQ h5
 obtain ⟨ha1,h7⟩:=cQ h6
 have hc1:=cH hc1
 have hc2:=cH hc2
 have ha1:=cH ha1
 obtain ⟨u0,e0,c0,f0,r0⟩:=hget 0 (by omega)
 obtain ⟨u1,e1,c1,f1,r1⟩:=hget 1 (by omega)
 obtain ⟨u2,e2,c2,f2,r2⟩:=hget 2 (by omega)
 obtain ⟨u3,e3,c3,f3,r3⟩:=hget 3 (by omega)
 obtain ⟨u4,e4,c4,f4,r4⟩:=hget 4 (by omega)
 obtain ⟨u5,e5,c5,f5,r5⟩:=hget 5 (by omega)
 obtain ⟨u6,e6,c6,f6,r6⟩:=hget 6 (by omega)
 obtain ⟨u7,e7,c7,f7,r7⟩:=hget 7 (by omega)
 obtain ⟨u8,e8,c8,f8,r8⟩:=hget 8 (by omega)
 simp only [List.getElem?_cons_zero,List.getElem?_cons_succ,Option.some.injEq] at f0 f1 f2 f3 f4 f5 f6 f7 f8
 subst f0 f1 f2 f3 f4 f5 f6 f7 f8
 obtain ⟨ad,len,cap,rfl,hlen⟩:=DV hw r6
 have hcs:cs=[u0,u1,u2,u3,u4,u5,.slice ad len cap,u7,u8]:=by
  match cs,hl with
  | [a0,a1,a2,a3,a4,a5,a6,a7,a8],_=>simp_all
 have q0:u0=.int .i64 (kd:Int):=r0
 have q1:u1=.int .i64 nd:=r1
 have q2:u2=.int .i64 (a:Int):=r2
 have q3:u3=.int .i64 (n':Int):=r3
 have q4:u4=.int .u64 old:=r4
 have q5:u5=.int .u64 new:=r5
 have q7:u7=.int .u64 key:=r7
 have q8:u8=.int .i64 bt:=r8
 subst q0 q1 q2 q3 q4 q5 q7 q8 hcs
 let v:bC:=⟨(kd:Int),nd,(a:Int),(n':Int),old,new,ad,len,cap,key,bt⟩
 have hcnt:v.count=((cntP kd n' wd:Nat):Int):=by
  show (if (kd:Int)=1 then (n':Int) else if (kd:Int)=2 then (len:Int) else if (kd:Int)=3∨(kd:Int)=4 then 1 else 0)=_
  unfold cntP
  cases h1:Nat.beq kd 1 with
  |true=>rw [if_pos (by have:=beq_eq h1;omega)]
  |false=>
   rw [if_neg (by have:=pF h1;omega)]
   cases h2:Nat.beq kd 2 with
   |true=>rw [if_pos (by have:=beq_eq h2;omega)];exact congrArg _ hlen.symm
   |false=>
    rw [if_neg (by have:=pF h2;omega)]
    cases h3:Nat.beq kd 3 with
    |true=>rw [if_pos (by have:=beq_eq h3;omega)];rfl
    |false=>
     cases h4:Nat.beq kd 4 with
     |true=>rw [if_pos (by have:=beq_eq h4;omega)];rfl
     |false=>rw [if_neg (by have:=pF h3;have:=pF h4;omega)];rfl
 have hp:=CD _ _ _ v.count.toNat _ (by omega) h7
 have hpe:dB v.count.toNat (a:Int) ((cntP kd n' wd:Nat):Int)=v.pieces:=by
  show _=dB v.count.toNat (a:Int) v.count
  rw [hcnt]
 rw [hpe] at hp
 have h8:=dM.1 hp
 obtain ⟨hle,h9⟩:=wM h8
 have h10:=dM.1 h9
 have e10:Nat.div (pcL v.pieces).length 2=v.pieces.length:=by
  rw [zh]
  show v.pieces.length * 2 / 2=_
  omega
 rw [e10] at h10
 obtain ⟨hnx,h11⟩:=pJ h10
 refine (Dm w v (by show (0:Int)≤(a:Int);omega) (by show (a:Int)≤1000000;omega) (by omega) (by omega)).mono ?_
 rintro e w' ⟨x,he,ad',cap',rfl,ho,hnew,hfr⟩
 refine ⟨_,he,?_⟩
 have hne:v.pieces≠[]:=wz _ _ _ (by omega) (by omega)
 have hpos:0<v.pieces.length:=List.length_pos_iff.2 hne
 rcases ho.2 with ⟨_,h0,_⟩ | ⟨g,cur,rfl,hblk,hnc,hcm,hcur,htake⟩
 ·omega
 have hg:w.heap.size≤g:=hfr g ⟨0,rfl⟩
 have hfl:(tZ v.pieces).flatten.length=(pcL v.pieces).length:=(CE m v.pieces).1.symm
 have hadd:=hS.hr.add (b:=g) (N:=cap' * 2) (n:=(pcL v.pieces).length) (cs:=cur) (T:=TPc) hnx (Keep.of_new hnew) (.inl (by have:=hS.hr.size;omega)) hblk (λh=>absurd h (by omega)) hcur (by rw [zh];omega) (lG hle)
  (by
   have:cur.take (pcL v.pieces).length=(tZ v.pieces).flatten:=by rw [zh];exact htake
   rw [this]
   exact tf (CE m v.pieces) hfl hle)
  (λo wr n dp d N hg' hm=>by have:=hS.hr.bl hm;omega)
 refine ⟨_,.c (.s H.next 0 v.pieces.length 2 none),_,iR (hS.hr.unm _ (Nat.le_refl _)),⟨g,cap' * 2,cap',?_,rfl,hnc,?_⟩,⟨hadd,hS.new.trans (Keep.of_new hnew) λi hi hf=>hf⟩,vR hnx,h11⟩
 ·unfold mset;rw [if_pos rfl]
 ·show 0+cap' * 2=_;omega
end Go.Mx
namespace Go.Mx
def Gu (f id:Nat):Option Plan:=match f with
 | 12=>(match id with | 8=>some [(0,[]),(1,[]),(2,[]),(3,[]),(4,[]),(5,[]),(6,[]),(7,[]),(8,[]),(9,[]),(12,[]),(10,[4]),(11,[]),(13,[])] | 11=>some [(0,[]),(1,[]),(2,[]),(3,[]),(4,[]),(5,[]),(6,[]),(7,[]),(8,[]),(10,[]),(11,[]),(9,[1,11]),(12,[]),(13,[])] | _=>none)
 | 16=>(match id with | 21=>some [(0,[]),(1,[]),(2,[]),(3,[]),(4,[]),(5,[]),(6,[]),(7,[]),(8,[]),(9,[]),(10,[]),(11,[]),(12,[]),(13,[]),(14,[4]),(15,[]),(16,[])] | 28=>some [(0,[]),(1,[]),(2,[]),(3,[]),(4,[]),(5,[]),(6,[]),(7,[]),(8,[5]),(9,[]),(10,[]),(11,[]),(12,[]),(13,[])] | _=>none)
 | 17=>(match id with | 22=>some [(0,[]),(1,[]),(2,[]),(3,[]),(4,[]),(5,[]),(6,[]),(7,[]),(8,[]),(9,[]),(10,[]),(11,[1,4,7]),(12,[]),(13,[]),(14,[]),(15,[])] | _=>none)
 | 19=>(match id with | 8=>some [(0,[]),(1,[]),(2,[]),(3,[]),(4,[]),(5,[]),(6,[]),(7,[]),(8,[]),(9,[]),(10,[1,3,5]),(11,[]),(12,[]),(13,[]),(14,[])] | _=>none)
 | 23=>(match id with | 5=>some [(0,[]),(1,[]),(2,[]),(3,[]),(4,[]),(5,[]),(6,[4]),(7,[]),(8,[]),(9,[]),(10,[]),(11,[])] | _=>none)
 | 24=>(match id with | 3=>some [(0,[]),(1,[]),(2,[]),(3,[]),(4,[]),(5,[]),(6,[]),(7,[]),(8,[]),(9,[]),(10,[]),(11,[]),(12,[]),(13,[]),(14,[3]),(15,[]),(16,[]),(17,[])] | _=>none)
 | 25=>(match id with | 1=>some [(0,[]),(1,[]),(2,[]),(3,[]),(4,[]),(5,[]),(6,[]),(7,[]),(8,[]),(9,[]),(10,[]),(11,[3]),(12,[]),(13,[])] | 6=>some [(0,[]),(1,[]),(2,[]),(3,[]),(4,[]),(5,[]),(6,[]),(7,[]),(8,[]),(9,[]),(10,[]),(12,[]),(13,[]),(11,[3,13]),(14,[]),(15,[])] | 12=>some [(0,[]),(1,[]),(2,[]),(3,[]),(4,[]),(5,[]),(7,[]),(8,[]),(9,[]),(10,[]),(6,[3,8,10]),(11,[3,8]),(12,[]),(13,[]),(14,[]),(15,[])] | 14=>some [(0,[]),(1,[]),(2,[]),(3,[]),(4,[]),(6,[]),(7,[]),(5,[3,7]),(8,[3]),(9,[]),(10,[]),(11,[])] | 16=>some [(0,[]),(1,[]),(2,[]),(3,[]),(4,[]),(6,[]),(7,[]),(11,[]),(12,[]),(5,[3,7,12]),(8,[3,12]),(9,[]),(10,[]),(13,[3]),(14,[3]),(15,[]),(16,[]),(17,[]),(18,[]),(19,[])] | 18=>some [(0,[]),(1,[]),(2,[]),(3,[]),(4,[]),(6,[]),(7,[]),(5,[3,7]),(8,[3]),(9,[]),(10,[]),(11,[])] | 20=>some [(0,[]),(1,[]),(2,[]),(3,[]),(4,[]),(5,[]),(6,[3]),(7,[]),(8,[]),(9,[])] | 22=>some [(0,[]),(1,[]),(2,[]),(3,[]),(4,[]),(5,[]),(6,[3]),(7,[]),(8,[]),(9,[]),(10,[])] | 33=>some [(0,[]),(1,[]),(2,[]),(3,[]),(4,[]),(6,[]),(7,[]),(11,[]),(12,[]),(5,[3,7,12]),(8,[3,12]),(9,[]),(10,[]),(13,[3]),(14,[3]),(15,[]),(16,[]),(17,[]),(18,[]),(19,[])] | _=>none)
 | 38=>(match id with | 11=>some [(0,[]),(1,[]),(2,[]),(3,[]),(4,[]),(5,[]),(6,[]),(7,[]),(8,[]),(9,[]),(10,[]),(11,[]),(12,[]),(13,[]),(14,[]),(15,[]),(16,[]),(17,[]),(24,[]),(18,[]),(19,[]),(20,[]),(21,[]),(22,[]),(23,[]),(25,[]),(26,[]),(27,[]),(28,[])] | _=>none)
 | 46=>(match id with | 7=>some [(0,[]),(1,[]),(2,[]),(3,[]),(4,[]),(5,[]),(6,[]),(7,[]),(9,[]),(10,[]),(11,[]),(12,[]),(13,[]),(14,[]),(8,[12]),(15,[]),(16,[]),(17,[]),(18,[]),(19,[]),(20,[]),(21,[])] | _=>none)
 | 55=>(match id with | 10=>some [(0,[]),(1,[]),(2,[]),(3,[]),(4,[]),(5,[]),(6,[]),(7,[2,5]),(8,[]),(9,[]),(10,[])] | _=>none)
 | 62=>(match id with | 1=>some [(0,[]),(1,[]),(2,[]),(3,[]),(4,[]),(5,[3]),(6,[]),(7,[])] | _=>none)
 | 74=>(match id with | 1=>some [(0,[]),(1,[]),(4,[]),(5,[]),(6,[]),(7,[]),(8,[]),(9,[]),(10,[]),(11,[]),(12,[]),(13,[]),(16,[]),(2,[5,7,10]),(3,[]),(14,[]),(15,[]),(17,[])] | 6=>some [(0,[]),(1,[]),(2,[]),(3,[]),(4,[]),(6,[]),(8,[]),(9,[]),(10,[]),(11,[]),(5,[3,11]),(7,[]),(12,[]),(13,[])] | 8=>some [(0,[]),(1,[]),(2,[]),(3,[]),(4,[]),(6,[]),(7,[]),(8,[]),(9,[]),(10,[]),(5,[3,7,9]),(11,[3,7]),(12,[]),(13,[]),(14,[3]),(15,[]),(16,[]),(17,[]),(18,[]),(19,[])] | 12=>some [(0,[]),(1,[]),(2,[]),(3,[]),(4,[]),(5,[]),(6,[]),(7,[]),(8,[]),(9,[]),(11,[]),(12,[]),(13,[]),(14,[]),(15,[]),(16,[]),(10,[3,12,15]),(17,[3]),(18,[]),(19,[]),(20,[]),(21,[]),(22,[])] | _=>none)
 | 79=>(match id with | 1=>some [(0,[]),(1,[]),(3,[]),(4,[]),(5,[]),(6,[]),(7,[]),(8,[]),(9,[]),(10,[]),(11,[]),(12,[]),(14,[]),(2,[4,6,11]),(13,[]),(15,[])] | 4=>some [(0,[]),(1,[]),(2,[]),(3,[]),(4,[]),(5,[]),(7,[]),(8,[]),(9,[]),(10,[]),(11,[]),(15,[]),(6,[3,10]),(12,[3]),(13,[]),(14,[]),(16,[3]),(17,[]),(18,[]),(19,[]),(20,[]),(21,[])] | _=>none)
 | 91=>(match id with | 9=>some [(0,[]),(1,[]),(2,[]),(3,[]),(4,[]),(6,[]),(7,[]),(8,[]),(9,[]),(5,[6]),(10,[]),(11,[]),(12,[]),(13,[])] | _=>none)
 | 92=>(match id with | 5=>some [(0,[]),(1,[]),(2,[]),(3,[]),(4,[]),(5,[]),(6,[]),(7,[]),(8,[]),(9,[]),(10,[]),(13,[]),(15,[]),(11,[1,5]),(12,[1,5]),(14,[1,5]),(16,[1,5]),(17,[]),(18,[])] | 12=>some [(0,[]),(1,[]),(2,[]),(3,[]),(4,[3]),(5,[]),(6,[]),(7,[])] | 14=>some [(0,[]),(1,[]),(3,[]),(4,[]),(5,[]),(6,[]),(7,[]),(8,[]),(9,[]),(10,[]),(2,[5,8,10]),(11,[]),(12,[]),(13,[]),(14,[])] | 22=>some [(0,[]),(1,[]),(2,[]),(3,[]),(4,[]),(5,[4]),(6,[]),(7,[]),(8,[])] | _=>none)
 | 93=>(match id with | 3=>some [(0,[]),(1,[]),(2,[]),(3,[]),(4,[]),(5,[]),(6,[]),(8,[]),(9,[]),(10,[]),(11,[]),(12,[]),(13,[]),(14,[]),(7,[11]),(15,[]),(16,[]),(17,[]),(18,[])] | _=>none)
 | 110=>(match id with | 1=>some [(0,[]),(1,[]),(2,[]),(3,[]),(4,[]),(5,[3]),(6,[]),(7,[])] | _=>none)
 | 113=>(match id with | 10=>some [(0,[]),(1,[]),(2,[]),(4,[]),(5,[]),(7,[]),(8,[]),(9,[]),(3,[4]),(6,[]),(10,[]),(11,[])] | _=>none)
 | 122=>(match id with | 3=>some [(0,[]),(1,[]),(2,[]),(3,[]),(4,[1]),(5,[]),(6,[])] | _=>none)
 | 123=>(match id with | 9=>some [(0,[]),(1,[]),(2,[]),(3,[]),(4,[]),(5,[]),(6,[]),(7,[]),(8,[]),(9,[]),(10,[]),(11,[5]),(12,[]),(13,[]),(14,[]),(15,[]),(16,[]),(17,[]),(18,[]),(19,[]),(20,[]),(21,[]),(22,[]),(23,[]),(24,[])] | _=>none)
 | 129=>(match id with | 7=>some [(0,[]),(1,[]),(2,[]),(3,[]),(4,[2]),(5,[]),(6,[]),(7,[])] | 11=>some [(0,[]),(1,[]),(2,[]),(3,[]),(4,[2]),(5,[]),(6,[]),(7,[])] | _=>none)
 | 135=>(match id with | 2=>some [(0,[]),(1,[]),(2,[]),(3,[1]),(4,[]),(5,[])] | _=>none)
 | 166=>(match id with | 6=>some [(0,[]),(1,[]),(2,[]),(3,[]),(4,[]),(5,[]),(6,[]),(7,[]),(8,[]),(9,[]),(10,[]),(11,[]),(12,[3,5,7,9]),(13,[]),(14,[5,7,9]),(15,[]),(16,[7,9]),(17,[]),(18,[9]),(19,[]),(20,[])] | 9=>some [(0,[]),(1,[]),(2,[]),(3,[]),(4,[]),(5,[]),(6,[]),(7,[]),(8,[3,5]),(9,[]),(10,[5]),(11,[]),(12,[])] | _=>none)
 | 169=>(match id with | 9=>some [(0,[]),(1,[]),(2,[]),(3,[]),(4,[]),(5,[]),(6,[]),(7,[]),(8,[]),(9,[]),(10,[]),(11,[]),(16,[]),(12,[]),(13,[]),(14,[]),(15,[]),(17,[]),(18,[])] | _=>none)
 | 170=>(match id with | 1=>some [(0,[]),(1,[]),(2,[]),(3,[1]),(4,[]),(5,[]),(6,[]),(7,[])] | _=>none)
 | 173=>(match id with | 6=>some [(0,[]),(1,[]),(2,[]),(3,[]),(4,[]),(5,[]),(6,[]),(7,[]),(8,[]),(9,[]),(10,[]),(11,[]),(12,[3,5,7,9]),(13,[]),(14,[5,7,9]),(15,[]),(16,[7,9]),(17,[]),(18,[9]),(19,[]),(20,[])] | 9=>some [(0,[]),(1,[]),(2,[]),(3,[]),(4,[]),(5,[]),(6,[]),(7,[]),(8,[3,5]),(9,[]),(10,[5]),(11,[]),(12,[])] | 12=>some [(0,[]),(1,[]),(2,[]),(3,[]),(4,[]),(5,[]),(6,[]),(7,[]),(8,[3,5]),(9,[]),(10,[5]),(11,[]),(12,[])] | 15=>some [(0,[]),(1,[]),(2,[]),(3,[]),(4,[]),(5,[]),(6,[]),(7,[]),(8,[]),(9,[]),(10,[]),(11,[]),(12,[3,5,7,9]),(13,[]),(14,[5,7,9]),(15,[]),(16,[7,9]),(17,[]),(18,[9]),(19,[]),(20,[])] | 18=>some [(0,[]),(1,[]),(2,[]),(3,[]),(4,[]),(5,[]),(6,[]),(7,[]),(8,[]),(9,[]),(10,[3,5,7]),(11,[]),(12,[5,7]),(13,[]),(14,[7]),(15,[]),(16,[])] | 21=>some [(0,[]),(1,[]),(2,[]),(3,[]),(4,[]),(5,[]),(6,[]),(7,[]),(8,[3,5]),(9,[]),(10,[5]),(11,[]),(12,[])] | _=>none)
 | 184=>(match id with | 4=>some [(0,[]),(1,[]),(2,[0]),(3,[]),(4,[]),(5,[])] | _=>none)
 | 186=>(match id with | 8=>some [(0,[]),(1,[]),(2,[]),(3,[]),(4,[]),(5,[]),(6,[4]),(7,[]),(8,[]),(9,[]),(10,[]),(11,[])] | _=>none)
 | 189=>(match id with | 4=>some [(0,[]),(1,[]),(2,[]),(3,[]),(4,[]),(5,[]),(6,[4]),(7,[]),(8,[]),(9,[])] | _=>none)
 | 190=>(match id with | 9=>some [(0,[]),(1,[]),(2,[]),(3,[]),(4,[]),(5,[]),(6,[]),(7,[]),(8,[]),(9,[]),(10,[]),(11,[]),(12,[]),(13,[]),(14,[4]),(15,[]),(16,[]),(17,[]),(18,[])] | _=>none)
 | 192=>(match id with | 4=>some [(0,[]),(1,[]),(2,[0]),(3,[]),(4,[]),(5,[])] | _=>none)
 | 193=>(match id with | 4=>some [(0,[]),(1,[]),(2,[0]),(3,[]),(4,[]),(5,[])] | _=>none)
 | 194=>(match id with | 4=>some [(0,[]),(1,[]),(2,[0]),(3,[]),(4,[]),(5,[])] | _=>none)
 | 200=>(match id with | 1=>some [(0,[]),(1,[]),(2,[]),(3,[]),(4,[]),(5,[]),(6,[1,4]),(7,[]),(8,[]),(9,[]),(10,[]),(11,[])] | _=>none)
 | 203=>(match id with | 3=>some [(0,[]),(1,[]),(2,[0]),(3,[]),(4,[])] | 7=>some [(0,[]),(1,[]),(2,[]),(3,[]),(4,[]),(5,[]),(6,[]),(8,[]),(7,[0,4]),(9,[0,4]),(10,[]),(11,[])] | _=>none)
 | 207=>(match id with | 9=>some [(0,[]),(2,[]),(3,[]),(1,[3]),(4,[]),(5,[])] | _=>none)
 | 217=>(match id with | 5=>some [(0,[]),(1,[]),(2,[]),(3,[]),(4,[]),(5,[]),(6,[]),(7,[]),(9,[]),(10,[]),(11,[]),(12,[]),(13,[]),(8,[2,10,13]),(14,[2,10]),(15,[]),(16,[]),(17,[]),(18,[])] | 16=>some [(0,[]),(1,[]),(2,[]),(3,[]),(4,[]),(5,[]),(6,[]),(7,[]),(8,[5]),(9,[]),(10,[]),(11,[]),(12,[])] | _=>none)
 | 232=>(match id with | 1=>some [(0,[]),(1,[]),(2,[]),(3,[]),(4,[]),(5,[]),(7,[]),(8,[]),(9,[]),(10,[]),(6,[10]),(11,[]),(12,[]),(13,[]),(14,[]),(15,[]),(16,[]),(17,[])] | _=>none)
 | 233=>(match id with | 7=>some [(0,[]),(1,[]),(2,[]),(3,[]),(4,[]),(5,[]),(6,[]),(7,[]),(9,[]),(10,[]),(11,[]),(8,[5,10]),(12,[]),(13,[]),(14,[]),(15,[]),(16,[])] | 13=>some [(0,[]),(1,[]),(2,[]),(3,[]),(4,[]),(5,[]),(6,[]),(7,[]),(8,[5]),(9,[]),(10,[]),(11,[]),(12,[]),(13,[])] | 23=>some [(0,[]),(2,[]),(3,[]),(4,[]),(5,[]),(1,[5]),(6,[]),(7,[])] | 27=>some [(0,[]),(1,[]),(2,[]),(3,[]),(4,[]),(5,[]),(6,[]),(7,[]),(8,[]),(9,[]),(10,[]),(11,[9]),(12,[]),(13,[])] | _=>none)
 | 236=>(match id with | 3=>some [(0,[]),(1,[]),(2,[]),(3,[]),(4,[]),(5,[]),(8,[]),(9,[]),(10,[]),(11,[]),(12,[]),(20,[]),(6,[12]),(7,[]),(13,[]),(14,[]),(15,[]),(16,[]),(17,[]),(18,[]),(19,[]),(21,[]),(22,[]),(23,[])] | _=>none)
 | 239=>(match id with | 9=>some [(0,[]),(1,[]),(2,[]),(3,[]),(4,[]),(5,[2]),(6,[]),(7,[]),(8,[]),(9,[])] | 20=>some [(0,[]),(1,[]),(2,[]),(3,[]),(4,[]),(5,[]),(6,[]),(7,[]),(9,[]),(8,[6]),(10,[]),(11,[])] | 25=>some [(0,[]),(1,[]),(2,[]),(3,[]),(4,[]),(6,[]),(7,[]),(8,[]),(5,[2,8]),(9,[]),(10,[]),(11,[]),(12,[])] | 34=>some [(0,[]),(2,[]),(3,[]),(4,[]),(5,[]),(6,[]),(1,[5]),(7,[]),(8,[])] | _=>none)
 | 240=>(match id with | 1=>some [(0,[]),(1,[]),(2,[]),(3,[]),(4,[]),(5,[]),(6,[]),(7,[]),(8,[]),(9,[]),(10,[]),(12,[]),(13,[]),(14,[]),(15,[]),(16,[]),(17,[]),(18,[]),(19,[]),(20,[]),(11,[5,16,20]),(21,[]),(22,[]),(23,[]),(24,[]),(25,[]),(26,[]),(27,[]),(28,[])] | _=>none)
 | 241=>(match id with | 5=>some [(0,[]),(1,[]),(2,[]),(3,[]),(4,[]),(5,[]),(6,[]),(7,[]),(10,[]),(11,[]),(12,[]),(13,[]),(14,[]),(15,[]),(16,[]),(8,[2,11,16]),(9,[11,16]),(17,[11]),(18,[]),(19,[]),(20,[]),(21,[])] | 7=>some [(0,[]),(1,[]),(2,[]),(3,[]),(4,[]),(5,[]),(6,[]),(7,[]),(8,[]),(9,[]),(10,[]),(11,[5]),(12,[]),(13,[]),(14,[]),(15,[])] | 15=>some [(0,[]),(1,[]),(2,[]),(3,[]),(4,[]),(5,[]),(6,[]),(8,[]),(9,[]),(10,[]),(11,[]),(12,[]),(13,[]),(7,[12]),(14,[]),(15,[]),(16,[])] | _=>none)
 | 242=>(match id with | 3=>some [(0,[]),(1,[]),(2,[]),(3,[]),(4,[1]),(5,[]),(6,[]),(7,[])] | 4=>some [(0,[]),(1,[]),(2,[]),(3,[]),(4,[]),(5,[]),(6,[]),(7,[]),(8,[]),(9,[]),(10,[]),(15,[]),(11,[]),(12,[]),(13,[]),(14,[]),(16,[]),(17,[])] | 6=>some [(0,[]),(1,[]),(2,[]),(3,[]),(4,[1]),(5,[]),(6,[]),(7,[])] | _=>none)
 | 243=>(match id with | 1=>some [(0,[]),(1,[]),(2,[]),(3,[]),(4,[]),(5,[]),(6,[]),(7,[]),(8,[]),(9,[]),(10,[]),(12,[]),(13,[]),(14,[]),(15,[]),(11,[5,15]),(16,[]),(17,[]),(18,[]),(19,[]),(20,[]),(21,[]),(22,[]),(23,[])] | _=>none)
 | 245=>(match id with | 2=>some [(0,[]),(1,[]),(2,[]),(3,[]),(4,[]),(5,[]),(10,[]),(6,[]),(7,[]),(8,[]),(9,[]),(11,[]),(12,[])] | _=>none)
 | 247=>(match id with | 6=>some [(0,[]),(1,[]),(2,[]),(4,[]),(5,[]),(6,[]),(3,[5]),(7,[]),(8,[]),(9,[]),(10,[])] | 14=>some [(0,[]),(1,[]),(2,[]),(3,[]),(4,[]),(5,[]),(6,[]),(7,[]),(8,[]),(9,[]),(10,[]),(11,[]),(12,[]),(13,[]),(14,[]),(15,[]),(16,[]),(17,[]),(18,[]),(19,[4]),(20,[]),(21,[]),(22,[]),(23,[]),(24,[])] | 23=>some [(0,[]),(1,[]),(3,[]),(4,[]),(5,[]),(6,[]),(7,[]),(12,[]),(2,[7]),(8,[]),(9,[]),(10,[]),(11,[]),(13,[]),(14,[])] | 24=>some [(0,[]),(1,[]),(2,[]),(3,[]),(4,[]),(5,[]),(6,[]),(7,[]),(8,[]),(9,[3]),(10,[]),(11,[]),(12,[])] | _=>none)
 | 248=>(match id with | 9=>some [(0,[]),(1,[]),(2,[]),(3,[]),(4,[]),(5,[]),(6,[]),(7,[]),(9,[]),(10,[]),(11,[]),(12,[]),(13,[]),(18,[]),(8,[13]),(14,[]),(15,[]),(16,[]),(17,[]),(19,[]),(20,[])] | 13=>some [(0,[]),(1,[]),(2,[]),(3,[]),(4,[]),(6,[]),(7,[]),(8,[]),(10,[]),(13,[]),(14,[]),(15,[]),(16,[]),(17,[]),(5,[7,10,14]),(9,[7,10,14]),(11,[7,14]),(12,[14]),(18,[]),(19,[]),(20,[]),(21,[])] | _=>none)
 | 249=>(match id with | 12=>some [(0,[]),(1,[]),(2,[]),(3,[]),(4,[]),(5,[]),(6,[]),(8,[]),(9,[]),(10,[]),(11,[]),(12,[]),(17,[]),(7,[12]),(13,[]),(14,[]),(15,[]),(16,[]),(18,[]),(19,[])] | _=>none)
 | 250=>(match id with | 8=>some [(0,[]),(1,[]),(2,[]),(3,[]),(4,[2]),(5,[]),(6,[]),(7,[]),(8,[])] | 27=>some [(0,[]),(1,[]),(2,[]),(3,[]),(5,[]),(4,[2]),(6,[]),(7,[]),(8,[]),(9,[])] | 30=>some [(0,[]),(1,[]),(2,[]),(3,[]),(5,[]),(6,[]),(4,[2]),(7,[]),(8,[]),(9,[]),(10,[]),(11,[])] | 37=>some [(0,[]),(1,[]),(2,[]),(3,[]),(5,[]),(4,[2]),(6,[]),(7,[]),(8,[]),(9,[])] | _=>none)
 | 256=>(match id with | 1=>some [(0,[]),(1,[]),(2,[]),(3,[]),(4,[1]),(5,[])] | _=>none)
 | 257=>(match id with | 0=>some [(0,[]),(1,[]),(2,[]),(3,[1]),(4,[]),(5,[])] | _=>none)
 | 271=>(match id with | 6=>some [(0,[]),(1,[]),(2,[]),(3,[]),(4,[]),(6,[]),(5,[2]),(7,[]),(8,[]),(9,[]),(10,[]),(11,[])] | _=>none)
 | 272=>(match id with | 1=>some [(0,[]),(1,[]),(2,[]),(3,[]),(4,[]),(5,[]),(6,[]),(8,[]),(9,[]),(10,[]),(11,[]),(12,[]),(13,[]),(14,[]),(7,[1,12]),(15,[]),(16,[]),(17,[])] | _=>none)
 | 281=>(match id with | 8=>some [(0,[]),(1,[]),(2,[]),(3,[]),(4,[]),(6,[]),(7,[]),(8,[]),(5,[7]),(9,[]),(10,[])] | 19=>some [(0,[]),(1,[]),(2,[]),(3,[]),(4,[]),(5,[]),(6,[]),(7,[]),(8,[]),(11,[]),(12,[]),(13,[]),(14,[]),(15,[]),(16,[]),(9,[15]),(10,[]),(17,[]),(18,[]),(19,[]),(20,[]),(21,[]),(22,[]),(23,[])] | _=>none)
 | 283=>(match id with | 7=>some [(0,[]),(1,[]),(2,[]),(3,[]),(4,[]),(5,[]),(6,[]),(7,[]),(9,[]),(10,[]),(11,[]),(8,[5,11]),(12,[]),(13,[]),(14,[]),(15,[])] | _=>none)
 | 285=>(match id with | 4=>some [(0,[]),(1,[]),(2,[]),(3,[]),(4,[]),(5,[]),(6,[]),(7,[]),(8,[5]),(9,[]),(10,[]),(11,[])] | 6=>some [(0,[]),(1,[]),(2,[]),(3,[]),(4,[]),(5,[]),(6,[3,5]),(7,[]),(8,[]),(9,[])] | 8=>some [(0,[]),(1,[]),(2,[]),(3,[]),(4,[0]),(5,[]),(6,[]),(7,[]),(8,[])] | _=>none)
 | 289=>(match id with | 12=>some [(0,[]),(1,[]),(2,[]),(3,[]),(4,[]),(5,[]),(6,[]),(7,[]),(12,[]),(8,[]),(9,[]),(10,[]),(11,[]),(13,[]),(14,[])] | _=>none)
 | 316=>(match id with | 6=>some [(0,[]),(1,[]),(2,[]),(3,[]),(4,[]),(5,[]),(6,[]),(7,[]),(8,[]),(9,[]),(10,[]),(11,[]),(16,[]),(12,[]),(13,[]),(14,[]),(15,[]),(17,[]),(18,[])] | 9=>some [(0,[]),(1,[]),(2,[]),(3,[]),(4,[]),(6,[]),(7,[]),(8,[]),(9,[]),(10,[]),(11,[]),(12,[]),(14,[]),(17,[]),(18,[]),(19,[]),(20,[]),(21,[]),(5,[7,12,14,18]),(13,[7,14,18]),(15,[7,18]),(16,[18]),(22,[]),(23,[]),(24,[]),(25,[])] | _=>none)
 | 317=>(match id with | 5=>some [(0,[]),(1,[]),(2,[]),(3,[]),(4,[]),(5,[]),(6,[]),(7,[]),(8,[5]),(9,[]),(10,[]),(11,[]),(12,[])] | _=>none)
 | 318=>(match id with | 6=>some [(0,[]),(1,[]),(2,[]),(3,[]),(4,[]),(6,[]),(5,[2]),(7,[]),(8,[]),(9,[]),(10,[])] | _=>none)
 | 320=>(match id with | 11=>some [(0,[]),(1,[]),(2,[]),(3,[1]),(4,[]),(5,[]),(6,[]),(7,[])] | 12=>some [(0,[]),(1,[]),(2,[]),(3,[]),(4,[]),(5,[]),(7,[]),(8,[]),(9,[]),(6,[]),(10,[]),(11,[]),(12,[])] | _=>none)
 | _=>none
end Go.Mx
namespace Go.Mx
open Go.Eng Go.Proofs Go.Proofs.YtafopfaomkklpaaGreat
noncomputable def S0:Sm:=λf=>match Nat.beq f 205 with | true=>some yj | false=>none
theorem GV (w:Bs):∀ f g,S0 f=some g→yb Tryz.prog w f g:=by
 intro f g h
 unfold S0 at h
 split at h
 ·rename_i e
  cases h
  have:=beq_eq e
  subst this
  exact yk w
 ·cases h
def El:List Nat:=[6,8,11,15,26,27,28,29,30,34,35,43,44,45,46,47,48,49,50,61,82,86,87,88,94,95,96,97,98,99,100,101,108,122,124,125,126,127,128,129,130,131,137,138,139,140,141,142,149,151,152,153,154,155,156,157,158,159,160,161,162,163,164,165,166,167,168,169,171,172,178,179,180,181,182,183,184,185,186,187,188,189,190,191,195,196,197,198,199,200,201,202,203,204,206,214,215,216,217,218,219,220,221,222,223,225,226,227,253,254,255,256]
theorem CF:El.all (okF Tryz.prog Gu)=true:=by kernel_rfl
theorem GW:Ff Tryz.prog (AS El S0) Gu 50 11 [] hp0 (λv _=>onB v True False)=True:=by kernel_rfl
theorem Gv (w:World):Does 11 [] w λv w'=>v=.bool true∧New w w':=DT mix (GV _) CF GW
end Go.Mx
namespace Go.Proofs.YtafopfaomkklpaaGreat
open Go.Proofs.Tryz
open Go.Eng IntKind
variable (w:World) (R:Value→World→Prop)
def dC (s0:Int) (s1:Option Addr) (a b:Nat) (s2:Option Addr) (c d:Nat) (s3 f:Bool) (j:List Value):List Value:=[(.int .i64 s0),(.slice s1 a b),(.slice s2 c d),(.bool s3),j.getD 0 undef,j.getD 1 undef,j.getD 2 undef,j.getD 3 undef,j.getD 4 undef,j.getD 5 undef,j.getD 6 undef,j.getD 7 undef,j.getD 8 undef,j.getD 9 undef,j.getD 10 undef,j.getD 11 undef,j.getD 12 undef,j.getD 13 undef,j.getD 14 undef,j.getD 15 undef,j.getD 16 undef,j.getD 17 undef,j.getD 18 undef,(.bool f),j.getD 19 undef,j.getD 20 undef,j.getD 21 undef,j.getD 22 undef,j.getD 23 undef,j.getD 24 undef,j.getD 25 undef,j.getD 26 undef,j.getD 27 undef,j.getD 28 undef,j.getD 29 undef,j.getD 30 undef,j.getD 31 undef,j.getD 32 undef,j.getD 33 undef,j.getD 34 undef,j.getD 35 undef,j.getD 36 undef,j.getD 37 undef,j.getD 38 undef,j.getD 39 undef,j.getD 40 undef,j.getD 41 undef,j.getD 42 undef,j.getD 43 undef,j.getD 44 undef,j.getD 45 undef,j.getD 46 undef,j.getD 47 undef,j.getD 48 undef,j.getD 49 undef,j.getD 50 undef,j.getD 51 undef,j.getD 52 undef,j.getD 53 undef,j.getD 54 undef,j.getD 55 undef,j.getD 56 undef,j.getD 57 undef,j.getD 58 undef,j.getD 59 undef,j.getD 60 undef,j.getD 61 undef,j.getD 62 undef,j.getD 63 undef,j.getD 64 undef,j.getD 65 undef,j.getD 66 undef,j.getD 67 undef,j.getD 68 undef,j.getD 69 undef,j.getD 70 undef,j.getD 71 undef,j.getD 72 undef,j.getD 73 undef,j.getD 74 undef,j.getD 75 undef,j.getD 76 undef,j.getD 77 undef,j.getD 78 undef,j.getD 79 undef,j.getD 80 undef,j.getD 81 undef,j.getD 82 undef,j.getD 83 undef]
def gJ (s0:Int) (s1:Option Addr) (a b:Nat) (s2:Option Addr) (c d:Nat) (s3:Bool) (j:List Value):List Value:=.int .i64 s0::.slice s1 a b::.slice s2 c d::.bool s3::jq j 0 85 []
def dD (s0:Int) (s1:Option Addr) (a b:Nat) (s2:Option Addr) (c d:Nat) (s3:Bool) (s9:Int) (j:List Value):List Value:=.int .i64 s0::.slice s1 a b::.slice s2 c d::.bool s3::jq j 0 5 (.int .i64 s9::jq j 5 79 [])
def et (s0:Int) (s1:Option Addr) (a b:Nat) (s2:Option Addr) (c d:Nat) (s3:Bool) (j:List Value):List Value:=.int .i64 s0::.slice s1 a b::.slice s2 c d::.bool s3::jq j 0 85 []
def dE (s0:Int) (s1:Option Addr) (a b:Nat) (j:List Value):List Value:=.int .i64 s0::.slice s1 a b::jq j 0 87 []
def bV (s0:Int) (s1:Option Addr) (a b:Nat) (c:Option Addr) (d f:Nat) (g:Int) (j:List Value):List Value:=.int .i64 s0::.slice s1 a b::jq j 0 12 (.slice c d f::.int .i64 g::jq j 12 73 [])
def eu (s0:Int) (s1:Option Addr) (a b:Nat) (c:Option Addr) (d f:Nat) (g:Int) (h:Bool) (j:List Value):List Value:=.int .i64 s0::.slice s1 a b::jq j 0 12 (.slice c d f::.int .i64 g::jq j 12 46 (.bool h::jq j 58 26 []))
def gK (s0:Int) (s1:Option Addr) (a b:Nat) (c:Option Addr) (d f:Nat) (g:Int) (j:List Value):List Value:=.int .i64 s0::.slice s1 a b::jq j 0 12 (.slice c d f::.int .i64 g::jq j 12 73 [])
def ew (s0:Int) (a:Option Addr) (b c:Nat) (j:List Value):List Value:=.int .i64 s0::jq j 0 13 (.slice a b c::jq j 13 74 [])
theorem lq (p0:Int) (p1:Option Addr) (a b:Nat) (p2:Option Addr) (c d:Nat) (p3:Bool):fnW prog f4 [.int .i64 p0,.slice p1 a b,.slice p2 c d,.bool p3] R w=((bif (decide (((a:Nat):Int)>8)) then (W prog (sub (aA f4) [1,0,1]) (dC p0 p1 a b p2 c d p3 true (uq 4 (jb false::uq 7 (js p1 a b::jn a::jb (decide (((a:Nat):Int)>8))::jb true::uq 68 [])))) (nx f4 [1,1] R) w) else (W prog (sub (aA f4) [1,0,1]) (dC p0 p1 a b p2 c d p3 (decide (((c:Nat):Int)>16)) (uq 4 (jb false::uq 7 (js p1 a b::jn a::jb (decide (((a:Nat):Int)>8))::jb false::js p2 c d::jn c::jb (decide (((c:Nat):Int)>16))::uq 65 [])))) (nx f4 [1,1] R) w))):=by kernel_rfl
theorem jC (s0:Int) (s1:Option Addr) (a b:Nat) (s2:Option Addr) (c d:Nat) (s3 f:Bool) (j:List Value) (QX:Exit→List Value→World→Prop):W prog (sub (aA f4) [1,0,1]) (dC s0 s1 a b s2 c d s3 f j) (Qr prog f4 R QX) w=((bif f then (R (.bool true) w) else (QX .normal (gJ s0 s1 a b s2 c d s3 (jq j 0 19 (jb f::jq j 19 65 []))) w))):=by kernel_rfl
theorem jD (s0:Int) (s1:Option Addr) (a b:Nat) (s2:Option Addr) (c d:Nat) (s3:Bool) (j:List Value) (QX:Exit→List Value→World→Prop):W prog (sub (aA f4) [1,1]) (gJ s0 s1 a b s2 c d s3 j) (Qr prog f4 R QX) w=(bS prog (.loop (sub (aA f4) [1,1,0,1,0,0])) (dD s0 s1 a b s2 c d s3 0 (jq j 0 5 (jq j 6 79 []))) (aI 0 (seqQ (λenv w=>W prog (sub (aA f4) [1,1,1]) env (Qr prog f4 R QX) w) (Qr prog f4 R QX))) w):=by kernel_rfl
theorem iX (s0:Int) (s1:Option Addr) (a b:Nat) (s2:Option Addr) (c d:Nat) (s3:Bool) (s9:Int) (j:List Value) (QX:Exit→List Value→World→Prop):W prog (sub (aA f4) [1,1,0,1,0,0]) (dD s0 s1 a b s2 c d s3 s9 j) (Qr prog f4 R QX) w=((bif (decide ((s9:Int)<(a:Nat))) then (idxS s1 a s9 2 λad=>∃ f g h,w.cell? ⟨ad.block,ad.off+1,none⟩=some (.slice f g h)∧(bif (decide (((g:Nat):Int)>60)) then (R (.bool true) w) else (QX .normal (dD s0 s1 a b s2 c d s3 (i64.wrap (s9+1)) (jq j 0 19 (ji s9::js s1 a b::jn a::jb (decide ((s9:Int)<(a:Nat)))::ji s9::ji (i64.wrap (s9+1))::js s1 a b::ji s9::jp ad::jf ad 1::js f g h::jn g::jb (decide (((g:Nat):Int)>60))::jq j 32 52 []))) w))) else (QX (.exit 0) (et s0 s1 a b s2 c d s3 (jq j 0 5 (ji s9::jq j 5 14 (ji s9::js s1 a b::jn a::jb (decide ((s9:Int)<(a:Nat)))::jq j 23 61 [])))) w))):=by kernel_rfl
theorem iY (env:List Value) (w:World) (Q:Exit→List Value→World→Prop):W prog (sub (aA f4) [1,1,1]) env Q w=W prog (sub (aA f4) [1,1,1,0]) env (seqQ (λenv w=>W prog (sub (aA f4) [1,1,1,1]) env Q w) Q) w:=by
 rw [show sub (aA f4) [1,1,1]=.seq (sub (aA f4) [1,1,1,0]) (sub (aA f4) [1,1,1,1]) by kernel_rfl]
 generalize sub (aA f4) [1,1,1,0]=a
 generalize sub (aA f4) [1,1,1,1]=b
 kernel_rfl
theorem jE (s0:Int) (s1:Option Addr) (a b:Nat) (s2:Option Addr) (c d:Nat) (s3:Bool) (j:List Value) (QX:Exit→List Value→World→Prop):W prog (sub (aA f4) [1,1,1,0]) (et s0 s1 a b s2 c d s3 j) (Qr prog f4 R QX) w=((bif s3 then (Calls prog 6 #[.int .i64 s0,.int .i64 5] w λe w1=>∃ f,e=.returned (.int .i64 f)∧Calls prog 7 #[.int .i64 (i64.wrap (f+1)),.int .i64 1,.int .i64 98,.slice s2 c d] w1 λe w2=>∃ g,e=.returned (.pointer g)∧Calls prog 9 #[.int .i64 (i64.wrap (f+1)),.slice none 0 0] w2 λe w3=>∃ h i k,aD.ex λp=>∃ l,e=.returned (.tuple #[.slice h i k,p.val,.bool l])∧∀ b1 w4,b1=w3.heap.size→w4=w3.alloc (.cells #[.int .i64 0,.int .i64 0,.int .i64 0,.slice none 0 0,.int .i64 0,.bool false,.int .u64 0,.slice none 0 0,.slice none 0 0,.slice none 0 0] 41)→wrAt w4 ⟨b1,0,none⟩ 0 p.cells∧∀ w5,w5=puts w4 ⟨b1,0,none⟩ 0 p.cells→Calls prog 13 #[.pointer g,.int .i64 0,.slice h i k] w5 λe w6=>∃ m n o,e=.returned (.slice m n o)∧bS prog (.loop (sub (aA f4) [1,1,1,0,1,0,1,1,1,1,0,1,0,0])) (bV (i64.wrap (f+1)) s1 a b m n o 0 (js s2 c d::jb s3::jq j 0 6 (.pointer g::js h i k::jp ⟨b1,0,none⟩::jb l::jq j 12 21 (jb s3::ji s0::ji f::ji (i64.wrap (f+1))::ji (i64.wrap (f+1))::js s2 c d::.pointer g::.tuple #[.slice h i k,p.val,.bool l]::ji (i64.wrap (f+1))::.tuple #[.slice h i k,p.val,.bool l]::js h i k::p.val::jb l::.pointer g::js h i k::js m n o::jq j 49 36 [])))) (aI 2 (seqQ (λenv w=>W prog (sub (aA f4) [1,1,1,0,1,0,1,1,1,1,1]) env (Qr prog f4 R QX) w) (Qr prog f4 R QX))) w6) else (QX .normal (dE s0 s1 a b (js s2 c d::jb s3::jq j 0 33 (jb s3::jq j 34 51 []))) w))):=by kernel_rfl
theorem jF (s0:Int) (s1:Option Addr) (a b:Nat) (j:List Value) (QX:Exit→List Value→World→Prop):W prog (sub (aA f4) [1,1,1,1]) (dE s0 s1 a b j) (Qr prog f4 R QX) w=(Calls prog 11 #[] w λe w1=>∃ c,e=.returned (.bool c)∧(bif c then (Calls prog 15 #[.int .i64 s0,.slice s1 a b] w1 λe w2=>aC.ex λf=>e=.returned f.val∧Calls prog 16 #[.int .i64 s0,.slice s1 a b] w2 λe w3=>aD.ex λg=>e=.returned g.val∧Calls prog 14 #[f.val,g.val] w3 λe w4=>∃ d,e=.returned (.bool d)∧R (.bool d) w4) else (R (.bool false) w1))):=by kernel_rfl
theorem iZ (s0:Int) (s1:Option Addr) (a b:Nat) (c:Option Addr) (d f:Nat) (g:Int) (j:List Value) (QX:Exit→List Value→World→Prop):W prog (sub (aA f4) [1,1,1,0,1,0,1,1,1,1,0,1,0,0]) (bV s0 s1 a b c d f g j) (Qr prog f4 R QX) w=((bif (decide ((g:Int)<(a:Nat))) then (W prog (sub (aA f4) [1,1,1,0,1,0,1,1,1,1,0,1,0,0,0,1]) (eu s0 s1 a b c d f g (decide ((g:Int)<(d:Nat))) (jq j 0 49 (ji g::js s1 a b::jn a::jb (decide ((g:Int)<(a:Nat)))::jb true::ji g::js c d f::jn d::jb (decide ((g:Int)<(d:Nat)))::jq j 59 26 []))) (seqQ (λenv w=>W prog (sub (aA f4) [1,1,1,0,1,0,1,1,1,1,0,1,0,0,1]) env (Qr prog f4 R QX) w) (Qr prog f4 R QX)) w) else (W prog (sub (aA f4) [1,1,1,0,1,0,1,1,1,1,0,1,0,0,0,1]) (eu s0 s1 a b c d f g false (jq j 0 49 (ji g::js s1 a b::jn a::jb (decide ((g:Int)<(a:Nat)))::jb false::uq 4 (jq j 59 26 [])))) (seqQ (λenv w=>W prog (sub (aA f4) [1,1,1,0,1,0,1,1,1,1,0,1,0,0,1]) env (Qr prog f4 R QX) w) (Qr prog f4 R QX)) w))):=by kernel_rfl
theorem fM (s0:Int) (s1:Option Addr) (a b:Nat) (c:Option Addr) (d f:Nat) (g:Int) (h:Bool) (j:List Value) (QX:Exit→List Value→World→Prop):W prog (sub (aA f4) [1,1,1,0,1,0,1,1,1,1,0,1,0,0,0,1]) (eu s0 s1 a b c d f g h j) (Qr prog f4 R QX) w=((bif h then (QX .normal (gK s0 s1 a b c d f g (jq j 0 58 (jb h::jq j 58 26 []))) w) else (QX (.exit 2) (ew s0 c d f (js s1 a b::jq j 0 12 (ji g::jq j 12 46 (jb h::jq j 58 26 [])))) w))):=by kernel_rfl
theorem jG (s0:Int) (s1:Option Addr) (a b:Nat) (c:Option Addr) (d f:Nat) (g:Int) (j:List Value) (QX:Exit→List Value→World→Prop):W prog (sub (aA f4) [1,1,1,0,1,0,1,1,1,1,0,1,0,0,1]) (gK s0 s1 a b c d f g j) (Qr prog f4 R QX) w=(idxS s1 a g 2 λad=>∃ h,w.cell? ad=some (.int .i64 h)∧(bif ((h:Int) != 0) then (idxS s1 a g 2 λi=>aY.ex λr=>aG w i 0 r.cells∧idxS c d g 2 λk=>wrAt w k 0 r.cells∧∀ w1,w1=puts w k 0 r.cells→QX .normal (bV s0 s1 a b c d f (i64.wrap (g+1)) (jq j 0 59 (ji g::ji (i64.wrap (g+1))::js s1 a b::ji g::jp ad::jp ad::ji h::jb ((h:Int) != 0)::js c d f::ji g::js s1 a b::ji g::jp i::r.val::jp k::jq j 74 11 []))) w1) else (QX .normal (bV s0 s1 a b c d f (i64.wrap (g+1)) (jq j 0 59 (ji g::ji (i64.wrap (g+1))::js s1 a b::ji g::jp ad::jp ad::ji h::jb ((h:Int) != 0)::jq j 67 18 []))) w))):=by kernel_rfl
theorem jH (s0:Int) (a:Option Addr) (b c:Nat) (j:List Value) (QX:Exit→List Value→World→Prop):W prog (sub (aA f4) [1,1,1,0,1,0,1,1,1,1,1]) (ew s0 a b c j) (Qr prog f4 R QX) w=(QX .normal (dE s0 a b c (jq j 1 12 (js a b c::jq j 13 63 (js a b c::jq j 77 10 [])))) w):=by kernel_rfl
end Go.Proofs.YtafopfaomkklpaaGreat
