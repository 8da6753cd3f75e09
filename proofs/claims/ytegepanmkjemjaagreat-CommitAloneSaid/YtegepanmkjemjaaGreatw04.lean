import Derived.Test.YtegepanmkjemjaaGreatw03
import Derived.Test.YtegepanmkjemjaaGreatProg
import Derived.Test.YtegepanmkjemjaaGreatw02
import Derived.RangeFuncNested
import Derived.RangeFuncBound
import Derived.RangeFuncCalls
import Derived.RangeFuncLeaves
set_option linter.unusedVariables false
namespace Go.Proofs.YtegepanmkjemjaaGreat
open Go.Proofs.Tryz
open Go.Eng
theorem Eh {u:World} {a:Option Addr} {n cap:Nat} {L:List aF} (ho:Owns u TMb 3 a n cap (iC L).flatten) (hn:n=L.length) {m:aF} (hb1:n≤1000000) {K:Nat→Option Addr→Nat→Nat→World→Prop}
  (hk:∀ b ap cap' w3,b=u.heap.size→Owns w3 TMb 3 ap (n+1) cap' (iC (L++[m])).flatten→Keep (isB a) u w3→(∀ k,isB ap k→isB a k∨u.heap.size≤k)→K b ap (n+1) cap' w3) :
  ∀ b1 w2,b1=u.heap.size→w2=u.alloc (.cells m.cells.toArray TMb)→∃ (ap:Option Addr) (ap_len ap_cap:Nat),∃ w3,(Builtin.append_ #[TSM,TSM] TSM #[(.slice a n cap),(.slice (some ⟨b1,0,none⟩) 1 1)]).run prog w2=.ok (.slice ap ap_len ap_cap) w3∧K b1 ap ap_len ap_cap w3:=by
 obtain ⟨inf,hi,hz,hsz,hby⟩:=j8 (T:=TMb) (z:=.agg #[.int .i64 0,.int .i64 0,.bool false]) (n:=3) (m:=24) (by kernel_rfl)
 rw [←hsz] at ho
 refine push_k Tryz.underlying28 hi hz (by rw [hsz];rfl) (by omega) ho (by rw [hsz];rfl) (aF.single m) (by omega) (by omega) ?_
 intro b ap cap' w3 h1 h2
 rw [hsz,←zi] at h2
 exact hk b ap cap' w3 h1 h2
end Go.Proofs.YtegepanmkjemjaaGreat
namespace Go.Proofs.YtegepanmkjemjaaGreat
open Go.Proofs.Tryz
open Go.Eng IntKind
variable (w:World) (R:Value→World→Prop)
theorem pE (p0:Int):fnW prog f32 [(.int .i64 p0)] R w=(Calls prog 11 #[(.int .i64 p0),(.int .i64 7)] w λe w1=>∃ a,e=.returned (.int .i64 a)∧R (.int .i64 (i64.wrap (98+a))) w1):=by kernel_rfl
theorem pF (p0:Int):fnW prog f33 [.int .i64 p0] R w=(∀ b1 w1,b1=w.heap.size→w1=w.alloc (.cells #[.int .i64 0,.slice none 0 0] 30)→Calls prog 50 #[.int .i64 p0] w1 λe w2=>aM.ex λb=>∃ a,e=.returned (.tuple #[b.val,.int .i64 a])∧∀ b2 w3,b2=w2.heap.size→w3=w2.alloc (.cells #[.int .i64 0,.slice none 0 0] 30)→wrAt w3 ⟨b2,0,none⟩ 0 b.cells∧∀ w4,w4=puts w3 ⟨b2,0,none⟩ 0 b.cells→aM.ex λr=>aG w4 ⟨b2,0,none⟩ 0 r.cells∧wrAt w4 ⟨b1,0,none⟩ 0 r.cells∧∀ w5,w5=puts w4 ⟨b1,0,none⟩ 0 r.cells→aM.ex λc=>aG w5 ⟨b1,0,none⟩ 0 c.cells∧w5=w5∧R c.val w5):=by kernel_rfl
def dV (s0:Int) (s2 s4:Addr) (s5:Int) (j:LV):LV:=.int .i64 s0::jq j 0 1 (.pointer (some s2)::jq j 1 1 (.pointer (some s4)::.int .i64 s5::jq j 2 21 []))
def iD (a b:Addr) (j:LV):LV:=jq j 0 2 (.pointer (some a)::jq j 2 1 (.pointer (some b)::jq j 3 22 []))
theorem nP (p0:Int):fnW prog f50 [.int .i64 p0] R w=(∀ b1 w1,b1=w.heap.size→w1=w.alloc (.cells #[.int .i64 0,.slice none 0 0] 30)→(bif (decide ((p0:Int)<1)) then (wrAt w1 ⟨b1,0,none⟩ 0 [.int .i64 0,.slice none 0 0]∧∀ w2,w2=puts w1 ⟨b1,0,none⟩ 0 [.int .i64 0,.slice none 0 0]→aM.ex λa=>aG w2 ⟨b1,0,none⟩ 0 a.cells∧w2=w2∧R (.tuple #[a.val,.int .i64 1]) w2) else ((bif (decide ((p0:Int)>5)) then (wrAt w1 ⟨b1,0,none⟩ 0 [.int .i64 0,.slice none 0 0]∧∀ w3,w3=puts w1 ⟨b1,0,none⟩ 0 [.int .i64 0,.slice none 0 0]→aM.ex λb=>aG w3 ⟨b1,0,none⟩ 0 b.cells∧w3=w3∧R (.tuple #[b.val,.int .i64 1]) w3) else (∀ b2 w4,b2=w1.heap.size→w4=w1.alloc (.cells #[.int .i64 0,.slice none 0 0] 30)→wrAt w4 ⟨b2,0,none⟩ 0 [.int .i64 0,.slice none 0 0]∧∀ w5,w5=puts w4 ⟨b2,0,none⟩ 0 [.int .i64 0,.slice none 0 0]→bS prog (.loop (sub (aD f50) [1,1,1,0,1,0,0])) (dV p0 ⟨b1,0,none⟩ ⟨b2,0,none⟩ 0 (undef::ji 0::ji p0::jb (decide ((p0:Int)<1))::jb false::ji p0::jb (decide ((p0:Int)>5))::jb (decide ((p0:Int)>5))::undef::.agg #[.int .i64 0,.slice none 0 0]::uq 13 [])) (aI 0 (nx f50 [1,1,1,1] R)) w5))))):=by kernel_rfl
theorem j9 (s0:Int) (s2 s4:Addr) (s5:Int) (j:LV) (N1:LV→World→Prop):W prog (sub (aD f50) [1,1,1,0,1,0,0]) (dV s0 s2 s4 s5 j) (seqQ N1 (aI 0 (nx f50 [1,1,1,1] R))) w=((bif (decide ((s5:Int)<s0)) then (∃ a b c,w.cell? ⟨s4.block,s4.off+1,none⟩=some (.slice a b c)∧∀ b1 w1,b1=w.heap.size→w1=w.alloc (.cells #[.int .i64 s5,.int .i64 1,.bool true] 103)→∃ ap d f,∃ w2,(Builtin.append_ #[28,28] 28 #[.slice a b c,.slice (some ⟨b1,0,none⟩) 1 1]).run prog w1=.ok (.slice ap d f) w2∧(∃ u,w2.cell? ⟨s4.block,s4.off+1,none⟩=some u)∧w2.frozen? ⟨s4.block,s4.off+1,none⟩=false∧∀ w3,w3=w2.setCell ⟨s4.block,s4.off+1,none⟩ (.slice ap d f)→N1 (dV s0 s2 s4 (i64.wrap (s5+1)) (jq j 0 10 [ji s5,ji s0,jb (decide ((s5:Int)<s0)),ji s5,ji (i64.wrap (s5+1)),jf s4 1,js a b c,ji s5,.agg #[.int .i64 s5,.int .i64 1,.bool true],js (some ⟨b1,0,none⟩) 1 1,js ap d f,jf s4 1,jg j 22])) w3) else (W prog (sub (aD f50) [1,1,1,1]) (iD s2 s4 (ji s0::jg j 0::jg j 1::ji s5::jq j 2 8 (ji s5::ji s0::jb (decide ((s5:Int)<s0))::jq j 13 10 []))) (retQ prog f50 R) w))):=by kernel_rfl
theorem lh (a b:Addr) (j:LV):W prog (sub (aD f50) [1,1,1,1]) (iD a b j) (retQ prog f50 R) w=(aM.ex λr=>aG w b 0 r.cells∧wrAt w a 0 r.cells∧∀ w1,w1=puts w a 0 r.cells→aM.ex λc=>aG w1 a 0 c.cells∧w1=w1∧R (.tuple #[c.val,.int .i64 0]) w1):=by kernel_rfl
end Go.Proofs.YtegepanmkjemjaaGreat
namespace Go.Proofs.YtegepanmkjemjaaGreat
open Go.Eng
theorem Ar {x n:Int} (hn:1≤n):0≤(if n<1 then 0 else x % n)∧(if n<1 then 0 else x % n)<n:=by
 rw [if_neg (by omega)]
 exact ⟨Int.emod_nonneg x (by omega),Int.emod_lt_of_pos x (by omega)⟩
theorem xG (w:World) {x:Int} (hx:I64 x):Does 32 [.int .i64 x] w λv w'=>v=.int .i64 (98+x % 7)∧w'=w:=by
 refine does Tryz.func32 ?_
 rw [pE]
 refine aE (fS w x 7 hx (by omega)) ?_
 rintro v w1 ⟨rfl,rfl⟩
 have:=Ar (x:=x) (n:=7) (by omega)
 rw [if_neg (by omega)] at this
 refine ⟨_,rfl,?_,rfl⟩
 rw [if_neg (by omega),w64 (by omega) (by omega)]
structure GL (v:Vw):Prop where
 num:0≤v.number∧v.number<16
 boot:∀ m ∈ v.mem,1≤m.Boot
 ne:v.mem≠[]
 few:v.mem.length≤5
abbrev FG (A:Nat):Nat→Prop:=λk=>k<A
theorem GM {w:World} {n:Int} {a:Option Addr} {c A:Nat} {L:List aF} (ho:Owns w TMb 3 a L.length c (iC L).flatten) (hl:L.length≤1000000) (hf:∀ k,isB a k→A≤k):ViewAt (FG A) w ⟨n,a,L.length,c⟩ ⟨n,L⟩:=
 ⟨rfl,rfl,ho.le,ho.rd,qg ho.rd λk hk h=>Nat.lt_irrefl _ (Nat.lt_of_lt_of_le h (hf k hk)),hl⟩
theorem ViewAt.mono {M M':Nat→Prop} {w:World} {r:aM} {v:Vw} (h:ViewAt M w r v) (hm:∀ k,k<w.heap.size→M' k→M k):ViewAt M' w r v:=by
 refine ⟨h.num,h.len,h.cap,h.rd,?_,h.small⟩
 rcases h.off with e | e
 ·exact .inl e
 ·rcases h.rd with e2 | ⟨b,o,e2,hc⟩
  ·exact .inl e2
  ·by_cases he:(iC v.mem).flatten=[]
   ·exact .inl he
   ·rw [e2] at e ⊢
    refine .inr λhM=>e (hm _ ?_ hM)
    cases hl:(iC v.mem).flatten with
    |nil=>exact absurd hl he
    |cons x xs=>exact xD (hc 0 x (by rw [hl];rfl))
theorem ViewAt.keep {M N:Nat→Prop} {w w':World} {r:aM} {v:Vw} (h:ViewAt M w r v) (hk:Keep N w w') (hN:∀ k,N k→M k):ViewAt M w' r v:=
 ⟨h.num,h.len,h.cap,h.rd.keep hk (h.off.imp id λe=>by cases ha:r.Members with
  |none=>exact trivial
  |some a=>rw [ha] at e;exact λhn=>e (hN _ hn)),h.off,h.small⟩
def stM (n:Nat):List aF:=(List.range n).map λ(i:Nat)=>⟨(i:Int),1,true⟩
theorem mM (n:Nat):(stM n).length=n:=by simp [stM]
theorem Co (n:Nat):stM (n+1)=stM n++[⟨(n:Int),1,true⟩]:=by simp [stM,List.range_succ]
theorem Cp {n:Nat} {m:aF} (h:m ∈ stM n):1≤m.Boot:=by
 simp only [stM,List.mem_map] at h
 obtain ⟨i,_,rfl⟩:=h
 exact Int.le_refl _
theorem zk (w:World) {n:Int} (h1:1≤n) (h5:n≤5):Does 50 [.int .i64 n] w λx w'=>∃ (a:Option Addr) (c:Nat) (L:List aF),x=.tuple #[aM.val ⟨0,a,L.length,c⟩,.int .i64 0]∧Owns w' TMb 3 a L.length c (iC L).flatten∧New w w'∧L=stM n.toNat∧(∀ k,isB a k→w.heap.size≤k):=by
 refine does Tryz.func50 ?_
 rw [nP]
 rintro b1 w1 hb1 hw1
 obtain ⟨hz1,hn1⟩:=aN hb1 hw1
 have hz1:Blk w1 b1 (aM.cells ⟨0,none,0,0⟩) TVw:=hz1
 clear hw1
 refine aJ (λhp=>absurd hp (by omega)) (λ_=>aJ (λhp=>absurd hp (by omega)) (λ_=>?_))
 refine gX (vs:=aM.cells ⟨0,none,0,0⟩) rfl (aM.single _) λb2 w3 hb2 hz3 hn3=>?_
 have hz13:=New.blk hn3 hz1
 have hn03:=hn1.new hn3
 have hs1:=hn1.size
 have hs1':=hz1.lt
 refine aQ mix (λm env u=>∃ (i:Nat) (a:Option Addr) (c:Nat) (L:List aF) (jj:List Value),m=n.toNat - i∧i≤n.toNat∧env=dV n ⟨b1,0,none⟩ ⟨b2,0,none⟩ i jj∧New w u∧Blk u b1 (aM.cells ⟨0,none,0,0⟩) TVw∧Blk u b2 (aM.cells ⟨0,a,L.length,c⟩) TVw∧Owns u TMb 3 a L.length c (iC L).flatten∧(∀ k,isB a k→b2<k)∧L=stM i) n.toNat
  ⟨0,none,0,[],_,by omega,by omega,rfl,hn03,hz13,hz3,Owns.nil _ _ _,(λk hk=>by obtain ⟨o,ho⟩:=hk;cases ho),rfl⟩ ?_
 rintro m env u ⟨i,a,c,L,jj,rfl,hi,rfl,hnu,hu1,hu2,hown,hfr,hLs⟩
 have hLi:L.length=i:=by rw [hLs,mM]
 rw [j9]
 refine aJ (λhq=>?_) (λhq=>?_)
 ·refine ⟨_,_,_,hu2.cell (i:=1) rfl,?_⟩
  refine Eh hown rfl (m:=⟨i,1,true⟩) (by omega) ?_
  intro b3 ap cap u3 hb3 ho3 hk3 hap
  have hu13:=hk3.blk hu1 λe=>by have:=hfr b1 e;omega
  have hu23:=hk3.blk hu2 λe=>by have:=hfr b2 e;omega
  have hus:=hu2.lt
  have hfr3:∀ k,isB ap k→b2<k:=λk hk=>by
   rcases hap k hk with h1 | h1
   ·exact hfr k h1
   ·omega
  refine rN (b:=b2) hu23 (o:=0+1) (by simp [aM.cells]) λu4 hu24 hk4=>?_
  rw [w64 (by omega) (by omega)]
  refine ⟨n.toNat - (i+1),by omega,i+1,ap,cap,L++[⟨i,1,true⟩],_,rfl,by omega,rfl,?_,hk4.blk hu13 (by omega),?_,?_,hfr3,by rw [hLs,Co]⟩
  ·have h1:New w u3:=qd hnu hk3 λk hk=>by have:=hfr k hk;omega
   exact h1.trans hk4 λk hlt e=>by omega
  ·rw [List.length_append];exact hu24
  ·rw [List.length_append];exact Owns.keep hk4 ho3 λk hk e=>by have:=hfr3 k hk;omega
 ·have hin:i=n.toNat:=by omega
  rw [lh]
  refine aM.mk_ex ⟨0,a,L.length,c⟩ ⟨aK hu2 rfl,?_⟩
  refine ⟨bZ hu1 (by simp [aM.cells]) (aM.single _),λu2 hu=>?_⟩
  have hk:Keep (λk=>k=b1) u u2:=by rw [hu];exact cT _ _ _ _ _
  have hz:Blk u2 b1 (aM.cells ⟨0,a,L.length,c⟩) TVw:=by rw [hu];exact hu1.puts
  refine aM.mk_ex ⟨0,a,L.length,c⟩ ⟨aK hz rfl,rfl,a,c,L,rfl,?_,?_,by rw [hLs,hin],?_⟩
  ·exact Owns.keep hk hown λk hk' e=>by have:=hfr k hk';omega
  ·exact hnu.trans hk λk hlt e=>by omega
  ·intro k hk';have:=hfr k hk';omega
theorem q8 (w:World) {n:Int} (h1:1≤n) (h5:n≤5):Does 33 [.int .i64 n] w λx w'=>∃ r v,x=aM.val r∧ViewAt (FG w.heap.size) w' r v∧New w w'∧GL v∧v=⟨0,stM n.toNat⟩:=by
 refine does Tryz.func33 ?_
 rw [pF]
 rintro b1 w1 hb1 hw1
 obtain ⟨hz1,hn1⟩:=aN hb1 hw1
 have hz1:Blk w1 b1 (aM.cells ⟨0,none,0,0⟩) TVw:=hz1
 clear hw1
 refine aE (zk w1 h1 h5) ?_
 rintro v w2 ⟨a,c,L,rfl,hown,hn2,hLs,hfr⟩
 have hLn:(L.length:Int)=n:=by rw [hLs,mM];omega
 have hbt:∀ m ∈ L,1≤m.Boot:=λm hm=>Cp (hLs▸hm)
 refine aM.mk_ex ⟨0,a,L.length,c⟩ ⟨_,rfl,?_⟩
 refine gX (vs:=aM.cells ⟨0,a,L.length,c⟩) rfl (aM.single _) λb2 w3 hb2 hz3 hn3=>?_
 refine aM.mk_ex ⟨0,a,L.length,c⟩ ⟨aK hz3 rfl,?_⟩
 have hz13:=New.blk (hn2.new hn3) hz1
 have hown3:=Owns.new hn3 hown
 refine ⟨bZ hz13 (by simp [aM.cells]) (aM.single _),λu2 hu=>?_⟩
 have hk:Keep (λk=>k=b1) w3 u2:=by rw [hu];exact cT _ _ _ _ _
 have hz:Blk u2 b1 (aM.cells ⟨0,a,L.length,c⟩) TVw:=by rw [hu];exact hz13.puts
 have hne:∀ k,isB a k→k≠b1:=λk hk' e=>by
  subst e
  obtain ⟨o,ho⟩:=hk'
  rcases hown3.2 with ⟨h,_⟩ | ⟨g,cur,he,hg,_⟩
  ·rw [h] at ho;cases ho
  ·rw [he] at ho
   simp at ho
   exact absurd (hg.uniq (ho.1▸hz13)).2 (by decide)
 refine aM.mk_ex ⟨0,a,L.length,c⟩ ⟨aK hz rfl,rfl,_,⟨0,L⟩,rfl,GM (Owns.keep hk hown3 hne) (by omega) (λk hk'=>by have:=hfr k hk';have:=hn1.size;omega),?_,⟨⟨by simp,by simp⟩,hbt,λe=>?_,?_⟩,by rw [hLs]⟩
 ·exact (hn1.new (hn2.new hn3)).trans hk λk hlt e=>by omega
 ·have e:L=[]:=e
  rw [e] at hLn
  simp at hLn <;> omega
 ·show L.length≤5
  omega
end Go.Proofs.YtegepanmkjemjaaGreat
namespace Go.Proofs.YtegepanmkjemjaaGreat
open Go.Proofs.Tryz
open Go.Eng IntKind
variable (w:World) (R:Value→World→Prop)
theorem uW (a b c d f g:Int) (h:Option Addr) (i k:Nat) (l m:Int) (w:World) (R:Value→World→Prop):fnW prog f109 [.agg #[.int .i64 a,.int .i64 b,.int .i64 c,.int .i64 d,.int .u64 f,.int .u64 g,.slice h i k,.int .u64 l,.int .i64 m]] R w=(∀ b1 w1,b1=w.heap.size→w1=w.alloc (.cells #[.int .i64 a,.int .i64 b,.int .i64 c,.int .i64 d,.int .u64 f,.int .u64 g,.slice h i k,.int .u64 l,.int .i64 m] 166)→∃ n,w1.cell? ⟨b1,0,none⟩=some (.int .i64 n)∧(bif ((n:Int) == 1) then (∃ N_,w1.cell? ⟨b1,3,none⟩=some (.int .i64 N_)∧R (.int .i64 N_) w1) else ((bif ((n:Int) == 2) then (∃ o p q,w1.cell? ⟨b1,6,none⟩=some (.slice o p q)∧R (.int .i64 (p:Nat)) w1) else ((bif ((n:Int) == 3) then ((bif ((n:Int) == 3) then (R (.int .i64 1) w1) else (R (.int .i64 0) w1))) else ((bif ((n:Int) == 4) then (R (.int .i64 1) w1) else (R (.int .i64 0) w1))))))))):=by kernel_rfl
theorem tW (a b c d f g:Int) (h:Option Addr) (i k:Nat) (l m:Int) (w:World) (R:Value→World→Prop):fnW prog f155 [.agg #[.int .i64 a,.int .i64 b,.int .i64 c,.int .i64 d,.int .u64 f,.int .u64 g,.slice h i k,.int .u64 l,.int .i64 m]] R w=(∀ b1 w1,b1=w.heap.size→w1=w.alloc (.cells #[.int .i64 a,.int .i64 b,.int .i64 c,.int .i64 d,.int .u64 f,.int .u64 g,.slice h i k,.int .u64 l,.int .i64 m] 166)→R (.func (.func 191) #[] #[.pointer (some ⟨b1,0,none⟩)]) w1):=by kernel_rfl
def fT (s0:Value) (s3 s4:Int) (j:LV):LV:=s0::jq j 0 2 (.int .i64 s3::.int .i64 s4::jq j 2 24 [])
theorem rY (p0:Value) (c0:Nat):fnW prog f191 [p0,.pointer (some ⟨c0,0,none⟩)] R w=(∀ w1,w1=w.drew→∃ Sx:World→Prop,Sx w1∧∃ At,(∀ u,Sx u→u.cell? ⟨c0,2,none⟩=some (.int .i64 At))∧∃ a b c N_ d f g h i k l,(∀ u,Sx u→aG u ⟨c0,0,none⟩ 0 [.int .i64 a,.int .i64 b,.int .i64 c,.int .i64 N_,.int .u64 d,.int .u64 f,.slice g h i,.int .u64 k,.int .i64 l])∧Calls prog 109 #[.agg #[.int .i64 a,.int .i64 b,.int .i64 c,.int .i64 N_,.int .u64 d,.int .u64 f,.slice g h i,.int .u64 k,.int .i64 l]] w1 λe w2=>∃ m,e=.returned (.int .i64 m)∧Sx w2∧bS prog (.loop (sub (aD f191) [1,0,0])) (fT p0 At m (jp ⟨c0,0,none⟩::uq 2 (jp ⟨c0,2,none⟩::ji At::.agg #[.int .i64 a,.int .i64 b,.int .i64 c,.int .i64 N_,.int .u64 d,.int .u64 f,.slice g h i,.int .u64 k,.int .i64 l]::ji m::uq 19 []))) (aI 0 (retQ prog f191 R)) w2):=by kernel_rfl
theorem l6 (s0:Value) (s3 s4:Int) (j:LV) (N1:LV→World→Prop):W prog (sub (aD f191) [1,0,0]) (fT s0 s3 s4 j) (seqQ N1 (aI 0 (retQ prog f191 R))) w=((bif (decide ((s4:Int)>0)) then (oM prog s0 #[.agg #[.int .i64 s3,.int .i64 (if ((i64.wrap (8 - (Int.tmod s3 8))):Int)<s4 then ((i64.wrap (8 - (Int.tmod s3 8))):Int) else s4)]] w λe w1=>∃ a,e=.returned (.bool a)∧(bif (!a) then (R (.tuple #[]) w1) else (N1 (fT s0 (i64.wrap (s3+(if ((i64.wrap (8 - (Int.tmod s3 8))):Int)<s4 then ((i64.wrap (8 - (Int.tmod s3 8))):Int) else s4))) (i64.wrap (s4 - (if ((i64.wrap (8 - (Int.tmod s3 8))):Int)<s4 then ((i64.wrap (8 - (Int.tmod s3 8))):Int) else s4))) (jg j 0::jg j 1::ji (if ((i64.wrap (8 - (Int.tmod s3 8))):Int)<s4 then ((i64.wrap (8 - (Int.tmod s3 8))):Int) else s4)::jq j 3 4 [ji s4,jb (decide ((s4:Int)>0)),ji s4,ji s3,ji (Int.tmod s3 8),ji (i64.wrap (8 - (Int.tmod s3 8))),ji (if ((i64.wrap (8 - (Int.tmod s3 8))):Int)<s4 then ((i64.wrap (8 - (Int.tmod s3 8))):Int) else s4),s0,ji s3,ji (if ((i64.wrap (8 - (Int.tmod s3 8))):Int)<s4 then ((i64.wrap (8 - (Int.tmod s3 8))):Int) else s4),.agg #[.int .i64 s3,.int .i64 (if ((i64.wrap (8 - (Int.tmod s3 8))):Int)<s4 then ((i64.wrap (8 - (Int.tmod s3 8))):Int) else s4)],jb a,jb (!a),ji s3,ji (if ((i64.wrap (8 - (Int.tmod s3 8))):Int)<s4 then ((i64.wrap (8 - (Int.tmod s3 8))):Int) else s4),ji (i64.wrap (s3+(if ((i64.wrap (8 - (Int.tmod s3 8))):Int)<s4 then ((i64.wrap (8 - (Int.tmod s3 8))):Int) else s4))),ji s4,ji (if ((i64.wrap (8 - (Int.tmod s3 8))):Int)<s4 then ((i64.wrap (8 - (Int.tmod s3 8))):Int) else s4),ji (i64.wrap (s4 - (if ((i64.wrap (8 - (Int.tmod s3 8))):Int)<s4 then ((i64.wrap (8 - (Int.tmod s3 8))):Int) else s4)))])) w1))) else (R (.tuple #[]) w))):=by kernel_rfl
end Go.Proofs.YtegepanmkjemjaaGreat
namespace Go.Proofs.YtegepanmkjemjaaGreat
open Go.Eng
theorem ng {w:World} {ad:Addr} {v:aL} {K:Int→Int→Int→Int→Int→Int→Option Addr→Nat→Nat→Int→Int→Prop} (h:aG w ad 0 v.cells)
  (hk:K v.Kind v.Node v.At v.N v.Old v.New v.Words v.Wl v.Wc v.Key v.Boot) :
  ∃ (Kind:Int) (Node:Int) (At:Int) (N:Int) (Old:Int) (New:Int) (Words:Option Addr) (Wl:Nat) (Wc:Nat) (Key:Int) (Boot:Int),
   aG w ad 0 [.int .i64 Kind,.int .i64 Node,.int .i64 At,.int .i64 N,.int .u64 Old,.int .u64 New,.slice Words Wl Wc,.int .u64 Key,.int .i64 Boot]∧K Kind Node At N Old New Words Wl Wc Key Boot:=
 ⟨_,_,_,_,_,_,_,_,_,_,_,h,hk⟩
theorem nQ {S:World→Prop} {ad:Addr} {v:aL} {K:Int→Int→Int→Int→Int→Int→Option Addr→Nat→Nat→Int→Int→Prop} (h:∀ u,S u→aG u ad 0 v.cells)
  (hk:K v.Kind v.Node v.At v.N v.Old v.New v.Words v.Wl v.Wc v.Key v.Boot) :
  ∃ (Kind:Int) (Node:Int) (At:Int) (N:Int) (Old:Int) (New:Int) (Words:Option Addr) (Wl:Nat) (Wc:Nat) (Key:Int) (Boot:Int),
   (∀ u,S u→aG u ad 0 [.int .i64 Kind,.int .i64 Node,.int .i64 At,.int .i64 N,.int .u64 Old,.int .u64 New,.slice Words Wl Wc,.int .u64 Key,.int .i64 Boot])∧K Kind Node At N Old New Words Wl Wc Key Boot:=
 ⟨_,_,_,_,_,_,_,_,_,_,_,h,hk⟩
abbrev TV:TypeId:=166
theorem vbox {w:World} {b:Nat} {v:aL} (h:Blk w b v.cells TV):aG w ⟨b,0,none⟩ 0 v.cells:=aK h (by simp [aL.cells])
theorem qm (w:World) (v:aL):Blk (w.alloc (.cells v.cells.toArray TV)) w.heap.size v.cells TV:=jV _ _ _
def aL.count (v:aL):Int:=if v.Kind=1 then v.N else if v.Kind=2 then v.Wl else if v.Kind=3∨v.Kind=4 then 1 else 0
theorem uX (w:World) (v:aL):Does 109 [v.val] w λx w'=>x=.int .i64 v.count∧New w w':=by
 refine does Tryz.func109 ?_
 refine Eq.mpr (uW v.Kind v.Node v.At v.N v.Old v.New v.Words v.Wl v.Wc v.Key v.Boot w _) ?_
 rintro b1 w1 rfl rfl
 have hb:=qm w v
 have hn:=dM w (.cells v.cells.toArray TV)
 refine ⟨_,hb.cell rfl,bH (λh1=>⟨_,hb.cell rfl,?_,hn⟩) (λh1=>bH (λh2=>⟨_,_,_,hb.cell rfl,?_,hn⟩) (λh2=>bH (λh3=>bH (λ_=>⟨?_,hn⟩) (λh=>absurd h3 h)) (λh3=>bH (λh4=>⟨?_,hn⟩) (λh4=>⟨?_,hn⟩))))⟩
 ·simp [aL.count,h1]
 ·simp [aL.count,h2]
 ·simp [aL.count,h3]
 ·simp [aL.count,h4]
 ·simp [aL.count,h1,h2,h3,h4]
end Go.Proofs.YtegepanmkjemjaaGreat
namespace Go.Proofs.YtegepanmkjemjaaGreat
open Go.Proofs.Tryz
open Go.Eng Go.RowKit
def encP (x:Int×Int):Array Value:=#[.agg #[.int .i64 x.1,.int .i64 x.2]]
def cA:Nat→Int→Int→List (Int×Int)
 | 0,_,_=>[]
 |f+1,at_,left=>if left≤0 then [] else (at_,if 8 - at_ % 8<left then 8 - at_ % 8 else left)::
   cA f (at_+(if 8 - at_ % 8<left then 8 - at_ % 8 else left)) (left - (if 8 - at_ % 8<left then 8 - at_ % 8 else left))
def aL.pieces (v:aL):List (Int×Int):=cA v.count.toNat v.At v.count
theorem vS {w w':World} (h:Go.Eng.New w w'):w.grownBy w' none:=⟨h.os,h.tape,h.output,h.size,λk hk _=>h.block k hk id⟩
theorem zl {m:Nat} {P:Program} {l:Nat} {args:Array Value} {W:World} {R:Ending→World→Prop} (h:YieldAt Fence.wide m P l args W R) (k:Nat):YieldAt Fence.wide k P l args W R:=by
 obtain ⟨fn,tmps,assign,body,h1,h2⟩:=h
 exact ⟨fn,tmps,assign,body,h1,h2.1,λc cs _=>h2.2 c cs (room_wide _)⟩
theorem zm (n l Bn n₀:Nat) (v:aL) (J Jx:List (Int×Int)→World→Prop) (ha0:0≤v.At) (ha1:v.At≤1000000) (hc0:1≤v.count) (hc1:v.count≤1000000) (W:World)
  (hJ:AbidesFrom W.heap.size J) (hY:∀ pre x W,J pre W→pre.length<v.pieces.length→YieldAt Fence.wide (n - 1) prog l (encP x) W λe W'=>
   (e=.returned (.bool true)∧J (pre++[x]) W'∧Below n₀ W W')∨(e=.returned (.bool false)∧Jx (pre++[x]) W'))
  (hBn:∀ u,Below (Bn+1) W u→aG u ⟨Bn,0,none⟩ 0 v.cells) (hb:Bn+1≤W.heap.size) (h0:J [] W) :
  CallsIn Fence.wide n prog 191 #[.func (.yield l) #[] #[],.pointer (some ⟨Bn,0,none⟩)] W λe W'=>(∃ v,e=.returned v)∧
   ((∃ ys,ys=v.pieces∧J ys W')∨(∃ pre,pre <+: v.pieces∧Jx pre W')):=by
 refine callsIn_wide.2 (Calls.mono (R:=λe w'=>∃ x,e=.returned x∧((∃ ys,ys=v.pieces∧J ys w')∨(∃ pre,pre <+: v.pieces∧Jx pre w'))) ?_ λe w' ⟨x,hx,hr⟩=>⟨⟨x,hx⟩,hr⟩)
 refine does Tryz.func191 (args:=[.func (.yield l) #[] #[],.pointer (some ⟨Bn,0,none⟩)]) (R:=λ_ w'=>(∃ ys,ys=v.pieces∧J ys w')∨(∃ pre,pre <+: v.pieces∧Jx pre w')) ?_
 rw [rY]
 intro w1 hw1
 have hn1:Go.Eng.New W w1:=by rw [hw1];exact aV _
 clear hw1
 have hbl:∀ u,Go.Eng.New w1 u→Below (Bn+1) W u:=λu hu=>(hn1.new hu).below (by omega) λ_ _ h=>h
 refine ⟨λu=>Go.Eng.New w1 u,Keep.refl _ _,v.At,λu hu=>?_,?_⟩
 ·have:=hBn u (hbl u hu)
  exact this.2.2.1
 refine nQ (v:=v) (λu hu=>hBn u (hbl u hu)) ?_
 refine aE (uX _ v) ?_
 rintro r w2 ⟨rfl,hn2⟩
 refine ⟨_,rfl,hn2,?_⟩
 have hJ2:J [] w2:=hJ _ _ _ none h0 (vS (hn1.new hn2)) (λ_ h=>by cases h)
 refine aQ mix (λm env u=>∃ (f:Nat) (at_ left:Int) (jj:List Value) (pre:List (Int×Int)),m=f∧left≤f∧0≤at_∧0≤left∧at_+left≤2000000∧env=fT (.func (.yield l) #[] #[]) at_ left jj∧v.pieces=pre++cA f at_ left∧J pre u) v.count.toNat
  ⟨v.count.toNat,v.At,v.count,_,[],rfl,by omega,ha0,by omega,by omega,rfl,rfl,hJ2⟩ ?_
 rintro f env u ⟨_,at_,left,jj,pre,rfl,hlf,hat,hle,hsum,rfl,hpre,hJu⟩
 rw [l6]
 refine aJ (λhp=>?_) (λhp=>?_)
 ·obtain ⟨f',rfl⟩:∃ f',f=f'+1:=⟨f - 1,by omega⟩
  have hmod:Int.tmod at_ 8=at_ % 8:=Int.tmod_eq_emod_of_nonneg hat
  rw [hmod,w64 (x:=8 - at_ % 8) (by omega) (by omega)]
  generalize hk:(if 8 - at_ % 8<left then 8 - at_ % 8 else left)=k
  have hk1:1≤k∧k≤left∧k≤8:=by rw [←hk];split<;>omega
  have hcons:cA (f'+1) at_ left=(at_,k)::cA f' (at_+k) (left - k):=by
   rw [cA,if_neg (by omega),hk]
  rw [hcons] at hpre
  have hy:=zl (hY pre (at_,k) u hJu (by rw [hpre];simp)) 0
  refine Exists.imp (λfn=>Exists.imp λtmps=>Exists.imp λassign=>Exists.imp λbody=>And.imp id λh=>RoundIn.mono h ?_) hy
  rintro e w3 (⟨rfl,hJ3,_⟩ | ⟨rfl,hJx3⟩)
  ·refine ⟨_,rfl,cU rfl ?_⟩
   rw [w64 (by omega) (by omega),w64 (by omega) (by omega)]
   refine ⟨f',by omega,f',at_+k,left - k,_,pre++[(at_,k)],rfl,by omega,by omega,by omega,by omega,rfl,by rw [hpre];simp,hJ3⟩
  ·exact ⟨_,rfl,jt rfl (.inr ⟨_,⟨cA f' (at_+k) (left - k),by rw [hpre];simp⟩,hJx3⟩)⟩
 ·refine .inl ⟨pre,?_,hJu⟩
  have:left=0:=by omega
  subst this
  rw [hpre]
  cases f<;>simp [cA]
end Go.Proofs.YtegepanmkjemjaaGreat
namespace Go.Proofs.YtegepanmkjemjaaGreat
open Go.Eng Go.RowKit
theorem kx:∀ (f:Nat) (at_ left:Int),0≤at_→∀ p ∈ cA f at_ left,at_≤p.1∧1≤p.2∧p.2≤8∧p.1+p.2≤at_+left
 | 0,_,_,_,p,hp=>by simp [cA] at hp
 |f+1,at_,left,h0,p,hp=>by
  unfold cA at hp
  split at hp
  ·simp at hp
  ·rename_i hl
   rcases List.mem_cons.1 hp with rfl | hp
   ·simp only
    split<;>omega
   ·have:=kx f _ _ (by split<;>omega) p hp
    split at this<;>omega
theorem uY (f:Nat) (at_ left:Int) (h:1≤left) (hf:1≤f):cA f at_ left≠[]:=by
 cases f with
 |zero=>omega
 |succ f=>unfold cA;rw [if_neg (by omega)];simp
theorem jO:∀ (f:Nat) (at_ left:Int),(cA f at_ left).length≤f
 | 0,_,_=>by simp [cA]
 |f+1,at_,left=>by
  unfold cA
  split
  ·simp
  ·simp only [List.length_cons]
   have:=jO f (at_+(if 8 - at_ % 8<left then 8 - at_ % 8 else left)) (left - (if 8 - at_ % 8<left then 8 - at_ % 8 else left))
   omega
def tX (ps:List (Int×Int)):List (List Value):=ps.map λp=>[.int .i64 p.1,.int .i64 p.2]
theorem As (ps:List (Int×Int)):∀ r ∈ tX ps,r.length=2:=by
 intro r hr
 simp only [tX,List.mem_map] at hr
 obtain ⟨v,_,rfl⟩:=hr
 rfl
theorem Au {ps:List (Int×Int)} {i:Nat} {p:Int×Int} (h:ps[i]?=some p):(tX ps)[i]?=some [.int .i64 p.1,.int .i64 p.2]:=by simp [tX,h]
abbrev TPc:TypeId:=216
end Go.Proofs.YtegepanmkjemjaaGreat
namespace Go.Proofs.YtegepanmkjemjaaGreat
open Go.Proofs.Tryz
open Go.Eng Go.RowKit
theorem Ei {P:Program} (hm:P.follows .mixedOrders=true) {a b:Code} {env:List Value} {w:World} {Q:Exit→Act→World→Prop} {N:List Value→World→Prop} (h:W P a env (seqQ N (λ_ _ _=>False)) w) (hN:∀ env w,N env w→b.wp P Q (act env) w):(Code.seq a b).wp P Q (act env) w:=by
 refine wp_seq (wp_mono (nJ hm a env _ w h) λe a' w' hq0=>?_)
 obtain ⟨he,env',ha,hq⟩:=kK hq0
 subst ha
 clear hq0
 cases e with
 |normal=>exact hN env' w' hq
 |panic c=>exact absurd rfl (he.1 c)
 |outgrown=>exact absurd rfl he.2
 | _=>exact hq.elim
theorem Cq (w:World) (v:aL):Does 155 [v.val] w λr w'=>r=.func (.func 191) #[] #[.pointer (some ⟨w.heap.size,0,none⟩)]∧Blk w' w.heap.size v.cells TV∧Go.Eng.New w w'∧w'.heap.size=w.heap.size+1:=by
 refine does Tryz.func155 ?_
 refine Eq.mpr (tW v.Kind v.Node v.At v.N v.Old v.New v.Words v.Wl v.Wc v.Key v.Boot w _) ?_
 rintro b1 w1 hb1 hw1
 obtain ⟨hz,hn⟩:=aN hb1 hw1
 refine ⟨by rw [hb1],hb1▸hz,hn,by rw [hw1];simp⟩
theorem P_r0 (v:aL) (w:World) (N:List Value→World→Prop):W prog (sub (aD f116) [0]) [v.val,undef,undef,undef,undef,undef,undef,undef,undef,undef,undef,undef,undef] (seqQ N (λ_ _ _=>False)) w =
  (∀ b1 w1,b1=w.heap.size→w1=w.alloc (.cells v.cells.toArray 166)→N [v.val,.pointer (some ⟨b1,0,none⟩),.slice none 0 0,undef,undef,undef,undef,undef,undef,undef,undef,undef,undef] w1):=by kernel_rfl
theorem P_r1 (v x:Value) (b:Nat) (w:World) (N:List Value→World→Prop):W prog (sub (aD f116) [1,0]) [v,.pointer (some ⟨b,0,none⟩),x,undef,undef,undef,undef,undef,undef,undef,undef,undef,undef] (seqQ N (λ_ _ _=>False)) w =
  (∀ b1 w1,b1=w.heap.size→w1=w.alloc (.cells #[.slice none 0 0] 212)→N [v,.pointer (some ⟨b,0,none⟩),x,.pointer (some ⟨b1,0,none⟩),undef,undef,undef,undef,undef,undef,undef,undef,undef] w1):=by kernel_rfl
def xH (o:Oper):Bool:=match o.op with | .defer _=>false | _=>true
def plain:Code→Bool
 | .region _ ops false=>ops.toList.all xH
 | _=>false
theorem zn {P:Program} {o:Oper} {a:Act} {next next':Act→World→Prop} {Q:Exit→Act→World→Prop} (r n:Nat) (hn:∀ a w,next a w→next' a w):∀ {x:Result Next},o.uponIn Fence.wide 0 P a next Q x→o.uponIn (Fence.wide.inRound r) n P a next' Q x
 | .ok (.value v) w',h=>hn _ _ h
 | .ok .skip w',h=>hn _ _ h
 | .ok (.defer d) w',h=>hn _ _ h
 | .ok (.enter f args) w',h=>by
  refine ⟨λhc=>by simp [Fence.wide] at hc,trivial,λcs _=>?_⟩
  obtain ⟨e,w2,fr,hr,hs,hx⟩:=h.2.2 cs (room_wide _)
  refine ⟨e,w2,fr,?_,hs,hx⟩
  cases e with
  |returned v=>exact hn _ _ hr
  |panicked c=>exact hr
  |outgrown=>exact hr
 | .ok (.row row args) w',h=>by
  refine ⟨λhc=>by simp [Fence.wide] at hc,λc cs _=>?_⟩
  obtain ⟨v,w2,hr,hs⟩:=h.2 c cs (room_wide _)
  exact ⟨v,w2,hn _ _ hr,hs⟩
 | .ok (.round l f tmps assign body) w',h=>by
  refine ⟨λhc=>by simp [Fence.wide] at hc,trivial,λc cs _=>?_⟩
  obtain ⟨e,w2,hr,hs⟩:=h.2.2 c cs (room_wide _)
  refine ⟨e,w2,?_,hs⟩
  cases e with
  |returned v=>exact hn _ _ hr
  |panicked c=>exact hr
  |outgrown=>exact hr
 | .halt (.panic v) w',h=>h
 | .halt (.stuck s) w',h=>by cases h
theorem ur {P:Program} {ops:Array Oper} {Q:Exit→Act→World→Prop} (r n:Nat):∀ (l:List Oper) (a:Act) (w:World),(∀ o ∈ l,xH o=true)→wpListIn Fence.wide 0 P ops Q l a w→wpListIn (Fence.wide.inRound r) n P ops Q l a w
 | [],_,_,_,h=>h
 |o::l,a,w,hd,h=>by
  have ih:=λa w=>ur (P:=P) (ops:=ops) (Q:=Q) r n l a w λo ho=>hd o (List.mem_cons_of_mem _ ho)
  unfold wpListIn at h ⊢
  split at h
  ·rename_i hw
   rw [if_pos hw]
   refine ⟨λ_ _=>trivial,?_⟩
   have h2:=h.2
   rw [show Fence.wide.round=none from rfl,Oper.semAt_none] at h2
   rw [show (Fence.wide.inRound r).round=some r from rfl,Oper.semAt_some _ _ _ (λc hc=>by have:=hd o List.mem_cons_self;simp [xH,hc] at this)]
   exact zn r n ih h2
  ·rename_i hw
   rw [if_neg hw]
   exact ⟨λ_ _=>trivial,ih _ _ h.2⟩
theorem Av {P:Program} {c:Code} (hp:plain c=true) {env:List Value} {Q:Exit→List Value→World→Prop} {w:World} (r n:Nat) (h:W P c env Q w):c.wpIn (Fence.wide.inRound r) n P (xC Q) (act env) w:=by
 cases c with
 |region id ops d=>
  cases d with
  |true=>simp [plain] at hp
  |false=>
   unfold W at h
   refine wpIn_region_list (ur r n _ _ _ (λo ho=>?_) (nI (all:=ops.toList) ops.toList env w (Q .normal) (λenv w hk=>dL hk ⟨λ_=>by simp,by simp⟩) h))
   simp only [plain,List.all_eq_true] at hp
   exact hp o ho
 | _=>simp [plain] at hp
theorem P_r2 (v x:Value) (b b2:Nat) (w:World) (N:List Value→World→Prop):W prog (sub (aD f116) [1,1,0,0]) [v,.pointer (some ⟨b,0,none⟩),x,.pointer (some ⟨b2,0,none⟩),undef,undef,undef,undef,undef,undef,undef,undef,undef] (seqQ N (λ_ _ _=>False)) w =
  (∃ (Kind:Int) (Node:Int) (At:Int) (N_:Int) (Old:Int) (New:Int) (Words:Option Addr) (Words_len:Nat) (Words_cap:Nat) (Key:Int) (Boot:Int),aG w ⟨b,0,none⟩ 0 [(.int .i64 Kind),(.int .i64 Node),(.int .i64 At),(.int .i64 N_),(.int .u64 Old),(.int .u64 New),(.slice Words Words_len Words_cap),(.int .u64 Key),(.int .i64 Boot)]∧
   Calls prog 155 #[(.agg #[(.int .i64 Kind),(.int .i64 Node),(.int .i64 At),(.int .i64 N_),(.int .u64 Old),(.int .u64 New),(.slice Words Words_len Words_cap),(.int .u64 Key),(.int .i64 Boot)])] w λe w3=>∃ r,e=.returned r∧
    N [v,.pointer (some ⟨b,0,none⟩),x,.pointer (some ⟨b2,0,none⟩),undef,(.agg #[(.int .i64 Kind),(.int .i64 Node),(.int .i64 At),(.int .i64 N_),(.int .u64 Old),(.int .u64 New),(.slice Words Words_len Words_cap),(.int .u64 Key),(.int .i64 Boot)]),r,undef,undef,undef,undef,undef,undef] w3):=by kernel_rfl
theorem GN (v x y z r:Value) (b2:Nat) (p:Int×Int) (w:World) (N:List Value→World→Prop):W prog (sub (aD f116) [1,1,0,1,0,0]) [v,y,x,.pointer (some ⟨b2,0,none⟩),undef,z,r,.agg #[.int .i64 p.1,.int .i64 p.2],undef,undef,undef,undef,undef] (seqQ N (λ_ _ _=>False)) w =
  (∀ b1 w1,b1=w.heap.size→w1=w.alloc (.cells #[.int .i64 0,.int .i64 0] TPc)→wrAt w1 ⟨b1,0,none⟩ 0 [.int .i64 p.1,.int .i64 p.2]∧∀ w2,w2=puts w1 ⟨b1,0,none⟩ 0 [.int .i64 p.1,.int .i64 p.2]→
   N [v,y,x,.pointer (some ⟨b2,0,none⟩),.pointer (some ⟨b1,0,none⟩),z,r,.agg #[.int .i64 p.1,.int .i64 p.2],undef,undef,undef,undef,undef] w2):=by kernel_rfl
theorem GO (v x y z r t:Value) (b2 b4:Nat) (w:World) (N:List Value→World→Prop):W prog (sub (aD f116) [1,1,0,1,0,1,0]) [v,y,x,.pointer (some ⟨b2,0,none⟩),.pointer (some ⟨b4,0,none⟩),z,r,t,undef,undef,undef,undef,undef] (seqQ N (λ_ _ _=>False)) w =
  (∃ (a:Option Addr) (n c:Nat),w.cell? ⟨b2,0,none⟩=some (.slice a n c)∧∃ (k1 k2:Int),aG w ⟨b4,0,none⟩ 0 [.int .i64 k1,.int .i64 k2]∧∀ b1 w1,b1=w.heap.size→w1=w.alloc (.cells #[.int .i64 k1,.int .i64 k2] TPc)→
   ∃ (ap:Option Addr) (ap_len ap_cap:Nat),∃ w2,(Builtin.append_ #[212,212] 212 #[(.slice a n c),(.slice (some ⟨b1,0,none⟩) 1 1)]).run prog w1=.ok (.slice ap ap_len ap_cap) w2∧
    (∃ u,w2.cell? ⟨b2,0,none⟩=some u)∧w2.frozen? ⟨b2,0,none⟩=false∧∀ w3,w3=w2.setCell ⟨b2,0,none⟩ (.slice ap ap_len ap_cap)→
    N [v,y,x,.pointer (some ⟨b2,0,none⟩),.pointer (some ⟨b4,0,none⟩),z,r,t,.slice a n c,.agg #[.int .i64 k1,.int .i64 k2],.slice (some ⟨b1,0,none⟩) 1 1,.slice ap ap_len ap_cap,undef] w3):=by kernel_rfl
end Go.Proofs.YtegepanmkjemjaaGreat
