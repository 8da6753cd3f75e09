import Derived.Test.YtegepanmkjemjaaGreatt15
import Derived.Test.YtegepanmkjemjaaGreatt19
import Derived.Test.YtegepanmkjemjaaGreatProg
import Derived.Test.YtegepanmkjemjaaGreatt03
set_option linter.unusedVariables false
namespace Go.Proofs.YtegepanmkjemjaaGreat
open Go.Eng
theorem FD {x n:Int} (hn:1≤n):0≤(if n<1 then 0 else x % n)∧(if n<1 then 0 else x % n)<n:=by
 rw [if_neg (by omega)]
 exact ⟨Int.emod_nonneg x (by omega),Int.emod_lt_of_pos x (by omega)⟩
theorem Cu (w:World) {x:Int} (hx:I64 x):Does 32 [.int .i64 x] w λv w'=>v=.int .i64 (98+x % 7)∧w'=w:=by
 refine does Tryz.func32 ?_
 rw [ru]
 refine aG (nT w x 7 hx (by omega)) ?_
 rintro v w1 ⟨rfl,rfl⟩
 have:=FD (x:=x) (n:=7) (by omega)
 rw [if_neg (by omega)] at this
 refine ⟨_,rfl,?_,rfl⟩
 rw [if_neg (by omega),w64 (by omega) (by omega)]
structure IG (v:Vw):Prop where
 num:0≤v.number∧v.number<16
 boot:∀ m ∈ v.mem,1≤m.Boot
 ne:v.mem≠[]
 few:v.mem.length≤5
abbrev G9 (A:Nat):Nat→Prop:=λk=>k<A
theorem IH {w:World} {n:Int} {a:Option Addr} {c A:Nat} {L:List aH} (ho:Owns w TMb 3 a L.length c (kr L).flatten) (hl:L.length≤1000000) (hf:∀ k,isB a k→A≤k):gU (G9 A) w ⟨n,a,L.length,c⟩ ⟨n,L⟩:=
 ⟨rfl,rfl,ho.le,ho.rd,tM ho.rd λk hk h=>Nat.lt_irrefl _ (Nat.lt_of_lt_of_le h (hf k hk)),hl⟩
theorem gU.mono {M M':Nat→Prop} {w:World} {r:aQ} {v:Vw} (h:gU M w r v) (hm:∀ k,k<w.heap.size→M' k→M k):gU M' w r v:=by
 refine ⟨h.num,h.len,h.cap,h.rd,?_,h.small⟩
 rcases h.off with e | e
 ·exact .inl e
 ·rcases h.rd with e2 | ⟨b,o,e2,hc⟩
  ·exact .inl e2
  ·by_cases he:(kr v.mem).flatten=[]
   ·exact .inl he
   ·rw [e2] at e ⊢
    refine .inr λhM=>e (hm _ ?_ hM)
    cases hl:(kr v.mem).flatten with
    |nil=>exact absurd hl he
    |cons x xs=>exact yW (hc 0 x (by rw [hl];rfl))
def stM (n:Nat):List aH:=(List.range n).map λ(i:Nat)=>⟨(i:Int),1,true⟩
theorem Cv (n:Nat):(stM n).length=n:=by simp [stM]
theorem DZ (n:Nat):stM (n+1)=stM n++[⟨(n:Int),1,true⟩]:=by simp [stM,List.range_succ]
theorem D0 {n:Nat} {m:aH} (h:m ∈ stM n):1≤m.Boot:=by
 simp only [stM,List.mem_map] at h
 obtain ⟨i,_,rfl⟩:=h
 exact Int.le_refl _
theorem Bc (w:World) {n:Int} (h1:1≤n) (h5:n≤5):Does 50 [.int .i64 n] w λx w'=>∃ (a:Option Addr) (c:Nat) (L:List aH),x=.tuple #[aQ.val ⟨0,a,L.length,c⟩,.int .i64 0]∧Owns w' TMb 3 a L.length c (kr L).flatten∧New w w'∧L=stM n.toNat∧(∀ k,isB a k→w.heap.size≤k):=by
 refine does Tryz.func50 ?_
 rw [pZ]
 rintro b1 w1 hb1 hw1
 obtain ⟨hz1,hn1⟩:=aO hb1 hw1
 have hz1:Blk w1 b1 (aQ.cells ⟨0,none,0,0⟩) TVw:=hz1
 clear hw1
 refine aI (λhp=>absurd hp (by omega)) (λ_=>aI (λhp=>absurd hp (by omega)) (λ_=>?_))
 refine ii (vs:=aQ.cells ⟨0,none,0,0⟩) rfl (aQ.single _) λb2 w3 hb2 hz3 hn3=>?_
 have hz13:=New.blk hn3 hz1
 have hn03:=hn1.new hn3
 have hs1:=hn1.size
 have hs1':=hz1.lt
 refine aR mix (λm env u=>∃ (i:Nat) (a:Option Addr) (c:Nat) (L:List aH) (jj:List Value),m=n.toNat - i∧i≤n.toNat∧env=eE n ⟨b1,0,none⟩ ⟨b2,0,none⟩ i jj∧New w u∧Blk u b1 (aQ.cells ⟨0,none,0,0⟩) TVw∧Blk u b2 (aQ.cells ⟨0,a,L.length,c⟩) TVw∧Owns u TMb 3 a L.length c (kr L).flatten∧(∀ k,isB a k→b2<k)∧L=stM i) n.toNat
  ⟨0,none,0,[],_,by omega,by omega,rfl,hn03,hz13,hz3,Owns.nil _ _ _,(λk hk=>by obtain ⟨o,ho⟩:=hk;cases ho),rfl⟩ ?_
 rintro m env u ⟨i,a,c,L,jj,rfl,hi,rfl,hnu,hu1,hu2,hown,hfr,hLs⟩
 have hLi:L.length=i:=by rw [hLs,Cv]
 rw [kV]
 refine aI (λhq=>?_) (λhq=>?_)
 ·refine ⟨_,_,_,hu2.cell (i:=1) rfl,?_⟩
  refine FC hown rfl (m:=⟨i,1,true⟩) (by omega) ?_
  intro b3 ap cap u3 hb3 ho3 hk3 hap
  have hu13:=hk3.blk hu1 λe=>by have:=hfr b1 e;omega
  have hu23:=hk3.blk hu2 λe=>by have:=hfr b2 e;omega
  have hus:=hu2.lt
  have hfr3:∀ k,isB ap k→b2<k:=λk hk=>by
   rcases hap k hk with h1 | h1
   ·exact hfr k h1
   ·omega
  refine mb (b:=b2) hu23 (o:=0+1) (by simp [aQ.cells]) λu4 hu24 hk4=>?_
  rw [w64 (by omega) (by omega)]
  refine ⟨n.toNat - (i+1),by omega,i+1,ap,cap,L++[⟨i,1,true⟩],_,rfl,by omega,rfl,?_,hk4.blk hu13 (by omega),?_,?_,hfr3,by rw [hLs,DZ]⟩
  ·have h1:New w u3:=ma hnu hk3 λk hk=>by have:=hfr k hk;omega
   exact h1.trans hk4 λk hlt e=>by omega
  ·rw [List.length_append];exact hu24
  ·rw [List.length_append];exact Owns.keep hk4 ho3 λk hk e=>by have:=hfr3 k hk;omega
 ·have hin:i=n.toNat:=by omega
  rw [mG]
  refine aQ.mk_ex ⟨0,a,L.length,c⟩ ⟨aK hu2 rfl,?_⟩
  refine ⟨cR hu1 (by simp [aQ.cells]) (aQ.single _),λu2 hu=>?_⟩
  have hk:Keep (λk=>k=b1) u u2:=by rw [hu];exact dS _ _ _ _ _
  have hz:Blk u2 b1 (aQ.cells ⟨0,a,L.length,c⟩) TVw:=by rw [hu];exact hu1.puts
  refine aQ.mk_ex ⟨0,a,L.length,c⟩ ⟨aK hz rfl,rfl,a,c,L,rfl,?_,?_,by rw [hLs,hin],?_⟩
  ·exact Owns.keep hk hown λk hk' e=>by have:=hfr k hk';omega
  ·exact hnu.trans hk λk hlt e=>by omega
  ·intro k hk';have:=hfr k hk';omega
theorem Cw (w:World) {n:Int} (h1:1≤n) (h5:n≤5):Does 33 [.int .i64 n] w λx w'=>∃ r v,x=aQ.val r∧gU (G9 w.heap.size) w' r v∧New w w'∧IG v∧v=⟨0,stM n.toNat⟩:=by
 refine does Tryz.func33 ?_
 rw [rx]
 rintro b1 w1 hb1 hw1
 obtain ⟨hz1,hn1⟩:=aO hb1 hw1
 have hz1:Blk w1 b1 (aQ.cells ⟨0,none,0,0⟩) TVw:=hz1
 clear hw1
 refine aG (Bc w1 h1 h5) ?_
 rintro v w2 ⟨a,c,L,rfl,hown,hn2,hLs,hfr⟩
 have hLn:(L.length:Int)=n:=by rw [hLs,Cv];omega
 have hbt:∀ m ∈ L,1≤m.Boot:=λm hm=>D0 (hLs▸hm)
 refine aQ.mk_ex ⟨0,a,L.length,c⟩ ⟨_,rfl,?_⟩
 refine ii (vs:=aQ.cells ⟨0,a,L.length,c⟩) rfl (aQ.single _) λb2 w3 hb2 hz3 hn3=>?_
 refine aQ.mk_ex ⟨0,a,L.length,c⟩ ⟨aK hz3 rfl,?_⟩
 have hz13:=New.blk (hn2.new hn3) hz1
 have hown3:=Owns.new hn3 hown
 refine ⟨cR hz13 (by simp [aQ.cells]) (aQ.single _),λu2 hu=>?_⟩
 have hk:Keep (λk=>k=b1) w3 u2:=by rw [hu];exact dS _ _ _ _ _
 have hz:Blk u2 b1 (aQ.cells ⟨0,a,L.length,c⟩) TVw:=by rw [hu];exact hz13.puts
 have hne:∀ k,isB a k→k≠b1:=λk hk' e=>by
  subst e
  obtain ⟨o,ho⟩:=hk'
  rcases hown3.2 with ⟨h,_⟩ | ⟨g,cur,he,hg,_⟩
  ·rw [h] at ho;cases ho
  ·rw [he] at ho
   simp at ho
   exact absurd (hg.uniq (ho.1▸hz13)).2 (by decide)
 refine aQ.mk_ex ⟨0,a,L.length,c⟩ ⟨aK hz rfl,rfl,_,⟨0,L⟩,rfl,IH (Owns.keep hk hown3 hne) (by omega) (λk hk'=>by have:=hfr k hk';have:=hn1.size;omega),?_,⟨⟨by simp,by simp⟩,hbt,λe=>?_,?_⟩,by rw [hLs]⟩
 ·exact (hn1.new (hn2.new hn3)).trans hk λk hlt e=>by omega
 ·have e:L=[]:=e
  rw [e] at hLn
  simp at hLn
  omega
 ·show L.length≤5
  omega
end Go.Proofs.YtegepanmkjemjaaGreat
namespace Go.Proofs.YtegepanmkjemjaaGreat
open Go.Proofs.Tryz
open Go.Eng
theorem rd_i {u:World} {a:Option Addr} {l:List Int} (h:Rd u a (is l)) {i:Nat} {x:Int} (hx:l[i]?=some x) {z:Int} (hz:z=i) {n:Nat} (hn:n=l.length) {K:Addr→Prop}
  (hk:∀ b o,(∀ y,New u y→y.cell? ⟨b,o,none⟩=some (.int .i64 x))→K ⟨b,o,none⟩):idxS a n z 1 K:=by
 subst hz hn
 have hlt:=aU hx
 have hxx:(is l)[i]?=some (.int .i64 x):=by simp [is,hx]
 rcases h with he | ⟨b,o,rfl,hc⟩
 ·rw [he] at hxx;cases hxx
 ·refine bB (by omega) (by omega) ?_
  have:=hk b (o+i) λy hy=>(Rd.new hy (.inr ⟨b,o,rfl,hc⟩)).cell hxx
  simpa using this
def iU (line lines:Int):Bool:=decide (98≤lines∧lines≤256∧96≤line∧line<lines)
theorem D1 (w:World) (line lines:Int):Does 144 [.int .i64 line,.int .i64 lines] w λv w'=>v=.bool (iU line lines)∧w'=w:=by
 refine does Tryz.func144 ?_
 rw [ue]
 have h1:Does 178 [.int .i64 lines] w λv w'=>v=.bool (decide (98≤lines∧lines≤256))∧w'=w:=by
  refine does Tryz.func178 ?_
  rw [tq]
  refine aI (λh=>⟨?_,rfl⟩) (λh=>⟨?_,rfl⟩)
  ·have h:98≤lines:=h;congr 1;simp [h]
  ·have h:¬ 98≤lines:=h;congr 1;simp [h]
 refine aG h1 ?_
 rintro v w1 ⟨rfl,rfl⟩
 unfold iU
 refine ⟨_,rfl,aI (λh=>aI (λh2=>⟨?_,rfl⟩) (λh2=>⟨?_,rfl⟩)) (λh=>⟨?_,rfl⟩)⟩
 ·have h2:96≤line:=h2;congr 1;simp [h.1,h.2,h2]
 ·have h2:¬ 96≤line:=h2;congr 1;simp [h2]
 ·congr 1;simp;intro a b;exact absurd ⟨a,b⟩ h
theorem Ha {ρ:Type} {cells:ρ→List Value} {ex:(ρ→Prop)→Prop} (mk:∀ (K:ρ→Prop) r,K r→ex K) (hs:∀ r,∀ u ∈ cells r,single u=true) {u:World} {b1 b2:Nat} {r:ρ} {zs:List Value} {T:TypeId} (h1:Blk u b1 zs T) (hl:zs.length=(cells r).length) (h2:Blk u b2 (cells r) T) {K:ρ→World→Prop} (hk:∀ w',Keep (λk=>k=b1) u w'→K r w') :
  ex λr=>aF u ⟨b2,0,none⟩ 0 (cells r)∧wrAt u ⟨b1,0,none⟩ 0 (cells r)∧∀ w4,w4=puts u ⟨b1,0,none⟩ 0 (cells r)→ex λres=>aF w4 ⟨b1,0,none⟩ 0 (cells res)∧w4=w4∧K res w4:=by
 refine mk _ r ⟨aK h2 (by simp),cR h1 (by rw [hl];omega) (hs r),λw4 hw=>?_⟩
 have hk4:Keep (λk=>k=b1) u w4:=by rw [hw];exact dS _ _ _ _ _
 have hz:Blk w4 b1 (cells r) T:=by
  rw [hw]
  have:=h1.puts (o:=0) (i:=0) (vs:=cells r)
  rw [Nat.add_zero,g7 hl.symm] at this
  exact this
 exact mk _ r ⟨aK hz (by simp),rfl,hk w4 hk4⟩
theorem FE {u:World} {a:Option Addr} {n cap:Nat} {L:List Int} (ho:Owns u 3 1 a n cap (is L)) {x:Int} (hb1:n≤1000000) {K:Nat→Option Addr→Nat→Nat→World→Prop}
  (hk:∀ b ap cap' w3,b=u.heap.size→Owns w3 3 1 ap (n+1) cap' (is (L++[x]))→Keep (isB a) u w3→(∀ k,isB ap k→isB a k∨u.heap.size≤k)→K b ap (n+1) cap' w3) :
  ∀ b1 w2,b1=u.heap.size→w2=u.alloc (.cells #[.int .i64 x] 3)→∃ (ap:Option Addr) (ap_len ap_cap:Nat),∃ w3,(Builtin.append_ #[22,22] 22 #[(.slice a n cap),(.slice (some ⟨b1,0,none⟩) 1 1)]).run prog w2=.ok (.slice ap ap_len ap_cap) w3∧K b1 ap ap_len ap_cap w3:=by
 obtain ⟨inf,hi,hz,hsz,hby⟩:=jQ (T:=3) (z:=.int .i64 0) (n:=1) (m:=8) (by kernel_rfl)
 rw [←hsz] at ho
 refine push_k (vs:=[.int .i64 x]) Tryz.underlying22 hi hz (by rw [hsz];rfl) (by omega) ho (by rw [hsz];rfl) (by intro v hv;simp at hv;subst hv;rfl) (by omega) (by omega) ?_
 intro b ap cap' w3 h1 h2
 have e:is L++[Value.int .i64 x]=is (L++[x]):=by simp [is]
 rw [hsz,e] at h2
 exact hk b ap cap' w3 h1 h2
def bs (l:List Bool):List Value:=l.map .bool
end Go.Proofs.YtegepanmkjemjaaGreat
namespace Go.Proofs.YtegepanmkjemjaaGreat
open Go.Proofs.Tryz
open Go.Eng IntKind
variable (w:World) (R:Value→World→Prop)
def eF (s1:Addr) (a:Option Addr) (b c:Nat) (d f:Int) (j:LV):LV:=[jg j 0,(.pointer (some s1)),jg j 1,jg j 2,jg j 3,jg j 4,jg j 5,jg j 6,jg j 7,jg j 8,jg j 9,jg j 10,jg j 11,jg j 12,jg j 13,jg j 14,jg j 15,jg j 16,jg j 17,jg j 18,jg j 19,jg j 20,jg j 21,jg j 22,jg j 23,jg j 24,jg j 25,jg j 26,jg j 27,jg j 28,jg j 29,jg j 30,jg j 31,jg j 32,jg j 33,jg j 34,jg j 35,jg j 36,jg j 37,jg j 38,jg j 39,jg j 40,jg j 41,jg j 42,jg j 43,jg j 44,jg j 45,jg j 46,(.slice a b c),(.int .i64 d),(.int .i64 f),jg j 47,jg j 48,jg j 49,jg j 50,jg j 51,jg j 52,jg j 53,jg j 54,jg j 55,jg j 56,jg j 57,jg j 58,jg j 59,jg j 60,jg j 61,jg j 62,jg j 63,jg j 64,jg j 65,jg j 66,jg j 67,jg j 68,jg j 69,jg j 70,jg j 71,jg j 72,jg j 73,jg j 74,jg j 75,jg j 76,jg j 77,jg j 78,jg j 79,jg j 80,jg j 81,jg j 82,jg j 83,jg j 84,jg j 85,jg j 86,jg j 87,jg j 88,jg j 89,jg j 90,jg j 91]
def nV (a:Addr) (j:LV):LV:=jq j 0 1 (.pointer (some a)::jq j 1 94 [])
def fW (s1:Addr) (a:Option Addr) (b c:Nat) (d f:Int) (j:LV):LV:=jq j 0 1 (.pointer (some s1)::jq j 1 60 (.slice a b c::.int .i64 d::.int .i64 f::jq j 61 31 []))
def nW  (j:LV):LV:=jq j 0 96 []
theorem vk (p0:aM):fnW prog f106 [p0.val] R w=(∀ b1 w1,b1=w.heap.size→w1=w.alloc (.cells p0.cells.toArray 34)→∃ a,w1.cell? ⟨b1,0,none⟩=some (.int .i64 a)∧(bif (decide ((a:Int)<0)) then (R (.int .i64 1) w1) else (∃ b,w1.cell? ⟨b1,0,none⟩=some (.int .i64 b)∧(bif (decide ((b:Int)≥6)) then (R (.int .i64 1) w1) else (aQ.ex λab=>aF w1 ⟨b1,3,none⟩ 0 ab.cells∧Calls prog 141 #[ab.val,.int .i64 5] w1 λe w2=>∃ (c:Int),e=.returned (.int .i64 c)∧(bif ((c:Int) != 0) then (R (.int .i64 c) w2) else (∃ d,w2.cell? ⟨b1,2,none⟩=some (.int .i64 d)∧(bif (decide ((d:Int)<98)) then (R (.int .i64 18) w2) else (∃ f,w2.cell? ⟨b1,2,none⟩=some (.int .i64 f)∧(bif (decide ((f:Int)>256)) then (R (.int .i64 18) w2) else (∃ g h i,w2.cell? ⟨b1,6,none⟩=some (.slice g h i)∧(bif (decide (((h:Nat):Int)>0)) then (∀ w3,w3=w2.drew→∃ Sx:World→Prop,Sx w3∧aM.ex λr=>(∀ u,Sx u→aF u ⟨b1,0,none⟩ 0 r.cells)∧∃ k,(∀ u,Sx u→u.cell? ⟨b1,2,none⟩=some (.int .i64 k))∧Calls prog 143 #[r.val] w3 λe w4=>aT.ex λac=>e=.returned ac.val∧Sx w4∧Calls prog 142 #[ac.val,.int .i64 k] w4 λe w5=>∃ (l:Int),e=.returned (.int .i64 l)∧Sx w5∧(bif ((l:Int) != 0) then (R (.int .i64 l) w5) else (∃ m n o,w5.cell? ⟨b1,5,none⟩=some (.slice m n o)∧(bif (decide (((n:Nat):Int)>24)) then (R (.int .i64 18) w5) else (∃ p q s,w5.cell? ⟨b1,5,none⟩=some (.slice p q s)∧bX prog (.loop (sub (aB f106) [1,1,1,1,1,1,0,1,0,0])) (eF ⟨b1,0,none⟩ p q s (q:Nat) 0 (p0.val::ji 0::ji c::ji l::uq 4 (jp ⟨b1,0,none⟩::ji a::jb (decide ((a:Int)<0))::jb false::jp ⟨b1,0,none⟩::ji b::jb (decide ((b:Int)≥6))::jb (decide ((b:Int)≥6))::jp ⟨b1,3,none⟩::ab.val::ji c::ji c::jb ((c:Int) != 0)::undef::jp ⟨b1,2,none⟩::ji d::jb (decide ((d:Int)<98))::jb false::jp ⟨b1,2,none⟩::ji f::jb (decide ((f:Int)>256))::jb (decide ((f:Int)>256))::jp ⟨b1,6,none⟩::js g h i::jn h::jb (decide (((h:Nat):Int)>0))::r.val::ac.val::jp ⟨b1,2,none⟩::ji k::ji l::ji l::jb ((l:Int) != 0)::undef::jp ⟨b1,5,none⟩::js m n o::jn n::jb (decide (((n:Nat):Int)>24))::jp ⟨b1,5,none⟩::uq 45 []))) (aJ 0 (nx f106 [1,1,1,1,1,1,1] R)) w5))))) else (∃ t v x,w2.cell? ⟨b1,5,none⟩=some (.slice t v x)∧(bif (decide (((v:Nat):Int)>24)) then (R (.int .i64 18) w2) else (∃ y z aa,w2.cell? ⟨b1,5,none⟩=some (.slice y z aa)∧bX prog (.loop (sub (aB f106) [1,1,1,1,1,1,0,1,0,0])) (eF ⟨b1,0,none⟩ y z aa (z:Nat) 0 (p0.val::ji 0::ji c::uq 5 (jp ⟨b1,0,none⟩::ji a::jb (decide ((a:Int)<0))::jb false::jp ⟨b1,0,none⟩::ji b::jb (decide ((b:Int)≥6))::jb (decide ((b:Int)≥6))::jp ⟨b1,3,none⟩::ab.val::ji c::ji c::jb ((c:Int) != 0)::undef::jp ⟨b1,2,none⟩::ji d::jb (decide ((d:Int)<98))::jb false::jp ⟨b1,2,none⟩::ji f::jb (decide ((f:Int)>256))::jb (decide ((f:Int)>256))::jp ⟨b1,6,none⟩::js g h i::jn h::jb (decide (((h:Nat):Int)>0))::uq 8 (jp ⟨b1,5,none⟩::js t v x::jn v::jb (decide (((v:Nat):Int)>24))::jp ⟨b1,5,none⟩::uq 45 [])))) (aJ 0 (nx f106 [1,1,1,1,1,1,1] R)) w2))))))))))))))):=by kernel_rfl
theorem oI (s1:Addr) (a:Option Addr) (b c:Nat) (d f:Int) (j:LV) (N1:LV→World→Prop):W prog (sub (aB f106) [1,1,1,1,1,1,0,1,0,0]) (eF s1 a b c d f j) (seqQ N1 (aJ 0 (nx f106 [1,1,1,1,1,1,1] R))) w=((bif (decide ((f:Int)<d)) then (idxS a b f 2 λad=>bD.ex λr=>aF w ad 0 r.cells∧∀ b1 w1,b1=w.heap.size→w1=w.alloc (.cells #[.int .i64 0,.int .u64 0] 71)→wrAt w1 ⟨b1,0,none⟩ 0 r.cells∧∀ w2,w2=puts w1 ⟨b1,0,none⟩ 0 r.cells→∃ g,w2.cell? ⟨b1,0,none⟩=some (.int .i64 g)∧∃ h,w2.cell? ⟨s1.block,s1.off+2,none⟩=some (.int .i64 h)∧Calls prog 144 #[.int .i64 g,.int .i64 h] w2 λe w3=>∃ i,e=.returned (.bool i)∧(bif (!i) then (R (.int .i64 2) w3) else (N1 (eF s1 a b c d (i64.wrap (f+1)) (jq j 0 5 (jp ⟨b1,0,none⟩::jq j 6 41 (jb (decide ((f:Int)<d))::jp ad::r.val::jp ⟨b1,0,none⟩::ji g::jf s1 2::ji h::jb i::jb (!i)::ji (i64.wrap (f+1))::jq j 57 35 [])))) w3))) else (W prog (sub (aB f106) [1,1,1,1,1,1,1]) (nV s1 (jq j 0 47 (js a b c::ji d::ji f::jb (decide ((f:Int)<d))::jq j 48 44 []))) (retQ prog f106 R) w))):=by kernel_rfl
theorem qA (a:Addr) (j:LV):W prog (sub (aB f106) [1,1,1,1,1,1,1]) (nV a j) (retQ prog f106 R) w=(∃ b c d,w.cell? ⟨a.block,a.off+5,none⟩=some (.slice b c d)∧bX prog (.loop (sub (aB f106) [1,1,1,1,1,1,1,0,1,0,0])) (fW a b c d (c:Nat) 0 (jq j 0 60 (jf a 5::jq j 64 31 []))) (aJ 2 (nx f106 [1,1,1,1,1,1,1,1] R)) w):=by kernel_rfl
theorem oJ (s1:Addr) (a:Option Addr) (b c:Nat) (d f:Int) (j:LV) (N2:LV→World→Prop):W prog (sub (aB f106) [1,1,1,1,1,1,1,0,1,0,0]) (fW s1 a b c d f j) (seqQ N2 (aJ 2 (nx f106 [1,1,1,1,1,1,1,1] R))) w=((bif (decide ((f:Int)<d)) then (idxS a b f 2 λad=>bD.ex λr=>aF w ad 0 r.cells∧∀ b1 w1,b1=w.heap.size→w1=w.alloc (.cells #[.int .i64 0,.int .u64 0] 71)→wrAt w1 ⟨b1,0,none⟩ 0 r.cells∧∀ w2,w2=puts w1 ⟨b1,0,none⟩ 0 r.cells→∀ w3,w3=w2.drew→∃ Sx:World→Prop,Sx w3∧(bif (decide ((f:Int)>0)) then (∃ g,(∀ u,Sx u→u.cell? ⟨b1,0,none⟩=some (.int .i64 g))∧∃ h i k,(∀ u,Sx u→u.cell? ⟨s1.block,s1.off+5,none⟩=some (.slice h i k))∧idxS h i (i64.wrap (f - 1)) 2 λx=>∃ l,(∀ u,Sx u→u.cell? x=some (.int .i64 l))∧(bif (decide ((g:Int)≤l)) then (R (.int .i64 1) w3) else (∃ m,(∀ u,Sx u→u.cell? ⟨b1,1,none⟩=some (.int .u64 m))∧Calls prog 145 #[.int .u64 m] w3 λe w4=>∃ (n:Bool),e=.returned (.bool n)∧Sx w4∧(bif (!n) then (R (.int .i64 1) w4) else (aM.ex λr1=>(∀ u,Sx u→aF u s1 0 r1.cells)∧∃ o,(∀ u,Sx u→u.cell? ⟨b1,0,none⟩=some (.int .i64 o))∧Calls prog 146 #[r1.val,.int .i64 o] w4 λe w5=>∃ (p:Bool),e=.returned (.bool p)∧Sx w5∧(bif p then (R (.int .i64 1) w5) else (N2 (fW s1 a b c d (i64.wrap (f+1)) (jq j 0 6 (ji f::jp ⟨b1,0,none⟩::jq j 8 53 [jb (decide ((f:Int)<d)),ji f,jp ad,r.val,ji f,jb (decide ((f:Int)>0)),jb true,jp ⟨b1,0,none⟩,ji g,jf s1 5,js h i k,ji f,ji (i64.wrap (f - 1)),jp x,jp x,ji l,jb (decide ((g:Int)≤l)),jb (decide ((g:Int)≤l)),jb false,jp ⟨b1,1,none⟩,ju m,jb n,jb (!n),jb (!n),jb false,r1.val,jp ⟨b1,0,none⟩,ji o,jb p,jb p,ji (i64.wrap (f+1))]))) w5))))))) else (∃ q,(∀ u,Sx u→u.cell? ⟨b1,1,none⟩=some (.int .u64 q))∧Calls prog 145 #[.int .u64 q] w3 λe w6=>∃ (s:Bool),e=.returned (.bool s)∧Sx w6∧(bif (!s) then (R (.int .i64 1) w6) else (aM.ex λr2=>(∀ u,Sx u→aF u s1 0 r2.cells)∧∃ t,(∀ u,Sx u→u.cell? ⟨b1,0,none⟩=some (.int .i64 t))∧Calls prog 146 #[r2.val,.int .i64 t] w6 λe w7=>∃ (v:Bool),e=.returned (.bool v)∧Sx w7∧(bif v then (R (.int .i64 1) w7) else (N2 (fW s1 a b c d (i64.wrap (f+1)) (jq j 0 6 (ji f::jp ⟨b1,0,none⟩::jq j 8 53 (jb (decide ((f:Int)<d))::ji f::jp ad::r.val::ji f::jb (decide ((f:Int)>0))::jb false::uq 10 [jb false,jb false,jp ⟨b1,1,none⟩,ju q,jb s,jb (!s),jb (!s),jb false,r2.val,jp ⟨b1,0,none⟩,ji t,jb v,jb v,ji (i64.wrap (f+1))])))) w7))))))) else (W prog (sub (aB f106) [1,1,1,1,1,1,1,1]) (nW  (jg j 0::jp s1::jq j 1 60 (js a b c::ji d::ji f::jb (decide ((f:Int)<d))::jq j 62 30 []))) (retQ prog f106 R) w))):=by kernel_rfl
theorem qB  (j:LV):W prog (sub (aB f106) [1,1,1,1,1,1,1,1]) (nW  j) (retQ prog f106 R) w=(R (.int .i64 0) w):=by kernel_rfl
def dX (s2:Addr) (a:Option Addr) (b c:Nat) (d f:Int) (j:LV):LV:=jq j 0 2 (.pointer (some s2)::jq j 2 39 (.slice a b c::.int .i64 d::.int .i64 f::jq j 41 41 []))
def nX (a:Addr) (j:LV):LV:=jq j 0 2 (.pointer (some a)::jq j 2 83 [])
def hH (a:Option Addr) (b c:Nat) (d f:Int) (j:LV):LV:=jq j 0 65 (.slice a b c::.int .i64 d::.int .i64 f::jq j 65 18 [])
def nY  (j:LV):LV:=jq j 0 86 []
theorem vl (p0:aT) (p1:Int):fnW prog f142 [p0.val,.int .i64 p1] R w=(∀ b1 w1,b1=w.heap.size→w1=w.alloc (.cells p0.cells.toArray 252)→∀ b2 w2,b2=w1.heap.size→w2=w1.alloc (.cells #[.int .i64 p1] 3)→∃ x,w2.cell? ⟨b2,0,none⟩=some (.int .i64 x)∧Calls prog 174 #[.int .i64 x] w2 λe w3=>∃ (a:Bool),e=.returned (.bool a)∧(bif (!a) then (R (.int .i64 18) w3) else (∃ b,w3.cell? ⟨b1,0,none⟩=some (.int .i64 b)∧(bif (decide ((b:Int)<1)) then (R (.int .i64 1) w3) else (∃ c,w3.cell? ⟨b1,0,none⟩=some (.int .i64 c)∧(bif (decide ((c:Int)≥1073741824)) then (R (.int .i64 1) w3) else (∃ d f g,w3.cell? ⟨b1,1,none⟩=some (.slice d f g)∧(bif (decide (((f:Nat):Int)<1)) then (R (.int .i64 1) w3) else (∃ h i k,w3.cell? ⟨b1,1,none⟩=some (.slice h i k)∧(bif (decide (((i:Nat):Int)>12)) then (R (.int .i64 1) w3) else (∃ l m n,w3.cell? ⟨b1,1,none⟩=some (.slice l m n)∧Calls prog 175 #[.slice l m n,.func (.func 176) #[] #[.pointer (some ⟨b2,0,none⟩)]] w3 λe w4=>∃ (o:Bool),e=.returned (.bool o)∧(bif o then (R (.int .i64 2) w4) else (∃ p q r,w4.cell? ⟨b1,1,none⟩=some (.slice p q r)∧bX prog (.loop (sub (aB f142) [1,1,0,1,0,0])) (dX ⟨b1,0,none⟩ p q r (q:Nat) 0 (p0.val::ji p1::jp ⟨b2,0,none⟩::ji 0::uq 6 (jb (!a)::ji x::jb a::jb (!a)::jb (decide (((i:Nat):Int)>12))::jp ⟨b1,0,none⟩::ji b::jb (decide ((b:Int)<1))::jb false::jp ⟨b1,0,none⟩::ji c::jb (decide ((c:Int)≥1073741824))::jb (decide ((c:Int)≥1073741824))::jb false::jp ⟨b1,1,none⟩::js d f g::jn f::jb (decide (((f:Nat):Int)<1))::jb (decide (((f:Nat):Int)<1))::jb false::jp ⟨b1,1,none⟩::js h i k::jn i::jb (decide (((i:Nat):Int)>12))::jb (decide (((i:Nat):Int)>12))::jb o::jp ⟨b1,1,none⟩::js l m n::.func (.func 176) #[] #[.pointer (some ⟨b2,0,none⟩)]::jb o::jp ⟨b1,1,none⟩::uq 41 []))) (aJ 1 (nx f142 [1,1,1] R)) w4))))))))))))):=by kernel_rfl
theorem oK (s2:Addr) (a:Option Addr) (b c:Nat) (d f:Int) (j:LV) (N1:LV→World→Prop):W prog (sub (aB f142) [1,1,0,1,0,0]) (dX s2 a b c d f j) (seqQ N1 (aJ 1 (nx f142 [1,1,1] R))) w=((bif (decide ((f:Int)<d)) then (idxS a b f 9 λad=>aD.ex λr=>aF w ad 0 r.cells∧∀ b1 w1,b1=w.heap.size→w1=w.alloc (.cells #[.int .i64 0,.int .u64 0,.int .u64 0,.int .u64 0,.int .u64 0,.int .u64 0,.int .u64 0,.int .u64 0,.int .u64 0] 55)→wrAt w1 ⟨b1,0,none⟩ 0 r.cells∧∀ w2,w2=puts w1 ⟨b1,0,none⟩ 0 r.cells→∀ w3,w3=w2.drew→∃ Sx:World→Prop,Sx w3∧(bif (decide ((f:Int)>0)) then (∃ g,(∀ u,Sx u→u.cell? ⟨b1,0,none⟩=some (.int .i64 g))∧∃ h i k,(∀ u,Sx u→u.cell? ⟨s2.block,s2.off+1,none⟩=some (.slice h i k))∧idxS h i (i64.wrap (f - 1)) 9 λm=>∃ l,(∀ u,Sx u→u.cell? m=some (.int .i64 l))∧(bif (decide ((g:Int)≤l)) then (R (.int .i64 1) w3) else (N1 (dX s2 a b c d (i64.wrap (f+1)) (jq j 0 4 (ji f::jp ⟨b1,0,none⟩::jq j 6 35 (jb (decide ((f:Int)<d))::ji f::jp ad::r.val::ji f::jb (decide ((f:Int)>0))::jb true::jp ⟨b1,0,none⟩::ji g::jf s2 1::js h i k::ji f::ji (i64.wrap (f - 1))::jp m::jp m::ji l::jb (decide ((g:Int)≤l))::jb (decide ((g:Int)≤l))::ji (i64.wrap (f+1))::jq j 60 22 [])))) w3))) else (N1 (dX s2 a b c d (i64.wrap (f+1)) (jq j 0 4 (ji f::jp ⟨b1,0,none⟩::jq j 6 35 (jb (decide ((f:Int)<d))::ji f::jp ad::r.val::ji f::jb (decide ((f:Int)>0))::jb false::uq 10 (jb false::ji (i64.wrap (f+1))::jq j 60 22 []))))) w3))) else (W prog (sub (aB f142) [1,1,1]) (nX s2 (jq j 0 41 (js a b c::ji d::ji f::jb (decide ((f:Int)<d))::jq j 42 40 []))) (retQ prog f142 R) w))):=by kernel_rfl
theorem qC (a:Addr) (j:LV):W prog (sub (aB f142) [1,1,1]) (nX a j) (retQ prog f142 R) w=(∃ b c d,w.cell? ⟨a.block,a.off+1,none⟩=some (.slice b c d)∧bX prog (.loop (sub (aB f142) [1,1,1,0,1,0,0])) (hH b c d (c:Nat) 0 (jg j 0::jg j 1::jp a::jq j 2 61 (jf a 1::jq j 67 18 []))) (aJ 3 (nx f142 [1,1,1,1] R)) w):=by kernel_rfl
theorem oL (a:Option Addr) (b c:Nat) (d f:Int) (j:LV) (N2:LV→World→Prop):W prog (sub (aB f142) [1,1,1,0,1,0,0]) (hH a b c d f j) (seqQ N2 (aJ 3 (nx f142 [1,1,1,1] R))) w=((bif (decide ((f:Int)<d)) then (idxS a b f 9 λad=>aD.ex λr=>aF w ad 0 r.cells∧∀ b1 w1,b1=w.heap.size→w1=w.alloc (.cells #[.int .i64 0,.int .u64 0,.int .u64 0,.int .u64 0,.int .u64 0,.int .u64 0,.int .u64 0,.int .u64 0,.int .u64 0] 55)→wrAt w1 ⟨b1,0,none⟩ 0 r.cells∧∀ w2,w2=puts w1 ⟨b1,0,none⟩ 0 r.cells→∃ g,w2.cell? ⟨b1,1,none⟩=some (.int .u64 g)∧Calls prog 177 #[.int .u64 g] w2 λe w3=>∃ h i,e=.returned (.tuple #[.int .u64 h,.int .i64 i])∧(bif ((i:Int) != 0) then (R (.int .i64 1) w3) else (∃ k,w3.cell? ⟨b1,1,none⟩=some (.int .u64 k)∧Calls prog 145 #[.int .u64 k] w3 λe w4=>∃ l,e=.returned (.bool l)∧(bif (!l) then (R (.int .i64 1) w4) else (N2 (hH a b c d (i64.wrap (f+1)) (jq j 0 8 (jp ⟨b1,0,none⟩::ju h::ji i::jq j 11 54 [jb (decide ((f:Int)<d)),jp ad,r.val,.tuple #[.int .u64 h,.int .i64 i],jp ⟨b1,1,none⟩,ju g,.tuple #[.int .u64 h,.int .i64 i],ju h,ji i,ji i,jb ((i:Int) != 0),jb false,jp ⟨b1,1,none⟩,ju k,jb l,jb (!l),jb (!l),ji (i64.wrap (f+1))]))) w4))))) else (W prog (sub (aB f142) [1,1,1,1]) (nY  (jq j 0 65 (js a b c::ji d::ji f::jb (decide ((f:Int)<d))::jq j 66 17 []))) (retQ prog f142 R) w))):=by kernel_rfl
theorem qD  (j:LV):W prog (sub (aB f142) [1,1,1,1]) (nY  j) (retQ prog f142 R) w=(R (.int .i64 0) w):=by kernel_rfl
theorem qE (p0:aM):fnW prog f143 [p0.val] R w=(∀ b1 w1,b1=w.heap.size→w1=w.alloc (.cells p0.cells.toArray 34)→∀ b2 w2,b2=w1.heap.size→w2=w1.alloc (.cells #[.int .i64 0,.slice none 0 0] 252)→∃ a,w2.cell? ⟨b1,1,none⟩=some (.int .i64 a)∧∃ b c d,w2.cell? ⟨b1,6,none⟩=some (.slice b c d)∧wrAt w2 ⟨b2,0,none⟩ 0 [.int .i64 a,.slice b c d]∧∀ w3,w3=puts w2 ⟨b2,0,none⟩ 0 [.int .i64 a,.slice b c d]→aT.ex λf=>aF w3 ⟨b2,0,none⟩ 0 f.cells∧w3=w3∧R f.val w3):=by kernel_rfl
def eL (s1:Int) (s8:Option Addr) (a b:Nat) (s9 c:Int) (j:LV):LV:=jq j 0 1 (.int .i64 s1::jq j 1 6 (.slice s8 a b::.int .i64 s9::.int .i64 c::jq j 7 8 []))
def jA  (j:LV):LV:=jq j 0 19 []
theorem qF (p0:aM) (p1:Int):fnW prog f146 [p0.val,.int .i64 p1] R w=(∀ b1 w1,b1=w.heap.size→w1=w.alloc (.cells p0.cells.toArray 34)→∃ a b c,w1.cell? ⟨b1,6,none⟩=some (.slice a b c)∧bX prog (.loop (sub (aB f146) [1,0,1,0,0])) (eL p1 a b c (b:Nat) 0 (p0.val::jp ⟨b1,0,none⟩::undef::jb false::uq 2 (jp ⟨b1,6,none⟩::uq 8 []))) (aJ 0 (nx f146 [1,1] R)) w1):=by kernel_rfl
theorem lv (s1:Int) (s8:Option Addr) (a b:Nat) (s9 c:Int) (j:LV) (N1:LV→World→Prop):W prog (sub (aB f146) [1,0,1,0,0]) (eL s1 s8 a b s9 c j) (seqQ N1 (aJ 0 (nx f146 [1,1] R))) w=((bif (decide ((c:Int)<s9)) then (idxS s8 a c 9 λad=>aD.ex λr=>aF w ad 0 r.cells∧∀ b1 w1,b1=w.heap.size→w1=w.alloc (.cells #[.int .i64 0,.int .u64 0,.int .u64 0,.int .u64 0,.int .u64 0,.int .u64 0,.int .u64 0,.int .u64 0,.int .u64 0] 55)→wrAt w1 ⟨b1,0,none⟩ 0 r.cells∧∀ w2,w2=puts w1 ⟨b1,0,none⟩ 0 r.cells→∃ d,w2.cell? ⟨b1,0,none⟩=some (.int .i64 d)∧(bif ((d:Int) == s1) then (R (.bool true) w2) else (N1 (eL s1 s8 a b s9 (i64.wrap (c+1)) (jq j 0 5 [jp ⟨b1,0,none⟩,jg j 6,jb (decide ((c:Int)<s9)),jp ad,r.val,jp ⟨b1,0,none⟩,ji d,ji s1,jb ((d:Int) == s1),ji (i64.wrap (c+1))])) w2))) else (W prog (sub (aB f146) [1,1]) (jA  (jg j 0::ji s1::jq j 1 6 (js s8 a b::ji s9::ji c::jb (decide ((c:Int)<s9))::jq j 8 7 []))) (retQ prog f146 R) w))):=by kernel_rfl
theorem m9  (j:LV):W prog (sub (aB f146) [1,1]) (jA  j) (retQ prog f146 R) w=(R (.bool false) w):=by kernel_rfl
theorem tD (p0:Int):fnW prog f174 [.int .i64 p0] R w=((bif (decide ((p0:Int)≥98)) then (R (.bool (decide ((p0:Int)≤256))) w) else (R (.bool false) w))):=by kernel_rfl
theorem gI (p0:Option Addr) (a b:Nat) (p1:Value):fnW prog f175 [.slice p0 a b,p1] R w=(Calls prog 196 #[.slice p0 a b,p1] w λe w1=>∃ c,e=.returned (.int .i64 c)∧R (.bool (decide ((c:Int)≥0))) w1):=by kernel_rfl
theorem tE (p0:aD) (c0:Nat):fnW prog f176 [p0.val,.pointer (some ⟨c0,0,none⟩)] R w=(∀ b1 w1,b1=w.heap.size→w1=w.alloc (.cells p0.cells.toArray 55)→∃ a,w1.cell? ⟨b1,0,none⟩=some (.int .i64 a)∧(bif (decide ((a:Int)<96)) then (R (.bool true) w1) else (∃ b,w1.cell? ⟨b1,0,none⟩=some (.int .i64 b)∧∃ x,w1.cell? ⟨c0,0,none⟩=some (.int .i64 x)∧R (.bool (decide ((b:Int)≥x))) w1))):=by kernel_rfl
def bO (s0:Option Addr) (a b:Nat) (s1:Value) (s7 s8:Int) (j:LV):LV:=.slice s0 a b::s1::jq j 0 5 (.int .i64 s7::.int .i64 s8::jq j 5 10 [])
def dY  (j:LV):LV:=jq j 0 19 []
theorem hO (p0:Option Addr) (a b:Nat) (p1:Value):fnW prog f196 [.slice p0 a b,p1] R w=(bX prog (.loop (sub (aB f196) [1,0,1,0,0])) (bO p0 a b p1 (a:Nat) 0 (uq 2 (ji 0::undef::js p0 a b::uq 10 []))) (aJ 0 (nx f196 [1,1] R)) w):=by kernel_rfl
theorem fQ (s0:Option Addr) (a b:Nat) (s1:Value) (s7 s8:Int) (j:LV) (N1:LV→World→Prop):W prog (sub (aB f196) [1,0,1,0,0]) (bO s0 a b s1 s7 s8 j) (seqQ N1 (aJ 0 (nx f196 [1,1] R))) w=((bif (decide ((s8:Int)<s7)) then (idxS s0 a s8 9 λad=>aD.ex λr=>aF w ad 0 r.cells∧ql prog s1 #[r.val] w λe w1=>∃ c,e=.returned (.bool c)∧(bif c then (R (.int .i64 s8) w1) else (N1 (bO s0 a b s1 s7 (i64.wrap (s8+1)) [jg j 0,jg j 1,jg j 2,ji s8,jg j 4,jb (decide ((s8:Int)<s7)),ji s8,s1,js s0 a b,ji s8,jp ad,r.val,jb c,jg j 13,ji (i64.wrap (s8+1))]) w1))) else (W prog (sub (aB f196) [1,1]) (dY  (js s0 a b::s1::jq j 0 5 (ji s7::ji s8::jb (decide ((s8:Int)<s7))::jq j 6 9 []))) (retQ prog f196 R) w))):=by kernel_rfl
theorem gC  (j:LV):W prog (sub (aB f196) [1,1]) (dY  j) (retQ prog f196 R) w=(R (.int .i64 (-1)) w):=by kernel_rfl
end Go.Proofs.YtegepanmkjemjaaGreat
