import Derived.Test.YtgpmeaicjonenaaGreatProg
import Derived.Test.YtgpmeaicjonenaaGreata03
import Derived.Test.YtgpmeaicjonenaaGreata18
import Derived.Test.YtgpmeaicjonenaaGreata19
set_option linter.unusedVariables false
namespace Go.Proofs.YtgpmeaicjonenaaGreat
open Go.Proofs.Tryz
open Go.Eng IntKind
variable (w:World) (R:Value→World→Prop)
theorem kG (p0:Nat) (p1:aE) (p2:aJ):fnW prog f234 [(.pointer (some ⟨p0,0,none⟩)),p1.val,p2.val] R w=(∀ b1 w1,b1=w.heap.size→w1=w.alloc (.cells p1.cells.toArray 128)→∀ b2 w2,b2=w1.heap.size→w2=w1.alloc (.cells p2.cells.toArray 173)→∀ b3 w3,b3=w2.heap.size→w3=w2.alloc (.cells #[(.int .i64 0),(.int .i64 0),(.int .i64 0),(.int .i64 0),(.int .u64 0),(.int .u64 0),(.slice none 0 0),(.int .u64 0),(.int .i64 0)] 173)→∀ w4,w4=w3.drew→∃ Sx:World→Prop,Sx w4∧aM.ex λa=>(∀ u,Sx u→aC u ⟨p0,3,none⟩ 0 a.cells)∧aE.ex λr=>(∀ u,Sx u→aC u ⟨b1,0,none⟩ 0 r.cells)∧aJ.ex λr1=>(∀ u,Sx u→aC u ⟨b2,0,none⟩ 0 r1.cells)∧Calls prog 162 #[a.val,r.val,(.bool true),r1.val] w4 λe w5=>aJ.ex λb=>e=.returned b.val∧wrAt w5 ⟨b3,0,none⟩ 0 b.cells∧∀ w6,w6=puts w5 ⟨b3,0,none⟩ 0 b.cells→aJ.ex λc=>aC w6 ⟨b3,0,none⟩ 0 c.cells∧w6=w6∧R c.val w6):=by kernel_rfl
theorem lW (p0:Nat) (p1:Option Addr) (a b:Nat) (p2:Int):fnW prog f235 [.pointer (some ⟨p0,0,none⟩),.slice p1 a b,.int .i64 p2] R w=(∀ b1 w1,b1=w.heap.size→w1=w.alloc (.cells #[.int .i64 0,.int .i64 0] 188)→∃ t,w1.cell? ⟨p0,7,none⟩=some (.pointer t)∧Calls prog 126 #[.pointer t,.slice p1 a b] w1 λe w2=>∃ c d f g,e=.returned (.tuple #[.slice c d f,.bool g])∧(bif (!g) then (wrAt w2 ⟨b1,0,none⟩ 0 [.int .i64 0,.int .i64 0]∧∀ w3,w3=puts w2 ⟨b1,0,none⟩ 0 [.int .i64 0,.int .i64 0]→aA.ex λi=>aC w3 ⟨b1,0,none⟩ 0 i.cells∧w3=w3∧R (.tuple #[.slice none 0 0,i.val,.bool false]) w3) else (Calls prog 163 #[.slice c d f] w2 λe w4=>∃ h,e=.returned (.int .i64 h)∧(bif ((h:Int) != 0) then (wrAt w4 ⟨b1,0,none⟩ 0 [.int .i64 h,.int .i64 p2]∧∀ w5,w5=puts w4 ⟨b1,0,none⟩ 0 [.int .i64 h,.int .i64 p2]→aA.ex λk=>aC w5 ⟨b1,0,none⟩ 0 k.cells∧w5=w5∧R (.tuple #[.slice none 0 0,k.val,.bool false]) w5) else (wrAt w4 ⟨b1,0,none⟩ 0 [.int .i64 0,.int .i64 0]∧∀ w6,w6=puts w4 ⟨b1,0,none⟩ 0 [.int .i64 0,.int .i64 0]→aA.ex λl=>aC w6 ⟨b1,0,none⟩ 0 l.cells∧w6=w6∧R (.tuple #[.slice c d f,l.val,.bool true]) w6))))):=by kernel_rfl
def cY (s0 s3:Addr) (s5:Option Addr) (a b:Nat) (c:Option Addr) (d f:Nat) (g h:Int) (j:LV):LV:=.pointer (some s0)::jq j 0 2 (.pointer (some s3)::jq j 2 1 (.slice s5 a b::jq j 3 8 (.slice c d f::.int .i64 g::.int .i64 h::jq j 11 21 [])))
def fS (s5:Option Addr) (a b:Nat) (j:LV):LV:=jq j 0 5 (.slice s5 a b::jq j 5 32 [])
theorem lu (p0:Nat) (p1:aE):fnW prog f239 [.pointer (some ⟨p0,0,none⟩),p1.val] R w=(∀ b1 w1,b1=w.heap.size→w1=w.alloc (.cells p1.cells.toArray 128)→∃ a b c,w1.cell? ⟨p0,6,none⟩=some (.slice a b c)∧cQ prog (.loop (sub (aD f239) [1,1,0,1,0,0])) (cY ⟨p0,0,none⟩ ⟨b1,0,none⟩ none 0 0 a b c (b:Nat) 0 (p1.val::undef::jz::uq 4 (jp ⟨p0,0,none⟩::jp ⟨p0,0,none⟩::jp ⟨p0,0,none⟩::jp ⟨p0,6,none⟩::uq 21 []))) (aK 0 (nx f239 [1,1,1] R)) w1):=by kernel_rfl
theorem ix (s0 s3:Addr) (s5:Option Addr) (a b:Nat) (c:Option Addr) (d f:Nat) (g h:Int) (j:LV) (N1:LV→World→Prop):W prog (sub (aD f239) [1,1,0,1,0,0]) (cY s0 s3 s5 a b c d f g h j) (seqQ N1 (aK 0 (nx f239 [1,1,1] R))) w=((bif (decide ((h:Int)<g)) then (idxS c d h 9 λad=>aG.ex λr=>aC w ad 0 r.cells∧∀ b1 w1,b1=w.heap.size→w1=w.alloc (.cells #[.int .i64 0,.int .u64 0,.int .u64 0,.int .u64 0,.int .u64 0,.int .u64 0,.int .u64 0,.int .u64 0,.int .u64 0] 73)→wrAt w1 ⟨b1,0,none⟩ 0 r.cells∧∀ w2,w2=puts w1 ⟨b1,0,none⟩ 0 r.cells→aG.ex λr1=>aC w2 ⟨b1,0,none⟩ 0 r1.cells∧Calls prog 274 #[r1.val] w2 λe w3=>∃ (i:Option Addr) (k l:Nat) (m:Int),e=.returned (.tuple #[.slice i k l,.int .i64 m])∧∀ w4,w4=w3.drew→∃ Sx:World→Prop,Sx w4∧aE.ex λr2=>(∀ u,Sx u→aC u s3 0 r2.cells)∧∃ n,(∀ u,Sx u→u.cell? ⟨b1,0,none⟩=some (.int .i64 n))∧Calls prog 116 #[.int .i64 n] w4 λe w5=>∃ (o:Int),e=.returned (.int .i64 o)∧Sx w5∧Calls prog 234 #[.pointer (some s0),r2.val,.agg #[.int .i64 2,.int .i64 0,.int .i64 o,.int .i64 0,.int .u64 0,.int .u64 0,.slice i k l,.int .u64 0,.int .i64 0]] w5 λe w6=>aJ.ex λs=>e=.returned s.val∧Sx w6∧∀ b2 w7,b2=w6.heap.size→w7=w6.alloc (.cells s.cells.toArray 173)→Sx w7∧∃ (ap:Option Addr) (p q:Nat),∃ w8,(Builtin.append_ #[140,140] 140 #[.slice s5 a b,.slice (some ⟨b2,0,none⟩) 1 1]).run prog w7=.ok (.slice ap p q) w8∧Sx w8∧N1 (cY s0 s3 ap p q c d f g (i64.wrap (h+1)) (jq j 0 4 (jp ⟨b1,0,none⟩::js i k l::ji m::jq j 7 4 [jb (decide ((h:Int)<g)),jp ad,r.val,.tuple #[.slice i k l,.int .i64 m],r1.val,.tuple #[.slice i k l,.int .i64 m],js i k l,ji m,js s5 a b,jp s0,r2.val,jp ⟨b1,0,none⟩,ji n,ji o,js i k l,.agg #[.int .i64 2,.int .i64 0,.int .i64 o,.int .i64 0,.int .u64 0,.int .u64 0,.slice i k l,.int .u64 0,.int .i64 0],s.val,js (some ⟨b2,0,none⟩) 1 1,js ap p q,ji (i64.wrap (h+1)),jg j 31]))) w8) else (W prog (sub (aD f239) [1,1,1]) (fS s5 a b (jp s0::jg j 0::jg j 1::jp s3::jq j 2 9 (js c d f::ji g::ji h::jb (decide ((h:Int)<g))::jq j 12 20 []))) (retQ prog f239 R) w))):=by kernel_rfl
theorem jT (s5:Option Addr) (a b:Nat) (j:LV):W prog (sub (aD f239) [1,1,1]) (fS s5 a b j) (retQ prog f239 R) w=(R (.slice s5 a b) w):=by kernel_rfl
theorem lv (p0:Nat) (p1:aE):fnW prog f240 [.pointer (some ⟨p0,0,none⟩),p1.val] R w=(∀ b1 w1,b1=w.heap.size→w1=w.alloc (.cells p1.cells.toArray 128)→∀ b2 w2,b2=w1.heap.size→w2=w1.alloc (.cells #[.int .i64 0,.int .i64 0,.int .i64 0,.int .i64 0,.int .u64 0,.int .u64 0,.slice none 0 0,.int .u64 0,.int .i64 0] 173)→∀ w3,w3=w2.drew→∃ Sx:World→Prop,Sx w3∧aE.ex λr=>(∀ u,Sx u→aC u ⟨b1,0,none⟩ 0 r.cells)∧∃ a,(∀ u,Sx u→u.cell? ⟨p0,0,none⟩=some (.int .i64 a))∧∃ b,(∀ u,Sx u→u.cell? ⟨p0,1,none⟩=some (.int .i64 b))∧(Calls prog 247 #[.int .i64 a] w3 λe w4=>∃ c,e=.returned (.int .i64 c)∧Sx w4∧∀ b3 w5,b3=w4.heap.size→w5=w4.alloc (.cells #[.int .u64 (u64.wrap b)] 30)→Sx w5∧Calls prog 234 #[.pointer (some ⟨p0,0,none⟩),r.val,.agg #[.int .i64 2,.int .i64 0,.int .i64 c,.int .i64 0,.int .u64 0,.int .u64 0,.slice (some ⟨b3,0,none⟩) 1 1,.int .u64 0,.int .i64 0]] w5 λe w6=>aJ.ex λf=>e=.returned f.val∧Sx w6∧wrAt w6 ⟨b2,0,none⟩ 0 f.cells∧∀ w7,w7=puts w6 ⟨b2,0,none⟩ 0 f.cells→aJ.ex λg=>aC w7 ⟨b2,0,none⟩ 0 g.cells∧w7=w7∧R g.val w7)∧(∀ b4 w8,b4=w3.heap.size→w8=w3.alloc (.cells #[.int .u64 (u64.wrap b)] 30)→Sx w8∧Calls prog 247 #[.int .i64 a] w8 λe w9=>∃ d,e=.returned (.int .i64 d)∧Sx w9∧Calls prog 234 #[.pointer (some ⟨p0,0,none⟩),r.val,.agg #[.int .i64 2,.int .i64 0,.int .i64 d,.int .i64 0,.int .u64 0,.int .u64 0,.slice (some ⟨b4,0,none⟩) 1 1,.int .u64 0,.int .i64 0]] w9 λe h=>aJ.ex λi=>e=.returned i.val∧Sx h∧wrAt h ⟨b2,0,none⟩ 0 i.cells∧∀ k,k=puts h ⟨b2,0,none⟩ 0 i.cells→aJ.ex λl=>aC k ⟨b2,0,none⟩ 0 l.cells∧k=k∧R l.val k)):=by kernel_rfl
def dM (s0 s3:Addr) (s5:Option Addr) (a b:Nat) (c:Option Addr) (d f:Nat) (g h:Int) (j:LV):LV:=.pointer (some s0)::jq j 0 2 (.pointer (some s3)::jq j 2 1 (.slice s5 a b::jq j 3 7 (.slice c d f::.int .i64 g::.int .i64 h::jq j 10 12 [])))
def gM (s5:Option Addr) (a b:Nat) (j:LV):LV:=jq j 0 5 (.slice s5 a b::jq j 5 22 [])
theorem mh (p0:Nat) (p1:aJ):fnW prog f282 [.pointer (some ⟨p0,0,none⟩),p1.val] R w=(∀ b1 w1,b1=w.heap.size→w1=w.alloc (.cells p1.cells.toArray 173)→∃ a b c,w1.cell? ⟨p0,4,none⟩=some (.slice a b c)∧cQ prog (.loop (sub (aD f282) [1,1,0,1,0,0])) (dM ⟨p0,0,none⟩ ⟨b1,0,none⟩ none 0 0 a b c (b:Nat) 0 (p1.val::undef::jz::uq 2 (jp ⟨p0,0,none⟩::jp ⟨p0,0,none⟩::jp ⟨p0,0,none⟩::jp ⟨p0,3,none⟩::jp ⟨p0,4,none⟩::uq 12 []))) (aK 0 (nx f282 [1,1,1] R)) w1):=by kernel_rfl
theorem jh (s0 s3:Addr) (s5:Option Addr) (a b:Nat) (c:Option Addr) (d f:Nat) (g h:Int) (j:LV) (N1:LV→World→Prop):W prog (sub (aD f282) [1,1,0,1,0,0]) (dM s0 s3 s5 a b c d f g h j) (seqQ N1 (aK 0 (nx f282 [1,1,1] R))) w=((bif (decide ((h:Int)<g)) then (idxS c d h 3 λad=>aE.ex λr=>aC w ad 0 r.cells∧∀ b1 w1,b1=w.heap.size→w1=w.alloc (.cells #[.int .i64 0,.int .i64 0,.bool false] 128)→wrAt w1 ⟨b1,0,none⟩ 0 r.cells∧∀ w2,w2=puts w1 ⟨b1,0,none⟩ 0 r.cells→aE.ex λr1=>aC w2 ⟨b1,0,none⟩ 0 r1.cells∧aJ.ex λr2=>aC w2 s3 0 r2.cells∧Calls prog 234 #[.pointer (some s0),r1.val,r2.val] w2 λe w3=>aJ.ex λl=>e=.returned l.val∧∀ b2 w4,b2=w3.heap.size→w4=w3.alloc (.cells l.cells.toArray 173)→∃ ap i k,∃ w5,(Builtin.append_ #[140,140] 140 #[.slice s5 a b,.slice (some ⟨b2,0,none⟩) 1 1]).run prog w4=.ok (.slice ap i k) w5∧N1 (dM s0 s3 ap i k c d f g (i64.wrap (h+1)) (jq j 0 4 (jp ⟨b1,0,none⟩::jq j 5 5 [jb (decide ((h:Int)<g)),jp ad,r.val,js s5 a b,jp s0,r1.val,r2.val,l.val,js (some ⟨b2,0,none⟩) 1 1,js ap i k,ji (i64.wrap (h+1)),jg j 21]))) w5) else (W prog (sub (aD f282) [1,1,1]) (gM s5 a b (jp s0::jg j 0::jg j 1::jp s3::jq j 2 8 (js c d f::ji g::ji h::jb (decide ((h:Int)<g))::jq j 11 11 []))) (retQ prog f282 R) w))):=by kernel_rfl
theorem kg (s5:Option Addr) (a b:Nat) (j:LV):W prog (sub (aD f282) [1,1,1]) (gM s5 a b j) (retQ prog f282 R) w=(R (.slice s5 a b) w):=by kernel_rfl
end Go.Proofs.YtgpmeaicjonenaaGreat
namespace Go.Proofs.YtgpmeaicjonenaaGreat
open Go.Proofs.Tryz
open Go.Eng
theorem noB {k:Nat}:¬ isB none k:=λh=>by obtain ⟨o,ho⟩:=h;cases ho
theorem B6 {α:Type} {cells:α→List Value} {sz:Nat} (h:∀ x,(cells x).length=sz) (l:List α):(l.map cells).flatten.length=l.length * sz:=by
 rw [ee (sz:=sz),List.length_map]
 intro r hr
 obtain ⟨x,_,rfl⟩:=List.mem_map.1 hr
 exact h x
theorem tB {α:Type} {cells:α→List Value} {sz:Nat} {S e:TypeId} {inf:TypeInfo} {z:Value} (hcs:∀ x,(cells x).length=sz) (hsg:∀ x,∀ v ∈ cells x,single v=true)
  (ht:prog.underlying S=some (.slice e)) (hi:prog.info? e=some inf) (hz:inf.zero=some z) (hzs:z.cells.size=inf.size) (his:inf.size=sz) (h0:0<sz) (hby:inf.bytes≤1000)
  {u:World} {a:Option Addr} {n cap:Nat} {l:List α} (ho:Owns u e sz a n cap (l.map cells).flatten) {s:Option Addr} {m c:Nat} {l2:List α} (hs:Rd u s (l2.map cells).flatten) (hm:m=l2.length) (hn:n+m≤1000000) {K:Option Addr→Nat→Nat→World→Prop}
  (hk:∀ ap cap' w3,Owns w3 e sz ap (n+m) cap' ((l++l2).map cells).flatten→Keep (isB a) u w3→(∀ k,isB ap k→isB a k∨u.heap.size≤k)→K ap (n+m) cap' w3) :
  ∃ (ap:Option Addr) (ap_len ap_cap:Nat),∃ w3,(Builtin.append_ #[S,S] S #[(.slice a n cap),(.slice s m c)]).run prog u=.ok (.slice ap ap_len ap_cap) w3∧K ap ap_len ap_cap w3:=by
 subst his
 have hbb:(n+m) * inf.bytes≤1000000 * 1000:=Nat.mul_le_mul hn hby
 have hsing:∀ x ∈ (l2.map cells).flatten,single x=true:=by
  intro x hx
  obtain ⟨r,hr,hx⟩:=List.mem_flatten.1 hx
  obtain ⟨y,_,rfl⟩:=List.mem_map.1 hr
  exact hsg y x hx
 obtain ⟨ap,cap',w7,hrun,hown,hkp,hap⟩:=Owns.append (P:=prog) (t:=S) (ty:=S) ht hi hz hzs h0 ho (s:=s) (m:=m) (c:=c) (news:=(l2.map cells).flatten) (by rw [B6 hcs,hm]) hs hsing (by omega) (by omega)
 have e1:(l.map cells).flatten++(l2.map cells).flatten=((l++l2).map cells).flatten:=by simp
 rw [e1] at hown
 refine ⟨ap,n+m,cap',w7,hrun,hk ap cap' w7 hown hkp λk hk=>?_⟩
 rcases hap with e | e
 ·exact .inl (e▸hk)
 ·obtain ⟨o,ho⟩:=hk
  rw [e] at ho
  simp at ho
  exact .inr (by omega)
def Al (x:Int):List Value:=[.int .u64 x]
theorem sj (l:List Int):(l.map Al).flatten=us l:=by
 induction l with
 |nil=>rfl
 |cons x l ih=>simp [Al,us] at ih ⊢;exact ih
theorem vN {u:World} {a:Option Addr} {n cap:Nat} {l:List Int} (ho:Owns u 30 1 a n cap (us l)) {s:Option Addr} {m c:Nat} {l2:List Int} (hs:Rd u s (us l2)) (hm:m=l2.length) (hn:n+m≤1000000) {K:Option Addr→Nat→Nat→World→Prop}
  (hk:∀ ap cap' w3,Owns w3 30 1 ap (n+m) cap' (us (l++l2))→Keep (isB a) u w3→(∀ k,isB ap k→isB a k∨u.heap.size≤k)→K ap (n+m) cap' w3) :
  ∃ (ap:Option Addr) (ap_len ap_cap:Nat),∃ w3,(Builtin.append_ #[106,106] 106 #[(.slice a n cap),(.slice s m c)]).run prog u=.ok (.slice ap ap_len ap_cap) w3∧K ap ap_len ap_cap w3:=by
 obtain ⟨inf,hi,hz,hsz,hby⟩:=iF (T:=30) (z:=.int .u64 0) (n:=1) (m:=8) (by kernel_rfl)
 refine tB (cells:=Al) (sz:=1) (λ_=>rfl) (λx v hv=>by simp [Al] at hv;subst hv;rfl) Tryz.underlying106 hi hz (by rw [hsz];rfl) hsz (by decide) (by rw [hby];decide) (l:=l) (by rw [sj];exact ho) (l2:=l2) (by rw [sj];exact hs) hm hn λap cap' w3 h1=>?_
 rw [sj] at h1
 exact hk ap cap' w3 h1
def eT (h c:Int):Int:=bor .u64 h (c+1)
def rf (h:Int):Int:=bshl .u64 (bshr .u64 h 8+1) 8
def wU (s:Int):Int:=bor .u64 (bshl .u64 s 2) 2
def key1 (n:Int):Int:=2 * n+1
theorem ur (x:Int):U64 (IntKind.u64.wrap x):=by
 unfold U64
 simp only [IntKind.wrap,IntKind.bits,IntKind.signed]
 simp
 omega
theorem DN (h c:Int):U64 (eT h c):=ur _
theorem DO (h:Int):U64 (rf h):=ur _
theorem DP (s:Int):U64 (wU s):=ur _
theorem EU (w:World) {h c:Int} (hu:unl h=true) (hc:0≤c∧c<6):Does 285 [.int .u64 h,.int .i64 c] w λv w'=>v=.tuple #[.int .u64 (eT h c),.int .i64 0]∧w'=w:=by
 refine does Tryz.func285 ?_
 rw [vi]
 refine aF (yI w c) ?_
 rintro v w1 ⟨rfl,rfl⟩
 refine ⟨_,rfl,dG (λhf=>absurd (of_decide_eq_false hf) (by omega)) (λ_=>?_)⟩
 refine aF (Ad w1 h) ?_
 rintro v w2 ⟨rfl,rfl⟩
 refine ⟨_,rfl,dG (λhf=>by rw [hu] at hf;cases hf) (λ_=>⟨?_,rfl⟩)⟩
 rw [w64 (x:=c+1) (by omega) (by omega),wu64 (x:=c+1) (by omega) (by omega)]
 rfl
theorem DQ (w:World) {h:Int} (hu:U64 h) (hn:lU h=true):Does 228 [.int .u64 h] w λv w'=>v=.tuple #[.int .u64 (rf h),.int .i64 0]∧w'=w:=by
 refine does Tryz.func228 ?_
 rw [qQ]
 refine aF (Ae w h) ?_
 rintro v w1 ⟨rfl,rfl⟩
 refine ⟨_,_,rfl,?_⟩
 refine aF (rZ w1 _ 1 281474976710654) ?_
 rintro v w2 ⟨rfl,rfl⟩
 have hb:=DD hu
 unfold lU at hn
 refine ⟨_,rfl,dG (λhf=>by rw [hn] at hf;cases hf) (λ_=>⟨?_,rfl⟩)⟩
 rw [rI (x:=bshr .u64 h 8+1) (by omega) (by omega)]
 rfl
theorem FK (w:World) {n:Int} (h0:0≤n) (h1:n<16):Does 111 [.int .i64 n,.bool true] w λv w'=>v=.tuple #[.int .u64 (key1 n),.int .i64 0]∧w'=w:=by
 refine does Tryz.func111 ?_
 rw [rO]
 refine aF (pO w n 0 15) ?_
 rintro v w1 ⟨rfl,rfl⟩
 refine ⟨_,rfl,er (by simp;omega) (gE rfl ⟨?_,rfl⟩)⟩
 rw [rI (x:=n) (by omega) (by omega),rI (x:=n * 2) (by omega) (by omega),rI (by omega) (by omega)]
 unfold key1
 rw [Int.mul_comm]
def qC (c:Int):Int:=48+120 * c
theorem vO (w:World) {c i:Int} (hc:0≤c∧c<6) (hi:0≤i∧i<1000):Does 283 [.int .i64 c,.int .i64 i] w λv w'=>v=.int .i64 (qC c+i)∧w'=w:=by
 refine does Tryz.func283 ?_
 rw [qr]
 refine aH (λh=>absurd h (by omega)) (λ_=>aH (λh=>absurd h (by omega)) (λ_=>⟨?_,rfl⟩))
 unfold qC
 rw [w64 (x:=c * 15) (by omega) (by omega),w64 (x:=6+c * 15) (by omega) (by omega),w64 (x:=(6+c * 15) * 8) (by omega) (by omega),w64 (x:=(6+c * 15) * 8+i) (by omega) (by omega)]
 congr 1
 omega
theorem DR (w:World) {c:Int} (hc:0≤c∧c<6):Does 231 [.int .i64 c] w λv w'=>v=.int .i64 (qC c+8)∧w'=w:=by
 refine does Tryz.func231 ?_
 rw [sV]
 refine aF (vO w hc (i:=8) (by omega)) ?_
 rintro v w1 ⟨rfl,rfl⟩
 exact ⟨_,rfl,rfl,rfl⟩
theorem DS (w:World) {c:Int} (hc:0≤c∧c<6):Does 237 [.int .i64 c] w λv w'=>v=.int .i64 (qC c)∧w'=w:=by
 refine does Tryz.func237 ?_
 rw [sW]
 refine aF (vO w hc (i:=0) (by omega)) ?_
 rintro v w1 ⟨rfl,rfl⟩
 exact ⟨_,rfl,by rw [Int.add_zero],rfl⟩
section
attribute [local irreducible] l9 nU sL
theorem Am (w:World) {i:Int} (hi:0≤i∧i<6):Does 247 [.int .i64 i] w λv w'=>v=.int .i64 (32+i)∧New w w':=by
 refine does Tryz.func247 ?_
 rw [rP]
 refine aF (uj _ _ _) ?_
 rintro v w1 ⟨c0,c1,rfl,hb0,hb1,hn⟩
 have hok:=ul
 refine ⟨_,rfl,?_⟩
 have hx:(#[]++#[.int .i64 i]++#[ptr c0,ptr c1]:Array Value)=#[.int .i64 i,ptr c0,ptr c1]:=by simp
 refine nP hok hx ?_
 refine aF (sd w1 hb0 hb1 (by omega) (by omega) i) ?_
 rintro v w2 ⟨rfl,rfl⟩
 refine ⟨_,rfl,?_,hn⟩
 unfold uk
 rw [if_neg (by omega),show (4:Int) * 8+i=32+i by omega]
end
theorem B7 (w:World) (p:aG) {c:Int} (hu:unl p.Head=true) (hc:0≤c∧c<6):Does 233 [p.val,.int .i64 c] w λv w'=>v=.tuple #[.int .u64 (eT p.Head c),.int .i64 0]∧New w w':=by
 refine does Tryz.func233 ?_
 rw [re]
 rintro b1 w1 hb1 hw1
 obtain ⟨hz,hn⟩:=aO hb1 hw1
 have hz:Blk w1 b1 p.cells TPg:=hz
 clear hw1
 refine ⟨_,hz.cell (i:=1) rfl,?_⟩
 refine aF (EU w1 hu hc) ?_
 rintro v w2 ⟨rfl,rfl⟩
 exact ⟨_,_,rfl,rfl,hn⟩
def datL (p:aG):List Int:=[p.Data0,p.Data1,p.Data2,p.Data3,p.Data4,p.Data5,p.Data6]
def appL (p:aG):List Int:=rf p.Head::datL p
theorem An (w:World) (p:aG) (hh:U64 p.Head) (hn:lU p.Head=true):Does 274 [p.val] w λv w'=>∃ (a:Option Addr) (cap:Nat),v=.tuple #[.slice a 8 cap,.int .i64 0]∧New w w'∧Owns w' 30 1 a 8 cap (us (appL p))∧∀ k,isB a k→w.heap.size≤k:=by
 refine does Tryz.func274 ?_
 rw [qB]
 rintro b1 w1 hb1 hw1
 obtain ⟨hz,hn1⟩:=aO hb1 hw1
 have hz:Blk w1 b1 p.cells TPg:=hz
 clear hw1
 refine ⟨_,hz.cell (i:=1) rfl,?_⟩
 refine aF (DQ w1 hh hn) ?_
 rintro v w2 ⟨rfl,rfl⟩
 refine ⟨_,_,rfl,cU (λe=>absurd rfl e) (λ_=>?_)⟩
 rintro b2 w3 hb2 hw3
 obtain ⟨hz3,hn3⟩:=aO hb2 hw3
 have hz3:Blk w3 b2 (us [rf p.Head]) 30:=hz3
 clear hw3
 have hs1:=hn1.size
 have hs3:=hn3.size
 have ho:Owns w3 30 1 (some ⟨b2,0,none⟩) 1 1 (us [rf p.Head]):=⟨rfl,.inr ⟨b2,_,rfl,hz3,by omega,by decide,rfl,rfl⟩⟩
 refine vN ho (l2:=datL p) (m:=7) (eQ (New.blk hn3 hz) rfl) rfl (by omega) λap cap' w4 h4 hk4 hap=>?_
 have hb2s:w.heap.size≤b2:=by omega
 have hfr:∀ k,isB (some ⟨b2,0,none⟩) k→w.heap.size≤k:=λk hk=>by obtain ⟨o,ho⟩:=hk;simp at ho <;> omega
 refine ⟨ap,cap',rfl,(hn1.new hn3).trans hk4 λk hlt e=>by have:=hfr k e;omega,h4,λk hk=>?_⟩
 rcases hap k hk with e | e
 ·exact hfr k e
 ·omega
def recL (seq:Int) (ps:List aG):List Int:=seq::(ps.length:Int)::(ps.map λp=>p.Line::p.Head::datL p).flatten
def ot (seq:Int) (ps:List aG):List Int:=recL seq ps++[crcW (recL seq ps)]
theorem yQ (ps:List aG):(ps.map λp=>p.Line::p.Head::datL p).flatten.length=9 * ps.length:=by
 induction ps with
 |nil=>rfl
 |cons p ps ih=>rw [List.map_cons,List.flatten_cons,List.length_append,ih];simp [datL];omega
theorem xH (seq:Int) (ps:List aG):(recL seq ps).length=2+9 * ps.length:=by unfold recL;simp only [List.length_cons,yQ];omega
theorem nA (seq:Int) (ps:List aG):(ot seq ps).length=3+9 * ps.length:=by unfold ot;rw [List.length_append,xH];simp;omega
def recK (seq:Int) (ps:List aG) (i:Nat):List Int:=seq::(ps.length:Int)::((ps.take i).map λp=>p.Line::p.Head::datL p).flatten
set_option maxHeartbeats 1000000 in
theorem B8 {w:World} {r:aS} {W:List aG} (h:sg w r.Writes r.Writes_l W) (hv:jS r.Seq W 256=0) (hs:1≤r.Seq∧r.Seq<1073741824) (hW:W.length≤12) (hl:∀ p ∈ W,96≤p.Line∧p.Line<256) :
  Does 232 [r.val] w λv w'=>∃ (a:Option Addr) (cap:Nat),v=.slice a (3+9 * W.length) cap∧New w w'∧Owns w' 30 1 a (3+9 * W.length) cap (us (ot r.Seq W))∧∀ k,isB a k→w.heap.size≤k:=by
 refine does Tryz.func232 ?_
 rw [oI]
 rintro b1 w1 hb1 hw1
 obtain ⟨hz,hn1⟩:=aO hb1 hw1
 have hz:Blk w1 b1 r.cells 305:=hz
 clear hw1
 refine aS.mk_ex r ⟨aI hz rfl,?_⟩
 refine aF (um (h.new hn1) 256) ?_
 rintro v w2 ⟨rfl,hn2⟩
 rw [hv]
 have hlen:=h.len
 have y:=New.blk hn2 hz
 refine ⟨_,rfl,cU (λe=>absurd rfl e) (λ_=>⟨_,y.cell (i:=0) rfl,_,_,_,y.cell (i:=1) rfl,?_⟩)⟩
 rw [wu64 (x:=r.Seq) (by omega) (by omega),wu64 (x:=(r.Writes_l:Int)) (by omega) (by omega)]
 rintro b2 w3 hb2 hw3
 obtain ⟨hz3,hn3⟩:=aO hb2 hw3
 have hz3:Blk w3 b2 (us (recK r.Seq W 0)) 30:=by simpa [recK,us,hlen] using hz3
 clear hw3
 have hn03:=(hn1.new hn2).new hn3
 have hs1:=hn1.size
 have hs2:=hn2.size
 have hs3:=hn3.size
 refine ⟨_,_,_,(New.blk hn3 y).cell (i:=1) rfl,?_⟩
 have ho:Owns w3 30 1 (some ⟨b2,0,none⟩) 2 2 (us (recK r.Seq W 0)):=⟨rfl,.inr ⟨b2,_,rfl,hz3,by omega,by decide,rfl,rfl⟩⟩
 have hfr:∀ k,isB (some ⟨b2,0,none⟩) k→w.heap.size≤k:=λk hk=>by obtain ⟨o,ho⟩:=hk;simp at ho <;> omega
 refine aT mix (λm env u=>∃ (i:Nat) (pa:Option Addr) (pc:Nat) (jj:List Value),m=W.length - i∧i≤W.length∧env=gQ pa (2+9 * i) pc r.Writes r.Writes_l r.Writes_c r.Writes_l i jj∧New w u∧Owns u 30 1 pa (2+9 * i) pc (us (recK r.Seq W i))∧∀ k,isB pa k→w.heap.size≤k) W.length
  ⟨0,_,_,_,rfl,by omega,rfl,hn03,ho,hfr⟩ ?_
 rintro m env u ⟨i,pa,pc,jj,rfl,hi,rfl,hnu,hou,hpf⟩
 rw [mD,hlen]
 refine aH (λhlt=>?_) (λhge=>?_)
 ·obtain ⟨p,hp⟩:∃ p,W[i]?=some p:=⟨_,List.getElem?_eq_getElem (by omega)⟩
  have hpl:=hl p (List.mem_of_getElem? hp)
  refine ez (cells:=aG.cells) aG.len (by omega) (h.rd.new hnu) hp rfl rfl λb o hcc _=>aG.mk_ex p ⟨hcc,?_⟩
  refine gF (vs:=p.cells) rfl (aG.single _) λb3 u2 hb3 hz4 hn4=>⟨_,hz4.cell (i:=0) rfl,_,hz4.cell (i:=1) rfl,?_⟩
  rw [wu64 (x:=p.Line) (by omega) (by omega)]
  rintro b4 u3 hb4 hw5
  obtain ⟨hz5,hn5⟩:=aO hb4 hw5
  have hz5:Blk u3 b4 (us [p.Line,p.Head]) 30:=hz5
  clear hw5
  have hs4:=hn4.size
  have hs5:=hn5.size
  have hsu:=hnu.size
  refine vN (Owns.new (hn4.new hn5) hou) (l2:=[p.Line,p.Head]) (m:=2) (eQ hz5 rfl) rfl (by omega) λap cap' u4 h6 hk6 hap=>?_
  have hapf:∀ k,isB ap k→w.heap.size≤k:=λk hk=>by
   rcases hap k hk with e | e
   ·exact hpf k e
   ·omega
  have hb3l:=hz4.lt
  have hpu:∀ k,isB pa k→k≠b3:=λk hk e=>by have:=hou.lt hk;omega
  have hz46:Blk u4 b3 p.cells TPg:=hk6.blk (New.blk hn5 hz4) λe=>hpu _ e rfl
  have hn6:New w u4:=((hnu.new hn4).new hn5).trans hk6 λk hlt e=>by have:=hpf k e;omega
  refine vN h6 (l2:=datL p) (m:=7) (eQ hz46 rfl) rfl (by omega) λap2 cap2 u5 h7 hk7 hap2=>?_
  rw [w64 (x:=(i:Int)+1) (by omega) (by omega)]
  have e9:2+9 * i+2+7=2+9 * (i+1):=by omega
  refine ⟨W.length - (i+1),by omega,i+1,ap2,cap2,_,rfl,by omega,by rw [←e9,←hlen];rfl,hn6.trans hk7 λk hlt e=>by have:=hapf k e;omega,?_,λk hk=>?_⟩
  ·have e:recK r.Seq W i++[p.Line,p.Head]++datL p=recK r.Seq W (i+1):=by
    unfold recK
    rw [List.take_add_one,hp]
    simp
   rw [←e,←e9]
   exact h7
  ·rcases hap2 k hk with e | e
   ·exact hapf k e
   ·have:=hn6.size;omega
 ·have hil:i=W.length:=by omega
  subst hil
  have ek:recK r.Seq W W.length=recL r.Seq W:=by unfold recK recL;rw [List.take_length]
  rw [ek] at hou
  rw [oU]
  refine aF (yN hou.rd (by rw [xH]) (by omega)) ?_
  rintro v u1 ⟨rfl,hn4⟩
  refine ⟨_,rfl,?_⟩
  rintro b3 u2 hb3 hw5
  obtain ⟨hz5,hn5⟩:=aO hb3 hw5
  have hz5:Blk u2 b3 (us [crcW (recL r.Seq W)]) 30:=hz5
  clear hw5
  have hs4:=hn4.size
  have hs5:=hn5.size
  have hsu:=hnu.size
  refine vN (Owns.new (hn4.new hn5) hou) (l2:=[crcW (recL r.Seq W)]) (m:=1) (eQ hz5 rfl) rfl (by omega) λap cap' u4 h6 hk6 hap=>?_
  have e3:2+9 * W.length+1=3+9 * W.length:=by omega
  rw [e3] at h6 ⊢
  refine ⟨ap,cap',rfl,((hnu.new hn4).new hn5).trans hk6 λk hlt e=>by have:=hpf k e;omega,h6,λk hk=>?_⟩
  rcases hap k hk with e | e
  ·exact hpf k e
  ·omega
end Go.Proofs.YtgpmeaicjonenaaGreat
