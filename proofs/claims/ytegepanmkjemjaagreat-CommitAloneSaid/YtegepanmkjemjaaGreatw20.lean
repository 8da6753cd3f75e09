import Derived.Test.YtegepanmkjemjaaGreatProg
import Derived.Test.YtegepanmkjemjaaGreatw03
import Derived.Test.YtegepanmkjemjaaGreatw18
import Derived.Test.YtegepanmkjemjaaGreatw19
set_option linter.unusedVariables false
namespace Go.Proofs.YtegepanmkjemjaaGreat
open Go.Proofs.Tryz
open Go.Eng IntKind
variable (w:World) (R:Value→World→Prop)
theorem kU (p0:Nat) (p1:aF) (p2:aL):fnW prog f183 [(.pointer (some ⟨p0,0,none⟩)),p1.val,p2.val] R w=(∀ b1 w1,b1=w.heap.size→w1=w.alloc (.cells p1.cells.toArray 103)→∀ b2 w2,b2=w1.heap.size→w2=w1.alloc (.cells p2.cells.toArray 166)→∀ b3 w3,b3=w2.heap.size→w3=w2.alloc (.cells #[(.int .i64 0),(.int .i64 0),(.int .i64 0),(.int .i64 0),(.int .u64 0),(.int .u64 0),(.slice none 0 0),(.int .u64 0),(.int .i64 0)] 166)→∀ w4,w4=w3.drew→∃ Sx:World→Prop,Sx w4∧aM.ex λa=>(∀ u,Sx u→aG u ⟨p0,3,none⟩ 0 a.cells)∧aF.ex λr=>(∀ u,Sx u→aG u ⟨b1,0,none⟩ 0 r.cells)∧aL.ex λr1=>(∀ u,Sx u→aG u ⟨b2,0,none⟩ 0 r1.cells)∧Calls prog 202 #[a.val,r.val,(.bool true),r1.val] w4 λe w5=>aL.ex λb=>e=.returned b.val∧wrAt w5 ⟨b3,0,none⟩ 0 b.cells∧∀ w6,w6=puts w5 ⟨b3,0,none⟩ 0 b.cells→aL.ex λc=>aG w6 ⟨b3,0,none⟩ 0 c.cells∧w6=w6∧R c.val w6):=by kernel_rfl
theorem mr (p0:Nat) (p1:Option Addr) (a b:Nat) (p2:Int):fnW prog f184 [.pointer (some ⟨p0,0,none⟩),.slice p1 a b,.int .i64 p2] R w=(∀ b1 w1,b1=w.heap.size→w1=w.alloc (.cells #[.int .i64 0,.int .i64 0] 162)→∃ t,w1.cell? ⟨p0,7,none⟩=some (.pointer t)∧Calls prog 98 #[.pointer t,.slice p1 a b] w1 λe w2=>∃ c d f g,e=.returned (.tuple #[.slice c d f,.bool g])∧(bif (!g) then (wrAt w2 ⟨b1,0,none⟩ 0 [.int .i64 0,.int .i64 0]∧∀ w3,w3=puts w2 ⟨b1,0,none⟩ 0 [.int .i64 0,.int .i64 0]→aA.ex λi=>aG w3 ⟨b1,0,none⟩ 0 i.cells∧w3=w3∧R (.tuple #[.slice none 0 0,i.val,.bool false]) w3) else (Calls prog 203 #[.slice c d f] w2 λe w4=>∃ h,e=.returned (.int .i64 h)∧(bif ((h:Int) != 0) then (wrAt w4 ⟨b1,0,none⟩ 0 [.int .i64 h,.int .i64 p2]∧∀ w5,w5=puts w4 ⟨b1,0,none⟩ 0 [.int .i64 h,.int .i64 p2]→aA.ex λk=>aG w5 ⟨b1,0,none⟩ 0 k.cells∧w5=w5∧R (.tuple #[.slice none 0 0,k.val,.bool false]) w5) else (wrAt w4 ⟨b1,0,none⟩ 0 [.int .i64 0,.int .i64 0]∧∀ w6,w6=puts w4 ⟨b1,0,none⟩ 0 [.int .i64 0,.int .i64 0]→aA.ex λl=>aG w6 ⟨b1,0,none⟩ 0 l.cells∧w6=w6∧R (.tuple #[.slice c d f,l.val,.bool true]) w6))))):=by kernel_rfl
def cY (s0 s3:Addr) (s5:Option Addr) (a b:Nat) (c:Option Addr) (d f:Nat) (g h:Int) (j:LV):LV:=.pointer (some s0)::jq j 0 2 (.pointer (some s3)::jq j 2 1 (.slice s5 a b::jq j 3 8 (.slice c d f::.int .i64 g::.int .i64 h::jq j 11 21 [])))
def gD (s5:Option Addr) (a b:Nat) (j:LV):LV:=jq j 0 5 (.slice s5 a b::jq j 5 32 [])
theorem lO (p0:Nat) (p1:aF):fnW prog f188 [.pointer (some ⟨p0,0,none⟩),p1.val] R w=(∀ b1 w1,b1=w.heap.size→w1=w.alloc (.cells p1.cells.toArray 103)→∃ a b c,w1.cell? ⟨p0,6,none⟩=some (.slice a b c)∧bS prog (.loop (sub (aD f188) [1,1,0,1,0,0])) (cY ⟨p0,0,none⟩ ⟨b1,0,none⟩ none 0 0 a b c (b:Nat) 0 (p1.val::undef::jz::uq 4 (jp ⟨p0,0,none⟩::jp ⟨p0,0,none⟩::jp ⟨p0,0,none⟩::jp ⟨p0,6,none⟩::uq 21 []))) (aI 0 (nx f188 [1,1,1] R)) w1):=by kernel_rfl
theorem iL (s0 s3:Addr) (s5:Option Addr) (a b:Nat) (c:Option Addr) (d f:Nat) (g h:Int) (j:LV) (N1:LV→World→Prop):W prog (sub (aD f188) [1,1,0,1,0,0]) (cY s0 s3 s5 a b c d f g h j) (seqQ N1 (aI 0 (nx f188 [1,1,1] R))) w=((bif (decide ((h:Int)<g)) then (idxS c d h 9 λad=>aB.ex λr=>aG w ad 0 r.cells∧∀ b1 w1,b1=w.heap.size→w1=w.alloc (.cells #[.int .i64 0,.int .u64 0,.int .u64 0,.int .u64 0,.int .u64 0,.int .u64 0,.int .u64 0,.int .u64 0,.int .u64 0] 55)→wrAt w1 ⟨b1,0,none⟩ 0 r.cells∧∀ w2,w2=puts w1 ⟨b1,0,none⟩ 0 r.cells→aB.ex λr1=>aG w2 ⟨b1,0,none⟩ 0 r1.cells∧Calls prog 205 #[r1.val] w2 λe w3=>∃ (i:Option Addr) (k l:Nat) (m:Int),e=.returned (.tuple #[.slice i k l,.int .i64 m])∧∀ w4,w4=w3.drew→∃ Sx:World→Prop,Sx w4∧aF.ex λr2=>(∀ u,Sx u→aG u s3 0 r2.cells)∧∃ n,(∀ u,Sx u→u.cell? ⟨b1,0,none⟩=some (.int .i64 n))∧Calls prog 95 #[.int .i64 n] w4 λe w5=>∃ (o:Int),e=.returned (.int .i64 o)∧Sx w5∧Calls prog 183 #[.pointer (some s0),r2.val,.agg #[.int .i64 2,.int .i64 0,.int .i64 o,.int .i64 0,.int .u64 0,.int .u64 0,.slice i k l,.int .u64 0,.int .i64 0]] w5 λe w6=>aL.ex λs=>e=.returned s.val∧Sx w6∧∀ b2 w7,b2=w6.heap.size→w7=w6.alloc (.cells s.cells.toArray 166)→Sx w7∧∃ (ap:Option Addr) (p q:Nat),∃ w8,(Builtin.append_ #[128,128] 128 #[.slice s5 a b,.slice (some ⟨b2,0,none⟩) 1 1]).run prog w7=.ok (.slice ap p q) w8∧Sx w8∧N1 (cY s0 s3 ap p q c d f g (i64.wrap (h+1)) (jq j 0 4 (jp ⟨b1,0,none⟩::js i k l::ji m::jq j 7 4 [jb (decide ((h:Int)<g)),jp ad,r.val,.tuple #[.slice i k l,.int .i64 m],r1.val,.tuple #[.slice i k l,.int .i64 m],js i k l,ji m,js s5 a b,jp s0,r2.val,jp ⟨b1,0,none⟩,ji n,ji o,js i k l,.agg #[.int .i64 2,.int .i64 0,.int .i64 o,.int .i64 0,.int .u64 0,.int .u64 0,.slice i k l,.int .u64 0,.int .i64 0],s.val,js (some ⟨b2,0,none⟩) 1 1,js ap p q,ji (i64.wrap (h+1)),jg j 31]))) w8) else (W prog (sub (aD f188) [1,1,1]) (gD s5 a b (jp s0::jg j 0::jg j 1::jp s3::jq j 2 9 (js c d f::ji g::ji h::jb (decide ((h:Int)<g))::jq j 12 20 []))) (retQ prog f188 R) w))):=by kernel_rfl
theorem j0 (s5:Option Addr) (a b:Nat) (j:LV):W prog (sub (aD f188) [1,1,1]) (gD s5 a b j) (retQ prog f188 R) w=(R (.slice s5 a b) w):=by kernel_rfl
theorem lP (p0:Nat) (p1:aF):fnW prog f189 [.pointer (some ⟨p0,0,none⟩),p1.val] R w=(∀ b1 w1,b1=w.heap.size→w1=w.alloc (.cells p1.cells.toArray 103)→∀ b2 w2,b2=w1.heap.size→w2=w1.alloc (.cells #[.int .i64 0,.int .i64 0,.int .i64 0,.int .i64 0,.int .u64 0,.int .u64 0,.slice none 0 0,.int .u64 0,.int .i64 0] 166)→∀ w3,w3=w2.drew→∃ Sx:World→Prop,Sx w3∧aF.ex λr=>(∀ u,Sx u→aG u ⟨b1,0,none⟩ 0 r.cells)∧∃ a,(∀ u,Sx u→u.cell? ⟨p0,0,none⟩=some (.int .i64 a))∧∃ b,(∀ u,Sx u→u.cell? ⟨p0,1,none⟩=some (.int .i64 b))∧(Calls prog 206 #[.int .i64 a] w3 λe w4=>∃ c,e=.returned (.int .i64 c)∧Sx w4∧∀ b3 w5,b3=w4.heap.size→w5=w4.alloc (.cells #[.int .u64 (u64.wrap b)] 43)→Sx w5∧Calls prog 183 #[.pointer (some ⟨p0,0,none⟩),r.val,.agg #[.int .i64 2,.int .i64 0,.int .i64 c,.int .i64 0,.int .u64 0,.int .u64 0,.slice (some ⟨b3,0,none⟩) 1 1,.int .u64 0,.int .i64 0]] w5 λe w6=>aL.ex λf=>e=.returned f.val∧Sx w6∧wrAt w6 ⟨b2,0,none⟩ 0 f.cells∧∀ w7,w7=puts w6 ⟨b2,0,none⟩ 0 f.cells→aL.ex λg=>aG w7 ⟨b2,0,none⟩ 0 g.cells∧w7=w7∧R g.val w7)∧(∀ b4 w8,b4=w3.heap.size→w8=w3.alloc (.cells #[.int .u64 (u64.wrap b)] 43)→Sx w8∧Calls prog 206 #[.int .i64 a] w8 λe w9=>∃ d,e=.returned (.int .i64 d)∧Sx w9∧Calls prog 183 #[.pointer (some ⟨p0,0,none⟩),r.val,.agg #[.int .i64 2,.int .i64 0,.int .i64 d,.int .i64 0,.int .u64 0,.int .u64 0,.slice (some ⟨b4,0,none⟩) 1 1,.int .u64 0,.int .i64 0]] w9 λe h=>aL.ex λi=>e=.returned i.val∧Sx h∧wrAt h ⟨b2,0,none⟩ 0 i.cells∧∀ k,k=puts h ⟨b2,0,none⟩ 0 i.cells→aL.ex λl=>aG k ⟨b2,0,none⟩ 0 l.cells∧k=k∧R l.val k)):=by kernel_rfl
def dJ (s0 s3:Addr) (s5:Option Addr) (a b:Nat) (c:Option Addr) (d f:Nat) (g h:Int) (j:LV):LV:=.pointer (some s0)::jq j 0 2 (.pointer (some s3)::jq j 2 1 (.slice s5 a b::jq j 3 7 (.slice c d f::.int .i64 g::.int .i64 h::jq j 10 12 [])))
def hH (s5:Option Addr) (a b:Nat) (j:LV):LV:=jq j 0 5 (.slice s5 a b::jq j 5 22 [])
theorem mT (p0:Nat) (p1:aL):fnW prog f198 [.pointer (some ⟨p0,0,none⟩),p1.val] R w=(∀ b1 w1,b1=w.heap.size→w1=w.alloc (.cells p1.cells.toArray 166)→∃ a b c,w1.cell? ⟨p0,4,none⟩=some (.slice a b c)∧bS prog (.loop (sub (aD f198) [1,1,0,1,0,0])) (dJ ⟨p0,0,none⟩ ⟨b1,0,none⟩ none 0 0 a b c (b:Nat) 0 (p1.val::undef::jz::uq 2 (jp ⟨p0,0,none⟩::jp ⟨p0,0,none⟩::jp ⟨p0,0,none⟩::jp ⟨p0,3,none⟩::jp ⟨p0,4,none⟩::uq 12 []))) (aI 0 (nx f198 [1,1,1] R)) w1):=by kernel_rfl
theorem jx (s0 s3:Addr) (s5:Option Addr) (a b:Nat) (c:Option Addr) (d f:Nat) (g h:Int) (j:LV) (N1:LV→World→Prop):W prog (sub (aD f198) [1,1,0,1,0,0]) (dJ s0 s3 s5 a b c d f g h j) (seqQ N1 (aI 0 (nx f198 [1,1,1] R))) w=((bif (decide ((h:Int)<g)) then (idxS c d h 3 λad=>aF.ex λr=>aG w ad 0 r.cells∧∀ b1 w1,b1=w.heap.size→w1=w.alloc (.cells #[.int .i64 0,.int .i64 0,.bool false] 103)→wrAt w1 ⟨b1,0,none⟩ 0 r.cells∧∀ w2,w2=puts w1 ⟨b1,0,none⟩ 0 r.cells→aF.ex λr1=>aG w2 ⟨b1,0,none⟩ 0 r1.cells∧aL.ex λr2=>aG w2 s3 0 r2.cells∧Calls prog 183 #[.pointer (some s0),r1.val,r2.val] w2 λe w3=>aL.ex λl=>e=.returned l.val∧∀ b2 w4,b2=w3.heap.size→w4=w3.alloc (.cells l.cells.toArray 166)→∃ ap i k,∃ w5,(Builtin.append_ #[128,128] 128 #[.slice s5 a b,.slice (some ⟨b2,0,none⟩) 1 1]).run prog w4=.ok (.slice ap i k) w5∧N1 (dJ s0 s3 ap i k c d f g (i64.wrap (h+1)) (jq j 0 4 (jp ⟨b1,0,none⟩::jq j 5 5 [jb (decide ((h:Int)<g)),jp ad,r.val,js s5 a b,jp s0,r1.val,r2.val,l.val,js (some ⟨b2,0,none⟩) 1 1,js ap i k,ji (i64.wrap (h+1)),jg j 21]))) w5) else (W prog (sub (aD f198) [1,1,1]) (hH s5 a b (jp s0::jg j 0::jg j 1::jp s3::jq j 2 8 (js c d f::ji g::ji h::jb (decide ((h:Int)<g))::jq j 11 11 []))) (retQ prog f198 R) w))):=by kernel_rfl
theorem kC (s5:Option Addr) (a b:Nat) (j:LV):W prog (sub (aD f198) [1,1,1]) (hH s5 a b j) (retQ prog f198 R) w=(R (.slice s5 a b) w):=by kernel_rfl
end Go.Proofs.YtegepanmkjemjaaGreat
namespace Go.Proofs.YtegepanmkjemjaaGreat
open Go.Proofs.Tryz
open Go.Eng
theorem noB {k:Nat}:¬ isB none k:=λh=>by obtain ⟨o,ho⟩:=h;cases ho
theorem CV {α:Type} {cells:α→List Value} {sz:Nat} (h:∀ x,(cells x).length=sz) (l:List α):(l.map cells).flatten.length=l.length * sz:=by
 rw [dQ (sz:=sz),List.length_map]
 intro r hr
 obtain ⟨x,_,rfl⟩:=List.mem_map.1 hr
 exact h x
theorem Bb {α:Type} {cells:α→List Value} {sz:Nat} {S e:TypeId} {inf:TypeInfo} {z:Value} (hcs:∀ x,(cells x).length=sz) (hsg:∀ x,∀ v ∈ cells x,single v=true)
  (ht:prog.underlying S=some (.slice e)) (hi:prog.info? e=some inf) (hz:inf.zero=some z) (hzs:z.cells.size=inf.size) (his:inf.size=sz) (h0:0<sz) (hby:inf.bytes≤1000)
  {u:World} {a:Option Addr} {n cap:Nat} {l:List α} (ho:Owns u e sz a n cap (l.map cells).flatten) {s:Option Addr} {m c:Nat} {l2:List α} (hs:Rd u s (l2.map cells).flatten) (hm:m=l2.length) (hn:n+m≤1000000) {K:Option Addr→Nat→Nat→World→Prop}
  (hk:∀ ap cap' w3,Owns w3 e sz ap (n+m) cap' ((l++l2).map cells).flatten→Keep (isB a) u w3→(∀ k,isB ap k→isB a k∨u.heap.size≤k)→K ap (n+m) cap' w3) :
  ∃ (ap:Option Addr) (ap_len ap_cap:Nat),∃ w3,(Builtin.append_ #[S,S] S #[(.slice a n cap),(.slice s m c)]).run prog u=.ok (.slice ap ap_len ap_cap) w3∧K ap ap_len ap_cap w3:=by
 subst his
 have hbb:(n+m) * inf.bytes≤1000000 * 1000:=Nat.mul_le_mul hn hby
 have hsing:∀ x ∈ (l2.map cells).flatten,single x=true:=by
  intro x hx
  obtain ⟨r,hr,hx⟩:=List.mem_flatten.1 hx
  obtain ⟨y,_,rfl⟩:=List.mem_map.1 hr
  exact hsg y x hx
 obtain ⟨ap,cap',w7,hrun,hown,hkp,hap⟩:=Owns.append (P:=prog) (t:=S) (ty:=S) ht hi hz hzs h0 ho (s:=s) (m:=m) (c:=c) (news:=(l2.map cells).flatten) (by rw [CV hcs,hm]) hs hsing (by omega) (by omega)
 have e1:(l.map cells).flatten++(l2.map cells).flatten=((l++l2).map cells).flatten:=by simp
 rw [e1] at hown
 refine ⟨ap,n+m,cap',w7,hrun,hk ap cap' w7 hown hkp λk hk=>?_⟩
 rcases hap with e | e
 ·exact .inl (e▸hk)
 ·obtain ⟨o,ho⟩:=hk
  rw [e] at ho
  simp at ho
  exact .inr (by omega)
def CW (x:Int):List Value:=[.int .u64 x]
theorem xV (l:List Int):(l.map CW).flatten=us l:=by
 induction l with
 |nil=>rfl
 |cons x l ih=>simp [CW,us] at ih ⊢;exact ih
theorem wI {u:World} {a:Option Addr} {n cap:Nat} {l:List Int} (ho:Owns u 43 1 a n cap (us l)) {s:Option Addr} {m c:Nat} {l2:List Int} (hs:Rd u s (us l2)) (hm:m=l2.length) (hn:n+m≤1000000) {K:Option Addr→Nat→Nat→World→Prop}
  (hk:∀ ap cap' w3,Owns w3 43 1 ap (n+m) cap' (us (l++l2))→Keep (isB a) u w3→(∀ k,isB ap k→isB a k∨u.heap.size≤k)→K ap (n+m) cap' w3) :
  ∃ (ap:Option Addr) (ap_len ap_cap:Nat),∃ w3,(Builtin.append_ #[104,104] 104 #[(.slice a n cap),(.slice s m c)]).run prog u=.ok (.slice ap ap_len ap_cap) w3∧K ap ap_len ap_cap w3:=by
 obtain ⟨inf,hi,hz,hsz,hby⟩:=j8 (T:=43) (z:=.int .u64 0) (n:=1) (m:=8) (by kernel_rfl)
 refine Bb (cells:=CW) (sz:=1) (λ_=>rfl) (λx v hv=>by simp [CW] at hv;subst hv;rfl) Tryz.underlying104 hi hz (by rw [hsz];rfl) hsz (by decide) (by rw [hby];decide) (l:=l) (by rw [xV];exact ho) (l2:=l2) (by rw [xV];exact hs) hm hn λap cap' w3 h1=>?_
 rw [xV] at h1
 exact hk ap cap' w3 h1
def fE (h c:Int):Int:=bor .u64 h (c+1)
def sl (h:Int):Int:=bshl .u64 (bshr .u64 h 8+1) 8
def xW (s:Int):Int:=bor .u64 (bshl .u64 s 2) 2
def key1 (n:Int):Int:=2 * n+1
theorem vt (x:Int):U64 (IntKind.u64.wrap x):=by
 unfold U64
 simp only [IntKind.wrap,IntKind.bits,IntKind.signed]
 simp
 omega
theorem EI (h c:Int):U64 (fE h c):=vt _
theorem EJ (h:Int):U64 (sl h):=vt _
theorem EK (s:Int):U64 (xW s):=vt _
theorem FZ (w:World) {h c:Int} (hu:unl h=true) (hc:0≤c∧c<6):Does 201 [.int .u64 h,.int .i64 c] w λv w'=>v=.tuple #[.int .u64 (fE h c),.int .i64 0]∧w'=w:=by
 refine does Tryz.func201 ?_
 rw [vY]
 refine aE (zy w c) ?_
 rintro v w1 ⟨rfl,rfl⟩
 refine ⟨_,rfl,dN (λhf=>absurd (of_decide_eq_false hf) (by omega)) (λ_=>?_)⟩
 refine aE (CJ w1 h) ?_
 rintro v w2 ⟨rfl,rfl⟩
 refine ⟨_,rfl,dN (λhf=>by rw [hu] at hf;cases hf) (λ_=>⟨?_,rfl⟩)⟩
 rw [w64 (x:=c+1) (by omega) (by omega),wu64 (x:=c+1) (by omega) (by omega)]
 rfl
theorem EL (w:World) {h:Int} (hu:U64 h) (hn:lE h=true):Does 177 [.int .u64 h] w λv w'=>v=.tuple #[.int .u64 (sl h),.int .i64 0]∧w'=w:=by
 refine does Tryz.func177 ?_
 rw [rP]
 refine aE (AY w h) ?_
 rintro v w1 ⟨rfl,rfl⟩
 refine ⟨_,_,rfl,?_⟩
 refine aE (te w1 _ 1 281474976710654) ?_
 rintro v w2 ⟨rfl,rfl⟩
 have hb:=Ew hu
 unfold lE at hn
 refine ⟨_,rfl,dN (λhf=>by rw [hn] at hf;cases hf) (λ_=>⟨?_,rfl⟩)⟩
 rw [sO (x:=bshr .u64 h 8+1) (by omega) (by omega)]
 rfl
theorem GW (w:World) {n:Int} (h0:0≤n) (h1:n<16):Does 90 [.int .i64 n,.bool true] w λv w'=>v=.tuple #[.int .u64 (key1 n),.int .i64 0]∧w'=w:=by
 refine does Tryz.func90 ?_
 rw [sU]
 refine aE (qI w n 0 15) ?_
 rintro v w1 ⟨rfl,rfl⟩
 refine ⟨_,rfl,cU (by simp;omega) (jt rfl ⟨?_,rfl⟩)⟩
 rw [sO (x:=n) (by omega) (by omega),sO (x:=n * 2) (by omega) (by omega),sO (by omega) (by omega)]
 unfold key1
 rw [Int.mul_comm]
def ry (c:Int):Int:=48+120 * c
theorem wJ (w:World) {c i:Int} (hc:0≤c∧c<6) (hi:0≤i∧i<1000):Does 199 [.int .i64 c,.int .i64 i] w λv w'=>v=.int .i64 (ry c+i)∧w'=w:=by
 refine does Tryz.func199 ?_
 rw [rh]
 refine aJ (λh=>absurd h (by omega)) (λ_=>aJ (λh=>absurd h (by omega)) (λ_=>⟨?_,rfl⟩))
 unfold ry
 rw [w64 (x:=c * 15) (by omega) (by omega),w64 (x:=6+c * 15) (by omega) (by omega),w64 (x:=(6+c * 15) * 8) (by omega) (by omega),w64 (x:=(6+c * 15) * 8+i) (by omega) (by omega)]
 congr 1
 omega
theorem EM (w:World) {c:Int} (hc:0≤c∧c<6):Does 180 [.int .i64 c] w λv w'=>v=.int .i64 (ry c+8)∧w'=w:=by
 refine does Tryz.func180 ?_
 rw [t8]
 refine aE (wJ w hc (i:=8) (by omega)) ?_
 rintro v w1 ⟨rfl,rfl⟩
 exact ⟨_,rfl,rfl,rfl⟩
theorem EN (w:World) {c:Int} (hc:0≤c∧c<6):Does 186 [.int .i64 c] w λv w'=>v=.int .i64 (ry c)∧w'=w:=by
 refine does Tryz.func186 ?_
 rw [t9]
 refine aE (wJ w hc (i:=0) (by omega)) ?_
 rintro v w1 ⟨rfl,rfl⟩
 exact ⟨_,rfl,by rw [Int.add_zero],rfl⟩
section
attribute [local irreducible] mJ oM tT
theorem Bc (w:World) {i:Int} (hi:0≤i∧i<6):Does 206 [.int .i64 i] w λv w'=>v=.int .i64 (32+i)∧New w w':=by
 refine does Tryz.func206 ?_
 rw [sW]
 refine aE (vn _ _ _) ?_
 rintro v w1 ⟨c0,c1,rfl,hb0,hb1,hn⟩
 have hok:=vp
 refine ⟨_,rfl,?_⟩
 have hx:(#[]++#[.int .i64 i]++#[ptr c0,ptr c1]:Array Value)=#[.int .i64 i,ptr c0,ptr c1]:=by simp
 refine oG hok hx ?_
 refine aE (tf w1 hb0 hb1 (by omega) (by omega) i) ?_
 rintro v w2 ⟨rfl,rfl⟩
 refine ⟨_,rfl,?_,hn⟩
 unfold vo
 rw [if_neg (by omega),show (4:Int) * 8+i=32+i by omega]
end
theorem CX (w:World) (p:aB) {c:Int} (hu:unl p.Head=true) (hc:0≤c∧c<6):Does 182 [p.val,.int .i64 c] w λv w'=>v=.tuple #[.int .u64 (fE p.Head c),.int .i64 0]∧New w w':=by
 refine does Tryz.func182 ?_
 rw [sk]
 rintro b1 w1 hb1 hw1
 obtain ⟨hz,hn⟩:=aN hb1 hw1
 have hz:Blk w1 b1 p.cells TPg:=hz
 clear hw1
 refine ⟨_,hz.cell (i:=1) rfl,?_⟩
 refine aE (FZ w1 hu hc) ?_
 rintro v w2 ⟨rfl,rfl⟩
 exact ⟨_,_,rfl,rfl,hn⟩
def datL (p:aB):List Int:=[p.Data0,p.Data1,p.Data2,p.Data3,p.Data4,p.Data5,p.Data6]
def appL (p:aB):List Int:=sl p.Head::datL p
theorem Bd (w:World) (p:aB) (hh:U64 p.Head) (hn:lE p.Head=true):Does 205 [p.val] w λv w'=>∃ (a:Option Addr) (cap:Nat),v=.tuple #[.slice a 8 cap,.int .i64 0]∧New w w'∧Owns w' 43 1 a 8 cap (us (appL p))∧∀ k,isB a k→w.heap.size≤k:=by
 refine does Tryz.func205 ?_
 rw [rx]
 rintro b1 w1 hb1 hw1
 obtain ⟨hz,hn1⟩:=aN hb1 hw1
 have hz:Blk w1 b1 p.cells TPg:=hz
 clear hw1
 refine ⟨_,hz.cell (i:=1) rfl,?_⟩
 refine aE (EL w1 hh hn) ?_
 rintro v w2 ⟨rfl,rfl⟩
 refine ⟨_,_,rfl,cR (λe=>absurd rfl e) (λ_=>?_)⟩
 rintro b2 w3 hb2 hw3
 obtain ⟨hz3,hn3⟩:=aN hb2 hw3
 have hz3:Blk w3 b2 (us [sl p.Head]) 43:=hz3
 clear hw3
 have hs1:=hn1.size
 have hs3:=hn3.size
 have ho:Owns w3 43 1 (some ⟨b2,0,none⟩) 1 1 (us [sl p.Head]):=⟨rfl,.inr ⟨b2,_,rfl,hz3,by omega,by decide,rfl,rfl⟩⟩
 refine wI ho (l2:=datL p) (m:=7) (fG (New.blk hn3 hz) rfl) rfl (by omega) λap cap' w4 h4 hk4 hap=>?_
 have hb2s:w.heap.size≤b2:=by omega
 have hfr:∀ k,isB (some ⟨b2,0,none⟩) k→w.heap.size≤k:=λk hk=>by obtain ⟨o,ho⟩:=hk;simp at ho <;> omega
 refine ⟨ap,cap',rfl,(hn1.new hn3).trans hk4 λk hlt e=>by have:=hfr k e;omega,h4,λk hk=>?_⟩
 rcases hap k hk with e | e
 ·exact hfr k e
 ·omega
def recL (seq:Int) (ps:List aB):List Int:=seq::(ps.length:Int)::(ps.map λp=>p.Line::p.Head::datL p).flatten
def pe (seq:Int) (ps:List aB):List Int:=recL seq ps++[crcW (recL seq ps)]
theorem zG (ps:List aB):(ps.map λp=>p.Line::p.Head::datL p).flatten.length=9 * ps.length:=by
 induction ps with
 |nil=>rfl
 |cons p ps ih=>rw [List.map_cons,List.flatten_cons,List.length_append,ih];simp [datL];omega
theorem yx (seq:Int) (ps:List aB):(recL seq ps).length=2+9 * ps.length:=by unfold recL;simp only [List.length_cons,zG];omega
theorem oz (seq:Int) (ps:List aB):(pe seq ps).length=3+9 * ps.length:=by unfold pe;rw [List.length_append,yx];simp;omega
def recK (seq:Int) (ps:List aB) (i:Nat):List Int:=seq::(ps.length:Int)::((ps.take i).map λp=>p.Line::p.Head::datL p).flatten
set_option maxHeartbeats 1000000 in
theorem CY {w:World} {r:aS} {W:List aB} (h:tj w r.Writes r.Writes_l W) (hv:iK r.Seq W 256=0) (hs:1≤r.Seq∧r.Seq<1073741824) (hW:W.length≤12) (hl:∀ p ∈ W,96≤p.Line∧p.Line<256) :
  Does 181 [r.val] w λv w'=>∃ (a:Option Addr) (cap:Nat),v=.slice a (3+9 * W.length) cap∧New w w'∧Owns w' 43 1 a (3+9 * W.length) cap (us (pe r.Seq W))∧∀ k,isB a k→w.heap.size≤k:=by
 refine does Tryz.func181 ?_
 rw [pB]
 rintro b1 w1 hb1 hw1
 obtain ⟨hz,hn1⟩:=aN hb1 hw1
 have hz:Blk w1 b1 r.cells 252:=hz
 clear hw1
 refine aS.mk_ex r ⟨aK hz rfl,?_⟩
 refine aE (vq (h.new hn1) 256) ?_
 rintro v w2 ⟨rfl,hn2⟩
 rw [hv]
 have hlen:=h.len
 have y:=New.blk hn2 hz
 refine ⟨_,rfl,cR (λe=>absurd rfl e) (λ_=>⟨_,y.cell (i:=0) rfl,_,_,_,y.cell (i:=1) rfl,?_⟩)⟩
 rw [wu64 (x:=r.Seq) (by omega) (by omega),wu64 (x:=(r.Writes_l:Int)) (by omega) (by omega)]
 rintro b2 w3 hb2 hw3
 obtain ⟨hz3,hn3⟩:=aN hb2 hw3
 have hz3:Blk w3 b2 (us (recK r.Seq W 0)) 43:=by simpa [recK,us,hlen] using hz3
 clear hw3
 have hn03:=(hn1.new hn2).new hn3
 have hs1:=hn1.size
 have hs2:=hn2.size
 have hs3:=hn3.size
 refine ⟨_,_,_,(New.blk hn3 y).cell (i:=1) rfl,?_⟩
 have ho:Owns w3 43 1 (some ⟨b2,0,none⟩) 2 2 (us (recK r.Seq W 0)):=⟨rfl,.inr ⟨b2,_,rfl,hz3,by omega,by decide,rfl,rfl⟩⟩
 have hfr:∀ k,isB (some ⟨b2,0,none⟩) k→w.heap.size≤k:=λk hk=>by obtain ⟨o,ho⟩:=hk;simp at ho <;> omega
 refine aQ mix (λm env u=>∃ (i:Nat) (pa:Option Addr) (pc:Nat) (jj:List Value),m=W.length - i∧i≤W.length∧env=ia pa (2+9 * i) pc r.Writes r.Writes_l r.Writes_c r.Writes_l i jj∧New w u∧Owns u 43 1 pa (2+9 * i) pc (us (recK r.Seq W i))∧∀ k,isB pa k→w.heap.size≤k) W.length
  ⟨0,_,_,_,rfl,by omega,rfl,hn03,ho,hfr⟩ ?_
 rintro m env u ⟨i,pa,pc,jj,rfl,hi,rfl,hnu,hou,hpf⟩
 rw [nr,hlen]
 refine aJ (λhlt=>?_) (λhge=>?_)
 ·obtain ⟨p,hp⟩:∃ p,W[i]?=some p:=⟨_,List.getElem?_eq_getElem (by omega)⟩
  have hpl:=hl p (List.mem_of_getElem? hp)
  refine fR (cells:=aB.cells) aB.len (by omega) (h.rd.new hnu) hp rfl rfl λb o hcc _=>aB.mk_ex p ⟨hcc,?_⟩
  refine gX (vs:=p.cells) rfl (aB.single _) λb3 u2 hb3 hz4 hn4=>⟨_,hz4.cell (i:=0) rfl,_,hz4.cell (i:=1) rfl,?_⟩
  rw [wu64 (x:=p.Line) (by omega) (by omega)]
  rintro b4 u3 hb4 hw5
  obtain ⟨hz5,hn5⟩:=aN hb4 hw5
  have hz5:Blk u3 b4 (us [p.Line,p.Head]) 43:=hz5
  clear hw5
  have hs4:=hn4.size
  have hs5:=hn5.size
  have hsu:=hnu.size
  refine wI (Owns.new (hn4.new hn5) hou) (l2:=[p.Line,p.Head]) (m:=2) (fG hz5 rfl) rfl (by omega) λap cap' u4 h6 hk6 hap=>?_
  have hapf:∀ k,isB ap k→w.heap.size≤k:=λk hk=>by
   rcases hap k hk with e | e
   ·exact hpf k e
   ·omega
  have hb3l:=hz4.lt
  have hpu:∀ k,isB pa k→k≠b3:=λk hk e=>by have:=hou.lt hk;omega
  have hz46:Blk u4 b3 p.cells TPg:=hk6.blk (New.blk hn5 hz4) λe=>hpu _ e rfl
  have hn6:New w u4:=((hnu.new hn4).new hn5).trans hk6 λk hlt e=>by have:=hpf k e;omega
  refine wI h6 (l2:=datL p) (m:=7) (fG hz46 rfl) rfl (by omega) λap2 cap2 u5 h7 hk7 hap2=>?_
  rw [w64 (x:=(i:Int)+1) (by omega) (by omega)]
  have e9:2+9 * i+2+7=2+9 * (i+1):=by omega
  refine ⟨W.length - (i+1),by omega,i+1,ap2,cap2,_,rfl,by omega,by rw [←e9,←hlen];rfl,hn6.trans hk7 λk hlt e=>by have:=hapf k e;omega,?_,λk hk=>?_⟩
  ·have e:recK r.Seq W i++[p.Line,p.Head]++datL p=recK r.Seq W (i+1):=by
    unfold recK
    rw [List.take_add_one,hp]
    simp
   rw [←e,←e9]
   exact h7
  ·rcases hap2 k hk with e | e
   ·exact hapf k e
   ·have:=hn6.size;omega
 ·have hil:i=W.length:=by omega
  subst hil
  have ek:recK r.Seq W W.length=recL r.Seq W:=by unfold recK recL;rw [List.take_length]
  rw [ek] at hou
  rw [pP]
  refine aE (zE hou.rd (by rw [yx]) (by omega)) ?_
  rintro v u1 ⟨rfl,hn4⟩
  refine ⟨_,rfl,?_⟩
  rintro b3 u2 hb3 hw5
  obtain ⟨hz5,hn5⟩:=aN hb3 hw5
  have hz5:Blk u2 b3 (us [crcW (recL r.Seq W)]) 43:=hz5
  clear hw5
  have hs4:=hn4.size
  have hs5:=hn5.size
  have hsu:=hnu.size
  refine wI (Owns.new (hn4.new hn5) hou) (l2:=[crcW (recL r.Seq W)]) (m:=1) (fG hz5 rfl) rfl (by omega) λap cap' u4 h6 hk6 hap=>?_
  have e3:2+9 * W.length+1=3+9 * W.length:=by omega
  rw [e3] at h6 ⊢
  refine ⟨ap,cap',rfl,((hnu.new hn4).new hn5).trans hk6 λk hlt e=>by have:=hpf k e;omega,h6,λk hk=>?_⟩
  rcases hap k hk with e | e
  ·exact hpf k e
  ·omega
end Go.Proofs.YtegepanmkjemjaaGreat
namespace Go.Proofs.YtegepanmkjemjaaGreat
open Go.Proofs.Tryz
open Go.Eng
theorem vu {u:World} {b i:Nat} {cs:List Value} {T:TypeId} {v x:Value} {K:World→Prop} (hb:Blk u b cs T) (hi:cs[i]?=some x) (hk:∀ w',Blk w' b (cs.set i v) T→Keep (λk=>k=b) u w'→K w') :
  (∃ y,u.cell? ⟨b,i,none⟩=some y)∧u.frozen? ⟨b,i,none⟩=false∧∀ w',w'=u.setCell ⟨b,i,none⟩ v→K w':=
 ⟨⟨x,hb.cell hi⟩,hb.frozen,λw' e=>by subst e;exact hk _ (hb.setCell v) (aR _ _ _ _)⟩
def addr (num:Int) (m:aF) (x:Verb):Verb:={ x with node:=m.Node,boot:=m.Boot,key:=key1 num }
set_option maxHeartbeats 1000000 in
theorem zH (w:World) {r:aM} {m:aF} (h0:0≤r.Number) (h1:r.Number<16) (hbt:I64 m.Boot) {M:Nat→Prop} {v:aL} {x:Verb} (hv:bJ M w v x) :
  Does 202 [r.val,m.val,.bool true,v.val] w λy w'=>∃ v':aL,y=v'.val∧bJ (λk=>k<w.heap.size) w' v' (addr r.Number m x)∧New w w':=by
 refine does Tryz.func202 ?_
 rw [sS]
 rintro b1 w1 hb1 hw1
 obtain ⟨hz1,hn1⟩:=aN hb1 hw1
 have hz1:Blk w1 b1 r.cells TVw:=hz1
 clear hw1
 rintro b2 w2 hb2 hw2
 obtain ⟨hz2,hn2⟩:=aN hb2 hw2
 have hz2:Blk w2 b2 m.cells TMb:=hz2
 clear hw2
 rintro b3 w3 hb3 hw3
 obtain ⟨hz3,hn3⟩:=aN hb3 hw3
 have hz3:Blk w3 b3 v.cells TV:=hz3
 clear hw3
 rintro b4 w4 hb4 hw4
 obtain ⟨hz4,hn4⟩:=aN hb4 hw4
 have hz4:Blk w4 b4 (aL.cells ⟨0,0,0,0,0,0,none,0,0,0,0⟩) TV:=hz4
 clear hw4
 rintro w5 hw5
 have hn5:New w4 w5:=by rw [hw5];exact aV _
 clear hw5
 have hs1:=hn1.size
 have hs2:=hn2.size
 have hs3:=hn3.size
 have hs4:=hn4.size
 have hs5:=hn5.size
 have hl1:=hz1.lt
 have hl2:=hz2.lt
 have hl3:=hz3.lt
 have hl4:=hz4.lt
 have hn05:=(((hn1.new hn2).new hn3).new hn4).new hn5
 have y1:=New.blk (((hn2.new hn3).new hn4).new hn5) hz1
 have y2:=New.blk ((hn3.new hn4).new hn5) hz2
 have y3:=New.blk (hn4.new hn5) hz3
 have y4:=New.blk hn5 hz4
 refine ⟨λy=>Blk y b2 m.cells TMb,y2,_,λy hy=>hy.cell (i:=0) rfl,_,λy hy=>hy.cell (i:=1) rfl,vu y3 (i:=1) rfl λw6 y3 hk6=>⟨hk6.blk y2 (by omega),vu y3 (i:=8) rfl λw7 y3 hk7=>?_⟩⟩
 have hk57:=hk6.trans hk7 λ_ _ e=>e
 have y1:=hk57.blk y1 (by omega)
 refine ⟨_,y1.cell (i:=0) rfl,?_⟩
 refine aE (GW w7 h0 h1) ?_
 rintro z w8 ⟨rfl,rfl⟩
 refine ⟨_,_,rfl,vu y3 (i:=7) rfl λw9 y3 hk9=>⟨_,_,_,y3.cell (i:=6) rfl,?_⟩⟩
 have hn09:New w w9:=hn05.trans (hk57.trans hk9 λ_ _ e=>e) λk hlt e=>by omega
 have hwl:v.Wl=x.words.length:=by rw [hv.eq];rfl
 refine aE (pO (xs:=us x.words) (by rw [lz,hwl]) (hv.rd.new hn09) (kM _) (by have:=hv.wlen;omega) (λe=>by rw [hwl,hv.nil e];rfl)) ?_
 rintro z w10 ⟨a',cap,rfl,hn10,hown,hfr,hnil⟩
 have hs9:=hn09.size
 have hs59:=(hk57.trans hk9 λ_ _ e=>e).size
 refine ⟨_,_,_,rfl,vu (New.blk hn10 y3) (i:=6) rfl λw11 y3 hk11=>?_⟩
 have y4:=hk11.blk (New.blk hn10 ((hk57.trans hk9 λ_ _ e=>e).blk y4 (by omega))) (show ¬ b4=b3 by omega)
 have y3:Blk w11 b3 (aL.cells { v with Node:=m.Node,Boot:=m.Boot,Key:=key1 r.Number,Words:=a',Wc:=cap }) TV:=y3
 refine aL.mk_ex _ ⟨aK y3 rfl,gJ y4 rfl (aL.single _) λw12 y4 hk12=>?_⟩
 refine aL.mk_ex _ ⟨aK y4 rfl,rfl,_,rfl,?_,((hn09.new hn10).trans hk11 λk hlt e=>by omega).trans hk12 λk hlt e=>by omega⟩
 have hoff:us x.words=[]∨Off (λk=>k<w9.heap.size) a':=qg hown.rd λk hk e=>by have:=hfr k hk;omega
 have hrd:Rd w12 a' (us x.words):=(hown.rd.keep hk11 (hoff.imp id λh=>by
  cases a' with
  |none=>trivial
  |some a=>exact λe=>h (by have e:a.block=b3:=e;omega))).keep hk12 (hoff.imp id λh=>by
  cases a' with
  |none=>trivial
  |some a=>exact λe=>h (by have e:a.block=b4:=e;omega))
 refine ⟨?_,hrd,λe=>hv.nil (hnil.1 e),?_,hv.wf,hv.new,hv.old,?_,hbt,Owns.le hown,hv.wlen⟩
 ·show ({ v with Node:=m.Node,Boot:=m.Boot,Key:=key1 r.Number,Words:=a',Wc:=cap }:aL)=_
  have e:=hv.eq
  generalize v.Words=q1 at e
  generalize v.Wc=q2 at e
  subst e
  rfl
 ·rcases hoff with h | h
  ·left
   have:=congrArg List.length h
   rw [lz] at this
   exact List.eq_nil_of_length_eq_zero this
  ·right
   cases a' with
   |none=>trivial
   |some a=>exact λe=>h (by have e:a.block<w.heap.size:=e;show a.block<w9.heap.size;omega)
 ·show U64 (key1 r.Number)
  unfold key1 U64
  omega
theorem wK (l:List aF):∀ r ∈ iC l,r.length=3:=by
 intro r hr
 obtain ⟨x,_,rfl⟩:=List.mem_map.1 hr
 rfl
theorem wL (l:List aF):∀ u ∈ (iC l).flatten,single u=true:=by
 intro u hu
 obtain ⟨r,hr,hx⟩:=List.mem_flatten.1 hu
 obtain ⟨y,_,rfl⟩:=List.mem_map.1 hr
 exact aF.single y u hx
theorem CZ {w:World} {a:Option Addr} {n c:Nat} {vs:List aF} (hl:vs.length=n) (hr:Rd w a (iC vs).flatten) (hb:n≤1000000) (hn:a=none→n=0) :
  Does 204 [.slice a n c] w λv w'=>∃ a' cap,v=.slice a' n cap∧vZ w w' TMb 3 a a' n cap (iC vs).flatten:=by
 refine does Tryz.func204 ?_
 rw [gM]
 obtain ⟨i,hi,hz,hsz,hby⟩:=j8 (T:=TMb) (z:=.agg #[.int .i64 0,.int .i64 0,.bool false]) (n:=3) (m:=24) (by kernel_rfl)
 cases a with
 |none=>
  refine jt rfl ⟨none,0,by rw [hn rfl],Keep.refl _ _,?_,?_,by simp⟩
  ·rw [hn rfl] at hl ⊢
   rw [List.eq_nil_of_length_eq_zero hl]
   exact Owns.nil _ _ _
  ·rintro k ⟨o,ho⟩;cases ho
 |some a=>
  refine cU rfl ?_
  rintro b1 w1 rfl rfl
  obtain ⟨a',cap',w',hrun,hc⟩:=oH (t:=28) (ty:=28) (n:=n) (c:=c) (w:=w) (a:=a) (xs:=(iC vs).flatten) Tryz.underlying28 hi hz (by rw [hsz];rfl) (by omega) (by rw [dQ (wK vs),hsz,iC,List.length_map,hl]) hr (wL vs) (by omega) (by rw [hby];omega)
  exact ⟨a',n,cap',w',hrun,a',cap',rfl,by rw [hsz] at hc;exact hc⟩
theorem Be {M:Nat→Prop} {w:World} {r:aM} {v:Vw} (h:ViewAt M w r v) {m:aF} (hm:v.mem[0]?=some m):Does 107 [r.val] w λx w'=>x=.tuple #[m.val,.bool true]∧New w w':=by
 refine does Tryz.func107 ?_
 rw [sP]
 rintro b1 w1 hb1 hw1
 obtain ⟨hz1,hn1⟩:=aN hb1 hw1
 have hz1:Blk w1 b1 r.cells TVw:=hz1
 clear hw1
 rintro b2 w2 hb2 hw2
 obtain ⟨hz2,hn2⟩:=aN hb2 hw2
 have hz2:Blk w2 b2 (aF.cells noM) TMb:=hz2
 clear hw2
 have hz12:=New.blk hn2 hz1
 have hn02:=hn1.new hn2
 have hs1:=hn1.size
 have hl:=aO hm
 have e3:=h.len
 refine ⟨_,_,_,hz12.cell (i:=1) rfl,bH (λe=>absurd e (by omega)) (λ_=>⟨_,_,_,hz12.cell (i:=1) rfl,?_⟩)⟩
 refine fR (cells:=aF.cells) aF.len (by omega) (i:=0) (h.rd.new hn02) hm rfl e3 λb o hcc _=>aF.mk_ex m ⟨hcc,gJ hz2 rfl (aF.single _) λw4 hz4 hk4=>?_⟩
 exact aF.mk_ex m ⟨aK hz4 rfl,rfl,rfl,hn02.trans hk4 λk hlt e=>by omega⟩
theorem Bf {M:Nat→Prop} {w:World} {r:aM} {v:Vw} (h:ViewAt M w r v) (hne:0<v.mem.length):Does 187 [r.val] w λy w'=>∃ (a:Option Addr) (cap:Nat),y=.slice a (v.mem.length - 1) cap∧New w w'∧Rd w' a (iC v.mem.tail).flatten:=by
 refine does Tryz.func187 ?_
 rw [sR]
 rintro b1 w1 hb1 hw1
 obtain ⟨hz1,hn1⟩:=aN hb1 hw1
 have hz1:Blk w1 b1 r.cells TVw:=hz1
 clear hw1
 have hlen:=h.len
 have hcap:=h.cap
 have hsm:=h.small
 refine ⟨_,_,_,hz1.cell (i:=1) rfl,bH (λe=>absurd e (by omega)) (λ_=>⟨_,_,_,hz1.cell (i:=1) rfl,?_⟩)⟩
 have hr:=h.rd.new hn1
 have hfl:(iC v.mem).flatten.length=v.mem.length * 3:=by rw [dQ (wK _),iC,List.length_map]
 obtain ⟨b,o,hab⟩:∃ b o,r.Members=some ⟨b,o,none⟩:=by
  rcases hr with he | ⟨b,o,e,_⟩
  ·have:=congrArg List.length he
   rw [hfl] at this
   simp at this <;> omega
  ·exact ⟨b,o,e⟩
 rw [hab] at hr ⊢
 rw [hlen]
 have htl:(iC v.mem.tail).flatten=((iC v.mem).flatten).drop 3:=by
  cases hvm:v.mem with
  |nil=>rfl
  |cons x xs=>rfl
 refine pu (by omega) (by omega) (by omega) (by omega) (by omega) λa ha=>?_
 have ha2:Rd w1 a (iC v.mem.tail).flatten∧a≠none:=by
  rcases ha with rfl | ⟨e,rfl⟩
  ·refine ⟨?_,by simp⟩
   rw [htl]
   exact hr.drop 3
  ·refine ⟨?_,by simp⟩
   have:v.mem.tail=[]:=List.eq_nil_of_length_eq_zero (by rw [List.length_tail];omega)
   rw [this]
   exact .inl rfl
 have e1:Int.toNat (v.mem.length:Int) - Int.toNat 1=v.mem.length - 1:=by omega
 rw [e1]
 refine aE (CZ (vs:=v.mem.tail) (by rw [List.length_tail]) ha2.1 (by omega) (λe=>absurd e ha2.2)) ?_
 rintro y w2 ⟨a',cap,rfl,hn2,hown,_⟩
 exact ⟨_,_,_,rfl,a',cap,rfl,hn1.new hn2,hown.rd⟩
structure VB (w0 u:World) (a:Option Addr) (n cap:Nat) (vs:List Verb):Prop where
 ex:∃ raws:List aL,Owns u TV 9 a n cap (eH raws).flatten∧Vs (λk=>k<w0.heap.size∨isB a k) u raws vs
 len:n=vs.length
 fr:∀ k,isB a k→w0.heap.size≤k
theorem VB.nil (w0 u:World):VB w0 u none 0 0 []:=⟨⟨[],Owns.nil _ _ _,rfl,λi v x h=>by simp at h⟩,rfl,λk hk=>absurd hk noB⟩
theorem VB.new {w0 u u':World} {a:Option Addr} {n cap:Nat} {vs:List Verb} (h:VB w0 u a n cap vs) (hn:New u u'):VB w0 u' a n cap vs:=by
 obtain ⟨⟨raws,ho,hv⟩,hl,hf⟩:=h
 exact ⟨⟨raws,Owns.new hn ho,hv.keep (Keep.of_new hn) λ_ _ e=>e⟩,hl,hf⟩
theorem VB.keep {w0 u u':World} {a:Option Addr} {n cap:Nat} {vs:List Verb} (h:VB w0 u a n cap vs) {M:Nat→Prop} (hk:Keep M u u') (hM:∀ k,M k→k<w0.heap.size):VB w0 u' a n cap vs:=by
 obtain ⟨⟨raws,ho,hv⟩,hl,hf⟩:=h
 refine ⟨⟨raws,ho.keep hk λk hk e=>?_,hv.keep (hk.mono λk _ e=>.inl (hM k e)) λ_ _ e=>e⟩,hl,hf⟩
 have:=hf k hk
 have:=hM k e
 omega
theorem VB.mono {w0 w1 u:World} {a:Option Addr} {n cap:Nat} {vs:List Verb} (h:VB w1 u a n cap vs) (hs:w0.heap.size≤w1.heap.size):VB w0 u a n cap vs:=by
 obtain ⟨⟨raws,ho,hv⟩,hl,hf⟩:=h
 exact ⟨⟨raws,ho,hv.keep (Keep.refl _ _) λk _ e=>e.imp (λe=>by omega) id⟩,hl,λk hk=>by have:=hf k hk;omega⟩
theorem Vs.app {M:Nat→Prop} {w:World} {r1 r2:List aL} {v1 v2:List Verb} (h1:Vs M w r1 v1) (h2:Vs M w r2 v2):Vs M w (r1++r2) (v1++v2):=by
 obtain ⟨l1,g1⟩:=h1
 obtain ⟨l2,g2⟩:=h2
 refine ⟨by simp [l1,l2],λi v x hv hx=>?_⟩
 by_cases hi:i<r1.length
 ·rw [List.getElem?_append_left hi] at hv
  rw [List.getElem?_append_left (by omega)] at hx
  exact g1 i v x hv hx
 ·rw [List.getElem?_append_right (by omega)] at hv
  rw [List.getElem?_append_right (by omega)] at hx
  rw [←l1] at hx
  exact g2 _ v x hv hx
theorem Vs.one {M:Nat→Prop} {w:World} {v:aL} {x:Verb} (h:bJ M w v x):Vs M w [v] [x]:=⟨rfl,λi v' x' h1 h2=>by
 cases i with
 |zero=>simp at h1 h2;subst h1 h2;exact h
 |succ i=>simp at h1⟩
theorem VB.push_k {w0 u u1:World} {a:Option Addr} {n cap:Nat} {vs:List Verb} (h:VB w0 u a n cap vs) (h00:New w0 u) (hu:New u u1) {v:aL} {x:Verb} (hv:bJ (λk=>k<u.heap.size) u1 v x) (hf:n≤100000) {K:Nat→Option Addr→Nat→Nat→World→Prop}
  (hk:∀ b ap cap' w3,b=u1.heap.size→VB w0 w3 ap (n+1) cap' (vs++[x])→Keep (isB a) u1 w3→New w0 w3→K b ap (n+1) cap' w3) :
  ∀ b1 w2,b1=u1.heap.size→w2=u1.alloc (.cells v.cells.toArray TV)→∃ (ap:Option Addr) (ap_len ap_cap:Nat),∃ w3,(Builtin.append_ #[TSV,TSV] TSV #[(.slice a n cap),(.slice (some ⟨b1,0,none⟩) 1 1)]).run prog w2=.ok (.slice ap ap_len ap_cap) w3∧K b1 ap ap_len ap_cap w3:=by
 obtain ⟨⟨raws,ho,hvs⟩,hl,hfr⟩:=h
 have h0:=h00.new hu
 have hs0:=h00.size
 have hsu:=hu.size
 refine EH (Owns.new hu ho) (v:=v) (by omega) λb ap cap' w3 hb h1 hk3 hap=>?_
 have hapf:∀ k,isB ap k→w0.heap.size≤k:=λk hk=>by
  rcases hap k hk with e | e
  ·exact hfr k e
  ·omega
 refine hk b ap cap' w3 hb ⟨⟨raws++[v],by rw [rQ];simpa [eH] using h1,?_⟩,by rw [List.length_append,hl];rfl,hapf⟩ hk3 (h0.trans hk3 λk hlt e=>by have:=hfr k e;omega)
 have hst:∀ k,k<u1.heap.size→(k<w0.heap.size∨isB ap k)→(k<w0.heap.size∨isB a k):=λk hlt e=>e.imp id λe=>by
  rcases hap k e with e | e
  ·exact e
  ·omega
 have hv1:=hvs.keep (M':=λk=>k<w0.heap.size∨isB a k) (Keep.of_new hu) λ_ _ e=>e
 refine Vs.app (hv1.keep (hk3.mono λk _ e=>.inr e) hst) (Vs.one ?_)
 have hv2:bJ (λk=>k<w0.heap.size∨isB a k) u1 v x:=hv.keep (Keep.refl _ _) λk hlt e=>by
  rcases e with e | e
  ·omega
  ·exact ho.lt e
 exact hv2.keep (hk3.mono λk _ e=>.inr e) hst
theorem VB.push_e {w0 u u1:World} {a:Option Addr} {n cap:Nat} {vs:List Verb} (h:VB w0 u a n cap vs) (h00:New w0 u) (hu:New u u1) {v:aL} {x:Verb} (hv:bJ (λk=>k<u.heap.size) u1 v x) (hf:n≤100000) {b1:Nat} {w2:World} (hb:b1=u1.heap.size) (hw:w2=u1.alloc (.cells v.cells.toArray TV)) {K:Option Addr→Nat→Nat→World→Prop}
  (hk:∀ ap cap' w3,VB w0 w3 ap (n+1) cap' (vs++[x])→Keep (isB a) u1 w3→New w0 w3→K ap (n+1) cap' w3) :
  ∃ (ap:Option Addr) (ap_len ap_cap:Nat),∃ w3,(Builtin.append_ #[TSV,TSV] TSV #[(.slice a n cap),(.slice (some ⟨b1,0,none⟩) 1 1)]).run prog w2=.ok (.slice ap ap_len ap_cap) w3∧K ap ap_len ap_cap w3:=
 VB.push_k h h00 hu hv hf (K:=λ_ ap n c w=>K ap n c w) (λb ap cap' w3 _ h1 h2 h3=>hk ap cap' w3 h1 h2 h3) b1 w2 hb hw
end Go.Proofs.YtegepanmkjemjaaGreat
