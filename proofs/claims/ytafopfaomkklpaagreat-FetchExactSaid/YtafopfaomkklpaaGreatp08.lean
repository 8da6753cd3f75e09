/- A part of the proof. -/
import Derived.Test.YtafopfaomkklpaaGreatp07
import Derived.Test.YtafopfaomkklpaaGreatProg
import Derived.Test.YtafopfaomkklpaaGreatp03
import Derived.Test.YtafopfaomkklpaaGreatp04
import Derived.Test.YtafopfaomkklpaaGreatp06
set_option linter.unusedVariables false
namespace Go.Proofs.YtafopfaomkklpaaGreat
open Go.Proofs.Tryz
open Go.Eng
abbrev TU:TypeId:=32
abbrev TNd:TypeId:=162
abbrev TCl:TypeId:=166
abbrev TPr:TypeId:=189
abbrev TPe:TypeId:=234
abbrev TSPr:TypeId:=158
abbrev TFb:TypeId:=160
abbrev bS:=aO
structure CliR where
 Alive:Bool
 Inc:Int
 On:Bool
 Done:Option Addr
 Dl:Nat
 Dc:Nat
 Have:Option Addr
 Hl:Nat
 Hc:Nat
 Trips:Int
 Posted:Int
def CliR.cells (r:CliR):List Value:=[.bool r.Alive,.int .i64 r.Inc,.bool r.On,.slice r.Done r.Dl r.Dc,.slice r.Have r.Hl r.Hc,.int .i64 r.Trips,.int .i64 r.Posted]
theorem CliR.len (r:CliR):r.cells.length=7:=rfl
theorem CliR.single (r:CliR):∀ u ∈ r.cells,single u=true:=by
 intro u hu
 simp only [CliR.cells,List.mem_cons,List.not_mem_nil,or_false] at hu
 rcases hu with rfl | rfl | rfl | rfl | rfl | rfl | rfl<;>rfl
structure bJ where
 Client:Int
 Inc:Int
 Node:Int
 Queue:Option Addr
 Ql:Nat
 Qc:Nat
def bJ.cells (r:bJ):List Value:=[.int .i64 r.Client,.int .i64 r.Inc,.int .i64 r.Node,.slice r.Queue r.Ql r.Qc]
theorem bJ.len (r:bJ):r.cells.length=4:=rfl
theorem bJ.single (r:bJ):∀ u ∈ r.cells,single u=true:=by
 intro u hu
 simp only [bJ.cells,List.mem_cons,List.not_mem_nil,or_false] at hu
 rcases hu with rfl | rfl | rfl | rfl<;>rfl
def fabC (lines:Int) (nb nn nc cb cn cc lb ln lc:Nat):List Value:=[.int .i64 lines,.slice (some ⟨nb,0,none⟩) nn nc,.slice (some ⟨cb,0,none⟩) cn cc,.slice (some ⟨lb,0,none⟩) ln lc,.slice none 0 0]
theorem j9 {α:Type} {cells:α→List Value} {sz:Nat} (hsz:∀ x,(cells x).length=sz):∀ (l:List α),((l.map cells).flatten).length=l.length * sz
 | []=>by simp
 |x::l=>by rw [List.map_cons,List.flatten_cons,List.length_append,hsz,j9 hsz l,List.length_cons,Nat.succ_mul];omega
theorem rL {α:Type} {cells:α→List Value} {sz:Nat} (hsz:∀ x,(cells x).length=sz):∀ (l:List α) (i j:Nat) (r:α) (v:Value),l[i]?=some r→(cells r)[j]?=some v→((l.map cells).flatten)[i * sz+j]?=some v
 | [],i,j,r,v,h,_=>by simp at h
 |x::l,0,j,r,v,h,hv=>by
  simp only [List.getElem?_cons_zero,Option.some.injEq] at h
  subst h
  have:=cN hv
  rw [List.map_cons,List.flatten_cons,List.getElem?_append_left (by omega),Nat.zero_mul,Nat.zero_add]
  exact hv
 |x::l,i+1,j,r,v,h,hv=>by
  rw [List.getElem?_cons_succ] at h
  have hx:=hsz x
  have e:(i+1) * sz+j=(cells x).length+(i * sz+j):=by rw [hx,Nat.succ_mul];omega
  rw [List.map_cons,List.flatten_cons,e,List.getElem?_append_right (by omega),Nat.add_sub_cancel_left]
  exact rL hsz l i j r v h hv
theorem yM {α:Type} {cells:α→List Value} {sz:Nat} (hsz:∀ x,(cells x).length=sz):∀ (l:List α) (i j:Nat) (r r':α) (v:Value),l[i]?=some r→j<sz→(cells r).set j v=cells r'→((l.map cells).flatten).set (i * sz+j) v=((l.set i r').map cells).flatten
 | [],i,j,r,r',v,h,_,_=>by simp at h
 |x::l,0,j,r,r',v,h,hj,hv=>by
  simp only [List.getElem?_cons_zero,Option.some.injEq] at h
  subst h
  rw [List.map_cons,List.flatten_cons,List.set_append_left _ _ (by rw [hsz];omega),Nat.zero_mul,Nat.zero_add,hv]
  rfl
 |x::l,i+1,j,r,r',v,h,hj,hv=>by
  rw [List.getElem?_cons_succ] at h
  have hx:=hsz x
  have e:(i+1) * sz+j=(cells x).length+(i * sz+j):=by rw [hx,Nat.succ_mul];omega
  rw [List.map_cons,List.flatten_cons,e,List.set_append_right _ _ (by omega),Nat.add_sub_cancel_left,yM hsz l i j r r' v h hj hv]
  rfl
theorem Owns.blk {w:World} {e sz n cap g:Nat} {xs:List Value} (h:Owns w e sz (some ⟨g,0,none⟩) n cap xs):∃ cur,Blk w g cur e∧n * sz≤cur.length∧cur.take (n * sz)=xs:=by
 rcases h.2 with ⟨h0,_⟩ | ⟨g',cur,he,hb,hle,hc,hl,ht⟩
 ·cases h0
 ·simp only [Option.some.injEq,Addr.mk.injEq,and_true] at he
  subst he
  exact ⟨cur,hb,by rw [hl];exact Nat.mul_le_mul_right _ hle,ht⟩
theorem Owns.cell {w:World} {e sz n cap g:Nat} {xs:List Value} (h:Owns w e sz (some ⟨g,0,none⟩) n cap xs) {i:Nat} {v:Value} (hi:xs[i]?=some v):w.cell? ⟨g,i,none⟩=some v:=by
 obtain ⟨cur,hb,_,ht⟩:=Owns.blk h
 refine hb.cell ?_
 rw [←ht] at hi
 have:=cN hi
 rw [List.length_take] at this
 rw [List.getElem?_take_of_lt (by omega)] at hi
 exact hi
theorem Owns.frozen {w:World} {e sz n cap g i:Nat} {xs:List Value} (h:Owns w e sz (some ⟨g,0,none⟩) n cap xs):w.frozen? ⟨g,i,none⟩=false:=by
 obtain ⟨cur,hb,_⟩:=Owns.blk h
 exact hb.frozen
theorem Owns.row {α:Type} {cells:α→List Value} {sz:Nat} (hsz:∀ x,(cells x).length=sz) {w:World} {e n cap g:Nat} {l:List α} (h:Owns w e sz (some ⟨g,0,none⟩) n cap (l.map cells).flatten) {i j:Nat} {r:α} {v:Value} (hr:l[i]?=some r) (hv:(cells r)[j]?=some v):w.cell? ⟨g,i * sz+j,none⟩=some v:=
 Owns.cell h (rL hsz l i j r v hr hv)
theorem Owns.setRow {α:Type} {cells:α→List Value} {sz:Nat} (hsz:∀ x,(cells x).length=sz) {w:World} {e n cap g:Nat} {l:List α} (h:Owns w e sz (some ⟨g,0,none⟩) n cap (l.map cells).flatten) {i j:Nat} {r r':α} {v:Value} (hr:l[i]?=some r) (hj:j<sz) (hv:(cells r).set j v=cells r') :
  Owns (w.setCell ⟨g,i * sz+j,none⟩ v) e sz (some ⟨g,0,none⟩) n cap ((l.set i r').map cells).flatten:=by
 have hl:=h.1
 rw [j9 hsz] at hl
 have hlt:=cN hr
 have h2:(i+1) * sz≤l.length * sz:=Nat.mul_le_mul_right _ hlt
 rw [Nat.succ_mul] at h2
 have h1:=Owns.setCell h (i:=i * sz+j) (by omega) v
 rw [yM hsz l i j r r' v hr hj hv] at h1
 exact h1
theorem lR {α:Type} {cells:α→List Value} {sz:Nat} {S e:TypeId} {inf:TypeInfo} {z:Value} (hcs:∀ x,(cells x).length=sz) (hsg:∀ x,∀ v ∈ cells x,single v=true)
  (ht:prog.underlying S=some (.slice e)) (hi:prog.info? e=some inf) (hz:inf.zero=some z) (hzs:z.cells.size=inf.size) (his:inf.size=sz) (h0:0<sz) (hby:inf.bytes≤1000)
  {u:World} {a:Option Addr} {n cap:Nat} {l:List α} (ho:Owns u e sz a n cap (l.map cells).flatten) {s:Option Addr} {m c:Nat} {l2:List α} (hs:Rd u s (l2.map cells).flatten) (hm:m=l2.length) (hn:n+m≤1000000) {K:Option Addr→Nat→Nat→World→Prop}
  (hk:∀ ap cap' w3,Owns w3 e sz ap (n+m) cap' ((l++l2).map cells).flatten→Keep (isB a) u w3→(∀ k,isB ap k→isB a k∨u.heap.size≤k)→K ap (n+m) cap' w3) :
  ∃ (ap:Option Addr) (ap_len ap_cap:Nat),∃ w3,(Builtin.append_ #[S,S] S #[(.slice a n cap),(.slice s m c)]).run prog u=.ok (.slice ap ap_len ap_cap) w3∧K ap ap_len ap_cap w3:=by
 subst his
 have hbb:(n+m) * inf.bytes≤1000000 * 1000:=Nat.mul_le_mul hn hby
 have hsing:∀ x ∈ (l2.map cells).flatten,single x=true:=by
  intro x hx
  obtain ⟨r,hr,hx⟩:=List.mem_flatten.1 hx
  obtain ⟨y,_,rfl⟩:=List.mem_map.1 hr
  exact hsg y x hx
 obtain ⟨ap,cap',w7,hrun,hown,hkp,hap⟩:=Owns.append (P:=prog) (t:=S) (ty:=S) ht hi hz hzs h0 ho (s:=s) (m:=m) (c:=c) (news:=(l2.map cells).flatten) (by rw [j9 hcs,hm]) hs hsing (by omega) (by omega)
 have e1:(l.map cells).flatten++(l2.map cells).flatten=((l++l2).map cells).flatten:=by simp
 rw [e1] at hown
 refine ⟨ap,n+m,cap',w7,hrun,hk ap cap' w7 hown hkp λk hk=>?_⟩
 rcases hap with e | e
 ·exact .inl (e▸hk)
 ·obtain ⟨o,ho⟩:=hk
  rw [e] at ho
  simp at ho
  exact .inr (by omega)
def As (x:Int):List Value:=[.int .u64 x]
theorem qZ (l:List Int):(l.map As).flatten=us l:=by
 induction l with
 |nil=>rfl
 |cons x l ih=>rw [List.map_cons,List.flatten_cons,ih];rfl
theorem uE {u:World} {a:Option Addr} {n cap:Nat} {l:List Int} (ho:Owns u TU 1 a n cap (us l)) {s:Option Addr} {m c:Nat} {l2:List Int} (hs:Rd u s (us l2)) (hm:m=l2.length) (hn:n+m≤1000000) {K:Option Addr→Nat→Nat→World→Prop}
  (hk:∀ ap cap' w3,Owns w3 TU 1 ap (n+m) cap' (us (l++l2))→Keep (isB a) u w3→(∀ k,isB ap k→isB a k∨u.heap.size≤k)→K ap (n+m) cap' w3) :
  ∃ (ap:Option Addr) (ap_len ap_cap:Nat),∃ w3,(Builtin.append_ #[34,34] 34 #[(.slice a n cap),(.slice s m c)]).run prog u=.ok (.slice ap ap_len ap_cap) w3∧K ap ap_len ap_cap w3:=by
 obtain ⟨inf,hi,hz,hsz,hby⟩:=nV (T:=32) (z:=.int .u64 0) (n:=1) (m:=8) (by kernel_rfl)
 refine lR (cells:=As) (sz:=1) (λ_=>rfl) (λx v hv=>by simp [As] at hv;subst hv;rfl) Tryz.underlying34 hi hz (by rw [hsz];rfl) hsz (by omega) (by omega) (l:=l) (by rw [qZ];exact ho) (l2:=l2) (by rw [qZ];exact hs) hm hn λap cap' w3 h1 h2 h3=>hk ap cap' w3 (by rw [qZ] at h1;exact h1) h2 h3
theorem noB {k:Nat}:¬ isB none k:=λh=>by obtain ⟨o,ho⟩:=h;cases ho
theorem wv {u:World} {s:Option Addr} {m c:Nat} {l:List Int} (hs:Rd u s (us l)) (hm:m=l.length) (hn:m≤1000000) {K:Option Addr→Nat→Nat→World→Prop}
  (hk:∀ ap cap' w3,Owns w3 TU 1 ap m cap' (us l)→New u w3→(∀ k,isB ap k→u.heap.size≤k)→K ap m cap' w3) :
  ∃ (ap:Option Addr) (ap_len ap_cap:Nat),∃ w3,(Builtin.append_ #[34,34] 34 #[(.slice none 0 0),(.slice s m c)]).run prog u=.ok (.slice ap ap_len ap_cap) w3∧K ap ap_len ap_cap w3:=by
 refine uE (l:=[]) (Owns.nil u TU 1) hs hm (by omega) λap cap' w3 h1 h2 h3=>?_
 rw [Nat.zero_add] at h1 ⊢
 exact hk ap cap' w3 h1 (h2.mono λk _ h=>noB h) λk hb=>(h3 k hb).resolve_left noB
def U64B (w:World) (b n:Nat):Prop:=∃ ws:List Int,Blk w b (us ws) TU∧ws.length=n∧∀ x ∈ ws,U64 x
theorem U64B.keep {M:Nat→Prop} {w w':World} (h:Keep M w w') {b n:Nat} (hb:U64B w b n) (hm:¬ M b):U64B w' b n:=by
 obtain ⟨ws,h1,h2,h3⟩:=hb
 exact ⟨ws,h.blk h1 hm,h2,h3⟩
theorem U64B.new {w w':World} (h:New w w') {b n:Nat} (hb:U64B w b n):U64B w' b n:=hb.keep h id
theorem Ew (l:List Int) (i:Nat) (x:Int):(us l).set i (.int .u64 x)=us (l.set i x):=by simp [us,List.map_set]
theorem U64B.set {w:World} {b n:Nat} (hb:U64B w b n) (b' i:Nat) {x:Int} (hx:U64 x):U64B (w.setCell ⟨b',i,none⟩ (.int .u64 x)) b n:=by
 obtain ⟨ws,h1,h2,h3⟩:=hb
 by_cases e:b=b'
 ·subst e
  refine ⟨ws.set i x,?_,by rw [List.length_set];exact h2,λy hy=>?_⟩
  ·have:=h1.setCell (i:=i) (.int .u64 x)
   rw [Ew] at this
   exact this
  ·rcases List.mem_or_eq_of_mem_set hy with h | h
   ·exact h3 y h
   ·rw [h];exact hx
 ·exact ⟨ws,h1.setCell_ne e _,h2,h3⟩
theorem U64B.lt {w:World} {b n:Nat} (hb:U64B w b n):b<w.heap.size:=by
 obtain ⟨ws,h1,_⟩:=hb
 exact h1.lt
theorem U64B.get {w:World} {b n:Nat} (hb:U64B w b n) {i:Nat} (hi:i<n):∃ x,w.cell? ⟨b,i,none⟩=some (.int .u64 x)∧U64 x:=by
 obtain ⟨ws,h1,h2,h3⟩:=hb
 have hg:ws[i]?=some ws[i]:=List.getElem?_eq_getElem (by omega)
 exact ⟨ws[i],h1.cell (C6 hg),h3 _ (List.getElem_mem _)⟩
theorem U64B.frozen {w:World} {b n i:Nat} (hb:U64B w b n):w.frozen? ⟨b,i,none⟩=false:=by
 obtain ⟨ws,h1,_⟩:=hb
 exact h1.frozen
theorem U64B.ne {w:World} {b n b':Nat} {cs:List Value} {T:TypeId} (hb:U64B w b n) (h':Blk w b' cs T) (hT:TU≠T):b≠b':=by
 obtain ⟨ws,h1,_⟩:=hb
 exact h1.ne h' hT
structure Fa where
 lines:Nat
 nb:Nat
 nc:Nat
 cb:Nat
 cc:Nat
 lb:Nat
 lc:Nat
 pb:Nat→Nat
 pc:Nat→Nat
def pi (w:World) (lines:Nat) (r:bS):Prop:=∃ b,r.Words=some ⟨b,0,none⟩∧r.Words_l=lines * 8∧r.Words_c=lines * 8∧U64B w b (lines * 8)
def Au (F:Fa) (n C:Nat):List Value:=(List.range C).map λc=>.slice (some ⟨F.pb c,0,none⟩) n (F.pc c)
structure cY (w:World) (fb:Nat) (F:Fa) (N:List bS) (Cl:List CliR) (P:Nat→List bJ):Prop where
 fab:Blk w fb (fabC F.lines F.nb N.length F.nc F.cb Cl.length F.cc F.lb Cl.length F.lc) TFb
 nodes:Owns w TNd 2 (some ⟨F.nb,0,none⟩) N.length F.nc (N.map aO.cells).flatten
 nok:∀ r ∈ N,pi w F.lines r
 clients:Owns w TCl 7 (some ⟨F.cb,0,none⟩) Cl.length F.cc (Cl.map CliR.cells).flatten
 alive:∀ r ∈ Cl,r.Alive=true
 live:Owns w TSPr 1 (some ⟨F.lb,0,none⟩) Cl.length F.lc (Au F N.length Cl.length)
 pairs:∀ c,c<Cl.length→Owns w TPr 4 (some ⟨F.pb c,0,none⟩) N.length (F.pc c) ((P c).map bJ.cells).flatten∧(P c).length=N.length
 inj:∀ c d,c<Cl.length→d<Cl.length→F.pb c=F.pb d→c=d
 n1:1≤N.length∧N.length≤5
 c1:1≤Cl.length∧Cl.length≤6
 ln:98≤F.lines∧F.lines≤256
def Fa.own (F:Fa) (fb:Nat) (N:List bS) (C:Nat) (k:Nat):Prop:=k=fb∨k=F.nb∨k=F.cb∨k=F.lb∨(∃ c,c<C∧k=F.pb c)∨∃ r ∈ N,isB r.Words k
def Idle (N:List bS) (Cl:List CliR) (P:Nat→List bJ):Prop:=(∀ r ∈ Cl,r.On=false)∧∀ c,c<Cl.length→∀ (i:Nat) (p:bJ),(P c)[i]?=some p→p.Ql=0∧p.Node=i∧p.Queue=none
theorem cY.keep {M:Nat→Prop} {w w':World} (hk:Keep M w w') {fb:Nat} {F:Fa} {N:List bS} {Cl:List CliR} {P:Nat→List bJ} (h:cY w fb F N Cl P) (hm:∀ k,F.own fb N Cl.length k→¬ M k):cY w' fb F N Cl P:=by
 have one:∀ {b:Nat} {k:Nat},isB (some ⟨b,0,none⟩) k→k=b:=by
  rintro b k ⟨o,ho⟩
  simp at ho
  exact ho.1.symm
 refine ⟨hk.blk h.fab (hm _ (.inl rfl)),Owns.keep hk h.nodes λk hb=>hm k (.inr (.inl (one hb))),λr hr=>?_,Owns.keep hk h.clients λk hb=>hm k (.inr (.inr (.inl (one hb)))),h.alive,Owns.keep hk h.live λk hb=>hm k (.inr (.inr (.inr (.inl (one hb))))),λc hc=>⟨Owns.keep hk (h.pairs c hc).1 λk hb=>hm k (.inr (.inr (.inr (.inr (.inl ⟨c,hc,one hb⟩))))),(h.pairs c hc).2⟩,h.inj,h.n1,h.c1,h.ln⟩
 obtain ⟨b,h1,h2,h3,h4⟩:=h.nok r hr
 exact ⟨b,h1,h2,h3,h4.keep hk (hm b (.inr (.inr (.inr (.inr (.inr ⟨r,hr,0,h1⟩))))))⟩
theorem cY.new {w w':World} (hn:New w w') {fb:Nat} {F:Fa} {N:List bS} {Cl:List CliR} {P:Nat→List bJ} (h:cY w fb F N Cl P):cY w' fb F N Cl P:=h.keep hn λ_ _=>id
end Go.Proofs.YtafopfaomkklpaaGreat
namespace Go.Proofs.YtafopfaomkklpaaGreat
open Go.Eng IntKind
end Go.Proofs.YtafopfaomkklpaaGreat
namespace Go.Proofs.YtafopfaomkklpaaGreat
open Go.Eng
def De (n:Int):Int:=IntKind.u64.wrap (IntKind.i64.wrap (7 * n))
theorem oL (n:Int):0≤De n:=by unfold De;show 0≤_ % (18446744073709551616:Int);omega
end Go.Proofs.YtafopfaomkklpaaGreat
namespace Go.Proofs.YtafopfaomkklpaaGreat
open Go.Proofs.Tryz
open Go.Eng IntKind
variable (w:World) (R:Value→World→Prop)
theorem xO (p0:Int) (p1:Bool):fnW prog f101 [.int .i64 p0,.bool p1] R w=(Calls prog 142 #[.int .i64 p0,.int .i64 0,.int .i64 15] w λe w1=>∃ a,e=.returned (.bool a)∧(bif (!a) then (R (.tuple #[.int .u64 0,.int .i64 2]) w1) else ((bif p1 then (R (.tuple #[.int .u64 (u64.wrap ((u64.wrap ((u64.wrap p0) * 2))+1)),.int .i64 0]) w1) else (R (.tuple #[.int .u64 (u64.wrap ((u64.wrap p0) * 2)),.int .i64 0]) w1))))):=by kernel_rfl
theorem sM (p0:Int) (p1:Bool):fnW prog f105 [.int .i64 p0,.bool p1] R w=((bif (decide ((p0:Int)<0)) then (R (.tuple #[.int .u64 0,.int .i64 2]) w) else ((bif (decide ((p0:Int)≥16)) then (R (.tuple #[.int .u64 0,.int .i64 2]) w) else ((bif p1 then (R (.tuple #[.int .u64 (u64.wrap ((u64.wrap (i64.wrap (2 * p0)))+1)),.int .i64 0]) w) else (R (.tuple #[.int .u64 (u64.wrap (i64.wrap (2 * p0))),.int .i64 0]) w))))))):=by kernel_rfl
theorem rV (p0 p1 p2:Int):fnW prog f142 [.int .i64 p0,.int .i64 p1,.int .i64 p2] R w=((bif (decide ((p0:Int)≥p1)) then (R (.bool (decide ((p0:Int)≤p2))) w) else (R (.bool false) w))):=by kernel_rfl
end Go.Proofs.YtafopfaomkklpaaGreat
namespace Go.Proofs.YtafopfaomkklpaaGreat
open Go.Eng
def key1 (number:Int):Int:=2 * number+1
theorem BZ (w:World) (x a b:Int):Does 142 [.int .i64 x,.int .i64 a,.int .i64 b] w λv w'=>v=.bool (decide (a≤x∧x≤b))∧w'=w:=by
 refine does Tryz.func142 ?_
 rw [rV]
 refine aD (λh=>⟨?_,rfl⟩) (λh=>⟨?_,rfl⟩)
 ·have:a≤x:=h
  simp [this]
 ·have:¬ a≤x:=h
  simp [this]
theorem Fh (w:World) {n:Int} (h0:0≤n) (h1:n<16):Does 101 [.int .i64 n,.bool true] w λv w'=>v=.tuple #[.int .u64 (key1 n),.int .i64 0]∧w'=w:=by
 refine does Tryz.func101 ?_
 rw [xO]
 refine aC (BZ w n 0 15) ?_
 rintro v w1 ⟨rfl,rfl⟩
 refine ⟨_,rfl,eE (by simp;omega) (cM rfl ⟨?_,rfl⟩)⟩
 rw [xJ (x:=n) (by omega) (by omega),xJ (x:=n * 2) (by omega) (by omega),xJ (by omega) (by omega)]
 unfold key1
 rw [Int.mul_comm]
theorem Ey (w:World) {n:Int} (h0:0≤n) (h1:n<16):Does 105 [.int .i64 n,.bool true] w λv w'=>v=.tuple #[.int .u64 (key1 n),.int .i64 0]∧w'=w:=by
 refine does Tryz.func105 ?_
 rw [sM]
 refine aD (λh=>absurd h (by omega)) (λ_=>aD (λh=>absurd h (by omega)) (λ_=>cM rfl ⟨?_,rfl⟩))
 rw [w64 (x:=2 * n) (by omega) (by omega),xJ (x:=2 * n) (by omega) (by omega),xJ (by omega) (by omega)]
 rfl
end Go.Proofs.YtafopfaomkklpaaGreat
namespace Go.Proofs.YtafopfaomkklpaaGreat
open Go.Eng
abbrev TI:TypeId:=3
attribute [local irreducible] okFun v9 xC
structure Done where
 code:Int
 words:List Int
structure ww (w:World) (d:aV) (x:Done):Prop where
 code:d.Code=x.code
 len:d.Wl=x.words.length
 rd:Rd w d.Words (us x.words)
 wf:∀ u ∈ x.words,U64 u
theorem ww.new {w w':World} {d:aV} {x:Done} (h:ww w d x) (hn:New w w'):ww w' d x:=⟨h.code,h.len,h.rd.new hn,h.wf⟩
def gI (ds:List aV):List (List Value):=ds.map aV.cells
def Ds (w:World) (raw:List aV) (xs:List Done):Prop:=raw.length=xs.length∧∀ (i:Nat) (v:aV) (x:Done),raw[i]?=some v→xs[i]?=some x→ww w v x
theorem Ds.new {w w':World} {raw:List aV} {xs:List Done} (h:Ds w raw xs) (hn:New w w'):Ds w' raw xs:=⟨h.1,λi v x hv hx=>(h.2 i v x hv hx).new hn⟩
end Go.Proofs.YtafopfaomkklpaaGreat
namespace Go.Proofs.YtafopfaomkklpaaGreat
open Go.Eng
end Go.Proofs.YtafopfaomkklpaaGreat
namespace Go.Proofs.YtafopfaomkklpaaGreat
open Go.Eng
end Go.Proofs.YtafopfaomkklpaaGreat
namespace Go.Proofs.YtafopfaomkklpaaGreat
open Go.Eng
end Go.Proofs.YtafopfaomkklpaaGreat
namespace Go.Proofs.YtafopfaomkklpaaGreat
open Go.Proofs.Tryz
open Go.Eng IntKind
variable (w:World) (R:Value→World→Prop)
theorem nq (p0:Int):fnW prog f52 [(.int .i64 p0)] R w=((bif (decide ((p0:Int)<0)) then (R (.int .i64 (-1)) w) else ((bif (decide ((p0:Int)≥16)) then (R (.int .i64 (-1)) w) else (R (.int .i64 (i64.wrap (8+p0))) w))))):=by kernel_rfl
theorem m7 (p0:Int):fnW prog f75 [.int .i64 p0] R w=(Calls prog 119 #[.int .i64 p0] w λe w1=>∃ a,e=.returned (.bool a)∧(bif (!a) then (R (.int .i64 (-1)) w1) else (R (.int .i64 (i64.wrap (24+p0))) w1))):=by kernel_rfl
def ek (s1:Addr) (s5 s6:Int) (j:LV):LV:=jq j 0 1 (.pointer (some s1)::jq j 1 3 (.int .u64 s5::.int .i64 s6::jq j 4 37 []))
def kr (s5:Int) (j:LV):LV:=jq j 0 5 (.int .u64 s5::jq j 5 38 [])
theorem q9 (p0:aF):fnW prog f104 [p0.val] R w=(∀ b1 w1,b1=w.heap.size→w1=w.alloc (.cells p0.cells.toArray 31)→aF.ex λr=>aE w1 ⟨b1,0,none⟩ 0 r.cells∧Calls prog 103 #[r.val,.int .i64 5] w1 λe w2=>∃ a,e=.returned (.int .i64 a)∧(bif ((a:Int) != 0) then (R (.tuple #[.int .u64 0,.int .i64 a]) w2) else (bW prog (.loop (sub (aA f104) [1,1,1,0,1,0,0])) (ek ⟨b1,0,none⟩ 549755813888 0 (p0.val::ju 0::ji 0::ji a::uq 2 (r.val::ji a::ji a::jb ((a:Int) != 0)::uq 31 []))) (aK 0 (nx f104 [1,1,1,1] R)) w2))):=by kernel_rfl
theorem lS (s1:Addr) (s5 s6:Int) (j:LV) (N1:LV→World→Prop):W prog (sub (aA f104) [1,1,1,0,1,0,0]) (ek s1 s5 s6 j) (seqQ N1 (aK 0 (nx f104 [1,1,1,1] R))) w=(∃ a b c,w.cell? ⟨s1.block,s1.off+1,none⟩=some (.slice a b c)∧(bif (decide ((s6:Int)<(b:Nat))) then (∃ d f g,w.cell? ⟨s1.block,s1.off+1,none⟩=some (.slice d f g)∧idxS d f s6 3 λad=>aB.ex λr=>aE w ad 0 r.cells∧∀ b1 w1,b1=w.heap.size→w1=w.alloc (.cells #[.int .i64 0,.int .i64 0,.bool false] 133)→wrAt w1 ⟨b1,0,none⟩ 0 r.cells∧∀ w2,w2=puts w1 ⟨b1,0,none⟩ 0 r.cells→∃ h,w2.cell? ⟨b1,1,none⟩=some (.int .i64 h)∧∃ i,w2.cell? ⟨b1,2,none⟩=some (.bool i)∧(bif i then (∃ k,w2.cell? ⟨b1,0,none⟩=some (.int .i64 k)∧0≤(u64.wrap (i64.wrap (7 * k)))∧N1 (ek s1 (bor .u64 s5 (bshl .u64 (bor .u64 (bor .u64 1 (bshl .u64 (u64.wrap h) 2)) 2) (u64.wrap (i64.wrap (7 * k))))) (i64.wrap (s6+1)) (jq j 0 4 (jp ⟨b1,0,none⟩::ju (bor .u64 (bor .u64 1 (bshl .u64 (u64.wrap h) 2)) 2)::jq j 6 5 [ji s6,jf s1 1,js a b c,jn b,jb (decide ((s6:Int)<(b:Nat))),ji s6,ji (i64.wrap (s6+1)),jf s1 1,js d f g,ji s6,jp ad,r.val,jp ⟨b1,1,none⟩,ji h,ju (u64.wrap h),ju (bshl .u64 (u64.wrap h) 2),ju (bor .u64 1 (bshl .u64 (u64.wrap h) 2)),jp ⟨b1,2,none⟩,jb i,ju (bor .u64 1 (bshl .u64 (u64.wrap h) 2)),ju (bor .u64 (bor .u64 1 (bshl .u64 (u64.wrap h) 2)) 2),ju s5,ju (bor .u64 (bor .u64 1 (bshl .u64 (u64.wrap h) 2)) 2),jp ⟨b1,0,none⟩,ji k,ji (i64.wrap (7 * k)),ju (u64.wrap (i64.wrap (7 * k))),ju (bshl .u64 (bor .u64 (bor .u64 1 (bshl .u64 (u64.wrap h) 2)) 2) (u64.wrap (i64.wrap (7 * k)))),ju (bor .u64 s5 (bshl .u64 (bor .u64 (bor .u64 1 (bshl .u64 (u64.wrap h) 2)) 2) (u64.wrap (i64.wrap (7 * k))))),jg j 40]))) w2) else (∃ l,w2.cell? ⟨b1,0,none⟩=some (.int .i64 l)∧0≤(u64.wrap (i64.wrap (7 * l)))∧N1 (ek s1 (bor .u64 s5 (bshl .u64 (bor .u64 1 (bshl .u64 (u64.wrap h) 2)) (u64.wrap (i64.wrap (7 * l))))) (i64.wrap (s6+1)) (jq j 0 4 (jp ⟨b1,0,none⟩::ju (bor .u64 1 (bshl .u64 (u64.wrap h) 2))::jq j 6 5 [ji s6,jf s1 1,js a b c,jn b,jb (decide ((s6:Int)<(b:Nat))),ji s6,ji (i64.wrap (s6+1)),jf s1 1,js d f g,ji s6,jp ad,r.val,jp ⟨b1,1,none⟩,ji h,ju (u64.wrap h),ju (bshl .u64 (u64.wrap h) 2),ju (bor .u64 1 (bshl .u64 (u64.wrap h) 2)),jp ⟨b1,2,none⟩,jb i,jg j 30,jg j 31,ju s5,ju (bor .u64 1 (bshl .u64 (u64.wrap h) 2)),jp ⟨b1,0,none⟩,ji l,ji (i64.wrap (7 * l)),ju (u64.wrap (i64.wrap (7 * l))),ju (bshl .u64 (bor .u64 1 (bshl .u64 (u64.wrap h) 2)) (u64.wrap (i64.wrap (7 * l)))),ju (bor .u64 s5 (bshl .u64 (bor .u64 1 (bshl .u64 (u64.wrap h) 2)) (u64.wrap (i64.wrap (7 * l))))),jg j 40]))) w2))) else (W prog (sub (aA f104) [1,1,1,1]) (kr s5 (jg j 0::jp s1::jg j 1::jg j 2::jg j 3::ji s6::jq j 4 7 (ji s6::jf s1 1::js a b c::jn b::jb (decide ((s6:Int)<(b:Nat)))::jq j 16 25 []))) (retQ prog f104 R) w))):=by kernel_rfl
theorem od (s5:Int) (j:LV):W prog (sub (aA f104) [1,1,1,1]) (kr s5 j) (retQ prog f104 R) w=(R (.tuple #[.int .u64 s5,.int .i64 0]) w):=by kernel_rfl
end Go.Proofs.YtafopfaomkklpaaGreat
namespace Go.Proofs.YtafopfaomkklpaaGreat
open Go.Eng
theorem qT (w:World) {i:Int} (h0:0≤i) (h1:i<16):Does 52 [.int .i64 i] w λv w'=>v=.int .i64 (8+i)∧w'=w:=by
 refine does Tryz.func52 ?_
 rw [nq]
 refine aD (λh=>absurd h (by omega)) (λ_=>aD (λh=>absurd h (by omega)) (λ_=>⟨?_,rfl⟩))
 rw [w64 (by omega) (by omega)]
theorem Aw (w:World) {i:Int} (h0:0≤i) (h1:i<6):Does 75 [.int .i64 i] w λv w'=>v=.int .i64 (24+i)∧w'=w:=by
 refine does Tryz.func75 ?_
 rw [m7]
 refine aC (i2 w i) ?_
 rintro v w1 ⟨rfl,rfl⟩
 refine ⟨_,rfl,eE (by simp;omega) ⟨?_,rfl⟩⟩
 rw [w64 (by omega) (by omega)]
end Go.Proofs.YtafopfaomkklpaaGreat
namespace Go.Proofs.YtafopfaomkklpaaGreat
open Go.Eng
end Go.Proofs.YtafopfaomkklpaaGreat
namespace Go.Proofs.YtafopfaomkklpaaGreat
open Go.Eng
theorem rd_w {u:World} {a:Option Addr} {l:List Int} (h:Rd u a (us l)) {i:Nat} {x:Int} (hx:l[i]?=some x) {z:Int} (hz:z=i) {n:Nat} (hn:n=l.length) {K:Addr→Prop}
  (hk:∀ b o,(∀ y,New u y→y.cell? ⟨b,o,none⟩=some (.int .u64 x))→K ⟨b,o,none⟩):idxS a n z 1 K:=by
 subst hz hn
 have hlt:=cN hx
 have hxx:(us l)[i]?=some (.int .u64 x):=C6 hx
 rcases h with he | ⟨b,o,rfl,hc⟩
 ·rw [he] at hxx;cases hxx
 ·refine bI (by omega) (by omega) ?_
  have:=hk b (o+i) λy hy=>(Rd.new hy (.inr ⟨b,o,rfl,hc⟩)).cell hxx
  simpa using this
end Go.Proofs.YtafopfaomkklpaaGreat
namespace Go.Proofs.YtafopfaomkklpaaGreat
open Go.Eng
end Go.Proofs.YtafopfaomkklpaaGreat
namespace Go.Proofs.YtafopfaomkklpaaGreat
open Go.Eng
end Go.Proofs.YtafopfaomkklpaaGreat
namespace Go.Proofs.YtafopfaomkklpaaGreat
open Go.Eng
theorem Ax (n:Nat):reps n [.int .u64 0]=us (List.replicate n 0):=by simp [reps,us]
end Go.Proofs.YtafopfaomkklpaaGreat
