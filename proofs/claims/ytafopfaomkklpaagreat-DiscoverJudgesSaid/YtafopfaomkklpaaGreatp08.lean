/- This claim proves that the law DiscoverJudges returns true for every input: replies are judged as the reference judges them. -/
import Derived.Test.YtafopfaomkklpaaGreatp07
set_option linter.unusedVariables false
namespace Go.Proofs.YtafopfaomkklpaaGreat
open Go.Proofs.Tryz
open Go.Eng
abbrev TU:TypeId:=32
abbrev TNd:TypeId:=162
abbrev TCl:TypeId:=166
abbrev TPr:TypeId:=189
abbrev TPe:TypeId:=234
abbrev TSPr:TypeId:=158
abbrev TFb:TypeId:=160
abbrev bY:=aP
structure CliR where
 Alive:Bool
 Inc:Int
 On:Bool
 Done:Option Addr
 Dl:Nat
 Dc:Nat
 Have:Option Addr
 Hl:Nat
 Hc:Nat
 Trips:Int
 Posted:Int
def CliR.cells (r:CliR):List Value:=[.bool r.Alive,.int .i64 r.Inc,.bool r.On,.slice r.Done r.Dl r.Dc,.slice r.Have r.Hl r.Hc,.int .i64 r.Trips,.int .i64 r.Posted]
theorem CliR.len (r:CliR):r.cells.length=7:=rfl
theorem CliR.single (r:CliR):∀ u ∈ r.cells,single u=true:=by
 intro u hu
 simp only [CliR.cells,List.mem_cons,List.not_mem_nil,or_false] at hu
 rcases hu with rfl | rfl | rfl | rfl | rfl | rfl | rfl<;>rfl
structure bQ where
 Client:Int
 Inc:Int
 Node:Int
 Queue:Option Addr
 Ql:Nat
 Qc:Nat
def bQ.cells (r:bQ):List Value:=[.int .i64 r.Client,.int .i64 r.Inc,.int .i64 r.Node,.slice r.Queue r.Ql r.Qc]
theorem bQ.len (r:bQ):r.cells.length=4:=rfl
theorem bQ.single (r:bQ):∀ u ∈ r.cells,single u=true:=by
 intro u hu
 simp only [bQ.cells,List.mem_cons,List.not_mem_nil,or_false] at hu
 rcases hu with rfl | rfl | rfl | rfl<;>rfl
def fabC (lines:Int) (nb nn nc cb cn cc lb ln lc:Nat):List Value:=[.int .i64 lines,.slice (some ⟨nb,0,none⟩) nn nc,.slice (some ⟨cb,0,none⟩) cn cc,.slice (some ⟨lb,0,none⟩) ln lc,.slice none 0 0]
theorem pj {α:Type} {cells:α→List Value} {sz:Nat} (hsz:∀ x,(cells x).length=sz):∀ (l:List α),((l.map cells).flatten).length=l.length * sz
 | []=>by simp
 |x::l=>by rw [List.map_cons,List.flatten_cons,List.length_append,hsz,pj hsz l,List.length_cons,Nat.succ_mul];omega
theorem si {α:Type} {cells:α→List Value} {sz:Nat} (hsz:∀ x,(cells x).length=sz):∀ (l:List α) (i j:Nat) (r:α) (v:Value),l[i]?=some r→(cells r)[j]?=some v→((l.map cells).flatten)[i * sz+j]?=some v
 | [],i,j,r,v,h,_=>by simp at h
 |x::l,0,j,r,v,h,hv=>by
  simp only [List.getElem?_cons_zero,Option.some.injEq] at h
  subst h
  have:=dH hv
  rw [List.map_cons,List.flatten_cons,List.getElem?_append_left (by omega),Nat.zero_mul,Nat.zero_add]
  exact hv
 |x::l,i+1,j,r,v,h,hv=>by
  rw [List.getElem?_cons_succ] at h
  have hx:=hsz x
  have e:(i+1) * sz+j=(cells x).length+(i * sz+j):=by rw [hx,Nat.succ_mul];omega
  rw [List.map_cons,List.flatten_cons,e,List.getElem?_append_right (by omega),Nat.add_sub_cancel_left]
  exact si hsz l i j r v h hv
theorem zx {α:Type} {cells:α→List Value} {sz:Nat} (hsz:∀ x,(cells x).length=sz):∀ (l:List α) (i j:Nat) (r r':α) (v:Value),l[i]?=some r→j<sz→(cells r).set j v=cells r'→((l.map cells).flatten).set (i * sz+j) v=((l.set i r').map cells).flatten
 | [],i,j,r,r',v,h,_,_=>by simp at h
 |x::l,0,j,r,r',v,h,hj,hv=>by
  simp only [List.getElem?_cons_zero,Option.some.injEq] at h
  subst h
  rw [List.map_cons,List.flatten_cons,List.set_append_left _ _ (by rw [hsz];omega),Nat.zero_mul,Nat.zero_add,hv]
  rfl
 |x::l,i+1,j,r,r',v,h,hj,hv=>by
  rw [List.getElem?_cons_succ] at h
  have hx:=hsz x
  have e:(i+1) * sz+j=(cells x).length+(i * sz+j):=by rw [hx,Nat.succ_mul];omega
  rw [List.map_cons,List.flatten_cons,e,List.set_append_right _ _ (by omega),Nat.add_sub_cancel_left,zx hsz l i j r r' v h hj hv]
  rfl
theorem Owns.blk {w:World} {e sz n cap g:Nat} {xs:List Value} (h:Owns w e sz (some ⟨g,0,none⟩) n cap xs):∃ cur,Blk w g cur e∧n * sz≤cur.length∧cur.take (n * sz)=xs:=by
 rcases h.2 with ⟨h0,_⟩ | ⟨g',cur,he,hb,hle,hc,hl,ht⟩
 ·cases h0
 ·simp only [Option.some.injEq,Addr.mk.injEq,and_true] at he
  subst he
  exact ⟨cur,hb,by rw [hl];exact Nat.mul_le_mul_right _ hle,ht⟩
theorem Owns.cell {w:World} {e sz n cap g:Nat} {xs:List Value} (h:Owns w e sz (some ⟨g,0,none⟩) n cap xs) {i:Nat} {v:Value} (hi:xs[i]?=some v):w.cell? ⟨g,i,none⟩=some v:=by
 obtain ⟨cur,hb,_,ht⟩:=Owns.blk h
 refine hb.cell ?_
 rw [←ht] at hi
 have:=dH hi
 rw [List.length_take] at this
 rw [List.getElem?_take_of_lt (by omega)] at hi
 exact hi
theorem Owns.frozen {w:World} {e sz n cap g i:Nat} {xs:List Value} (h:Owns w e sz (some ⟨g,0,none⟩) n cap xs):w.frozen? ⟨g,i,none⟩=false:=by
 obtain ⟨cur,hb,_⟩:=Owns.blk h
 exact hb.frozen
theorem Owns.row {α:Type} {cells:α→List Value} {sz:Nat} (hsz:∀ x,(cells x).length=sz) {w:World} {e n cap g:Nat} {l:List α} (h:Owns w e sz (some ⟨g,0,none⟩) n cap (l.map cells).flatten) {i j:Nat} {r:α} {v:Value} (hr:l[i]?=some r) (hv:(cells r)[j]?=some v):w.cell? ⟨g,i * sz+j,none⟩=some v:=
 Owns.cell h (si hsz l i j r v hr hv)
theorem Owns.setRow {α:Type} {cells:α→List Value} {sz:Nat} (hsz:∀ x,(cells x).length=sz) {w:World} {e n cap g:Nat} {l:List α} (h:Owns w e sz (some ⟨g,0,none⟩) n cap (l.map cells).flatten) {i j:Nat} {r r':α} {v:Value} (hr:l[i]?=some r) (hj:j<sz) (hv:(cells r).set j v=cells r') :
  Owns (w.setCell ⟨g,i * sz+j,none⟩ v) e sz (some ⟨g,0,none⟩) n cap ((l.set i r').map cells).flatten:=by
 have hl:=h.1
 rw [pj hsz] at hl
 have hlt:=dH hr
 have h2:(i+1) * sz≤l.length * sz:=Nat.mul_le_mul_right _ hlt
 rw [Nat.succ_mul] at h2
 have h1:=Owns.setCell h (i:=i * sz+j) (by omega) v
 rw [zx hsz l i j r r' v hr hj hv] at h1
 exact h1
theorem qt {α:Type} {cells:α→List Value} {sz:Nat} {S e:TypeId} {inf:TypeInfo} {z:Value} (hcs:∀ x,(cells x).length=sz) (hsg:∀ x,∀ v ∈ cells x,single v=true)
  (ht:prog.underlying S=some (.slice e)) (hi:prog.info? e=some inf) (hz:inf.zero=some z) (hzs:z.cells.size=inf.size) (his:inf.size=sz) (h0:0<sz) (hby:inf.bytes≤1000)
  {u:World} {a:Option Addr} {n cap:Nat} {l:List α} (ho:Owns u e sz a n cap (l.map cells).flatten) {s:Option Addr} {m c:Nat} {l2:List α} (hs:Rd u s (l2.map cells).flatten) (hm:m=l2.length) (hn:n+m≤1000000) {K:Option Addr→Nat→Nat→World→Prop}
  (hk:∀ ap cap' w3,Owns w3 e sz ap (n+m) cap' ((l++l2).map cells).flatten→Keep (isB a) u w3→(∀ k,isB ap k→isB a k∨u.heap.size≤k)→K ap (n+m) cap' w3) :
  ∃ (ap:Option Addr) (ap_len ap_cap:Nat),∃ w3,(Builtin.append_ #[S,S] S #[(.slice a n cap),(.slice s m c)]).run prog u=.ok (.slice ap ap_len ap_cap) w3∧K ap ap_len ap_cap w3:=by
 subst his
 have hbb:(n+m) * inf.bytes≤1000000 * 1000:=Nat.mul_le_mul hn hby
 have hsing:∀ x ∈ (l2.map cells).flatten,single x=true:=by
  intro x hx
  obtain ⟨r,hr,hx⟩:=List.mem_flatten.1 hx
  obtain ⟨y,_,rfl⟩:=List.mem_map.1 hr
  exact hsg y x hx
 obtain ⟨ap,cap',w7,hrun,hown,hkp,hap⟩:=Owns.append (P:=prog) (t:=S) (ty:=S) ht hi hz hzs h0 ho (s:=s) (m:=m) (c:=c) (news:=(l2.map cells).flatten) (by rw [pj hcs,hm]) hs hsing (by omega) (by omega)
 have e1:(l.map cells).flatten++(l2.map cells).flatten=((l++l2).map cells).flatten:=by simp
 rw [e1] at hown
 refine ⟨ap,n+m,cap',w7,hrun,hk ap cap' w7 hown hkp λk hk=>?_⟩
 rcases hap with e | e
 ·exact .inl (e▸hk)
 ·obtain ⟨o,ho⟩:=hk
  rw [e] at ho
  simp at ho
  exact .inr (by omega)
def CU (x:Int):List Value:=[.int .u64 x]
theorem ut (l:List Int):(l.map CU).flatten=us l:=by
 induction l with
 |nil=>rfl
 |cons x l ih=>rw [List.map_cons,List.flatten_cons,ih];rfl
theorem xo {u:World} {a:Option Addr} {n cap:Nat} {l:List Int} (ho:Owns u TU 1 a n cap (us l)) {s:Option Addr} {m c:Nat} {l2:List Int} (hs:Rd u s (us l2)) (hm:m=l2.length) (hn:n+m≤1000000) {K:Option Addr→Nat→Nat→World→Prop}
  (hk:∀ ap cap' w3,Owns w3 TU 1 ap (n+m) cap' (us (l++l2))→Keep (isB a) u w3→(∀ k,isB ap k→isB a k∨u.heap.size≤k)→K ap (n+m) cap' w3) :
  ∃ (ap:Option Addr) (ap_len ap_cap:Nat),∃ w3,(Builtin.append_ #[34,34] 34 #[(.slice a n cap),(.slice s m c)]).run prog u=.ok (.slice ap ap_len ap_cap) w3∧K ap ap_len ap_cap w3:=by
 obtain ⟨inf,hi,hz,hsz,hby⟩:=qj (T:=32) (z:=.int .u64 0) (n:=1) (m:=8) (by kernel_rfl)
 refine qt (cells:=CU) (sz:=1) (λ_=>rfl) (λx v hv=>by simp [CU] at hv;subst hv;rfl) Tryz.underlying34 hi hz (by rw [hsz];rfl) hsz (by omega) (by omega) (l:=l) (by rw [ut];exact ho) (l2:=l2) (by rw [ut];exact hs) hm hn λap cap' w3 h1 h2 h3=>hk ap cap' w3 (by rw [ut] at h1;exact h1) h2 h3
theorem noB {k:Nat}:¬ isB none k:=λh=>by obtain ⟨o,ho⟩:=h;cases ho
theorem Bj {u:World} {s:Option Addr} {m c:Nat} {l:List Int} (hs:Rd u s (us l)) (hm:m=l.length) (hn:m≤1000000) {K:Option Addr→Nat→Nat→World→Prop}
  (hk:∀ ap cap' w3,Owns w3 TU 1 ap m cap' (us l)→New u w3→(∀ k,isB ap k→u.heap.size≤k)→K ap m cap' w3) :
  ∃ (ap:Option Addr) (ap_len ap_cap:Nat),∃ w3,(Builtin.append_ #[34,34] 34 #[(.slice none 0 0),(.slice s m c)]).run prog u=.ok (.slice ap ap_len ap_cap) w3∧K ap ap_len ap_cap w3:=by
 refine xo (l:=[]) (Owns.nil u TU 1) hs hm (by omega) λap cap' w3 h1 h2 h3=>?_
 rw [Nat.zero_add] at h1 ⊢
 exact hk ap cap' w3 h1 (h2.mono λk _ h=>noB h) λk hb=>(h3 k hb).resolve_left noB
def U64B (w:World) (b n:Nat):Prop:=∃ ws:List Int,Blk w b (us ws) TU∧ws.length=n∧∀ x ∈ ws,U64 x
theorem U64B.keep {M:Nat→Prop} {w w':World} (h:Keep M w w') {b n:Nat} (hb:U64B w b n) (hm:¬ M b):U64B w' b n:=by
 obtain ⟨ws,h1,h2,h3⟩:=hb
 exact ⟨ws,h.blk h1 hm,h2,h3⟩
theorem U64B.new {w w':World} (h:New w w') {b n:Nat} (hb:U64B w b n):U64B w' b n:=hb.keep h id
theorem FF (l:List Int) (i:Nat) (x:Int):(us l).set i (.int .u64 x)=us (l.set i x):=by simp [us,List.map_set]
theorem U64B.set {w:World} {b n:Nat} (hb:U64B w b n) (b' i:Nat) {x:Int} (hx:U64 x):U64B (w.setCell ⟨b',i,none⟩ (.int .u64 x)) b n:=by
 obtain ⟨ws,h1,h2,h3⟩:=hb
 by_cases e:b=b'
 ·subst e
  refine ⟨ws.set i x,?_,by rw [List.length_set];exact h2,λy hy=>?_⟩
  ·have:=h1.setCell (i:=i) (.int .u64 x)
   rw [FF] at this
   exact this
  ·rcases List.mem_or_eq_of_mem_set hy with h | h
   ·exact h3 y h
   ·rw [h];exact hx
 ·exact ⟨ws,h1.setCell_ne e _,h2,h3⟩
theorem U64B.lt {w:World} {b n:Nat} (hb:U64B w b n):b<w.heap.size:=by
 obtain ⟨ws,h1,_⟩:=hb
 exact h1.lt
theorem U64B.get {w:World} {b n:Nat} (hb:U64B w b n) {i:Nat} (hi:i<n):∃ x,w.cell? ⟨b,i,none⟩=some (.int .u64 x)∧U64 x:=by
 obtain ⟨ws,h1,h2,h3⟩:=hb
 have hg:ws[i]?=some ws[i]:=List.getElem?_eq_getElem (by omega)
 exact ⟨ws[i],h1.cell (D1 hg),h3 _ (List.getElem_mem _)⟩
theorem U64B.frozen {w:World} {b n i:Nat} (hb:U64B w b n):w.frozen? ⟨b,i,none⟩=false:=by
 obtain ⟨ws,h1,_⟩:=hb
 exact h1.frozen
theorem U64B.ne {w:World} {b n b':Nat} {cs:List Value} {T:TypeId} (hb:U64B w b n) (h':Blk w b' cs T) (hT:TU≠T):b≠b':=by
 obtain ⟨ws,h1,_⟩:=hb
 exact h1.ne h' hT
structure Fa where
 lines:Nat
 nb:Nat
 nc:Nat
 cb:Nat
 cc:Nat
 lb:Nat
 lc:Nat
 pb:Nat→Nat
 pc:Nat→Nat
def pR (w:World) (lines:Nat) (r:bY):Prop:=∃ b,r.Words=some ⟨b,0,none⟩∧r.Words_l=lines * 8∧r.Words_c=lines * 8∧U64B w b (lines * 8)
def Bk (F:Fa) (n C:Nat):List Value:=(List.range C).map λc=>.slice (some ⟨F.pb c,0,none⟩) n (F.pc c)
structure cZ (w:World) (fb:Nat) (F:Fa) (N:List bY) (Cl:List CliR) (P:Nat→List bQ):Prop where
 fab:Blk w fb (fabC F.lines F.nb N.length F.nc F.cb Cl.length F.cc F.lb Cl.length F.lc) TFb
 nodes:Owns w TNd 2 (some ⟨F.nb,0,none⟩) N.length F.nc (N.map aP.cells).flatten
 nok:∀ r ∈ N,pR w F.lines r
 clients:Owns w TCl 7 (some ⟨F.cb,0,none⟩) Cl.length F.cc (Cl.map CliR.cells).flatten
 alive:∀ r ∈ Cl,r.Alive=true
 live:Owns w TSPr 1 (some ⟨F.lb,0,none⟩) Cl.length F.lc (Bk F N.length Cl.length)
 pairs:∀ c,c<Cl.length→Owns w TPr 4 (some ⟨F.pb c,0,none⟩) N.length (F.pc c) ((P c).map bQ.cells).flatten∧(P c).length=N.length
 inj:∀ c d,c<Cl.length→d<Cl.length→F.pb c=F.pb d→c=d
 n1:1≤N.length∧N.length≤5
 c1:1≤Cl.length∧Cl.length≤6
 ln:98≤F.lines∧F.lines≤256
def Fa.own (F:Fa) (fb:Nat) (N:List bY) (C:Nat) (k:Nat):Prop:=k=fb∨k=F.nb∨k=F.cb∨k=F.lb∨(∃ c,c<C∧k=F.pb c)∨∃ r ∈ N,isB r.Words k
def Idle (N:List bY) (Cl:List CliR) (P:Nat→List bQ):Prop:=(∀ r ∈ Cl,r.On=false)∧∀ c,c<Cl.length→∀ (i:Nat) (p:bQ),(P c)[i]?=some p→p.Ql=0∧p.Node=i∧p.Queue=none
theorem cZ.keep {M:Nat→Prop} {w w':World} (hk:Keep M w w') {fb:Nat} {F:Fa} {N:List bY} {Cl:List CliR} {P:Nat→List bQ} (h:cZ w fb F N Cl P) (hm:∀ k,F.own fb N Cl.length k→¬ M k):cZ w' fb F N Cl P:=by
 have one:∀ {b:Nat} {k:Nat},isB (some ⟨b,0,none⟩) k→k=b:=by
  rintro b k ⟨o,ho⟩
  simp at ho
  exact ho.1.symm
 refine ⟨hk.blk h.fab (hm _ (.inl rfl)),Owns.keep hk h.nodes λk hb=>hm k (.inr (.inl (one hb))),λr hr=>?_,Owns.keep hk h.clients λk hb=>hm k (.inr (.inr (.inl (one hb)))),h.alive,Owns.keep hk h.live λk hb=>hm k (.inr (.inr (.inr (.inl (one hb))))),λc hc=>⟨Owns.keep hk (h.pairs c hc).1 λk hb=>hm k (.inr (.inr (.inr (.inr (.inl ⟨c,hc,one hb⟩))))),(h.pairs c hc).2⟩,h.inj,h.n1,h.c1,h.ln⟩
 obtain ⟨b,h1,h2,h3,h4⟩:=h.nok r hr
 exact ⟨b,h1,h2,h3,h4.keep hk (hm b (.inr (.inr (.inr (.inr (.inr ⟨r,hr,0,h1⟩))))))⟩
theorem cZ.new {w w':World} (hn:New w w') {fb:Nat} {F:Fa} {N:List bY} {Cl:List CliR} {P:Nat→List bQ} (h:cZ w fb F N Cl P):cZ w' fb F N Cl P:=h.keep hn λ_ _=>id
end Go.Proofs.YtafopfaomkklpaaGreat
