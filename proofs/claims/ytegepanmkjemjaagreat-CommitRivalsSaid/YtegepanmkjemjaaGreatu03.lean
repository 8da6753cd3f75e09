import Derived.Test.YtegepanmkjemjaaGreatu02
import Derived.Test.YtegepanmkjemjaaGreatProg
import Derived.Test.YtegepanmkjemjaaGreatu01
set_option linter.unusedVariables false
namespace Go.Proofs.YtegepanmkjemjaaGreat
open Go.Proofs.Tryz
open Go.Eng
def I64 (x:Int):Prop:=-9223372036854775808≤x∧x<9223372036854775808
def U64 (x:Int):Prop:=0≤x∧x<18446744073709551616
theorem aP {α:Type} {l:List α} {i:Nat} {x:α} (h:l[i]?=some x):i<l.length:=(List.getElem?_eq_some_iff.1 h).1
def us (l:List Int):List Value:=l.map (Value.int .u64)
def is (l:List Int):List Value:=l.map (Value.int .i64)
theorem vg {l:List Int} {i:Nat} {x:Int} (h:l[i]?=some x):(us l)[i]?=some (.int .u64 x):=by simp [us,h]
theorem ld (l:List Int):(us l).length=l.length:=by simp [us]
theorem kA (l:List Int):∀ u ∈ us l,single u=true:=by
 intro u hu
 simp only [us,List.mem_map] at hu
 obtain ⟨x,_,rfl⟩:=hu
 rfl
theorem zz (l:List Int):∀ u ∈ is l,single u=true:=by
 intro u hu
 simp only [is,List.mem_map] at hu
 obtain ⟨x,_,rfl⟩:=hu
 rfl
theorem ic {u:World} {b:Nat} {cs vs:List Value} {T:TypeId} {K:World→Prop} (hb:Blk u b cs T) (hl:vs.length=cs.length) (hs:∀ v ∈ vs,single v=true) (hk:∀ w',Blk w' b vs T→Keep (λk=>k=b) u w'→K w') :
  wrAt u ⟨b,0,none⟩ 0 vs∧∀ w',w'=puts u ⟨b,0,none⟩ 0 vs→K w':=by
 refine ⟨cH hb (by omega) hs,?_⟩
 rintro w' rfl
 refine hk _ ?_ (dL _ _ _ _ _)
 have h:=hb.puts (o:=0) (i:=0) (vs:=vs)
 rw [ia hl] at h
 exact h
theorem ii {u:World} {zs vs:List Value} {T:TypeId} {K:Nat→World→Prop} (hl:vs.length=zs.length) (hs:∀ v ∈ vs,single v=true) (hk:∀ b w',b=u.heap.size→Blk w' b vs T→New u w'→K b w') :
  ∀ b1 w1,b1=u.heap.size→w1=u.alloc (.cells zs.toArray T)→wrAt w1 ⟨b1,0,none⟩ 0 vs∧∀ w2,w2=puts w1 ⟨b1,0,none⟩ 0 vs→K b1 w2:=by
 rintro b1 w1 hb1 hw1
 obtain ⟨hz,hn⟩:=aN hb1 hw1
 refine ic hz (by simpa using hl) hs λw' hb' hk'=>hk b1 w' hb1 hb' (hn.trans hk' λk hlt e=>?_)
 omega
theorem jN {u z w3:World} {a:Option Addr} (hn:New u z) (hk:Keep (isB a) z w3) (ha:∀ k,isB a k→u.heap.size≤k):New u w3:=
 hn.trans hk λk hlt hb=>by have:=ha k hb;omega
theorem gz {α:Type} {cells:α→List Value} {sz:Nat} (hsz:∀ x,(cells x).length=sz) (h0:0<sz) {u:World} {a:Option Addr} {l:List α} (h:Rd u a (l.map cells).flatten) {i:Nat} {x:α} (hx:l[i]?=some x) {z:Int} (hz:z=i) {n:Nat} (hn:n=l.length) {K:Addr→Prop}
  (hk:∀ b o,aE u ⟨b,o,none⟩ 0 (cells x)→(∀ (q:Nat) (v:Value),(cells x)[q]?=some v→u.cell? ⟨b,o+q,none⟩=some v)→K ⟨b,o,none⟩):idxS a n z sz K:=by
 subst hz hn
 have hlt:=aP hx
 obtain ⟨b,o,rfl,h1,h2⟩:=h.row (sz:=sz) (λr hr=>by obtain ⟨y,_,rfl⟩:=List.mem_map.1 hr;exact hsz y) h0 (i:=i) (r:=cells x) (by simp [hx])
 exact aX (by omega) (by omega) (by simpa using hk b _ h1 h2)
theorem lq {α:Type} {cells:α→List Value} {sz:Nat} (hsz:∀ x,(cells x).length=sz) (h0:0<sz) {u:World} {a:Option Addr} {l:List α} (h:Rd u a (l.map cells).flatten) {i:Nat} {x:α} (hx:l[i]?=some x) {z:Int} (hz:z=i) {n:Nat} (hn:n=l.length) {K:Addr→Prop}
  (hk:∀ b o,(∀ y,New u y→∀ (q:Nat) (v:Value),(cells x)[q]?=some v→y.cell? ⟨b,o+q,none⟩=some v)→K ⟨b,o,none⟩):idxS a n z sz K:=by
 subst hz hn
 have hlt:=aP hx
 have hs:∀ r ∈ l.map cells,r.length=sz:=λr hr=>by obtain ⟨y,_,rfl⟩:=List.mem_map.1 hr;exact hsz y
 obtain ⟨b,o,rfl,h1,h2⟩:=h.row (sz:=sz) hs h0 (i:=i) (r:=cells x) (by simp [hx])
 refine aX (by omega) (by omega) ?_
 have:=hk b (o+i * sz) λy hy q v hv=>by
  obtain ⟨b',o',e,_,g2⟩:=(h.new hy).row (sz:=sz) hs h0 (i:=i) (r:=cells x) (by simp [hx])
  simp at e
  obtain ⟨rfl,rfl⟩:=e
  exact g2 q v hv
 simpa using this
theorem m7 {x:Int} (h0:0≤x) (h1:x<18446744073709551616):IntKind.u64.wrap x=x:=by
 simp only [IntKind.wrap,IntKind.bits,IntKind.signed];simp;omega
theorem pE (n:Nat):BitVec.ofInt 64 (n:Int)=BitVec.ofNat 64 n:=by
 apply BitVec.eq_of_toInt_eq
 simp
theorem wM (a b:Nat) (ha:a<18446744073709551616) (hb:b<18446744073709551616):bor .u64 (a:Int) (b:Int)=((a ||| b:Nat):Int):=by
 have hab:a ||| b<2 ^ 64:=Nat.or_lt_two_pow (by omega) (by omega)
 unfold bor
 show IntKind.u64.wrap ((BitVec.ofInt 64 (a:Int) ||| BitVec.ofInt 64 (b:Int)).toNat:Int)=_
 rw [pE,pE,BitVec.toNat_or,BitVec.toNat_ofNat,BitVec.toNat_ofNat,Nat.mod_eq_of_lt (by omega),Nat.mod_eq_of_lt (by omega)]
 exact m7 (by omega) (by omega)
theorem BI (a b:Nat) (ha:a<18446744073709551616) (hb:b<18446744073709551616):band .u64 (a:Int) (b:Int)=((a &&& b:Nat):Int):=by
 have hab:a &&& b<2 ^ 64:=Nat.and_lt_two_pow _ (by omega)
 unfold band
 show IntKind.u64.wrap ((BitVec.ofInt 64 (a:Int) &&& BitVec.ofInt 64 (b:Int)).toNat:Int)=_
 rw [pE,pE,BitVec.toNat_and,BitVec.toNat_ofNat,BitVec.toNat_ofNat,Nat.mod_eq_of_lt (by omega),Nat.mod_eq_of_lt (by omega)]
 exact m7 (by omega) (by omega)
theorem Da (a b k:Nat) (hb:b<2 ^ k):a * 2 ^ k ||| b=a * 2 ^ k+b:=by
 rw [Nat.mul_comm,Nat.two_pow_add_eq_or_of_lt hb]
theorem mI {u:World} {b o:Nat} {cs:List Value} {T:TypeId} {v:Value} {K:World→Prop} (hb:Blk u b cs T) (ho:o<cs.length) (hk:∀ w',Blk w' b (cs.set o v) T→Keep (λk=>k=b) u w'→K w') :
  (∃ x,u.cell? ⟨b,o,none⟩=some x)∧u.frozen? ⟨b,o,none⟩=false∧∀ w',w'=u.setCell ⟨b,o,none⟩ v→K w':=
 ⟨⟨_,hb.cell (List.getElem?_eq_getElem ho)⟩,hb.frozen,λw' h=>by subst h;exact hk _ (hb.setCell v) (aQ _ _ _ _)⟩
theorem BJ {P:Program} {f:FuncId} {first captured args xs:Array Value} {w:World} {R:Ending→World→Prop} (ho:mh P f=true) (hx:first++args++captured=xs) (h:Calls P f xs w R):ta P (.func (.func f) first captured) args w R:=by
 unfold ta
 simp only [ho]
 rw [hx]
 exact h
theorem nV {P:Program} {f:FuncId} {first captured args xs:Array Value} {w:World} {R:Ending→World→Prop} (ho:mh P f=true) (hx:first++args++captured=xs) (h:Calls P f xs w R):n0 P (.func (.func f) first captured) args w R:=by
 unfold n0
 exact BJ ho hx h
theorem vh {w:Int} (h0:0≤w) (h1:w<18446744073709551616) (k:Nat) (hk:k<64):band .u64 w ((2 ^ k - 1:Nat):Int)=w % (2 ^ k:Nat):=by
 obtain ⟨n,rfl⟩:=Int.eq_ofNat_of_zero_le h0
 have:2 ^ k<2 ^ 64:=Nat.pow_lt_pow_right (by decide) hk
 rw [BI _ _ (by omega) (by omega),Nat.and_two_pow_sub_one_eq_mod]
 simp
theorem push_k {S e:TypeId} {i:TypeInfo} {z:Value} (ht:prog.underlying S=some (.slice e)) (hi:prog.info? e=some i) (hz:i.zero=some z) (hzs:z.cells.size=i.size) (hsz:0<i.size)
  {u:World} {a:Option Addr} {n cap:Nat} {xs:List Value} (ho:Owns u e i.size a n cap xs) {vs:List Value} (hl:vs.length=i.size) (hs:∀ v ∈ vs,single v=true) (hb1:n≤1000000000) (hb2:i.bytes≤1000) {K:Nat→Option Addr→Nat→Nat→World→Prop}
  (hk:∀ b ap cap' w3,b=u.heap.size→Owns w3 e i.size ap (n+1) cap' (xs++vs)→Keep (isB a) u w3→(∀ k,isB ap k→isB a k∨u.heap.size≤k)→K b ap (n+1) cap' w3) :
  ∀ b1 w2,b1=u.heap.size→w2=u.alloc (.cells vs.toArray e)→∃ (ap:Option Addr) (ap_len ap_cap:Nat),∃ w3,(Builtin.append_ #[S,S] S #[(.slice a n cap),(.slice (some ⟨b1,0,none⟩) 1 1)]).run prog w2=.ok (.slice ap ap_len ap_cap) w3∧K b1 ap ap_len ap_cap w3:=by
 rintro b1 w2 hb hw
 obtain ⟨hz2,hn2⟩:=aN hb hw
 have hbb:(n+1) * i.bytes≤1000000001 * 1000:=Nat.mul_le_mul (by omega) hb2
 obtain ⟨ap,cap',w7,hrun,hown7,hk7,hap⟩:=Owns.append (P:=prog) (t:=S) (ty:=S) ht hi hz hzs hsz (Owns.new hn2 ho)
  (s:=some ⟨b1,0,none⟩) (m:=1) (c:=1) (news:=vs) (by omega) (fS hz2 (by simp)) hs (by omega) (by omega)
 refine ⟨ap,n+1,cap',w7,hrun,hk b1 ap cap' w7 hb hown7 ((Keep.of_new hn2).trans hk7 λ_ _ h=>h) λk hk=>?_⟩
 rcases hap with e | e
 ·exact .inl (e▸hk)
 ·obtain ⟨o,ho⟩:=hk
  rw [e] at ho
  simp at ho
  have:=hn2.size
  omega
theorem q7 {M:Nat→Prop} {w:World} {a:Option Addr} {xs:List Value} (h:Rd w a xs) (ho:∀ k,isB a k→¬ M k):xs=[]∨Off M a:=by
 rcases h with h | ⟨b,o,rfl,_⟩
 ·exact .inl h
 ·exact .inr (ho b ⟨o,rfl⟩)
theorem Owns.setCell {w:World} {e sz n cap g:Nat} {xs:List Value} (h:Owns w e sz (some ⟨g,0,none⟩) n cap xs) {i:Nat} (hi:i<n * sz) (v:Value):Owns (w.setCell ⟨g,i,none⟩ v) e sz (some ⟨g,0,none⟩) n cap (xs.set i v):=by
 rcases h.2 with ⟨h0,_⟩ | ⟨g',cur,he,hb,hle,hc,hl,ht⟩
 ·cases h0
 ·simp only [Option.some.injEq,Addr.mk.injEq,and_true] at he
  subst he
  refine ⟨by simp [h.1],.inr ⟨g,cur.set i v,rfl,hb.setCell v,hle,hc,by simp [hl],?_⟩⟩
  rw [←ht,List.take_set]
end Go.Proofs.YtegepanmkjemjaaGreat
namespace Go.Proofs.YtegepanmkjemjaaGreat
open Go.Proofs.Tryz
open Go.Eng
abbrev nx (f:Func) (p:List Nat) (R:Value→World→Prop):Exit→List Value→World→Prop:=seqQ (λenv w=>W prog (sub (aD f) p) env (retQ prog f R) w) (retQ prog f R)
structure aK where
 Kind:Int
 Node:Int
 At:Int
 N:Int
 Old:Int
 New:Int
 Words:Option Addr
 Wl:Nat
 Wc:Nat
 Key:Int
 Boot:Int
def aK.cells (r:aK):List Value:=[.int .i64 r.Kind,.int .i64 r.Node,.int .i64 r.At,.int .i64 r.N,.int .u64 r.Old,.int .u64 r.New,.slice r.Words r.Wl r.Wc,.int .u64 r.Key,.int .i64 r.Boot]
def aK.val (r:aK):Value:=.agg r.cells.toArray
def aK.ex (K:aK→Prop):Prop:=∃ (xKind:Int) (xNode:Int) (xAt:Int) (xN:Int) (xOld:Int) (xNew:Int) (xWords:Option Addr) (xWords_l:Nat) (xWords_c:Nat) (xKey:Int) (xBoot:Int),K ⟨xKind,xNode,xAt,xN,xOld,xNew,xWords,xWords_l,xWords_c,xKey,xBoot⟩
theorem aK.mk_ex {K:aK→Prop} (r:aK) (h:K r):aK.ex K:=⟨_,_,_,_,_,_,_,_,_,_,_,h⟩
theorem aK.len (r:aK):r.cells.length=9:=rfl
theorem aK.single (r:aK):∀ u ∈ r.cells,single u=true:=by
 intro u hu
 simp only [aK.cells,List.mem_cons,List.not_mem_nil,or_false] at hu
 rcases hu with rfl | rfl | rfl | rfl | rfl | rfl | rfl | rfl | rfl<;>rfl
structure bC where
 Code:Int
 Words:Option Addr
 Wl:Nat
 Wc:Nat
def bC.cells (r:bC):List Value:=[.int .i64 r.Code,.slice r.Words r.Wl r.Wc]
def bC.val (r:bC):Value:=.agg r.cells.toArray
def bC.ex (K:bC→Prop):Prop:=∃ (xCode:Int) (xWords:Option Addr) (xWords_l:Nat) (xWords_c:Nat),K ⟨xCode,xWords,xWords_l,xWords_c⟩
theorem bC.mk_ex {K:bC→Prop} (r:bC) (h:K r):bC.ex K:=⟨_,_,_,_,h⟩
theorem bC.len (r:bC):r.cells.length=2:=rfl
theorem bC.single (r:bC):∀ u ∈ r.cells,single u=true:=by
 intro u hu
 simp only [bC.cells,List.mem_cons,List.not_mem_nil,or_false] at hu
 rcases hu with rfl | rfl<;>rfl
structure aM where
 Number:Int
 Members:Option Addr
 Members_l:Nat
 Members_c:Nat
def aM.cells (r:aM):List Value:=[.int .i64 r.Number,.slice r.Members r.Members_l r.Members_c]
def aM.val (r:aM):Value:=.agg r.cells.toArray
def aM.ex (K:aM→Prop):Prop:=∃ (xNumber:Int) (xMembers:Option Addr) (xMembers_l:Nat) (xMembers_c:Nat),K ⟨xNumber,xMembers,xMembers_l,xMembers_c⟩
theorem aM.mk_ex {K:aM→Prop} (r:aM) (h:K r):aM.ex K:=⟨_,_,_,_,h⟩
theorem aM.single (r:aM):∀ u ∈ r.cells,single u=true:=by
 intro u hu
 simp only [aM.cells,List.mem_cons,List.not_mem_nil,or_false] at hu
 rcases hu with rfl | rfl<;>rfl
structure aL where
 Client:Int
 Seq:Int
 Lines:Int
 View:aM
 Reads:Option Addr
 Reads_l:Nat
 Reads_c:Nat
 Writes:Option Addr
 Writes_l:Nat
 Writes_c:Nat
def aL.cells (r:aL):List Value:=[.int .i64 r.Client,.int .i64 r.Seq,.int .i64 r.Lines,.int .i64 r.View.Number,.slice r.View.Members r.View.Members_l r.View.Members_c,.slice r.Reads r.Reads_l r.Reads_c,.slice r.Writes r.Writes_l r.Writes_c]
def aL.val (r:aL):Value:=.agg r.cells.toArray
def aL.ex (K:aL→Prop):Prop:=∃ (xClient:Int) (xSeq:Int) (xLines:Int) (xView_Number:Int) (xView_Members:Option Addr) (xView_Members_l:Nat) (xView_Members_c:Nat) (xReads:Option Addr) (xReads_l:Nat) (xReads_c:Nat) (xWrites:Option Addr) (xWrites_l:Nat) (xWrites_c:Nat),K ⟨xClient,xSeq,xLines,⟨xView_Number,xView_Members,xView_Members_l,xView_Members_c⟩,xReads,xReads_l,xReads_c,xWrites,xWrites_l,xWrites_c⟩
theorem aL.mk_ex {K:aL→Prop} (r:aL) (h:K r):aL.ex K:=⟨_,_,_,_,_,_,_,_,_,_,_,_,_,h⟩
theorem aL.single (r:aL):∀ u ∈ r.cells,single u=true:=by
 intro u hu
 simp only [aL.cells,List.mem_cons,List.not_mem_nil,or_false] at hu
 rcases hu with rfl | rfl | rfl | rfl | rfl | rfl | rfl<;>rfl
structure bW where
 Nodes:Int
def bW.cells (r:bW):List Value:=[.int .i64 r.Nodes]
def bW.val (r:bW):Value:=.agg r.cells.toArray
def bW.ex (K:bW→Prop):Prop:=∃ (xNodes:Int),K ⟨xNodes⟩
theorem bW.mk_ex {K:bW→Prop} (r:bW) (h:K r):bW.ex K:=⟨_,h⟩
theorem bW.single (r:bW):∀ u ∈ r.cells,single u=true:=by
 intro u hu
 simp only [bW.cells,List.mem_cons,List.not_mem_nil,or_false] at hu
 rcases hu with rfl<;>rfl
structure dY where
 Nodes:Int
 Number:Int
 Client:Int
 Round:Int
 Val:Int
def dY.cells (r:dY):List Value:=[.int .i64 r.Nodes,.int .i64 r.Number,.int .i64 r.Client,.int .i64 r.Round,.int .u64 r.Val]
def dY.val (r:dY):Value:=.agg r.cells.toArray
def dY.ex (K:dY→Prop):Prop:=∃ (xNodes:Int) (xNumber:Int) (xClient:Int) (xRound:Int) (xVal:Int),K ⟨xNodes,xNumber,xClient,xRound,xVal⟩
theorem dY.mk_ex {K:dY→Prop} (r:dY) (h:K r):dY.ex K:=⟨_,_,_,_,_,h⟩
theorem dY.single (r:dY):∀ u ∈ r.cells,single u=true:=by
 intro u hu
 simp only [dY.cells,List.mem_cons,List.not_mem_nil,or_false] at hu
 rcases hu with rfl | rfl | rfl | rfl | rfl<;>rfl
structure aB where
 Kind:Int
 Client:Int
 Discover:bW
 Paxos:dY
 Commit:aL
 Got:Option Addr
 Got_l:Nat
 Got_c:Nat
 Over:Bool
 Bad:Bool
 Code:Int
 View:aM
 Status:Int
 Doors:Option Addr
 Doors_l:Nat
 Doors_c:Nat
 Val:Int
 Fate:Int
def aB.cells (r:aB):List Value:=[.int .i64 r.Kind,.int .i64 r.Client,.int .i64 r.Discover.Nodes,.int .i64 r.Paxos.Nodes,.int .i64 r.Paxos.Number,.int .i64 r.Paxos.Client,.int .i64 r.Paxos.Round,.int .u64 r.Paxos.Val,.int .i64 r.Commit.Client,.int .i64 r.Commit.Seq,.int .i64 r.Commit.Lines,.int .i64 r.Commit.View.Number,.slice r.Commit.View.Members r.Commit.View.Members_l r.Commit.View.Members_c,.slice r.Commit.Reads r.Commit.Reads_l r.Commit.Reads_c,.slice r.Commit.Writes r.Commit.Writes_l r.Commit.Writes_c,.slice r.Got r.Got_l r.Got_c,.bool r.Over,.bool r.Bad,.int .i64 r.Code,.int .i64 r.View.Number,.slice r.View.Members r.View.Members_l r.View.Members_c,.int .i64 r.Status,.slice r.Doors r.Doors_l r.Doors_c,.int .u64 r.Val,.int .i64 r.Fate]
def aB.val (r:aB):Value:=.agg r.cells.toArray
def aB.ex (K:aB→Prop):Prop:=∃ (xKind:Int) (xClient:Int) (xDiscover_Nodes:Int) (xPaxos_Nodes:Int) (xPaxos_Number:Int) (xPaxos_Client:Int) (xPaxos_Round:Int) (xPaxos_Val:Int) (xCommit_Client:Int) (xCommit_Seq:Int) (xCommit_Lines:Int) (xCommit_View_Number:Int) (xCommit_View_Members:Option Addr) (xCommit_View_Members_l:Nat) (xCommit_View_Members_c:Nat) (xCommit_Reads:Option Addr) (xCommit_Reads_l:Nat) (xCommit_Reads_c:Nat) (xCommit_Writes:Option Addr) (xCommit_Writes_l:Nat) (xCommit_Writes_c:Nat) (xGot:Option Addr) (xGot_l:Nat) (xGot_c:Nat) (xOver:Bool) (xBad:Bool) (xCode:Int) (xView_Number:Int) (xView_Members:Option Addr) (xView_Members_l:Nat) (xView_Members_c:Nat) (xStatus:Int) (xDoors:Option Addr) (xDoors_l:Nat) (xDoors_c:Nat) (xVal:Int) (xFate:Int),K ⟨xKind,xClient,⟨xDiscover_Nodes⟩,⟨xPaxos_Nodes,xPaxos_Number,xPaxos_Client,xPaxos_Round,xPaxos_Val⟩,⟨xCommit_Client,xCommit_Seq,xCommit_Lines,⟨xCommit_View_Number,xCommit_View_Members,xCommit_View_Members_l,xCommit_View_Members_c⟩,xCommit_Reads,xCommit_Reads_l,xCommit_Reads_c,xCommit_Writes,xCommit_Writes_l,xCommit_Writes_c⟩,xGot,xGot_l,xGot_c,xOver,xBad,xCode,⟨xView_Number,xView_Members,xView_Members_l,xView_Members_c⟩,xStatus,xDoors,xDoors_l,xDoors_c,xVal,xFate⟩
theorem aB.mk_ex {K:aB→Prop} (r:aB) (h:K r):aB.ex K:=⟨_,_,_,_,_,_,_,_,_,_,_,_,_,_,_,_,_,_,_,_,_,_,_,_,_,_,_,_,_,_,_,_,_,_,_,_,_,h⟩
theorem aB.len (r:aB):r.cells.length=25:=rfl
theorem aB.single (r:aB):∀ u ∈ r.cells,single u=true:=by
 intro u hu
 simp only [aB.cells,List.mem_cons,List.not_mem_nil,or_false] at hu
 rcases hu with rfl | rfl | rfl | rfl | rfl | rfl | rfl | rfl | rfl | rfl | rfl | rfl | rfl | rfl | rfl | rfl | rfl | rfl | rfl | rfl | rfl | rfl | rfl | rfl | rfl<;>rfl
structure aG where
 Line:Int
 Head:Int
 Data0:Int
 Data1:Int
 Data2:Int
 Data3:Int
 Data4:Int
 Data5:Int
 Data6:Int
def aG.cells (r:aG):List Value:=[.int .i64 r.Line,.int .u64 r.Head,.int .u64 r.Data0,.int .u64 r.Data1,.int .u64 r.Data2,.int .u64 r.Data3,.int .u64 r.Data4,.int .u64 r.Data5,.int .u64 r.Data6]
def aG.val (r:aG):Value:=.agg r.cells.toArray
def aG.ex (K:aG→Prop):Prop:=∃ (xLine:Int) (xHead:Int) (xData0:Int) (xData1:Int) (xData2:Int) (xData3:Int) (xData4:Int) (xData5:Int) (xData6:Int),K ⟨xLine,xHead,xData0,xData1,xData2,xData3,xData4,xData5,xData6⟩
theorem aG.mk_ex {K:aG→Prop} (r:aG) (h:K r):aG.ex K:=⟨_,_,_,_,_,_,_,_,_,h⟩
theorem aG.len (r:aG):r.cells.length=9:=rfl
theorem aG.single (r:aG):∀ u ∈ r.cells,single u=true:=by
 intro u hu
 simp only [aG.cells,List.mem_cons,List.not_mem_nil,or_false] at hu
 rcases hu with rfl | rfl | rfl | rfl | rfl | rfl | rfl | rfl | rfl<;>rfl
structure aU where
 Line:Int
 Head:Int
def aU.cells (r:aU):List Value:=[.int .i64 r.Line,.int .u64 r.Head]
def aU.val (r:aU):Value:=.agg r.cells.toArray
def aU.ex (K:aU→Prop):Prop:=∃ (xLine:Int) (xHead:Int),K ⟨xLine,xHead⟩
theorem aU.mk_ex {K:aU→Prop} (r:aU) (h:K r):aU.ex K:=⟨_,_,h⟩
theorem aU.len (r:aU):r.cells.length=2:=rfl
theorem aU.single (r:aU):∀ u ∈ r.cells,single u=true:=by
 intro u hu
 simp only [aU.cells,List.mem_cons,List.not_mem_nil,or_false] at hu
 rcases hu with rfl | rfl<;>rfl
structure bB where
 At:Int
 Kind:Int
 A:Int
def bB.cells (r:bB):List Value:=[.int .i64 r.At,.int .i64 r.Kind,.int .i64 r.A]
def bB.val (r:bB):Value:=.agg r.cells.toArray
def bB.ex (K:bB→Prop):Prop:=∃ (xAt:Int) (xKind:Int) (xA:Int),K ⟨xAt,xKind,xA⟩
theorem bB.mk_ex {K:bB→Prop} (r:bB) (h:K r):bB.ex K:=⟨_,_,_,h⟩
theorem bB.single (r:bB):∀ u ∈ r.cells,single u=true:=by
 intro u hu
 simp only [bB.cells,List.mem_cons,List.not_mem_nil,or_false] at hu
 rcases hu with rfl | rfl | rfl<;>rfl
structure aC where
 Node:Int
 Boot:Int
 Full:Bool
def aC.cells (r:aC):List Value:=[.int .i64 r.Node,.int .i64 r.Boot,.bool r.Full]
def aC.val (r:aC):Value:=.agg r.cells.toArray
def aC.ex (K:aC→Prop):Prop:=∃ (xNode:Int) (xBoot:Int) (xFull:Bool),K ⟨xNode,xBoot,xFull⟩
theorem aC.mk_ex {K:aC→Prop} (r:aC) (h:K r):aC.ex K:=⟨_,_,_,h⟩
theorem aC.len (r:aC):r.cells.length=3:=rfl
theorem aC.single (r:aC):∀ u ∈ r.cells,single u=true:=by
 intro u hu
 simp only [aC.cells,List.mem_cons,List.not_mem_nil,or_false] at hu
 rcases hu with rfl | rfl | rfl<;>rfl
structure bD where
 Code:Int
 Number:Int
 View:aM
 Status:Int
 Opened:Bool
 Hint:Int
 Boots:Option Addr
 Boots_l:Nat
 Boots_c:Nat
 Keys:Option Addr
 Keys_l:Nat
 Keys_c:Nat
 Doors:Option Addr
 Doors_l:Nat
 Doors_c:Nat
def bD.cells (r:bD):List Value:=[.int .i64 r.Code,.int .i64 r.Number,.int .i64 r.View.Number,.slice r.View.Members r.View.Members_l r.View.Members_c,.int .i64 r.Status,.bool r.Opened,.int .u64 r.Hint,.slice r.Boots r.Boots_l r.Boots_c,.slice r.Keys r.Keys_l r.Keys_c,.slice r.Doors r.Doors_l r.Doors_c]
def bD.val (r:bD):Value:=.agg r.cells.toArray
def bD.ex (K:bD→Prop):Prop:=∃ (xCode:Int) (xNumber:Int) (xView_Number:Int) (xView_Members:Option Addr) (xView_Members_l:Nat) (xView_Members_c:Nat) (xStatus:Int) (xOpened:Bool) (xHint:Int) (xBoots:Option Addr) (xBoots_l:Nat) (xBoots_c:Nat) (xKeys:Option Addr) (xKeys_l:Nat) (xKeys_c:Nat) (xDoors:Option Addr) (xDoors_l:Nat) (xDoors_c:Nat),K ⟨xCode,xNumber,⟨xView_Number,xView_Members,xView_Members_l,xView_Members_c⟩,xStatus,xOpened,xHint,xBoots,xBoots_l,xBoots_c,xKeys,xKeys_l,xKeys_c,xDoors,xDoors_l,xDoors_c⟩
theorem bD.mk_ex {K:bD→Prop} (r:bD) (h:K r):bD.ex K:=⟨_,_,_,_,_,_,_,_,_,_,_,_,_,_,_,_,_,_,h⟩
theorem bD.single (r:bD):∀ u ∈ r.cells,single u=true:=by
 intro u hu
 simp only [bD.cells,List.mem_cons,List.not_mem_nil,or_false] at hu
 rcases hu with rfl | rfl | rfl | rfl | rfl | rfl | rfl | rfl | rfl | rfl<;>rfl
structure bR where
 Code:Int
 Val:Int
 Round:Int
def bR.cells (r:bR):List Value:=[.int .i64 r.Code,.int .u64 r.Val,.int .i64 r.Round]
def bR.val (r:bR):Value:=.agg r.cells.toArray
def bR.ex (K:bR→Prop):Prop:=∃ (xCode:Int) (xVal:Int) (xRound:Int),K ⟨xCode,xVal,xRound⟩
theorem bR.mk_ex {K:bR→Prop} (r:bR) (h:K r):bR.ex K:=⟨_,_,_,h⟩
theorem bR.single (r:bR):∀ u ∈ r.cells,single u=true:=by
 intro u hu
 simp only [bR.cells,List.mem_cons,List.not_mem_nil,or_false] at hu
 rcases hu with rfl | rfl | rfl<;>rfl
structure aA where
 Code:Int
 Fate:Int
def aA.cells (r:aA):List Value:=[.int .i64 r.Code,.int .i64 r.Fate]
def aA.val (r:aA):Value:=.agg r.cells.toArray
def aA.ex (K:aA→Prop):Prop:=∃ (xCode:Int) (xFate:Int),K ⟨xCode,xFate⟩
theorem aA.mk_ex {K:aA→Prop} (r:aA) (h:K r):aA.ex K:=⟨_,_,h⟩
theorem aA.single (r:aA):∀ u ∈ r.cells,single u=true:=by
 intro u hu
 simp only [aA.cells,List.mem_cons,List.not_mem_nil,or_false] at hu
 rcases hu with rfl | rfl<;>rfl
structure aS where
 Seq:Int
 Writes:Option Addr
 Writes_l:Nat
 Writes_c:Nat
def aS.cells (r:aS):List Value:=[.int .i64 r.Seq,.slice r.Writes r.Writes_l r.Writes_c]
def aS.val (r:aS):Value:=.agg r.cells.toArray
def aS.ex (K:aS→Prop):Prop:=∃ (xSeq:Int) (xWrites:Option Addr) (xWrites_l:Nat) (xWrites_c:Nat),K ⟨xSeq,xWrites,xWrites_l,xWrites_c⟩
theorem aS.mk_ex {K:aS→Prop} (r:aS) (h:K r):aS.ex K:=⟨_,_,_,_,h⟩
theorem aS.single (r:aS):∀ u ∈ r.cells,single u=true:=by
 intro u hu
 simp only [aS.cells,List.mem_cons,List.not_mem_nil,or_false] at hu
 rcases hu with rfl | rfl<;>rfl
structure bV where
 l:List Int
def bV.cells (r:bV):List Value:=r.l.map λx=>.int .u64 x
def bV.val (r:bV):Value:=.agg r.cells.toArray
def bV.ex (K:bV→Prop):Prop:=exI 256 λl=>K ⟨l⟩
theorem bV.mk_ex {K:bV→Prop} (r:bV) (hl:r.l.length=256) (h:K r):bV.ex K:=C9 256 r.l hl h
theorem bV.single (r:bV):∀ u ∈ r.cells,single u=true:=by
 intro u hu
 obtain ⟨x,_,rfl⟩:=List.mem_map.1 hu
 rfl
end Go.Proofs.YtegepanmkjemjaaGreat
namespace Go.Proofs.YtegepanmkjemjaaGreat
open Go.Proofs.Tryz
open Go.Eng IntKind
variable (w:World) (R:Value→World→Prop)
theorem pF (p0 p1:Int):fnW prog f11 [.int .i64 p0,.int .i64 p1] R w=((bif (decide ((p1:Int)<1)) then (R (.int .i64 0) w) else (IntKind.i64=IntKind.i64∧p1≠0∧IntKind.i64=IntKind.i64∧p1≠0∧R (.int .i64 (Int.tmod (i64.wrap ((Int.tmod p0 p1)+p1)) p1)) w))):=by kernel_rfl
end Go.Proofs.YtegepanmkjemjaaGreat
namespace Go.Proofs.YtegepanmkjemjaaGreat
open Go.Eng
theorem oM (w:World) (x n:Int) (hx:-9223372036854775808≤x∧x<9223372036854775808) (hn:n<4611686018427387904):Does 11 [.int .i64 x,.int .i64 n] w λv w'=>v=.int .i64 (if n<1 then 0 else x % n)∧w'=w:=by
 refine does Tryz.func11 ?_
 rw [pF]
 refine aH (λh=>⟨by rw [if_pos h],rfl⟩) (λh=>⟨rfl,by omega,rfl,by omega,?_,rfl⟩)
 rw [if_neg h]
 have h1:0<n:=by omega
 have key:∃ t k,Int.tmod x n=t∧-n<t∧t<n∧t+n * k=x:=by
  rcases Int.le_total 0 x with hx0 | hx0
  ·refine ⟨x % n,x / n,Int.tmod_eq_emod_of_nonneg hx0,?_,Int.emod_lt_of_pos x h1,Int.emod_add_mul_ediv x n⟩
   have:=Int.emod_nonneg x (Int.ne_of_gt h1)
   omega
  ·refine ⟨-((-x) % n),-((-x) / n),?_,?_,?_,?_⟩
   ·rw [←Int.tmod_eq_emod_of_nonneg (by omega),Int.neg_tmod,Int.neg_neg]
   ·have:=Int.emod_lt_of_pos (-x) h1
    omega
   ·have:=Int.emod_nonneg (-x) (Int.ne_of_gt h1)
    omega
   ·have:=Int.emod_add_mul_ediv (-x) n
    rw [Int.mul_neg]
    omega
 obtain ⟨t,k,ht,h2,h3,hk⟩:=key
 rw [ht,w64 (by omega) (by omega)]
 congr 1
 rw [Int.tmod_eq_emod_of_nonneg (by omega),Int.add_emod_right,←hk,Int.add_mul_emod_self_left]
end Go.Proofs.YtegepanmkjemjaaGreat
