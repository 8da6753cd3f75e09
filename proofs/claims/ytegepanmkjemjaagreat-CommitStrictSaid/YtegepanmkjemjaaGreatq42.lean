import Derived.Test.YtegepanmkjemjaaGreatq40
import Derived.Test.YtegepanmkjemjaaGreatq41
import Derived.Test.YtegepanmkjemjaaGreatq23
set_option linter.unusedVariables false
namespace Go.Proofs.YtegepanmkjemjaaGreat
open Go.Eng C12
def rz (c seq lines:Int) (n:Nat) (R:List aY) (W:List aG):Tk conv:=⟨c,⟨c,seq,lines,uX n,R,W⟩,[],false,false,((0,0):Int×Int)⟩
def rA (c seq lines:Int) (rv:aN) (ra:Option Addr) (rl rc:Nat) (wa:Option Addr) (wl wc:Nat):aB:=
 ⟨3,c,⟨0⟩,⟨0,0,0,0,0⟩,⟨c,seq,lines,rv,ra,rl,rc,wa,wl,wc⟩,none,0,0,false,false,0,⟨0,none,0,0⟩,0,none,0,0,0,0⟩
structure PgU (p:aG):Prop where
 head:U64 p.Head
 data:∀ x ∈ datL p,U64 x
theorem q7 {A:Nat→Prop} {u:World} {c seq lines:Int} {n:Nat} {rv:aN} {ra:Option Addr} {rl rc:Nat} {wa:Option Addr} {wl wc:Nat} {R:List aY} {W:List aG} (hv:ViewAt A u rv (uX n))
  (hr:Rd u ra (vB R).flatten) (hrl:rl=R.length) (hrf:R.length≤1000000) (hro:(vB R).flatten=[]∨Off A ra) (hw:Rd u wa (fK W).flatten) (hwl:wl=W.length) (hwf:W.length≤1000000) (hwo:(fK W).flatten=[]∨Off A wa) (hu:∀ p ∈ W,PgU p) :
  eM A u (rA c seq lines rv ra rl rc wa wl wc) (rz c seq lines n R W):=
 ⟨rfl,rfl,rfl,rfl,lj.nil _ _ _,rfl,Nat.le_refl _,⟨⟨rfl,rfl,rfl,⟨A,hv⟩,hr,hrl,hrf,⟨hw,hwl,hwf,λp hp=>(hu p hp).head⟩⟩,hv,hro,hwo,λp hp=>(hu p hp).data⟩,⟨rfl,rfl⟩,by show ([]:List (List Done)).length≤201;simp⟩
theorem nZ (c seq lines:Int) (n:Nat) (R:List aY) (W:List aG):sC (rz c seq lines n R W):=λ_=>by show ([]:List (List Done)).length≤200;simp
def pW:aG:=⟨96,256,7,0,0,0,0,0,0⟩
def outM (t:Tk conv):Int×Int:=t.out
def AO:Bool:=nF (Fab.fresh 1 1 98) && match rQ 0 (Fab.fresh 1 1 98) (rz 0 1 98 1 [] [pW]) with
 |some e=>decide (e.1.nodes.length=1∧e.1.lines=98) && (e.2.over && (!e.2.bad && ((outM e.2).1 == 0 && ((outM e.2).2 == 3 && ((eI e.1 0).down == false && ((eI e.1 0).get 769 == 7 && ((eI e.1 0).get 768 == 512 && (e.1.trips 0 == 4 && match e.1.clients[0]? with
  |some C=>C.posted == 5
  |none=>false))))))))
 |none=>false
set_option maxRecDepth 100000 in
theorem yF:AO=true:=by kernel_rfl
theorem vd (F:Fab) (t:Tk conv):alone F t=drive F [t] [] [] 20000:=rfl
theorem BV {X:FabX} {F:Fab} (h:X.pure=F):X.nodes.length=F.nodes.length:=by rw [←h];simp [FabX.pure]
theorem BW {X:FabX} {F:Fab} (h:X.pure=F) {i:Nat} (hi:i<F.nodes.length):∃ x,X.nodes[i]?=some x∧eI F i=x.n:=by
 obtain ⟨x,hx⟩:∃ x,X.nodes[i]?=some x:=⟨_,List.getElem?_eq_getElem (by rw [BV h];exact hi)⟩
 exact ⟨x,hx,by rw [←h];exact uZ hx⟩
theorem yG {X:FabX} {F:Fab} (h:X.pure=F) (hf:Fine F) {i:Nat} {x:iX} (hx:X.nodes[i]?=some x):x.n.words.length=F.lines * 8:=by
 refine hf.good.ok.words _ ?_
 rw [←h]
 simp only [FabX.pure,List.mem_map]
 exact ⟨x,List.mem_of_getElem? hx,rfl⟩
section
attribute [local irreducible] drive alone
set_option maxRecDepth 20000 in
set_option maxHeartbeats 2000000 in
theorem BX (w:World):Does 13 [] w λv u=>v=.bool true∧New w u:=by
 have hr:=yF
 unfold AO at hr
 rw [Bool.and_eq_true] at hr
 obtain ⟨hq,hr⟩:=hr
 have hf:Fine (Fab.fresh 1 1 98):=Fine.fresh (by omega) (by omega) (by omega)
 cases hd:rQ 0 (Fab.fresh 1 1 98) (rz 0 1 98 1 [] [pW]) with
 |none=>rw [hd] at hr;cases hr
 |some e=>
 rw [hd] at hr
 have hdr:=tZ hf hq rfl hd [] (most:=20000) (by omega)
 rw [←vd] at hdr
 simp only [Bool.and_eq_true,decide_eq_true_eq,beq_iff_eq,Bool.not_eq_true'] at hr
 obtain ⟨⟨hn1,hl98⟩,hover,hbad,hcode,hfate,hup,hdat,hhead,htrips,hposted⟩:=hr
 have hfe:Fine e.1:=by
  have:=Fine.alone hf (rz 0 1 98 1 [] [pW])
  rw [hdr] at this
  exact this
 obtain ⟨C,hC⟩:∃ C,e.1.clients[0]?=some C:=by
  cases hC:e.1.clients[0]? with
  |none=>rw [hC] at hposted;cases hposted
  |some C=>exact ⟨C,rfl⟩
 rw [hC] at hposted
 have hposted:C.posted=5:=by simpa using hposted
 refine does Tryz.func13 ?_
 rw [m8]
 refine aE (xW (n:=1) (c:=1) (lines:=98) (by omega) (by omega) (by omega)) ?_
 rintro v u1 ⟨fb,A,χ,X,rfl,hF,hnw1,hA,hX⟩
 refine ⟨_,_,rfl,dE rfl ?_⟩
 refine aE (ye _ (n:=1) (by omega) (by omega)) ?_
 rintro v u2 ⟨rv,vw,rfl,hv,hn2,_,rfl⟩
 refine aN.mk_ex rv ⟨rfl,?_⟩
 rintro b1 u3 hb1 hu3
 obtain ⟨hz3,hn3⟩:=aM hb1 hu3
 have hz3:Blk u3 b1 pW.cells 55:=hz3
 clear hu3
 have hs2:=hn2.size
 have hT:TW A χ u1 fb (λ_=>False) u3 A χ X:=TW.start hF (hn2.new hn3) λk h=>h.elim
 have hlow:∀ k,A k∨False→k<u1.heap.size:=λk hk=>hk.elim (hF.low k) False.elim
 have htk:eM (λk=>A k∨False) u3 (rA 0 1 98 rv none 0 0 (some ⟨b1,0,none⟩) 1 1) (rz 0 1 98 1 [] [pW]):=by
  refine q7 ?_ (.inl rfl) rfl (by simp) (.inl rfl) (eJ hz3 (by simp [fK])) rfl (by simp) (.inr λh=>?_) ?_
  ·have h1:ViewAt (λk=>A k∨False) u2 rv ⟨0,stM (1:Int).toNat⟩:=hv.mono λk _ hk=>hlow k hk
   exact h1.new hn3
  ·have:=hlow _ h
   have:b1<u1.heap.size:=this
   omega
  ·intro p hp
   simp at hp
   subst hp
   exact ⟨⟨by simp [pW],by simp [pW]⟩,by intro x hx;simp [datL,pW] at hx;rcases hx with rfl | rfl<;>exact ⟨by omega,by omega⟩⟩
 have hcall:=BU hT.fab (by rw [hX];exact hf) htk (nZ _ _ _ _ _ _)
 refine aE hcall ?_
 rintro v u4 hp
 obtain ⟨B',ξ',X',h4,hX4,hK4,hk4,hM4,hL4⟩:=hT.op hp
 obtain ⟨t',r',ht',rfl,htx⟩:=hK4
 rw [hX,hdr] at hX4 ht'
 have hX4:X'.pure=e.1:=hX4
 have ht':t'=e.2:=by simpa using ht'.symm
 subst ht'
 refine aB.mk_ex r' ⟨rfl,?_⟩
 refine gF (vs:=r'.cells) rfl (aB.single _) λb2 u5 hb2 hz5 hn5=>?_
 obtain ⟨x,hx,hxm⟩:=BW hX4 (i:=0) (by omega)
 have hlen:=yG hX4 hfe hx
 rw [hl98] at hlen
 rw [hxm] at hup hdat hhead
 have h5:=h4.new hn5
 refine aE (tH h5.fab hx (l:=96) (by omega) (by omega) hup) ?_
 rintro v u6 ⟨rfl,hn6⟩
 refine aG.mk_ex (x.n.page 96) ⟨true,rfl,?_⟩
 refine gF (vs:=(x.n.page 96).cells) rfl (aG.single _) λb3 u7 hb3 hz7 hn7=>?_
 have hz57:=New.blk (hn6.new hn7) hz5
 have h7:=(h5.new hn6).new hn7
 refine ⟨_,hz57.cell (i:=16) rfl,iL (by rw [htx.over];exact hover) ⟨_,hz57.cell (i:=17) rfl,iL (by rw [htx.bad,hbad];rfl) ⟨_,hz57.cell (i:=18) rfl,iL ?_ ⟨_,hz57.cell (i:=24) rfl,iL ?_ (iL rfl ⟨_,hz7.cell (i:=1) rfl,iL ?_ ?_⟩)⟩⟩⟩⟩
 ·have:r'.Code=(outM e.2).1:=htx.out.1
  rw [this,hcode]
  rfl
 ·have:r'.Fate=(outM e.2).2:=htx.out.2
  rw [this,hfate]
  rfl
 ·have:(x.n.page 96).Head=x.n.get 768:=rfl
  rw [this,hhead]
  rfl
 ·refine jK (by omega) (by omega) ⟨_,hz7.cell (i:=2) rfl,iL ?_ ?_⟩
  ·have:(x.n.page 96).Data0=x.n.get 769:=rfl
   rw [this,hdat]
   rfl
  ·refine aE (A9 h7.fab 0) ?_
   rintro v u8 ⟨rfl,rfl⟩
   rw [hX4,htrips]
   refine ⟨_,rfl,iL rfl ?_⟩
   refine aE (zZ h7.fab (c:=0) (by rw [hX4];exact hC)) ?_
   rintro v u9 ⟨rfl,rfl⟩
   rw [hposted]
   exact ⟨_,rfl,rfl,h7.mine hF hnw1 hA⟩
end
end Go.Proofs.YtegepanmkjemjaaGreat
namespace Go.Proofs.YtegepanmkjemjaaGreat
open Go.Eng C12
def vO (W:List aG) (k:Nat):Int:=(W.getD k noP).Head
def n0 (W:List aG) (k:Nat) (h:Int):List aG:=W.set k { W.getD k noP with Head:=h }
def pJ (n a:Nat):List aG:=cws 0 (eI (Fab.fresh n 6 100) 0) (aS a)
def BY (n a k:Nat):List aG:=n0 (pJ n a) k (IntKind.u64.wrap (vO (pJ n a) k+256))
theorem mP:∀ y,y<14→1≤(aS y).length∧(aS y).length≤3:=by decide
end Go.Proofs.YtegepanmkjemjaaGreat
namespace Go.Proofs.YtegepanmkjemjaaGreat
open Go.Eng C12
theorem mI {α:Type} {cells:α→List Value} {sz:Nat} (hsz:∀ x,(cells x).length=sz):∀ (l:List α) (i j:Nat) (r r':α) (v:Value),l[i]?=some r→j<sz→(cells r).set j v=cells r'→((l.map cells).flatten).set (i * sz+j) v=((l.set i r').map cells).flatten
 | [],i,j,r,r',v,h,_,_=>by simp at h
 |x::l,0,j,r,r',v,h,hj,hv=>by
  simp only [List.getElem?_cons_zero,Option.some.injEq] at h
  subst h
  rw [List.map_cons,List.flatten_cons,List.set_append_left _ _ (by rw [hsz];omega),Nat.zero_mul,Nat.zero_add,hv]
  rfl
 |x::l,i+1,j,r,r',v,h,hj,hv=>by
  rw [List.getElem?_cons_succ] at h
  have hx:=hsz x
  have e:(i+1) * sz+j=(cells x).length+(i * sz+j):=by rw [hx,Nat.succ_mul];omega
  rw [List.map_cons,List.flatten_cons,e,List.set_append_right _ _ (by omega),Nat.add_sub_cancel_left,mI hsz l i j r r' v h hj hv]
  rfl
theorem BZ {α:Type} {l:List α} {i:Nat} {x d:α} (h:l[i]?=some x):l.getD i d=x:=by rw [List.getD_eq_getElem?_getD,h];rfl
theorem C5 {u:World} {wa:Option Addr} {n cap:Nat} {W:List aG} (ho:Owns u TPg 9 wa n cap (fK W).flatten) {i:Nat} (hi:i<W.length) (hn:n=W.length) {z:Int} (hz:z=i) {v:Int} {K:Addr→World→Prop} (hk:∀ ad w',Owns w' TPg 9 wa n cap (fK (n0 W i v)).flatten→Keep (isB wa) u w'→K ad w') :
  idxS wa n z 9 λad=>(∃ x,u.cell? ⟨ad.block,ad.off+1,none⟩=some x)∧u.frozen? ⟨ad.block,ad.off+1,none⟩=false∧∀ w',w'=u.setCell ⟨ad.block,ad.off+1,none⟩ (.int .u64 v)→K ad w':=by
 obtain ⟨g,cur,rfl,hb,hcl⟩:=yf ho (by omega)
 have hg:W[i]?=some W[i]:=List.getElem?_eq_getElem hi
 generalize W[i]=p at hg
 have hlt:i * 9+1<cur.length:=by omega
 subst hz
 refine aZ (by omega) (by omega) ⟨⟨_,hb.cell (i:=0+(i:Int).toNat * 9+1) (List.getElem?_eq_getElem (by simp;omega))⟩,hb.frozen,?_⟩
 rintro w' rfl
 have e:0+(i:Int).toNat * 9+1=i * 9+1:=by simp
 refine hk _ _ ?_ ((aO u g _ _).mono λk _ hk=>by subst hk;exact ⟨0,rfl⟩)
 show Owns (u.setCell ⟨g,0+(i:Int).toNat * 9+1,none⟩ _) _ _ _ _ _ _
 rw [e]
 have h1:=Owns.setCell ho (i:=i * 9+1) (by omega) (.int .u64 v)
 have h2:=mI (cells:=aG.cells) aG.len W i 1 p { p with Head:=v } (.int .u64 v) hg (by omega) rfl
 have h3:n0 W i v=W.set i { p with Head:=v }:=by unfold n0;rw [BZ hg]
 rw [h3]
 have h2:((fK W).flatten).set (i * 9+1) (.int .u64 v)=(fK (W.set i { p with Head:=v })).flatten:=h2
 rw [h2] at h1
 exact h1
theorem Ae (x:Int):U64 (IntKind.u64.wrap x):=nP x
theorem C6 {n:aP} (h:∀ i,U64 (n.get i)) (c:Int) (l:Nat):PgU (bump c (n.page l)):=by
 refine ⟨Ae _,λx hx=>?_⟩
 simp only [datL,bump,aP.page,List.mem_cons,List.not_mem_nil,or_false] at hx
 rcases hx with rfl | rfl | rfl | rfl | rfl | rfl | rfl
 ·exact Ae _
 ·exact Ae _
 all_goals exact h _
theorem C7 {n:aP} (h:∀ i,U64 (n.get i)) (c:Int) (L:List Nat):∀ p ∈ cws c n L,PgU p:=by
 intro p hp
 simp only [cws,List.mem_map] at hp
 obtain ⟨l,_,rfl⟩:=hp
 exact C6 h c l
theorem yH {W:List aG} (h:∀ p ∈ W,PgU p) {k:Nat} (hk:k<W.length) {v:Int} (hv:U64 v):∀ p ∈ n0 W k v,PgU p:=by
 intro p hp
 rcases List.mem_or_eq_of_mem_set hp with h1 | rfl
 ·exact h p h1
 ·have hg:W[k]?=some W[k]:=List.getElem?_eq_getElem hk
  rw [BZ hg]
  exact ⟨hv,(h _ (List.getElem_mem hk)).data⟩
theorem yI {A:Nat→Prop} {w u:World} {a:Option Addr} {xs:List Value} (hr:Rd w a xs) (hn:New w u) (hA:∀ k,A k→w.heap.size≤k):Dat A u a xs:=by
 refine ⟨hr.new hn,?_⟩
 by_cases hx:xs=[]
 ·exact .inl hx
 ·refine .inr ?_
  cases a with
  |none=>trivial
  |some a=>
   intro h
   have:=hA _ h
   have:=hr.lt hx
   omega
attribute [local irreducible] drive
theorem vP {A:Nat→Prop} {χ:Nat→Tag} {w2 z:World} {fb b1:Nat} {X:FabX} (hF:aW A χ w2 fb X) (hn:New w2 z) (hb:w2.heap.size≤b1∧b1<z.heap.size) (hf:Fine X.pure) {r:TR} {t:Tk conv} (ht:eM (λk=>A k∨k=b1) z r t) (hsh:sC t)
  {pa:Option Addr} (hpa:Rd z pa r.cells) {sch:List Int} {sa:Option Addr} {sc:Nat} (hsd:Dat (λk=>A k∨k=b1) z sa (is sch)) (hsi:∀ x ∈ sch,I64 x) {most:Nat} (hm:most≤1000000) {e:Fab×Tk conv} (hd:drive X.pure [t] sch [] most=(e.1,[e.2])) {n:Nat} (hsl:n=sch.length) :
  Does 23 [ptr fb,.slice pa 1 1,.slice sa n sc,.slice none 0 0,.int .i64 most] z λv u=>∃ la lc r' B ξ X',v=.slice la 1 lc∧TW A χ w2 fb (λk=>k=b1) u B ξ X'∧X'.pure=e.1∧eM (λk=>B k∨k=b1) u r' e.2∧(∀ K:Addr→Prop,(∀ b o,aD u ⟨b,o,none⟩ 0 r'.cells→K ⟨b,o,none⟩)→idxS la 1 0 25 K)∧
   u.heap[b1]?=z.heap[b1]?∧Keep (λk=>A k∨k=b1) z u∧∀ k,k<z.heap.size→B k∨k=b1→A k∨k=b1:=by
 subst hsl
 have hT:TW A χ w2 fb (λk=>k=b1) z A χ X:=TW.start hF hn λk hk=>by subst hk;exact hb
 have hdn:Dat (λk=>A k∨k=b1) z none ([]:List Value):=⟨.inl rfl,.inl rfl⟩
 have hrd:Rd z pa (lC [(r,t)]).flatten:=by simpa [lC] using hpa
 have hdr:=yC hT.fab hf (ts:=[(r,t)]) (pc:=1) hrd (λx hxm=>by simp at hxm;rw [hxm];exact ⟨ht,hsh⟩) (by simp) (sch:=sch) (sa:=sa) (sc:=sc) hsd hsi (es:=[]) (ea:=none) (ec:=0) hdn (λx hx=>by cases hx) (by simp) (most:=most) hm
 have e1:drive X.pure ([(r,t)].map Prod.snd) sch [] most=(e.1,[e.2]):=hd
 rw [e1] at hdr
 refine aE hdr ?_
 rintro v u hp
 obtain ⟨B',ξ',X',h3,hX3,hK3,hk3,hM3,hL3⟩:=hT.op hp
 obtain ⟨la,lc,ts',rfl,hts',how,hnB,htx'⟩:=hK3
 obtain ⟨r',rfl⟩:=yD hts'
 refine ⟨_,rfl,la,lc,r',B',ξ',X',rfl,h3,hX3,htx' (r',e.2) (by simp),λK hK=>?_,hL3 b1 rfl,hk3,hM3⟩
 have hrows:Rd u la (([(r',e.2)]:List (TR×Tk conv)).map λx=>x.1.cells).flatten:=how.rd
 exact eS (cells:=λx:TR×Tk conv=>x.1.cells) (λx=>aB.len x.1) (by omega) hrows (i:=0) rfl rfl rfl λb o hc _=>hK b o hc
theorem yJ (n a:Nat):(pJ n a).length=(aS a).length:=by simp [pJ,cws]
theorem wU {n c l i:Nat} (hi:i<n):eI (Fab.fresh n c l) i=⟨fmt l n,false⟩:=by simp [eI,Fab.fresh,List.getD_eq_getElem?_getD,hi]
end Go.Proofs.YtegepanmkjemjaaGreat
namespace Go.Proofs.YtegepanmkjemjaaGreat
open Go.Eng
inductive Tr
 |leaf (x:Int)
 |node (a b:Tr)
def Tr.get:Tr→Nat→Int
 | .leaf x,_=>x
 | .node a b,i=>match i % 2 with
  | 0=>a.get (i / 2)
  | _=>b.get (i / 2)
def Tr.set:Tr→Nat→Int→Tr
 | .leaf _,_,v=>.leaf v
 | .node a b,i,v=>match i % 2 with
  | 0=>.node (a.set (i / 2) v) b
  | _=>.node a (b.set (i / 2) v)
def Tr.build:Nat→(Nat→Int)→Tr
 | 0,f=>.leaf (f 0)
 |d+1,f=>.node (build d λi=>f (2 * i)) (build d λi=>f (2 * i+1))
def Tr.Deep:Nat→Tr→Prop
 | 0,.leaf _=>True
 |d+1,.node a b=>a.Deep d∧b.Deep d
 | _,_=>False
theorem Tr.build_deep:∀ (d:Nat) (f:Nat→Int),(Tr.build d f).Deep d
 | 0,_=>trivial
 |d+1,f=>⟨build_deep d _,build_deep d _⟩
theorem Tr.build_get:∀ (d:Nat) (f:Nat→Int) (i:Nat),i<2 ^ d→(Tr.build d f).get i=f i
 | 0,f,i,h=>by
  have:i=0:=by simp at h;exact h
  rw [this]
  rfl
 |d+1,f,i,h=>by
  rw [Nat.pow_succ] at h
  unfold Tr.build Tr.get
  rcases Nat.mod_two_eq_zero_or_one i with e | e
  ·simp only [e]
   rw [build_get d _ _ (by omega)]
   congr 1
   omega
  ·simp only [e]
   rw [build_get d _ _ (by omega)]
   congr 1
   omega
theorem Tr.set_deep:∀ {d:Nat} {t:Tr},t.Deep d→∀ (i:Nat) (v:Int),(t.set i v).Deep d
 | 0,.leaf _,_,_,_=>trivial
 |d+1,.node a b,h,i,v=>by
  unfold Tr.set
  split
  ·exact ⟨set_deep h.1 _ _,h.2⟩
  ·exact ⟨h.1,set_deep h.2 _ _⟩
theorem Tr.set_get:∀ {d:Nat} {t:Tr},t.Deep d→∀ (i j:Nat) (v:Int),i<2 ^ d→j<2 ^ d→(t.set i v).get j=if i=j then v else t.get j
 | 0,.leaf _,_,i,j,v,hi,hj=>by
  have h1:i=0:=by simp at hi;exact hi
  have h2:j=0:=by simp at hj;exact hj
  rw [h1,h2]
  rfl
 |d+1,.node a b,h,i,j,v,hi,hj=>by
  rw [Nat.pow_succ] at hi hj
  unfold Tr.set
  rcases Nat.mod_two_eq_zero_or_one i with e | e<;>rcases Nat.mod_two_eq_zero_or_one j with e' | e'
  ·simp only [e,Tr.get,e']
   rw [set_get h.1 _ _ _ (by omega) (by omega)]
   by_cases hij:i / 2=j / 2
   ·rw [if_pos hij,if_pos (by omega)]
   ·rw [if_neg hij,if_neg (by omega)]
  ·simp only [e,Tr.get,e']
   rw [if_neg (by omega)]
  ·simp only [e,Tr.get,e']
   rw [if_neg (by omega)]
  ·simp only [e,Tr.get,e']
   rw [set_get h.2 _ _ _ (by omega) (by omega)]
   by_cases hij:i / 2=j / 2
   ·rw [if_pos hij,if_pos (by omega)]
   ·rw [if_neg hij,if_neg (by omega)]
structure bD where
 t:Tr
 n:Nat
 down:Bool
def bD.s (x:bD):aP:=⟨(List.range x.n).map x.t.get,x.down⟩
structure bD.Ok (x:bD):Prop where
 deep:x.t.Deep 10
 n:x.n≤1024
def bD.get (x:bD) (i:Nat):Int:=if i<x.n then x.t.get i else 0
def bD.set (x:bD) (i:Nat) (v:Int):bD:=if i<x.n then { x with t:=x.t.set i v } else x
def bD.write (x:bD):Nat→List Int→bD
 | _,[]=>x
 |i,v::vs=>(x.set i v).write (i+1) vs
def bD.read (x:bD) (at_ c:Int):List Int:=(List.range (min c.toNat (x.n - at_.toNat))).map λi=>x.t.get (at_.toNat+i)
def bD.of (ws:List Int):bD:=⟨Tr.build 10 λi=>ws.getD i 0,ws.length,false⟩
theorem bD.len (x:bD):x.s.words.length=x.n:=by simp [bD.s]
theorem bD.s_get (x:bD) (i:Nat):x.s.get i=x.get i:=by
 unfold aP.get bD.s bD.get
 rw [List.getD_eq_getElem?_getD,List.getElem?_map]
 by_cases h:i<x.n
 ·rw [if_pos h,List.getElem?_range h]
  rfl
 ·rw [if_neg h,List.getElem?_eq_none (by simp;omega)]
  rfl
theorem bD.set_n (x:bD) (i:Nat) (v:Int):(x.set i v).n=x.n∧(x.set i v).down=x.down:=by
 unfold bD.set
 split<;>exact ⟨rfl,rfl⟩
theorem bD.set_ok {x:bD} (h:x.Ok) (i:Nat) (v:Int):(x.set i v).Ok:=by
 unfold bD.set
 split
 ·exact ⟨Tr.set_deep h.deep _ _,h.n⟩
 ·exact h
theorem bD.set_s {x:bD} (h:x.Ok) (i:Nat) (v:Int):(x.set i v).s=⟨x.s.words.set i v,x.down⟩:=by
 have hn:=h.n
 unfold bD.set
 split
 ·rename_i hi
  unfold bD.s
  congr 1
  apply List.ext_getElem?
  intro j
  rw [List.getElem?_set,List.getElem?_map,List.length_map,List.length_range]
  by_cases hj:j<x.n
  ·rw [List.getElem?_map,List.getElem?_range hj]
   simp only [Option.map_some]
   rw [Tr.set_get h.deep i j v (by omega) (by omega)]
   by_cases hij:i=j
   ·rw [if_pos hij,if_pos hij,if_pos hi]
   ·rw [if_neg hij,if_neg hij]
  ·rw [List.getElem?_map,List.getElem?_eq_none (by simp;omega)]
   by_cases hij:i=j
   ·omega
   ·rw [if_neg hij]
    rfl
 ·rename_i hi
  unfold bD.s
  rw [List.set_eq_of_length_le (by simp;omega)]
theorem bD.write_ok:∀ (ws:List Int) {x:bD},x.Ok→∀ (i:Nat),(x.write i ws).Ok
 | [],x,h,i=>h
 |v::vs,x,h,i=>write_ok vs (set_ok h i v) (i+1)
def sets:List Int→Nat→List Int→List Int
 |l,_,[]=>l
 |l,i,v::vs=>sets (l.set i v) (i+1) vs
theorem yK:∀ (ws l:List Int) (i:Nat),i+ws.length≤l.length→sets l i ws=l.take i++ws++l.drop (i+ws.length)
 | [],l,i,h=>by simp [sets]
 |v::vs,l,i,h=>by
  rw [List.length_cons] at h
  unfold sets
  rw [yK vs (l.set i v) (i+1) (by rw [List.length_set];omega)]
  have h1:(l.set i v).take (i+1)=l.take i++[v]:=by
   apply List.ext_getElem?
   intro j
   rw [List.getElem?_take,List.getElem?_append,List.length_take,Nat.min_eq_left (by omega),List.getElem?_set]
   by_cases hj:j<i
   ·rw [if_pos (by omega),if_neg (by omega),if_pos hj,List.getElem?_take_of_lt hj]
   ·by_cases hj2:j=i
    ·subst hj2
     rw [if_pos (by omega),if_pos rfl,if_pos (by omega),if_neg (by omega)]
     simp
    ·rw [if_neg (by omega),if_neg hj,List.getElem?_eq_none (by simp;omega)]
  have h2:(l.set i v).drop (i+1+vs.length)=l.drop (i+1+vs.length):=by rw [List.drop_set_of_lt (by omega)]
  rw [h1,h2,List.length_cons]
  simp [Nat.add_assoc,Nat.add_comm,Nat.add_left_comm]
theorem bD.write_sets:∀ (ws:List Int) {x:bD},x.Ok→∀ (i:Nat),(x.write i ws).s=⟨sets x.s.words i ws,x.down⟩
 | [],x,h,i=>rfl
 |v::vs,x,h,i=>by
  unfold bD.write sets
  rw [write_sets vs (set_ok h i v) (i+1),set_s h,(x.set_n i v).2]
theorem bD.write_s {x:bD} (h:x.Ok) {i:Nat} {ws:List Int} (hl:(x.s.write i ws).words.length=x.s.words.length):(x.write i ws).s=x.s.write i ws:=by
 rw [write_sets ws h i]
 unfold aP.write at hl ⊢
 simp only [List.length_append,List.length_take,List.length_drop] at hl
 by_cases hi:i≤x.s.words.length
 ·rw [yK ws _ i (by omega)]
  rfl
 ·have:ws=[]:=by
   cases ws with
   |nil=>rfl
   |cons a l=>simp at hl;omega
  subst this
  simp [sets]
  rfl
theorem bD.read_s (x:bD) (at_ c:Int):x.s.read at_ c=x.read at_ c:=by
 unfold aP.read bD.read bD.s
 apply List.ext_getElem?
 intro j
 rw [List.getElem?_take,List.getElem?_drop,List.getElem?_map,List.getElem?_map]
 by_cases hj:j<min c.toNat (x.n - at_.toNat)
 ·rw [if_pos (by omega),List.getElem?_range (by omega),List.getElem?_range hj]
  rfl
 ·rw [List.getElem?_eq_none (l:=List.range (min c.toNat (x.n - at_.toNat))) (by simp;omega)]
  split
  ·rw [List.getElem?_eq_none (by simp;omega)]
   rfl
  ·rfl
theorem bD.of_ok {ws:List Int} (h:ws.length≤1024):(bD.of ws).Ok:=⟨Tr.build_deep 10 λi=>ws.getD i 0,h⟩
theorem bD.of_s {ws:List Int} (h:ws.length≤1024):(bD.of ws).s=⟨ws,false⟩:=by
 unfold bD.of bD.s
 congr 1
 apply List.ext_getElem?
 intro j
 rw [List.getElem?_map]
 by_cases hj:j<ws.length
 ·rw [List.getElem?_range hj,List.getElem?_eq_getElem hj]
  simp only [Option.map_some]
  rw [Tr.build_get 10 _ j (by omega),List.getD_eq_getElem?_getD,List.getElem?_eq_getElem hj]
  rfl
 ·rw [List.getElem?_eq_none (by simp;omega),List.getElem?_eq_none (by omega)]
  rfl
def Pair.refT (p:Pair) (x:Verb) (n:bD):Int:=
 if n.down=true then 4 else if x.v.valid 5 (n.n / 8:Nat)≠0 then 2 else x.v.check p.inc (n.get (24+p.client).toNat) (n.get 0) (n.get 1)
def wV (x:Verb) (pc:Int×Int) (n:bD):bD×List Int:=
 if x.kind=1 then (n,n.read pc.1 pc.2)
 else if x.kind=2 then (n.write pc.1.toNat ((x.words.drop (pc.1 - x.at_).toNat).take pc.2.toNat),[])
 else if x.kind=3 then (if n.get x.at_.toNat=x.old then n.set x.at_.toNat x.new else n,[n.get x.at_.toNat])
 else if x.kind=4 then (n.set x.at_.toNat (IntKind.u64.wrap (n.get x.at_.toNat+x.new)),[n.get x.at_.toNat])
 else (n,[])
def Pair.stepT (p:Pair) (n:bD):Pair×bD×Option Done:=
 match p.verbs with
 | []=>(p,n,none)
 |x::_=>
  if p.refT x n≠0 then (p.done,n,some ⟨p.refT x n,[]⟩)
  else
   let r:=wV x (x.v.pieces.getD p.executed (0,0)) n
   if p.executed+1<x.v.pieces.length then ({ p with executed:=p.executed+1,words:=p.words++r.2 },r.1,none)
   else (p.done,r.1,some ⟨0,p.words++r.2⟩)
theorem ve (p:Pair) (x:Verb) (n:bD):p.refusal x n.s=p.refT x n:=by
 unfold Pair.refusal Pair.refT
 rw [bD.len,bD.s_get,bD.s_get,bD.s_get]
 rfl
theorem vQ {x:Verb} {pc:Int×Int} {n:bD} (h:n.Ok):(wV x pc n).1.Ok:=by
 unfold wV
 repeat' split
 all_goals first | exact h | exact bD.write_ok _ h _ | exact bD.set_ok h _ _
theorem Af {x:Verb} {pc:Int×Int} {n:bD} (h:n.Ok) (hl:(exec x pc n.s).1.words.length=n.s.words.length):exec x pc n.s=((wV x pc n).1.s,(wV x pc n).2):=by
 unfold exec at hl ⊢
 unfold wV
 split
 ·rw [bD.read_s]
 ·rename_i h1
  rw [if_neg h1] at hl
  split
  ·rename_i h2
   rw [if_pos h2] at hl
   rw [bD.write_s h hl]
  ·split
   ·unfold aP.cas
    rw [bD.s_get]
    split
    ·rw [bD.set_s h]
     rfl
    ·rfl
   ·split
    ·unfold aP.add
     rw [bD.s_get,bD.set_s h]
     rfl
    ·rfl
theorem Ag {p:Pair} (hP:cJ p) {n:bD} (h:n.Ok):p.step n.s=((p.stepT n).1,(p.stepT n).2.1.s,(p.stepT n).2.2)∧(p.stepT n).2.1.Ok:=by
 unfold Pair.step Pair.stepT
 cases hv:p.verbs with
 |nil=>exact ⟨rfl,h⟩
 |cons x xs=>
  simp only
  by_cases hz:p.refT x n=0
  ·have hr:p.refusal x n.s=0:=by rw [ve];exact hz
   have hlt:=hP.rdy x xs hv
   have hmem:x.v.pieces.getD p.executed (0,0) ∈ x.v.pieces:=by
    rw [List.getD_eq_getElem?_getD,List.getElem?_eq_getElem hlt]
    exact List.getElem_mem hlt
   have he:=Af (x:=x) h (qK (oR hr).2 hmem)
   rw [if_neg (show ¬ p.refusal x n.s≠0 by rw [hr];simp),if_neg (show ¬ p.refT x n≠0 by rw [hz];simp),he]
   split
   ·exact ⟨rfl,vQ h⟩
   ·exact ⟨rfl,vQ h⟩
  ·rw [if_pos (show p.refusal x n.s≠0 by rw [ve];exact hz),if_pos (show p.refT x n≠0 from hz),ve]
   exact ⟨rfl,h⟩
end Go.Proofs.YtegepanmkjemjaaGreat
