import Derived.Test.YtegepanmkjemjaaGreatp39
import Derived.Test.YtegepanmkjemjaaGreatp40
set_option linter.unusedVariables false
namespace Go.Proofs.YtegepanmkjemjaaGreat
open Go.Eng C12
def tU (c seq lines:Int) (n:Nat) (R:List aT) (W:List aF):Tk conv:=⟨c,⟨c,seq,lines,AE n,R,W⟩,[],false,false,((0,0):Int×Int)⟩
def te (c seq lines:Int) (rv:aN) (ra:Option Addr) (rl rc:Nat) (wa:Option Addr) (wl wc:Nat):aB:=
 ⟨3,c,⟨0⟩,⟨0,0,0,0,0⟩,⟨c,seq,lines,rv,ra,rl,rc,wa,wl,wc⟩,none,0,0,false,false,0,⟨0,none,0,0⟩,0,none,0,0,0,0⟩
structure PgU (p:aF):Prop where
 head:U64 p.Head
 data:∀ x ∈ datL p,U64 x
theorem ql {A:Nat→Prop} {u:World} {c seq lines:Int} {n:Nat} {rv:aN} {ra:Option Addr} {rl rc:Nat} {wa:Option Addr} {wl wc:Nat} {R:List aT} {W:List aF} (hv:eO A u rv (AE n))
  (hr:Rd u ra (sF R).flatten) (hrl:rl=R.length) (hrf:R.length≤1000000) (hro:(sF R).flatten=[]∨Off A ra) (hw:Rd u wa (fB W).flatten) (hwl:wl=W.length) (hwf:W.length≤1000000) (hwo:(fB W).flatten=[]∨Off A wa) (hu:∀ p ∈ W,PgU p) :
  ez A u (te c seq lines rv ra rl rc wa wl wc) (tU c seq lines n R W):=
 ⟨rfl,rfl,rfl,rfl,kF.nil _ _ _,rfl,Nat.le_refl _,⟨⟨rfl,rfl,rfl,⟨A,hv⟩,hr,hrl,hrf,⟨hw,hwl,hwf,λp hp=>(hu p hp).head⟩⟩,hv,hro,hwo,λp hp=>(hu p hp).data⟩,⟨rfl,rfl⟩,by show ([]:List (List Done)).length≤201;simp⟩
theorem nk (c seq lines:Int) (n:Nat) (R:List aT) (W:List aF):rB (tU c seq lines n R W):=λ_=>by show ([]:List (List Done)).length≤200;simp
def pe:aF:=⟨96,256,7,0,0,0,0,0,0⟩
def outM (t:Tk conv):Int×Int:=t.out
def zt:Bool:=qY (Fab.fresh 1 1 98) && match qZ 0 (Fab.fresh 1 1 98) (tU 0 1 98 1 [] [pe]) with
 |some e=>decide (e.1.nodes.length=1∧e.1.lines=98) && (e.2.over && (!e.2.bad && ((outM e.2).1 == 0 && ((outM e.2).2 == 3 && ((j4 e.1 0).down == false && ((j4 e.1 0).get 769 == 7 && ((j4 e.1 0).get 768 == 512 && (e.1.trips 0 == 4 && match e.1.clients[0]? with
  |some C=>C.posted == 5
  |none=>false))))))))
 |none=>false
set_option maxRecDepth 100000 in
theorem xF:zt=true:=by kernel_rfl
theorem tV (F:Fab) (t:Tk conv):alone F t=drive F [t] [] [] 20000:=rfl
theorem AJ {X:FabX} {F:Fab} (h:X.pure=F):X.nodes.length=F.nodes.length:=by rw [←h];simp [FabX.pure]
theorem AK {X:FabX} {F:Fab} (h:X.pure=F) {i:Nat} (hi:i<F.nodes.length):∃ x,X.nodes[i]?=some x∧j4 F i=x.n:=by
 obtain ⟨x,hx⟩:∃ x,X.nodes[i]?=some x:=⟨_,List.getElem?_eq_getElem (by rw [AJ h];exact hi)⟩
 exact ⟨x,hx,by rw [←h];exact tT hx⟩
theorem xG {X:FabX} {F:Fab} (h:X.pure=F) (hf:Fine F) {i:Nat} {x:io} (hx:X.nodes[i]?=some x):x.n.words.length=F.lines * 8:=by
 refine hf.good.ok.words _ ?_
 rw [←h]
 simp only [FabX.pure,List.mem_map]
 exact ⟨x,List.mem_of_getElem? hx,rfl⟩
section
attribute [local irreducible] drive alone
set_option maxRecDepth 20000 in
set_option maxHeartbeats 2000000 in
theorem AL (w:World):Does 13 [] w λv u=>v=.bool true∧New w u:=by
 have hr:=xF
 unfold zt at hr
 rw [Bool.and_eq_true] at hr
 obtain ⟨hq,hr⟩:=hr
 have hf:Fine (Fab.fresh 1 1 98):=Fine.fresh (by omega) (by omega) (by omega)
 cases hd:qZ 0 (Fab.fresh 1 1 98) (tU 0 1 98 1 [] [pe]) with
 |none=>rw [hd] at hr;cases hr
 |some e=>
 rw [hd] at hr
 have hdr:=sW hf hq rfl hd [] (most:=20000) (by omega)
 rw [←tV] at hdr
 simp only [Bool.and_eq_true,decide_eq_true_eq,beq_iff_eq,Bool.not_eq_true'] at hr
 obtain ⟨⟨hn1,hl98⟩,hover,hbad,hcode,hfate,hup,hdat,hhead,htrips,hposted⟩:=hr
 have hfe:Fine e.1:=by
  have:=Fine.alone hf (tU 0 1 98 1 [] [pe])
  rw [hdr] at this
  exact this
 obtain ⟨C,hC⟩:∃ C,e.1.clients[0]?=some C:=by
  cases hC:e.1.clients[0]? with
  |none=>rw [hC] at hposted;cases hposted
  |some C=>exact ⟨C,rfl⟩
 rw [hC] at hposted
 have hposted:C.posted=5:=by simpa using hposted
 refine does Tryz.func13 ?_
 rw [mz]
 refine aE (wJ (n:=1) (c:=1) (lines:=98) (by omega) (by omega) (by omega)) ?_
 rintro v u1 ⟨fb,A,χ,X,rfl,hF,hnw1,hA,hX⟩
 refine ⟨_,_,rfl,cX rfl ?_⟩
 refine aE (wZ _ (n:=1) (by omega) (by omega)) ?_
 rintro v u2 ⟨rv,vw,rfl,hv,hn2,_,rfl⟩
 refine aN.mk_ex rv ⟨rfl,?_⟩
 rintro b1 u3 hb1 hu3
 obtain ⟨hz3,hn3⟩:=aM hb1 hu3
 have hz3:Blk u3 b1 pe.cells 55:=hz3
 clear hu3
 have hs2:=hn2.size
 have hT:TW A χ u1 fb (λ_=>False) u3 A χ X:=TW.start hF (hn2.new hn3) λk h=>h.elim
 have hlow:∀ k,A k∨False→k<u1.heap.size:=λk hk=>hk.elim (hF.low k) False.elim
 have htk:ez (λk=>A k∨False) u3 (te 0 1 98 rv none 0 0 (some ⟨b1,0,none⟩) 1 1) (tU 0 1 98 1 [] [pe]):=by
  refine ql ?_ (.inl rfl) rfl (by simp) (.inl rfl) (el hz3 (by simp [fB])) rfl (by simp) (.inr λh=>?_) ?_
  ·have h1:eO (λk=>A k∨False) u2 rv ⟨0,stM (1:Int).toNat⟩:=hv.mono λk _ hk=>hlow k hk
   exact h1.new hn3
  ·have:=hlow _ h
   have:b1<u1.heap.size:=this
   omega
  ·intro p hp
   simp at hp
   subst hp
   exact ⟨⟨by simp [pe],by simp [pe]⟩,by intro x hx;simp [datL,pe] at hx;rcases hx with rfl | rfl<;>exact ⟨by omega,by omega⟩⟩
 have hcall:=AI hT.fab (by rw [hX];exact hf) htk (nk _ _ _ _ _ _)
 refine aE hcall ?_
 rintro v u4 hp
 obtain ⟨B',ξ',X',h4,hX4,hK4,hk4,hM4,hL4⟩:=hT.op hp
 obtain ⟨t',r',ht',rfl,htx⟩:=hK4
 rw [hX,hdr] at hX4 ht'
 have hX4:X'.pure=e.1:=hX4
 have ht':t'=e.2:=by simpa using ht'.symm
 subst ht'
 refine aB.mk_ex r' ⟨rfl,?_⟩
 refine fN (vs:=r'.cells) rfl (aB.single _) λb2 u5 hb2 hz5 hn5=>?_
 obtain ⟨x,hx,hxm⟩:=AK hX4 (i:=0) (by omega)
 have hlen:=xG hX4 hfe hx
 rw [hl98] at hlen
 rw [hxm] at hup hdat hhead
 have h5:=h4.new hn5
 refine aE (qT h5.fab hx (l:=96) (by omega) (by omega) hup) ?_
 rintro v u6 ⟨rfl,hn6⟩
 refine aF.mk_ex (x.n.page 96) ⟨true,rfl,?_⟩
 refine fN (vs:=(x.n.page 96).cells) rfl (aF.single _) λb3 u7 hb3 hz7 hn7=>?_
 have hz57:=New.blk (hn6.new hn7) hz5
 have h7:=(h5.new hn6).new hn7
 refine ⟨_,hz57.cell (i:=16) rfl,jm (by rw [htx.over];exact hover) ⟨_,hz57.cell (i:=17) rfl,jm (by rw [htx.bad,hbad];rfl) ⟨_,hz57.cell (i:=18) rfl,jm ?_ ⟨_,hz57.cell (i:=24) rfl,jm ?_ (jm rfl ⟨_,hz7.cell (i:=1) rfl,jm ?_ ?_⟩)⟩⟩⟩⟩
 ·have:r'.Code=(outM e.2).1:=htx.out.1
  rw [this,hcode]
  rfl
 ·have:r'.Fate=(outM e.2).2:=htx.out.2
  rw [this,hfate]
  rfl
 ·have:(x.n.page 96).Head=x.n.get 768:=rfl
  rw [this,hhead]
  rfl
 ·refine jM (by omega) (by omega) ⟨_,hz7.cell (i:=2) rfl,jm ?_ ?_⟩
  ·have:(x.n.page 96).Data0=x.n.get 769:=rfl
   rw [this,hdat]
   rfl
  ·refine aE (zJ h7.fab 0) ?_
   rintro v u8 ⟨rfl,rfl⟩
   rw [hX4,htrips]
   refine ⟨_,rfl,jm rfl ?_⟩
   refine aE (yV h7.fab (c:=0) (by rw [hX4];exact hC)) ?_
   rintro v u9 ⟨rfl,rfl⟩
   rw [hposted]
   exact ⟨_,rfl,rfl,h7.mine hF hnw1 hA⟩
end
end Go.Proofs.YtegepanmkjemjaaGreat
namespace Go.Proofs.YtegepanmkjemjaaGreat
open Go.Eng C12
def xH (W:List aF) (k:Nat):Int:=(W.getD k noP).Head
def l6 (W:List aF) (k:Nat) (h:Int):List aF:=W.set k { W.getD k noP with Head:=h }
def xI (l:Nat):aF:=⟨(l:Int),256,0,0,0,0,0,0,0⟩
def qm (n a:Nat):List aF:=cws 0 (j4 (Fab.fresh n 6 100) 0) (bK a)
def rI (n a k:Nat):List aF:=l6 (qm n a) k (IntKind.u64.wrap (xH (qm n a) k+256))
def rJ (n a k:Nat):Bool→List aF
 |true=>l6 (rI n a k) k 256
 |false=>rI n a k
def y5 (n a k:Nat):Bool→List aT
 |true=>[⟨xf (rI n a k),512⟩]
 |false=>[]
def vJ (n a k:Nat) (neg:Bool):Tk conv:=tU 0 1 100 n (y5 n a k neg) (rJ n a k neg)
def uy:List Int:=(List.replicate 4 [256,0,0,0,0,0,0,0]).flatten
def y6 (n a k:Nat) (neg:Bool):Bool:=match qZ 0 (Fab.fresh n 6 100) (vJ n a k neg) with
 |some e=>e.2.over && ((outM e.2).1 == 7 && ((outM e.2).2 == 1 && eqB e.1 n 100 uy))
 |none=>false
def tf (n lo:Nat):Bool:=qY (Fab.fresh n 6 100) && (List.range 7).all λa=>(List.range (bK (lo+a)).length).all λk=>y6 n (lo+a) k false && y6 n (lo+a) k true
theorem vK:∀ y,y<14→1≤(bK y).length∧(bK y).length≤3:=by decide
def xJ:Prop:=∀ (n a k:Nat),1≤n∧n≤3→a<14→k<(bK a).length→∀ (neg:Bool) (sch:List Int),∃ e:Fab×Tk conv,drive (Fab.fresh n 6 100) [vJ n a k neg] sch [] 3000=(e.1,[e.2])∧Fine e.1∧e.2.over=true∧(outM e.2).1=7∧(outM e.2).2=1∧
  EqF e.1 n 100 uy
end Go.Proofs.YtegepanmkjemjaaGreat
namespace Go.Proofs.YtegepanmkjemjaaGreat
open Go.Proofs.Tryz
open Go.Eng C12
theorem l8 {α:Type} {cells:α→List Value} {sz:Nat} (hsz:∀ x,(cells x).length=sz):∀ (l:List α) (i j:Nat) (r r':α) (v:Value),l[i]?=some r→j<sz→(cells r).set j v=cells r'→((l.map cells).flatten).set (i * sz+j) v=((l.set i r').map cells).flatten
 | [],i,j,r,r',v,h,_,_=>by simp at h
 |x::l,0,j,r,r',v,h,hj,hv=>by
  simp only [List.getElem?_cons_zero,Option.some.injEq] at h
  subst h
  rw [List.map_cons,List.flatten_cons,List.set_append_left _ _ (by rw [hsz];omega),Nat.zero_mul,Nat.zero_add,hv]
  rfl
 |x::l,i+1,j,r,r',v,h,hj,hv=>by
  rw [List.getElem?_cons_succ] at h
  have hx:=hsz x
  have e:(i+1) * sz+j=(cells x).length+(i * sz+j):=by rw [hx,Nat.succ_mul];omega
  rw [List.map_cons,List.flatten_cons,e,List.set_append_right _ _ (by omega),Nat.add_sub_cancel_left,l8 hsz l i j r r' v h hj hv]
  rfl
theorem AM {α:Type} {l:List α} {i:Nat} {x d:α} (h:l[i]?=some x):l.getD i d=x:=by rw [List.getD_eq_getElem?_getD,h];rfl
theorem zu {u:World} {wa:Option Addr} {n cap:Nat} {W:List aF} (ho:Owns u TPg 9 wa n cap (fB W).flatten) {i:Nat} (hi:i<W.length) (hn:n=W.length) {z:Int} (hz:z=i) {v:Int} {K:Addr→World→Prop} (hk:∀ ad w',Owns w' TPg 9 wa n cap (fB (l6 W i v)).flatten→Keep (isB wa) u w'→K ad w') :
  idxS wa n z 9 λad=>(∃ x,u.cell? ⟨ad.block,ad.off+1,none⟩=some x)∧u.frozen? ⟨ad.block,ad.off+1,none⟩=false∧∀ w',w'=u.setCell ⟨ad.block,ad.off+1,none⟩ (.int .u64 v)→K ad w':=by
 obtain ⟨g,cur,rfl,hb,hcl⟩:=xb ho (by omega)
 have hg:W[i]?=some W[i]:=List.getElem?_eq_getElem hi
 generalize W[i]=p at hg
 have hlt:i * 9+1<cur.length:=by omega
 subst hz
 refine aX (by omega) (by omega) ⟨⟨_,hb.cell (i:=0+(i:Int).toNat * 9+1) (List.getElem?_eq_getElem (by simp;omega))⟩,hb.frozen,?_⟩
 rintro w' rfl
 have e:0+(i:Int).toNat * 9+1=i * 9+1:=by simp
 refine hk _ _ ?_ ((aO u g _ _).mono λk _ hk=>by subst hk;exact ⟨0,rfl⟩)
 show Owns (u.setCell ⟨g,0+(i:Int).toNat * 9+1,none⟩ _) _ _ _ _ _ _
 rw [e]
 have h1:=Owns.setCell ho (i:=i * 9+1) (by omega) (.int .u64 v)
 have h2:=l8 (cells:=aF.cells) aF.len W i 1 p { p with Head:=v } (.int .u64 v) hg (by omega) rfl
 have h3:l6 W i v=W.set i { p with Head:=v }:=by unfold l6;rw [AM hg]
 rw [h3]
 have h2:((fB W).flatten).set (i * 9+1) (.int .u64 v)=(fB (W.set i { p with Head:=v })).flatten:=h2
 rw [h2] at h1
 exact h1
theorem y7 (x:Int):U64 (IntKind.u64.wrap x):=m6 x
theorem BJ {n:aP} (h:∀ i,U64 (n.get i)) (c:Int) (l:Nat):PgU (bump c (n.page l)):=by
 refine ⟨y7 _,λx hx=>?_⟩
 simp only [datL,bump,aP.page,List.mem_cons,List.not_mem_nil,or_false] at hx
 rcases hx with rfl | rfl | rfl | rfl | rfl | rfl | rfl
 ·exact y7 _
 ·exact y7 _
 all_goals exact h _
theorem B4 {n:aP} (h:∀ i,U64 (n.get i)) (c:Int) (L:List Nat):∀ p ∈ cws c n L,PgU p:=by
 intro p hp
 simp only [cws,List.mem_map] at hp
 obtain ⟨l,_,rfl⟩:=hp
 exact BJ h c l
theorem tg {W:List aF} (h:∀ p ∈ W,PgU p) {k:Nat} (hk:k<W.length) {v:Int} (hv:U64 v):∀ p ∈ l6 W k v,PgU p:=by
 intro p hp
 rcases List.mem_or_eq_of_mem_set hp with h1 | rfl
 ·exact h p h1
 ·have hg:W[k]?=some W[k]:=List.getElem?_eq_getElem hk
  rw [AM hg]
  exact ⟨hv,(h _ (List.getElem_mem hk)).data⟩
theorem xK {A:Nat→Prop} {w u:World} {a:Option Addr} {xs:List Value} (hr:Rd w a xs) (hn:New w u) (hA:∀ k,A k→w.heap.size≤k):Dat A u a xs:=by
 refine ⟨hr.new hn,?_⟩
 by_cases hx:xs=[]
 ·exact .inl hx
 ·refine .inr ?_
  cases a with
  |none=>trivial
  |some a=>
   intro h
   have:=hA _ h
   have:=hr.lt hx
   omega
attribute [local irreducible] drive
theorem uz {A:Nat→Prop} {χ:Nat→Tag} {w2 z:World} {fb b1:Nat} {X:FabX} (hF:aV A χ w2 fb X) (hn:New w2 z) (hb:w2.heap.size≤b1∧b1<z.heap.size) (hf:Fine X.pure) {r:TR} {t:Tk conv} (ht:ez (λk=>A k∨k=b1) z r t) (hsh:rB t)
  {pa:Option Addr} (hpa:Rd z pa r.cells) {sch:List Int} {sa:Option Addr} {sc:Nat} (hsd:Dat (λk=>A k∨k=b1) z sa (is sch)) (hsi:∀ x ∈ sch,I64 x) {most:Nat} (hm:most≤1000000) {e:Fab×Tk conv} (hd:drive X.pure [t] sch [] most=(e.1,[e.2])) {n:Nat} (hsl:n=sch.length) :
  Does 23 [ptr fb,.slice pa 1 1,.slice sa n sc,.slice none 0 0,.int .i64 most] z λv u=>∃ la lc r' B ξ X',v=.slice la 1 lc∧TW A χ w2 fb (λk=>k=b1) u B ξ X'∧X'.pure=e.1∧ez (λk=>B k∨k=b1) u r' e.2∧(∀ K:Addr→Prop,(∀ b o,aD u ⟨b,o,none⟩ 0 r'.cells→K ⟨b,o,none⟩)→idxS la 1 0 25 K)∧
   u.heap[b1]?=z.heap[b1]?∧Keep (λk=>A k∨k=b1) z u∧∀ k,k<z.heap.size→B k∨k=b1→A k∨k=b1:=by
 subst hsl
 have hT:TW A χ w2 fb (λk=>k=b1) z A χ X:=TW.start hF hn λk hk=>by subst hk;exact hb
 have hdn:Dat (λk=>A k∨k=b1) z none ([]:List Value):=⟨.inl rfl,.inl rfl⟩
 have hrd:Rd z pa (kV [(r,t)]).flatten:=by simpa [kV] using hpa
 have hdr:=xC hT.fab hf (ts:=[(r,t)]) (pc:=1) hrd (λx hxm=>by simp at hxm;rw [hxm];exact ⟨ht,hsh⟩) (by simp) (sch:=sch) (sa:=sa) (sc:=sc) hsd hsi (es:=[]) (ea:=none) (ec:=0) hdn (λx hx=>by cases hx) (by simp) (most:=most) hm
 have e1:drive X.pure ([(r,t)].map Prod.snd) sch [] most=(e.1,[e.2]):=hd
 rw [e1] at hdr
 refine aE hdr ?_
 rintro v u hp
 obtain ⟨B',ξ',X',h3,hX3,hK3,hk3,hM3,hL3⟩:=hT.op hp
 obtain ⟨la,lc,ts',rfl,hts',how,hnB,htx'⟩:=hK3
 obtain ⟨r',rfl⟩:=xD hts'
 refine ⟨_,rfl,la,lc,r',B',ξ',X',rfl,h3,hX3,htx' (r',e.2) (by simp),λK hK=>?_,hL3 b1 rfl,hk3,hM3⟩
 have hrows:Rd u la (([(r',e.2)]:List (TR×Tk conv)).map λx=>x.1.cells).flatten:=how.rd
 exact eC (cells:=λx:TR×Tk conv=>x.1.cells) (λx=>aB.len x.1) (by omega) hrows (i:=0) rfl rfl rfl λb o hc _=>hK b o hc
theorem th (n a k:Nat) (neg:Bool):(rJ n a k neg).length=(bK a).length:=by
 cases neg<;>simp [rJ,rI,qm,l6,cws]
theorem xL (n a k:Nat):(rI n a k).length=(bK a).length:=by simp [rI,qm,l6,cws]
theorem xM (n a:Nat):(qm n a).length=(bK a).length:=by simp [qm,cws]
theorem xO {l:Nat} (h:96≤l) (h2:l<100):pgE uy l=xI l:=by
 obtain rfl | rfl | rfl | rfl:l=96∨l=97∨l=98∨l=99:=by omega
 all_goals rfl
theorem vL {n c l i:Nat} (hi:i<n):j4 (Fab.fresh n c l) i=⟨fmt l n,false⟩:=by simp [j4,Fab.fresh,List.getD_eq_getElem?_getD,hi]
set_option maxRecDepth 20000 in
set_option maxHeartbeats 4000000 in
theorem oq (hrun:xJ) (w:World) {x0 x1 x2:Int} {p3:Option Addr} {c3:Nat} {sch:List Int} (h0:I64 x0) (h1:I64 x1) (h2:I64 x2) (hs:Rd w p3 (is sch)) (hi:∀ x ∈ sch,I64 x) :
  Does 10 [.int .i64 x0,.int .i64 x1,.int .i64 x2,.slice p3 sch.length c3] w λv u=>v=.bool true∧New w u:=by
 refine does Tryz.func10 ?_
 rw [ic]
 refine aH (λh=>⟨rfl,Keep.refl _ _⟩) (λ_=>?_)
 refine aE (lO _ _ _ h0 (by omega)) ?_
 rintro v u1 ⟨rfl,hu1⟩
 obtain rfl:w=u1:=hu1.symm
 rw [if_neg (by omega)]
 refine ⟨_,rfl,?_⟩
 obtain ⟨n,hn,hn3⟩:∃ n:Nat,x0 % 3+1=n∧1≤n∧n≤3:=⟨(x0 % 3+1).toNat,by omega,by omega⟩
 rw [w64 (x:=x0 % 3+1) (by omega) (by omega),hn]
 refine aE (AF (n:=n) (by omega) (x:=2) ⟨by omega,by omega⟩) ?_
 rintro v w2 ⟨fb,p,A,χ,X,rv,rfl,hm⟩
 have hm:Made _ w2 n 100 fb p A χ X rv:=hm
 obtain ⟨num,mem,ml,mc⟩:=rv
 have hml:n=ml:=(hm.view.len.trans (kI n)).symm
 subst hml
 refine ⟨_,_,rfl,cX rfl ?_⟩
 refine aE (AL _) ?_
 rintro v w3 ⟨rfl,hn3'⟩
 refine ⟨_,rfl,cX rfl ?_⟩
 obtain ⟨y,hy,hy14⟩:∃ y:Nat,(x1 % 14).toNat=y∧y<14:=⟨_,rfl,by omega⟩
 refine aE (yX h1) ?_
 rw [hy]
 rintro v w4 ⟨ca,cc,rfl,hrc,hn4⟩
 refine ⟨_,_,_,rfl,?_⟩
 have hf0:Fine (Fab.fresh n 6 100):=Fine.fresh (by omega) (by omega) (by omega)
 obtain ⟨x,hx,hxm⟩:=AK hm.pure (i:=0) (by simp [Fab.fresh];omega)
 have hlong:x.n.words.length=800:=xG hm.pure hf0 hx
 have hup:x.n.down=false:=by rw [←hxm,vL (by omega)]
 have hu:∀ i,U64 (x.n.get i):=λi=>(hm.fab.node 0 x hx).node.wf_get i
 obtain ⟨hl1,hl3⟩:=vK y hy14
 have hn24:=hn3'.new hn4
 have hcnt:=vH (hm.fab.new hn24) (New.blk hn24 hm.box) hx hup (L:=bK y) (λl hl=>by have:=vG hl;omega) (by omega) hrc (cc:=cc) 0 1
 refine aE hcnt ?_
 rintro v w5 ⟨wa,wc,rfl,hn5,hown,hfr⟩
 refine aB.mk_ex (uw 0 1 100 ⟨num,mem,n,mc⟩ wa (bK y).length wc) ⟨true,rfl,?_⟩
 refine fN (vs:=(te 0 1 100 ⟨num,mem,n,mc⟩ none 0 0 wa (bK y).length wc).cells) rfl (aB.single _) λb1 w6 hb1 hz6 hn6=>?_
 refine cX rfl ⟨wa,(bK y).length,wc,hz6.cell (i:=14) rfl,?_⟩
 refine aE (lO _ x2 (bK y).length h2 (by omega)) ?_
 rintro v w7 ⟨rfl,rfl⟩
 rw [if_neg (by omega)]
 obtain ⟨k,hk,hkl⟩:∃ k:Nat,x2 % ((bK y).length:Int)=k∧k<(bK y).length:=by
  have e1:=Int.emod_nonneg x2 (b:=((bK y).length:Int)) (by omega)
  have e2:=Int.emod_lt_of_pos x2 (b:=((bK y).length:Int)) (by omega)
  exact ⟨(x2 % ((bK y).length:Int)).toNat,by omega,by omega⟩
 rw [hk]
 refine ⟨_,rfl,?_⟩
 have hW:cws 0 x.n (bK y)=qm n y:=by unfold qm;rw [hxm]
 have hWu0:∀ q ∈ qm n y,PgU q:=by rw [←hW];exact B4 hu 0 _
 rw [hW] at hown
 have hl0:=xM n y
 have hWu1:∀ q ∈ rI n y k,PgU q:=tg hWu0 (by omega) (y7 _)
 rintro w9 hw9
 have hn9:New w7 w9:=by rw [hw9];exact aS _
 clear hw9
 refine ⟨λy=>New w9 y,Keep.refl _ _,wa,(bK y).length,wc,λu hu=>(New.blk (hn9.new hu) hz6).cell (i:=14) rfl,wa,(bK y).length,wc,λu hu=>(New.blk (hn9.new hu) hz6).cell (i:=14) rfl,?_⟩
 have hown9:=hown.new (hn6.new hn9)
 obtain ⟨q,hg⟩:∃ q,(qm n y)[k]?=some q:=⟨_,List.getElem?_eq_getElem (by omega)⟩
 have hq:q.Head=xH (qm n y) k:=by unfold xH;rw [AM hg]
 refine lp (cells:=aF.cells) aF.len (by omega) hown9.rd hg rfl hl0.symm λb o hc=>⟨_,λu hu=>hc u hu 1 _ rfl,?_⟩
 rw [hq]
 have hsz2:=hm.new.size
 have hsz4:=hn24.size
 have hsz5:=hn5.size
 have hfr2:∀ j,isB wa j→w2.heap.size≤j:=λj hj=>by have:=hfr j hj;omega
 have hnb1:¬ isB wa b1:=λh=>by have:=hown.lt h;omega
 refine zu (i:=k) hown9 (by omega) hl0.symm rfl λ_ w10 ho10 hk10=>?_
 have ho10:Owns w10 TPg 9 wa (bK y).length wc (fB (rI n y k)).flatten:=ho10
 have hn10:New w2 w10:=(((hn24.new hn5).new hn6).new hn9).trans hk10 λj hlt hj=>by have:=hfr2 j hj;omega
 have hz10:=hk10.blk (New.blk hn9 hz6) hnb1
 have hl1':=xL n y k
 clear hown9 hk10 hc hz6
 have hloop:∀ (jj:List Value) (u:World) (B:Nat→Prop) (ξ:Nat→Tag) (X':FabX) (e:Fab×Tk conv),TW A χ w2 fb (λk=>k=b1) u B ξ X'→X'.pure=e.1→Fine e.1→EqF e.1 n 100 uy→
   bV prog (.loop (sub (aG f10) [1,1,1,1,1,1,1,1,1,1,1,0,1,0,0])) (bB (some ⟨p,0,none⟩) 96 jj) (aI 0 (seqQ (λenv z=>Go.Eng.W prog (sub (aG f10) [1,1,1,1,1,1,1,1,1,1,1,1]) env (retQ prog f10 λv u=>v=.bool true∧New w u) z) (retQ prog f10 λv u=>v=.bool true∧New w u))) u:=by
  intro jj u B ξ X' e hT hX' hfe heq
  have hkA:Keep A w2 u:=hT.next.keep.mono λk _ hc=>hm.fab.avoid k hc
  have hbox:Blk u p (fofC fb 100 ⟨num,mem,n,mc⟩) TFo:=hkA.blk hm.box hm.out
  have hmem:Rd u mem (gB (stM n)).flatten:=hm.view.rd.keep hkA hm.view.off
  have hnew:New w u:=hT.mine hm.fab hm.new hm.own
  have hln:=heq.len
  obtain ⟨x',hx',hxm'⟩:=AK hX' (i:=0) (by omega)
  have hlong':x'.n.words.length=800:=by rw [xG hX' hfe hx',heq.lns]
  have e0:=(heq.eq 0 (by omega)).up
  rw [hxm'] at e0
  refine aR mix (λq env z=>∃ (l:Nat) (jj:List Value),q=100 - l∧96≤l∧l≤100∧env=bB (some ⟨p,0,none⟩) l jj∧New u z) 4 ⟨96,_,rfl,by omega,by omega,rfl,Keep.refl _ _⟩ ?_
  rintro q env z ⟨l,jj,rfl,hl0,hl,rfl,hz⟩
  rw [eT]
  refine ⟨_,(New.blk hz hbox).cell (i:=1) rfl,aH (λhlt=>?_) (λhge=>?_)⟩
  ·have hlt:l<100:=by omega
   refine ⟨_,(New.blk hz hbox).cell (i:=0) rfl,?_⟩
   refine aE (qT (hT.fab.new hz) hx' (l:=l) (by omega) (by omega) e0) ?_
   rintro v u2 ⟨rfl,hn2⟩
   refine aF.mk_ex (x'.n.page l) ⟨true,rfl,?_⟩
   refine fN (vs:=(x'.n.page l).cells) rfl (aF.single _) λb2 u3 hb2 hz3 hn3=>?_
   refine cX rfl (aF.mk_ex (x'.n.page l) ⟨aJ hz3 rfl,?_⟩)
   have hpg:x'.n.page l=xI l:=by rw [←hxm',heq.page 0 (by omega) l hl0 hlt,xO hl0 hlt]
   rw [hpg]
   refine q0 (xI l) (cX rfl ?_)
   rw [w64 (x:=(l:Int)+1) (by omega) (by omega)]
   exact ⟨100 - (l+1),by omega,l+1,_,rfl,by omega,by omega,rfl,(hz.new hn2).new hn3⟩
  ·rw [fH]
   rintro w1 hw1
   have hn1:New u w1:=by rw [hw1];exact hz.new (aS _)
   clear hw1
   refine ⟨λy=>New w1 y,Keep.refl _ _,_,λv hv=>(New.blk (hn1.new hv) hbox).cell (i:=0) rfl,_,_,_,λv hv=>(New.blk (hn1.new hv) hbox).cell (i:=3) rfl,_,λv hv=>(New.blk (hn1.new hv) hbox).cell (i:=1) rfl,?_⟩
   have hEq:=AH (hT.fab.new hn1) (EqX.of (n:=n) (lines:=100) (by rw [hX'];exact hfe) (by rw [hX'];exact heq) (by omega) (by omega)) (hmem.new hn1) (mc:=mc) (by omega)
   refine aE hEq ?_
   rintro v u2 ⟨rfl,hn2⟩
   exact ⟨_,rfl,rfl,hnew.new (hn1.new hn2)⟩
 refine aH (λhneg=>?_) (λhpos=>?_)
 ·refine ⟨wa,(bK y).length,wc,hz10.cell (i:=14) rfl,?_⟩
  have hoth:=Ab (c:=wc) ho10.rd (by omega)
  rw [hl1'] at hoth
  refine aE hoth ?_
  rintro v w11 ⟨rfl,rfl⟩
  refine ⟨_,rfl,?_⟩
  rintro b2 w12 hb2 hw12
  obtain ⟨hz12,hn12⟩:=aM hb2 hw12
  clear hw12
  have hb12:=hz10.lt
  refine kX (b:=b1) (o:=13) (New.blk hn12 hz10) (by simp [aB.cells]) λw13 hz13 hk13=>?_
  have hz13:Blk w13 b1 (te 0 1 100 ⟨num,mem,n,mc⟩ (some ⟨b2,0,none⟩) 1 1 wa (bK y).length wc).cells 49:=hz13
  refine ⟨wa,(bK y).length,wc,hz13.cell (i:=14) rfl,?_⟩
  have ho13:Owns w13 TPg 9 wa (bK y).length wc (fB (rI n y k)).flatten:=Owns.keep hk13 (ho10.new hn12) λj hj e=>hnb1 (e▸hj)
  refine zu (i:=k) ho13 (by omega) hl1'.symm rfl λ_ z hoz hk14=>?_
  have hoz:Owns z TPg 9 wa (bK y).length wc (fB (rJ n y k true)).flatten:=hoz
  have hWu:∀ q ∈ rJ n y k true,PgU q:=tg hWu1 (by omega) ⟨by omega,by omega⟩
  have hnz:New w2 z:=((hn10.new hn12).trans hk13 λj hlt e=>by omega).trans hk14 λj hlt hj=>by have:=hfr2 j hj;omega
  have hzz:=hk14.blk hz13 hnb1
  have hb2w:¬ isB wa b2:=λh=>by have:=hown.lt h;have:=(hn6.new hn9).size;omega
  have hz2z:=hk14.blk (hk13.blk hz12 (by omega)) hb2w
  obtain ⟨e,hd,hfe,hov,hcode,hfate,heq⟩:=hrun n y k hn3 hy14 hkl true sch
  have hlenW:(bK y).length=(rJ n y k true).length:=by rw [th]
  rintro w15 hw15
  have hn15:New z w15:=by rw [hw15];exact aS _
  clear hw15
  refine ⟨λy=>New w15 y,Keep.refl _ _,some ⟨fb,0,none⟩,λu hu=>(New.blk ((hnz.new hn15).new hu) hm.box).cell (i:=0) rfl,aB.mk_ex (te 0 1 100 ⟨num,mem,n,mc⟩ (some ⟨b2,0,none⟩) 1 1 wa (bK y).length wc) ⟨λu hu=>aJ (New.blk (hn15.new hu) hzz) rfl,?_⟩⟩
  rintro b3 w16 hb3 hw16
  obtain ⟨hz16,hn16⟩:=aM hb3 hw16
  clear hw16
  refine ⟨hn16,?_⟩
  have hnA:=(hnz.new hn15).new hn16
  have hb1A:b1<w16.heap.size:=by have:=hzz.lt;have:=(hn15.new hn16).size;omega
  have htk:ez (λk=>A k∨k=b1) w16 (te 0 1 100 ⟨num,mem,n,mc⟩ (some ⟨b2,0,none⟩) 1 1 wa (bK y).length wc) (vJ n y k true):=by
   refine ql (eO.new (hm.view.mono λj hj h=>?_) hnA) (el (New.blk (hn15.new hn16) hz2z) (by simp [sF,y5,aT.cells])) rfl (by simp [y5]) (.inr λh=>h.elim (λh=>by have h3:b2<w2.heap.size:=hm.fab.low _ h;omega) λh=>by have h3:b2=b1:=h;omega) ((hoz.new (hn15.new hn16)).rd) hlenW (by omega) (ny (hoz.new (hn15.new hn16)).rd λj hj h=>?_) hWu
   ·rcases h with h | h
    ·exact h
    ·omega
   ·have h4:=hfr j hj
    have h5:=hown.lt hj
    rcases h with h | h
    ·have:=hm.fab.low j h;omega
    ·omega
  have hcall:=uz hm.fab hnA ⟨by omega,hb1A⟩ (by rw [hm.pure];exact hf0) htk (nk _ _ _ _ _ _) (pa:=some ⟨b3,0,none⟩) (el hz16 (by simp [aB.cells])) (xK (A:=λk=>A k∨k=b1) hs (hm.new.new hnA) λj hj=>hj.elim (hm.own j) λh=>by omega) hi (sc:=c3) (most:=3000) (by omega) (e:=e) (by rw [hm.pure];exact hd) rfl
  refine aE hcall ?_
  rintro v w17 ⟨la,lc,r',B,ξ,X',rfl,hT,hX',htx,hidx,hblk,hkz,hMz⟩
  refine ⟨_,_,_,rfl,hidx _ λb o hcell=>?_⟩
  refine aB.mk_ex r' ⟨hcell,?_⟩
  have hb17:=hblk.trans (New.blk (hn15.new hn16) hzz)
  refine eZ (vs:=r'.cells) hb17 rfl (aB.single _) λw18 hz18 hk18=>?_
  have hT18:=hT.local hk18 λ_ e=>e
  have hc7:r'.Code=7:=htx.out.1.trans hcode
  have hf1:r'.Fate=1:=htx.out.2.trans hfate
  exact ⟨_,hz18.cell (i:=16) rfl,cX (by rw [htx.over,hov];rfl) ⟨_,hz18.cell (i:=18) rfl,cX (by rw [hc7];rfl) ⟨_,hz18.cell (i:=24) rfl,cX (by rw [hf1];rfl) (hloop _ _ _ _ _ _ hT18 hX' hfe heq)⟩⟩⟩
 ·have hnz:=hn10
  have hzz:=hz10
  have hoz:Owns w10 TPg 9 wa (bK y).length wc (fB (rJ n y k false)).flatten:=ho10
  have hWu:∀ q ∈ rJ n y k false,PgU q:=hWu1
  obtain ⟨e,hd,hfe,hov,hcode,hfate,heq⟩:=hrun n y k hn3 hy14 hkl false sch
  have hlenW:(bK y).length=(rJ n y k false).length:=by rw [th]
  rintro w15 hw15
  have hn15:New w10 w15:=by rw [hw15];exact aS _
  clear hw15
  refine ⟨λy=>New w15 y,Keep.refl _ _,some ⟨fb,0,none⟩,λu hu=>(New.blk ((hnz.new hn15).new hu) hm.box).cell (i:=0) rfl,aB.mk_ex (te 0 1 100 ⟨num,mem,n,mc⟩ none 0 0 wa (bK y).length wc) ⟨λu hu=>aJ (New.blk (hn15.new hu) hzz) rfl,?_⟩⟩
  rintro b3 w16 hb3 hw16
  obtain ⟨hz16,hn16⟩:=aM hb3 hw16
  clear hw16
  refine ⟨hn16,?_⟩
  have hnA:=(hnz.new hn15).new hn16
  have hb1A:b1<w16.heap.size:=by have:=hzz.lt;have:=(hn15.new hn16).size;omega
  have htk:ez (λk=>A k∨k=b1) w16 (te 0 1 100 ⟨num,mem,n,mc⟩ none 0 0 wa (bK y).length wc) (vJ n y k false):=by
   refine ql (eO.new (hm.view.mono λj hj h=>?_) hnA) (.inl rfl) rfl (by simp [y5]) (.inl rfl) ((hoz.new (hn15.new hn16)).rd) hlenW (by omega) (ny (hoz.new (hn15.new hn16)).rd λj hj h=>?_) hWu
   ·rcases h with h | h
    ·exact h
    ·omega
   ·have h4:=hfr j hj
    have h5:=hown.lt hj
    rcases h with h | h
    ·have:=hm.fab.low j h;omega
    ·omega
  have hcall:=uz hm.fab hnA ⟨by omega,hb1A⟩ (by rw [hm.pure];exact hf0) htk (nk _ _ _ _ _ _) (pa:=some ⟨b3,0,none⟩) (el hz16 (by simp [aB.cells])) (xK (A:=λk=>A k∨k=b1) hs (hm.new.new hnA) λj hj=>hj.elim (hm.own j) λh=>by omega) hi (sc:=c3) (most:=3000) (by omega) (e:=e) (by rw [hm.pure];exact hd) rfl
  refine aE hcall ?_
  rintro v w17 ⟨la,lc,r',B,ξ,X',rfl,hT,hX',htx,hidx,hblk,hkz,hMz⟩
  refine ⟨_,_,_,rfl,hidx _ λb o hcell=>?_⟩
  refine aB.mk_ex r' ⟨hcell,?_⟩
  have hb17:=hblk.trans (New.blk (hn15.new hn16) hzz)
  refine eZ (vs:=r'.cells) hb17 rfl (aB.single _) λw18 hz18 hk18=>?_
  have hT18:=hT.local hk18 λ_ e=>e
  have hc7:r'.Code=7:=htx.out.1.trans hcode
  have hf1:r'.Fate=1:=htx.out.2.trans hfate
  exact ⟨_,hz18.cell (i:=16) rfl,cX (by rw [htx.over,hov];rfl) ⟨_,hz18.cell (i:=18) rfl,cX (by rw [hc7];rfl) ⟨_,hz18.cell (i:=24) rfl,cX (by rw [hf1];rfl) (hloop _ _ _ _ _ _ hT18 hX' hfe heq)⟩⟩⟩
end Go.Proofs.YtegepanmkjemjaaGreat
