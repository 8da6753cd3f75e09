import Derived.Test.YtegepanmkjemjaaGreatp38
import Derived.Test.YtegepanmkjemjaaGreatp23
import Derived.Test.YtegepanmkjemjaaGreatp37
set_option linter.unusedVariables false
namespace Go.Proofs.YtegepanmkjemjaaGreat
open Go.Proofs.Tryz
open Go.Eng C12
theorem AG:Go.Mx.qG prog 8 TPg=some [false,false,false,false,false,false,false,false,false]:=by kernel_rfl
theorem BH:isAgg? prog TPg=true:=by kernel_rfl
theorem yY:Program.eqGuardType prog (Program.depth prog) TPg=false:=by kernel_rfl
theorem q0 (r:aF) {K:Bool→Prop} (hk:K true):vP prog TPg r.val r.val K:=by
 refine ⟨true,λw=>?_,hk⟩
 have hc:Go.Mx.om [false,false,false,false,false,false,false,false,false] r.cells r.cells:=⟨rfl,rfl,rfl,rfl,rfl,rfl,rfl,rfl,rfl,trivial⟩
 have he:Go.Mx.eqvL r.cells r.cells=true:=by simp [aF.cells,Go.Mx.eqvL,Go.Mx.eqv1]
 have hq:=Go.Mx.xx 8 TPg _ AG 10000 (by omega) r.cells r.cells hc w
 unfold Go.Mx.qH at hq
 rw [if_pos BH,he] at hq
 have hq':(Op.equalIn 10000 TPg (.agg r.cells.toArray) (.agg r.cells.toArray)).run prog w=.ok true w:=hq
 exact ⟨λop x y=>run_eqGuard_agg w op TPg x y _ _ yY,by rw [aF.val,run_eql_struct,hq'];rfl,by rw [aF.val,run_neq_struct,hq'];rfl⟩
theorem tS (l:List aF) (p:aF):(fB (l++[p])).flatten=(fB l).flatten++p.cells:=by simp [fB]
theorem xy {u:World} {a:Option Addr} {n cap:Nat} {L:List aF} (ho:Owns u TPg 9 a n cap (fB L).flatten) {p:aF} (hb1:n≤1000000) {K:Nat→Option Addr→Nat→Nat→World→Prop}
  (hk:∀ b ap cap' w3,b=u.heap.size→Owns w3 TPg 9 ap (n+1) cap' (fB (L++[p])).flatten→Keep (isB a) u w3→(∀ k,isB ap k→isB a k∨u.heap.size≤k)→K b ap (n+1) cap' w3) :
  ∀ b1 w2,b1=u.heap.size→w2=u.alloc (.cells p.cells.toArray TPg)→∃ (ap:Option Addr) (ap_len ap_cap:Nat),∃ w3,(Builtin.append_ #[32,32] 32 #[(.slice a n cap),(.slice (some ⟨b1,0,none⟩) 1 1)]).run prog w2=.ok (.slice ap ap_len ap_cap) w3∧K b1 ap ap_len ap_cap w3:=by
 obtain ⟨inf,hi,hz,hsz,hby⟩:=ig (T:=TPg) (z:=.agg #[.int .i64 0,.int .u64 0,.int .u64 0,.int .u64 0,.int .u64 0,.int .u64 0,.int .u64 0,.int .u64 0,.int .u64 0]) (n:=9) (m:=72) (by kernel_rfl)
 rw [←hsz] at ho
 refine push_k Tryz.underlying32 hi hz (by rw [hsz];rfl) (by omega) ho (by rw [hsz];rfl) (aF.single p) (by omega) (by omega) ?_
 intro b ap cap' w3 h1 h2
 rw [hsz,←tS] at h2
 exact hk b ap cap' w3 h1 h2
theorem oR {n i:Nat} (h:i<n):(stM n)[i]?=some ⟨(i:Int),1,true⟩:=by simp [stM,h]
theorem ta (w:World) (c:Int):Does 42 [.int .i64 c] w λv w'=>v=.bool (decide (0≤c∧c<6))∧w'=w:=by
 refine does Tryz.func42 ?_
 rw [mB]
 refine aH (λh=>⟨?_,rfl⟩) (λh=>⟨?_,rfl⟩)
 ·have h:0≤c:=h
  congr 1;simp [h]
 ·have h:¬ 0≤c:=h
  congr 1;simp [h]
theorem xz (w:World) {i:Nat} (hi:i<6):Does 20 [.int .i64 i] w λv w'=>v=.int .i64 (32+i:Nat)∧w'=w:=by
 refine does Tryz.func20 ?_
 rw [nf]
 refine aE (ta w (i:Int)) ?_
 rintro v u ⟨rfl,rfl⟩
 refine ⟨_,rfl,cX (by simp;omega) ⟨?_,rfl⟩⟩
 rw [w64 (by omega) (by omega)]
 congr 1
theorem zo (w:World) {i:Nat} (hi:i<6):Does 39 [.int .i64 i] w λv w'=>v=.int .i64 (24+i:Nat)∧w'=w:=by
 refine does Tryz.func39 ?_
 rw [n8]
 refine aE (ta w (i:Int)) ?_
 rintro v u ⟨rfl,rfl⟩
 refine ⟨_,rfl,cX (by simp;omega) ⟨?_,rfl⟩⟩
 rw [w64 (by omega) (by omega)]
 congr 1
structure EqX (X:FabX) (n lines:Nat):Prop where
 len:X.nodes.length=n
 eq:∀ (i:Nat) (x x0:io),X.nodes[i]?=some x→X.nodes[0]?=some x0→EqN x0.n x.n lines
 long:∀ (i:Nat) (x:io),X.nodes[i]?=some x→lines * 8≤x.n.words.length
 few:lines≤256
 many:98≤lines
theorem tT {X:FabX} {i:Nat} {x:io} (h:X.nodes[i]?=some x):j4 X.pure i=x.n:=by
 simp [j4,FabX.pure,List.getD_eq_getElem?_getD,h]
theorem EqX.of {X:FabX} {n lines:Nat} {E:List Int} (hf:Fine X.pure) (h:EqF X.pure n lines E) (h98:98≤lines) (h256:lines≤256):EqX X n lines:=by
 obtain ⟨h1,h3,_,h2⟩:=h
 have hl:X.nodes.length=n:=by rw [←h1];simp [FabX.pure]
 refine ⟨hl,λi x x0 hx h0=>?_,λi x hx=>?_,h256,h98⟩
 ·have hi:=aU hx
  have:=h2 i (by omega)
  rw [tT hx,tT h0] at this
  exact this
 ·have hm:x.n ∈ X.pure.nodes:=by
   simp only [FabX.pure,List.mem_map]
   exact ⟨x,List.mem_of_getElem? hx,rfl⟩
  have:=hf.good.ok.words _ hm
  omega
theorem yZ {A:Nat→Prop} {χ:Nat→Tag} {w:World} {fb:Nat} {X:FabX} (h:aV A χ w fb X) {i:Nat} {x:io} (hx:X.nodes[i]?=some x) {q:Nat} (e:x.n.get q % 256=0):band .u64 (x.n.get q) 255=0:=by
 obtain ⟨h0,h1⟩:=(h.node i x hx).node.wf_get q
 have hb:band .u64 (x.n.get q) ((2 ^ 8 - 1:Nat):Int)=x.n.get q % (2 ^ 8:Nat):=v5 h0 h1 8 (by omega)
 have hb:band .u64 (x.n.get q) 255=x.n.get q % 256:=hb
 rw [hb,e]
set_option maxHeartbeats 2000000 in
theorem AH {A:Nat→Prop} {χ:Nat→Tag} {w:World} {fb:Nat} {X:FabX} (h:aV A χ w fb X) {n lines:Nat} (hq:EqX X n lines) {a:Option Addr} {mc:Nat} (hr:Rd w a (gB (stM n)).flatten) (hn1:n≤5) :
  Does 17 [ptr fb,.slice a n mc,.int .i64 lines] w λv u=>v=.bool true∧New w u:=by
 have hfew:=hq.few
 have h98:=hq.many
 refine does Tryz.func17 ?_
 rw [ptr,n7]
 refine aR mix (λq env z=>∃ (i:Nat) (jj:List Value),q=n - i∧i≤n∧env=dY ⟨fb,0,none⟩ a n mc lines i jj∧New w z) n ⟨0,_,rfl,by omega,rfl,Keep.refl _ _⟩ ?_
 rintro q env z ⟨i,jj,rfl,hi,rfl,hn⟩
 rw [jw]
 refine aH (λhlt=>?_) (λhge=>?_)
 rotate_left
 ·rw [kN]
  exact ⟨rfl,hn⟩
 have hlt':i<n:=by omega
 obtain ⟨x,hx⟩:∃ x,X.nodes[i]?=some x:=⟨_,List.getElem?_eq_getElem (by rw [hq.len];exact hlt')⟩
 obtain ⟨x0,hx0⟩:∃ x,X.nodes[0]?=some x:=⟨_,List.getElem?_eq_getElem (by rw [hq.len];omega)⟩
 have e:=hq.eq i x x0 hx hx0
 have e0:=hq.eq 0 x0 x0 hx0 hx0
 have hlong:=hq.long i x hx
 have hlong0:=hq.long 0 x0 hx0
 refine aR mix (λq env z=>∃ (l:Nat) (jj:List Value),q=lines - l∧96≤l∧l≤lines∧env=dZ ⟨fb,0,none⟩ a n mc lines i l jj∧New w z) (lines - 96) ⟨96,_,rfl,by omega,by omega,rfl,hn⟩ ?_
 rintro q env z2 ⟨l,jj2,rfl,hl0,hl,rfl,hn2⟩
 rw [jx]
 refine aH (λhl1=>?_) (λhl1=>?_)
 ·have hl1:l<lines:=by omega
  refine eC (cells:=aC.cells) aC.len (by omega) (hr.new hn2) (oR (i:=0) (by omega)) rfl (kI n).symm λb o _ hc=>⟨_,hc 0 _ rfl,?_⟩
  refine aE (qT (h.new hn2) hx0 (l:=l) (by omega) (by omega) e0.up) ?_
  rintro v u1 ⟨rfl,hn3⟩
  refine aF.mk_ex (x0.n.page l) ⟨true,rfl,?_⟩
  refine fN (vs:=(x0.n.page l).cells) rfl (aF.single _) λb1 u2 hb1 hz1 hn4=>?_
  have hn24:=(hn2.new hn3).new hn4
  refine eC (cells:=aC.cells) aC.len (by omega) (hr.new hn24) (oR (i:=i) hlt') rfl (kI n).symm λb o _ hc=>⟨_,hc 0 _ rfl,?_⟩
  refine aE (qT (h.new hn24) hx (l:=l) (by omega) (by omega) e.up) ?_
  rintro v u3 ⟨rfl,hn5⟩
  refine aF.mk_ex (x.n.page l) ⟨true,rfl,?_⟩
  refine fN (vs:=(x.n.page l).cells) rfl (aF.single _) λb2 u4 hb2 hz2 hn6=>?_
  have hz14:=New.blk (hn5.new hn6) hz1
  refine cX rfl (cX rfl ?_)
  refine aF.mk_ex (x0.n.page l) ⟨aJ hz14 rfl,aF.mk_ex (x.n.page l) ⟨aJ hz2 rfl,?_⟩⟩
  rw [←(e.page l hl0 hl1).1]
  refine q0 _ (cX rfl ⟨_,hz14.cell (i:=1) rfl,cB (λhh=>absurd (yZ h hx0 (e.page l hl0 hl1).2) hh) λ_=>?_⟩)
  rw [w64 (x:=(l:Int)+1) (by omega) (by omega)]
  exact ⟨lines - (l+1),by omega,l+1,_,rfl,by omega,by omega,rfl,(hn24.new hn5).new hn6⟩
 ·rw [kO]
  refine aR mix (λq env z=>∃ (c:Nat) (jj:List Value),q=6 - c∧c≤6∧env=eb ⟨fb,0,none⟩ a n mc lines i c jj∧New w z) 6 ⟨0,_,rfl,by omega,rfl,hn2⟩ ?_
  rintro q env z3 ⟨c,jj3,rfl,hc6,rfl,hn3⟩
  rw [jy]
  refine aH (λhl1=>?_) (λhl1=>?_)
  ·have hl1:c<6:=by omega
   obtain ⟨ec,ed⟩:=e.clock c hl1
   rintro w1 hw1
   have hn4:New w w1:=by rw [hw1];exact hn3.new (aS _)
   clear hw1
   refine ⟨λy=>New w1 y,Keep.refl _ _,lp (cells:=aC.cells) aC.len (by omega) (hr.new hn4) (oR (i:=0) (by omega)) rfl (kI n).symm λb o hc=>⟨_,λu hu=>hc u hu 0 _ rfl,?_⟩⟩
   refine aE (xz _ hl1) ?_
   rintro v u ⟨rfl,rfl⟩
   refine ⟨_,rfl,Keep.refl _ _,?_⟩
   refine aE (ue (h.new hn4) hx0 (at_:=32+c) (by omega) e0.up) ?_
   rintro v u2 ⟨rfl,hn5⟩
   refine ⟨_,_,rfl,?_⟩
   rintro w2 hw2
   have hn6:New w w2:=by rw [hw2];exact (hn4.new hn5).new (aS _)
   clear hw2
   refine ⟨λy=>New w2 y,Keep.refl _ _,lp (cells:=aC.cells) aC.len (by omega) (hr.new hn6) (oR (i:=i) hlt') rfl (kI n).symm λb o hc=>⟨_,λu hu=>hc u hu 0 _ rfl,?_⟩⟩
   refine aE (xz _ hl1) ?_
   rintro v u ⟨rfl,rfl⟩
   refine ⟨_,rfl,Keep.refl _ _,?_⟩
   refine aE (ue (h.new hn6) hx (at_:=32+c) (by omega) e.up) ?_
   rintro v u3 ⟨rfl,hn7⟩
   refine ⟨_,_,rfl,?_⟩
   rintro w3 hw3
   have hn8:New w w3:=by rw [hw3];exact (hn6.new hn7).new (aS _)
   clear hw3
   refine ⟨λy=>New w3 y,Keep.refl _ _,lp (cells:=aC.cells) aC.len (by omega) (hr.new hn8) (oR (i:=0) (by omega)) rfl (kI n).symm λb o hc=>⟨_,λu hu=>hc u hu 0 _ rfl,?_⟩⟩
   refine aE (zo _ hl1) ?_
   rintro v u ⟨rfl,rfl⟩
   refine ⟨_,rfl,Keep.refl _ _,?_⟩
   refine aE (ue (h.new hn8) hx0 (at_:=24+c) (by omega) e0.up) ?_
   rintro v u4 ⟨rfl,hn9⟩
   refine ⟨_,_,rfl,?_⟩
   rintro w4 hw4
   have hn10:New w w4:=by rw [hw4];exact (hn8.new hn9).new (aS _)
   clear hw4
   refine ⟨λy=>New w4 y,Keep.refl _ _,lp (cells:=aC.cells) aC.len (by omega) (hr.new hn10) (oR (i:=i) hlt') rfl (kI n).symm λb o hc=>⟨_,λu hu=>hc u hu 0 _ rfl,?_⟩⟩
   refine aE (zo _ hl1) ?_
   rintro v u ⟨rfl,rfl⟩
   refine ⟨_,rfl,Keep.refl _ _,?_⟩
   refine aE (ue (h.new hn10) hx (at_:=24+c) (by omega) e.up) ?_
   rintro v u5 ⟨rfl,hn11⟩
   refine ⟨_,_,rfl,cX rfl (cX rfl (cX rfl (cX rfl (cB (λhh=>absurd ec hh) λ_=>cB (λhh=>absurd ed hh) λ_=>?_))))⟩
   rw [w64 (x:=(c:Int)+1) (by omega) (by omega)]
   exact ⟨6 - (c+1),by omega,c+1,_,rfl,by omega,rfl,hn10.new hn11⟩
  ·rw [kP]
   rw [w64 (x:=(i:Int)+1) (by omega) (by omega)]
   exact ⟨n - (i+1),by omega,i+1,_,rfl,by omega,rfl,hn3⟩
def zT:aB:=⟨0,0,⟨0⟩,⟨0,0,0,0,0⟩,⟨0,0,0,⟨0,none,0,0⟩,none,0,0,none,0,0⟩,none,0,0,false,false,0,⟨0,none,0,0⟩,0,none,0,0,0,0⟩
def uw (c seq lines:Int) (rv:aN) (wa:Option Addr) (wl wc:Nat):aB:=
 ⟨3,c,⟨0⟩,⟨0,0,0,0,0⟩,⟨c,seq,lines,rv,none,0,0,wa,wl,wc⟩,none,0,0,false,false,0,⟨0,none,0,0⟩,0,none,0,0,0,0⟩
set_option maxRecDepth 20000 in
set_option maxHeartbeats 2000000 in
theorem vH {A:Nat→Prop} {χ:Nat→Tag} {w:World} {fb:Nat} {X:FabX} (h:aV A χ w fb X) {p:Nat} {lines:Int} {rv:aN} (hp:Blk w p (fofC fb lines rv) TFo) {x:io} (hx:X.nodes[0]?=some x) (hd:x.n.down=false)
  {L:List Nat} (hL:∀ l ∈ L,96≤l∧l<256∧l * 8+8≤x.n.words.length) (hlen:L.length≤1000) {a:Option Addr} {cc:Nat} (hr:Rd w a (is (ns L))) (c seq:Int) :
  Does 21 [ptr p,.int .i64 c,.int .i64 seq,.slice a L.length cc] w λv u=>∃ wa wc,v=.tuple #[(uw c seq lines rv wa L.length wc).val,.bool true]∧New w u∧Owns u TPg 9 wa L.length wc (fB (cws c x.n L)).flatten∧∀ k,isB wa k→w.heap.size≤k:=by
 refine does Tryz.func21 ?_
 rw [ptr,kQ]
 rintro b1 w1 hb1 hw1
 obtain ⟨hz1,hn1⟩:=aM hb1 hw1
 have hz1:Blk w1 b1 zT.cells 49:=hz1
 clear hw1
 rintro w2 hw2
 have hn2:New w w2:=by rw [hw2];exact hn1.new (aS _)
 have hz12:Blk w2 b1 zT.cells 49:=by rw [hw2];exact New.blk (aS _) hz1
 clear hw2
 refine ⟨λy=>New w2 y,Keep.refl _ _,lines,λu hu=>(New.blk (hn2.new hu) hp).cell (i:=1) rfl,aN.mk_ex rv ⟨λu hu=>aJ (New.blk (hn2.new hu) hp) (o:=2) rfl,?_⟩⟩
 rintro b2 w3 hb2 hw3
 obtain ⟨hz3,hn3⟩:=aM hb2 hw3
 have hl1:=hz12.lt
 have hs2:=hn2.size
 have hz13:=New.blk hn3 hz12
 clear hw3
 refine ⟨hn3,?_⟩
 refine eZ (vs:=aL.cells ⟨c,seq,lines,rv,none,0,0,none,0,0⟩) hz3 rfl (aL.single ⟨c,seq,lines,rv,none,0,0,none,0,0⟩) λw4 hz4 hk4=>?_
 have hz14:=hk4.blk hz13 (by omega)
 have hn4:New w w4:=(hn2.new hn3).trans hk4 λk hlt e=>by omega
 clear hz1 hz12 hz13 hz3 hk4
 refine aR mix (λq env z=>∃ (i:Nat) (wa:Option Addr) (wc:Nat) (jj:List Value),q=L.length - i∧i≤L.length∧env=bW ⟨p,0,none⟩ c a L.length cc ⟨b1,0,none⟩ ⟨b2,0,none⟩ i jj∧New w z∧Blk z b1 zT.cells 49∧Blk z b2 (aL.cells ⟨c,seq,lines,rv,none,0,0,wa,i,wc⟩) 34∧Owns z TPg 9 wa i wc (fB (cws c x.n (L.take i))).flatten∧∀ k,isB wa k→b2<k) L.length
  ⟨0,none,0,_,rfl,by omega,rfl,hn4,hz14,hz4,Owns.nil _ _ _,λk hk=>(me hk).elim⟩ ?_
 clear hz14 hz4
 rintro q env z ⟨i,wa,wc,jj,rfl,hi,rfl,hn,hz1,hz2,hown,hfr⟩
 rw [gQ]
 refine aH (λhlt=>?_) (λhge=>?_)
 ·have hlt':i<L.length:=by omega
  obtain ⟨hl0,hl2,hl3⟩:=hL L[i] (List.getElem_mem hlt')
  have hg:(ns L)[i]?=some (L[i]:Int):=by simp [ns,hlt']
  have htk:cws c x.n (L.take (i+1))=cws c x.n (L.take i)++[bump c (x.n.page L[i])]:=by
   unfold cws
   rw [List.take_succ_eq_append_getElem hlt',List.map_append]
   rfl
  generalize L[i]=l at hl0 hl2 hl3 hg htk
  rintro u1 hu1
  have hn1:New z u1:=by rw [hu1];exact aS _
  clear hu1
  refine ⟨λy=>New u1 y,Keep.refl _ _,_,λu hu=>(New.blk ((hn.new hn1).new hu) hp).cell (i:=0) rfl,?_⟩
  refine rd_i ((hr.new hn).new hn1) hg rfl (by simp [ns]) λb o hc=>⟨_,λu hu=>hc u hu,?_,?_⟩
  ·refine aE (qT (h.new (hn.new hn1)) hx (l:=l) (by omega) (by omega) hd) ?_
   rintro v u2 ⟨rfl,hn2⟩
   refine aF.mk_ex (x.n.page l) ⟨true,rfl,hn2,?_⟩
   rintro b3 u3 hb3 hu3
   obtain ⟨hzb,hnb⟩:=aM hb3 hu3
   clear hu3
   refine ⟨hn2.new hnb,?_⟩
   refine eZ (vs:=(x.n.page l).cells) hzb rfl (aF.single _) λu4 hz hk4=>?_
   have hn4:New z u4:=((hn1.new hn2).new hnb).trans hk4 λk hlt e=>by have:=(hn1.new hn2).size;omega
   have hb3':z.heap.size≤b3:=by have:=(hn1.new hn2).size;omega
   clear hzb hnb hk4
   refine cX rfl ⟨_,hz.cell (i:=1) rfl,?_⟩
   refine kX hz (o:=1) (by simp [aF.cells]) λu5 hz5 hk5=>?_
   refine jM (by omega) (by omega) ⟨_,hz5.cell (i:=2) rfl,?_⟩
   refine jM (by omega) (by omega) ?_
   refine kX hz5 (o:=2) (by simp [aF.cells]) λu6 hz6 hk6=>?_
   refine jM (by omega) (by omega) ?_
   refine kX hz6 (o:=3) (by simp [aF.cells]) λu7 hz7 hk7=>?_
   have hz7:Blk u7 b3 (bump c (x.n.page l)).cells TPg:=hz7
   have hn7:New z u7:=hn4.trans ((hk5.trans hk6 λ_ _ h=>h).trans hk7 λ_ _ h=>h) λk hlt e=>by omega
   have hz17:=New.blk hn7 hz1
   have hz27:=New.blk hn7 hz2
   refine ⟨_,_,_,hz27.cell (i:=6) rfl,?_⟩
   refine aF.mk_ex (bump c (x.n.page l)) ⟨aJ hz7 rfl,?_⟩
   refine xy (hown.new hn7) (by omega) ?_
   intro b4 ap cap u8 hb4 ho8 hk8 hap
   have hz18:=hk8.blk hz17 (λe=>by have:=hfr b1 e;omega)
   have hz28:=hk8.blk hz27 (λe=>by have:=hfr b2 e;omega)
   have hl2':=hz2.lt
   have hs7:=hn7.size
   have hsw:=hn.size
   have hfr8:∀ k,isB ap k→b2<k:=λk hk=>by
    rcases hap k hk with h1 | h1
    ·exact hfr k h1
    ·omega
   refine kX (b:=b2) hz28 (o:=6) (by simp [aL.cells]) λu9 hz9 hk9=>?_
   rw [w64 (x:=(i:Int)+1) (by omega) (by omega)]
   have hn8:New w u8:=iU (hn.new hn7) hk8 λk hk=>by have:=hfr k hk;omega
   exact ⟨L.length - (i+1),by omega,i+1,ap,cap,_,rfl,by omega,rfl,hn8.trans hk9 λk hlt e=>by omega,hk9.blk hz18 (by omega),hz9,by rw [htk];exact ho8.keep hk9 λk hk e=>by have:=hfr8 k hk;omega,hfr8⟩
  ·rintro b3 u3 hb3 hu3
   obtain ⟨hzb,hnb⟩:=aM hb3 hu3
   clear hu3
   refine ⟨hnb,?_⟩
   refine aE (qT (h.new ((hn.new hn1).new hnb)) hx (l:=l) (by omega) (by omega) hd) ?_
   rintro v u2 ⟨rfl,hn2⟩
   refine aF.mk_ex (x.n.page l) ⟨true,rfl,?_⟩
   refine eZ (vs:=(x.n.page l).cells) (New.blk hn2 hzb) rfl (aF.single _) λu4 hz hk4=>?_
   have hb3':z.heap.size≤b3:=by have:=hn1.size;omega
   have hn4:New z u4:=((hn1.new hnb).new hn2).trans hk4 λk hlt e=>by omega
   clear hzb hnb hk4
   refine cX rfl ⟨_,hz.cell (i:=1) rfl,?_⟩
   refine kX hz (o:=1) (by simp [aF.cells]) λu5 hz5 hk5=>?_
   refine jM (by omega) (by omega) ⟨_,hz5.cell (i:=2) rfl,?_⟩
   refine jM (by omega) (by omega) ?_
   refine kX hz5 (o:=2) (by simp [aF.cells]) λu6 hz6 hk6=>?_
   refine jM (by omega) (by omega) ?_
   refine kX hz6 (o:=3) (by simp [aF.cells]) λu7 hz7 hk7=>?_
   have hz7:Blk u7 b3 (bump c (x.n.page l)).cells TPg:=hz7
   have hn7:New z u7:=hn4.trans ((hk5.trans hk6 λ_ _ h=>h).trans hk7 λ_ _ h=>h) λk hlt e=>by omega
   have hz17:=New.blk hn7 hz1
   have hz27:=New.blk hn7 hz2
   refine ⟨_,_,_,hz27.cell (i:=6) rfl,?_⟩
   refine aF.mk_ex (bump c (x.n.page l)) ⟨aJ hz7 rfl,?_⟩
   refine xy (hown.new hn7) (by omega) ?_
   intro b4 ap cap u8 hb4 ho8 hk8 hap
   have hz18:=hk8.blk hz17 (λe=>by have:=hfr b1 e;omega)
   have hz28:=hk8.blk hz27 (λe=>by have:=hfr b2 e;omega)
   have hl2':=hz2.lt
   have hs7:=hn7.size
   have hsw:=hn.size
   have hfr8:∀ k,isB ap k→b2<k:=λk hk=>by
    rcases hap k hk with h1 | h1
    ·exact hfr k h1
    ·omega
   refine kX (b:=b2) hz28 (o:=6) (by simp [aL.cells]) λu9 hz9 hk9=>?_
   rw [w64 (x:=(i:Int)+1) (by omega) (by omega)]
   have hn8:New w u8:=iU (hn.new hn7) hk8 λk hk=>by have:=hfr k hk;omega
   exact ⟨L.length - (i+1),by omega,i+1,ap,cap,_,rfl,by omega,rfl,hn8.trans hk9 λk hlt e=>by omega,hk9.blk hz18 (by omega),hz9,by rw [htk];exact ho8.keep hk9 λk hk e=>by have:=hfr8 k hk;omega,hfr8⟩
 ·have hie:i=L.length:=by omega
  subst hie
  rw [iG]
  rw [List.take_length] at hown
  refine aL.mk_ex ⟨c,seq,lines,rv,none,0,0,wa,L.length,wc⟩ ⟨aJ hz2 rfl,?_⟩
  refine eZ (vs:=(uw c seq lines rv wa L.length wc).cells) hz1 rfl (aB.single _) λu1 hz hk=>?_
  refine aB.mk_ex (uw c seq lines rv wa L.length wc) ⟨aJ hz rfl,rfl,wa,wc,rfl,hn.trans hk λk hlt e=>by omega,hown.keep hk λk hk' e=>by have:=hfr k hk';omega,λk hk'=>by have:=hfr k hk';omega⟩
end Go.Proofs.YtegepanmkjemjaaGreat
namespace Go.Proofs.YtegepanmkjemjaaGreat.C12
open Go.Eng
abbrev TR:=aB
abbrev TTa:TypeId:=49
abbrev TST:TypeId:=61
structure ez (A:Nat→Prop) (w:World) (r:TR) (t:Tk conv):Prop where
 kind:r.Kind=KIND
 client:r.Client=t.client
 over:r.Over=t.over
 bad:r.Bad=t.bad
 got:kF A w r.Got t.got
 gl:r.Got_l=t.got.length
 gc:r.Got_l≤r.Got_c
 job:JAt A w r t.job
 out:OAt A w r t.out
 len:t.got.length≤201
theorem ez.keep {A A':Nat→Prop} {w w':World} {r:TR} {t:Tk conv} (h:ez A w r t) (hk:Keep A w w') (hM:∀ k,k<w.heap.size→A' k→A k):ez A' w' r t:=
 ⟨h.kind,h.client,h.over,h.bad,h.got.keep hk hM,h.gl,h.gc,h.job.keep hk hM,h.out.keep hk hM,h.len⟩
theorem ez.fail {A:Nat→Prop} {w:World} {r:TR} {t:Tk conv} (h:ez A w r t):ez A w { r with Over:=true,Bad:=true } t.fail:=
 ⟨h.kind,h.client,rfl,rfl,h.got,h.gl,h.gc,h.job,h.out,h.len⟩
theorem q5 {z:World} {b1 b2:Nat} {r:TR} {cs:List Value} {R:Value→World→Prop} (hb1:Blk z b1 r.cells TTa) (hb2:Blk z b2 cs TTa) (hc:cs.length=25) (hR:∀ w',Keep (λk=>k=b2) z w'→R r.val w') :
  aB.ex λx=>aD z ⟨b1,0,none⟩ 0 x.cells∧wrAt z ⟨b2,0,none⟩ 0 x.cells∧∀ w',w'=puts z ⟨b2,0,none⟩ 0 x.cells→aB.ex λy=>aD w' ⟨b2,0,none⟩ 0 y.cells∧w'=w'∧R y.val w':=by
 refine aB.mk_ex r ⟨aJ hb1 rfl,?_⟩
 refine eZ (vs:=r.cells) hb2 (by rw [hc];rfl) (aB.single r) λw' hb' hk'=>?_
 exact aB.mk_ex r ⟨aJ hb' rfl,rfl,hR w' hk'⟩
def vI (A:Nat→Prop) (χ:Nat→Tag) (w:World) (fb:Nat) (x:Fab×Tk conv) (v:Value) (w':World):Prop:=
 cK A χ w fb x.1 w' λB=>∃ r:TR,v=r.val∧ez B w' r x.2
theorem y0 {A:Nat→Prop} {χ:Nat→Tag} {w z w':World} {fb b1 b2:Nat} {B:Nat→Prop} {ξ:Nat→Tag} {X:FabX} {r:TR} {t:Tk conv} (h:TW A χ w fb (λk=>k=b1∨k=b2) z B ξ X) (ht:ez (λk=>B k∨k=b1∨k=b2) z r t) (hk:Keep (λk=>k=b2) z w') :
  vI A χ w fb (X.pure,t) r.val w':=
 (h.local hk λ_ e=>.inr e).done ⟨r,rfl,ht.keep (hk.mono λ_ _ e=>.inr (.inr e)) λk _ hb=>.inl hb⟩
def kV (ts:List (TR×Tk conv)):List (List Value):=ts.map λx=>x.1.cells
theorem kz (ts:List (TR×Tk conv)):∀ r ∈ kV ts,r.length=25:=by
 intro r hr
 simp only [kV,List.mem_map] at hr
 obtain ⟨x,_,rfl⟩:=hr
 rfl
theorem qk {ts:List (TR×Tk conv)} {i:Nat} {x:TR×Tk conv} (h:ts[i]?=some x):(kV ts)[i]?=some x.1.cells:=by simp [kV,h]
theorem tc (ts:List (TR×Tk conv)):∀ u ∈ (kV ts).flatten,single u=true:=by
 intro u hu
 obtain ⟨r,hr,hur⟩:=List.mem_flatten.1 hu
 simp only [kV,List.mem_map] at hr
 obtain ⟨x,_,rfl⟩:=hr
 exact aB.single _ u hur
end Go.Proofs.YtegepanmkjemjaaGreat.C12
namespace Go.Proofs.YtegepanmkjemjaaGreat.C12
open Go.Eng
set_option maxRecDepth 20000 in
set_option maxHeartbeats 4000000 in
theorem BI {A:Nat→Prop} {z:World} {r:TR} {t:Tk conv} (h:ez A z r t) (hlow:∀ k,A k→k<z.heap.size) :
  Does 60 [r.val] z λv z1=>New z z1∧∃ (aa:Option Addr) (ac:Nat) (raws:List aK) (r':TR),v=.tuple #[.slice aa raws.length ac,r'.val]∧Rd z1 aa (dT raws).flatten∧(∀ k,isB aa k→z.heap.size≤k)∧Vs (λk=>k<z.heap.size) z1 raws (conv.next t.job t.got).1∧ez A z1 r' t.told:=by
 refine does Tryz.func60 ?_
 rw [nj]
 rintro b1 u1 hb1 hu1
 obtain ⟨hz1,hn1⟩:=aM hb1 hu1
 have hz1:Blk u1 b1 r.cells TTa:=hz1
 clear hu1
 rintro b2 u2 hb2 hu2
 obtain ⟨hz2,hn2⟩:=aM hb2 hu2
 obtain ⟨cs2,hz2,hcs2⟩:∃ cs,Blk u2 b2 cs TTa∧cs.length=r.cells.length:=⟨_,hz2,rfl⟩
 clear hu2
 have hn12:=hn1.new hn2
 have hs1:=hn1.size
 have hs2:=hn2.size
 have hl1:=hz1.lt
 have hl2:=hz2.lt
 have hz12:=New.blk hn2 hz1
 have hk:=h.kind
 refine ⟨_,hz12.cell (i:=0) rfl,cX (by rw [hk];rfl) (cX (by rw [hk];rfl) (jm (by rw [hk];rfl) ?_))⟩
 refine aL.mk_ex r.Commit ⟨aJ hz12 rfl,_,_,_,hz12.cell (i:=15) rfl,?_⟩
 have hk12:Keep A z u2:=Keep.of_new hn12
 have hj:JAtC A u2 r.Commit t.job:=h.job.keep (A':=A) hk12 λ_ _ e=>e
 have hg:=h.got.keep (A':=A) hk12 λ_ _ e=>e
 have hcall:=AC hj.at_ (λ_=>hj.dat) hg h.gl h.gc
 refine aE hcall ?_
 rintro v u3 ⟨aa,ac,raws,rfl,hn3,hrd,hfr,hvs⟩
 refine ⟨_,_,_,aA.mk_ex ⟨(gU t.job t.got).2.1.1,(gU t.job t.got).2.1.2⟩ ⟨(gU t.job t.got).2.2,rfl,?_⟩⟩
 refine fN (vs:=aA.cells ⟨(gU t.job t.got).2.1.1,(gU t.job t.got).2.1.2⟩) rfl (aA.single _) λb3 u4 hb3 hz4 hn4=>?_
 rintro u5 hu5
 have hn5:New u4 u5:=by rw [hu5];exact aS _
 clear hu5
 have hs3:=hn3.size
 have hs4:=hn4.size
 have hs5:=hn5.size
 have hz45:=New.blk hn5 hz4
 have hn25:=(hn3.new hn4).new hn5
 have hz15:=New.blk hn25 hz12
 have hz25:=New.blk hn25 hz2
 refine ⟨λy=>Blk y b3 (aA.cells ⟨(gU t.job t.got).2.1.1,(gU t.job t.got).2.1.2⟩) TCO,hz45,_,λy hy=>hy.cell (i:=0) rfl,_,λy hy=>hy.cell (i:=1) rfl,?_⟩
 refine rH hz15 (i:=16) rfl λu6 hz6 hk6=>⟨hk6.blk hz45 (by omega),?_⟩
 refine rH hz6 (i:=18) rfl λu7 hz7 hk7=>⟨hk7.blk (hk6.blk hz45 (by omega)) (by omega),?_⟩
 refine rH hz7 (i:=24) rfl λu8 hz8 hk8=>?_
 rintro u9 hu9
 have hn9:New u8 u9:=by rw [hu9];exact aS _
 clear hu9
 have hk58:Keep (λk=>k=b1) u5 u8:=(hk6.trans hk7 λ_ _ e=>e).trans hk8 λ_ _ e=>e
 have hz8:Blk u8 b1 (aB.cells { r with Over:=(gU t.job t.got).2.2,Code:=(gU t.job t.got).2.1.1,Fate:=(gU t.job t.got).2.1.2 }) TTa:=hz8
 have hz9:=New.blk hn9 hz8
 have hz29:Blk u9 b2 cs2 TTa:=New.blk hn9 (hk58.blk hz25 (by omega))
 have hk59:Keep (λk=>k=b1) u5 u9:=hk58.new hn9
 refine ⟨λy=>New u9 y,Keep.refl _ _,aB.mk_ex { r with Over:=(gU t.job t.got).2.2,Code:=(gU t.job t.got).2.1.1,Fate:=(gU t.job t.got).2.1.2 } ⟨λy hy=>aJ (New.blk hy hz9) rfl,?_⟩⟩
 refine eZ hz29 (by rw [hcs2];rfl) (aB.single _) λuA hzA hkA=>?_
 refine aB.mk_ex { r with Over:=(gU t.job t.got).2.2,Code:=(gU t.job t.got).2.1.1,Fate:=(gU t.job t.got).2.1.2 } ⟨aJ hzA rfl,rfl,?_⟩
 have hk5A:Keep (λk=>k=b1∨k=b2) u5 uA:=(hk59.mono λk _ e=>.inl e).trans (hkA.mono λk _ e=>.inr e) λ_ _ e=>e
 have hnA:New z uA:=(hn12.new hn25).trans hk5A λk hlt e=>by omega
 have hk3A:Keep (λk=>k=b1∨k=b2) u3 uA:=(Keep.of_new (hn4.new hn5)).trans hk5A λ_ _ e=>e
 refine ⟨hnA,aa,ac,raws,_,rfl,hrd.keep hk3A (ny hrd λk hk e=>by have:=hfr k hk;omega),λk hk=>by have:=hfr k hk;omega,?_,?_⟩
 ·exact hvs.keep (hk3A.mono λk _ e=>by show k<u2.heap.size;omega) λk _ e=>by show k<u2.heap.size;omega
 ·have hT:=h.keep (A':=A) (Keep.of_new hnA) λ_ _ e=>e
  exact ⟨hT.kind,hT.client,rfl,hT.bad,hT.got,hT.gl,hT.gc,hT.job,⟨rfl,rfl⟩,hT.len⟩
end Go.Proofs.YtegepanmkjemjaaGreat.C12
