import Derived.Test.YtegepanmkjemjaaGreatv34
import Derived.Test.YtegepanmkjemjaaGreatv36
import Derived.Test.YtegepanmkjemjaaGreatv17
import Derived.Test.YtegepanmkjemjaaGreatProg
import Derived.Test.YtegepanmkjemjaaGreatv03
import Derived.Test.YtegepanmkjemjaaGreatv19
import Derived.Test.YtegepanmkjemjaaGreatv33
set_option linter.unusedVariables false
namespace Go.Proofs.YtegepanmkjemjaaGreat
open Go.Proofs.Tryz
open Go.Eng C12
theorem EO:Go.Mx.tO prog 8 TPg=some [false,false,false,false,false,false,false,false,false]:=by kernel_rfl
theorem FW:isAgg? prog TPg=true:=by kernel_rfl
theorem Da:Program.eqGuardType prog (Program.depth prog) TPg=false:=by kernel_rfl
theorem zy (r:aG) {K:Bool→Prop} (hk:K true):BX prog TPg r.val r.val K:=by
 refine ⟨true,λw=>?_,hk⟩
 have hc:Go.Mx.qH [false,false,false,false,false,false,false,false,false] r.cells r.cells:=⟨rfl,rfl,rfl,rfl,rfl,rfl,rfl,rfl,rfl,trivial⟩
 have he:Go.Mx.eqvL r.cells r.cells=true:=by simp [aG.cells,Go.Mx.eqvL,Go.Mx.eqv1]
 have hq:=Go.Mx.Bm 8 TPg _ EO 10000 (by omega) r.cells r.cells hc w
 unfold Go.Mx.tP at hq
 rw [if_pos FW,he] at hq
 have hq':(Op.equalIn 10000 TPg (.agg r.cells.toArray) (.agg r.cells.toArray)).run prog w=.ok true w:=hq
 exact ⟨λop x y=>run_eqGuard_agg w op TPg x y _ _ Da,by rw [aG.val,run_eql_struct,hq'];rfl,by rw [aG.val,run_neq_struct,hq'];rfl⟩
theorem xE (l:List aG) (p:aG):(kP (l++[p])).flatten=(kP l).flatten++p.cells:=by simp [kP]
theorem Bo {u:World} {a:Option Addr} {n cap:Nat} {L:List aG} (ho:Owns u TPg 9 a n cap (kP L).flatten) {p:aG} (hb1:n≤1000000) {K:Nat→Option Addr→Nat→Nat→World→Prop}
  (hk:∀ b ap cap' w3,b=u.heap.size→Owns w3 TPg 9 ap (n+1) cap' (kP (L++[p])).flatten→Keep (isB a) u w3→(∀ k,isB ap k→isB a k∨u.heap.size≤k)→K b ap (n+1) cap' w3) :
  ∀ b1 w2,b1=u.heap.size→w2=u.alloc (.cells p.cells.toArray TPg)→∃ (ap:Option Addr) (ap_len ap_cap:Nat),∃ w3,(Builtin.append_ #[32,32] 32 #[(.slice a n cap),(.slice (some ⟨b1,0,none⟩) 1 1)]).run prog w2=.ok (.slice ap ap_len ap_cap) w3∧K b1 ap ap_len ap_cap w3:=by
 obtain ⟨inf,hi,hz,hsz,hby⟩:=jD (T:=TPg) (z:=.agg #[.int .i64 0,.int .u64 0,.int .u64 0,.int .u64 0,.int .u64 0,.int .u64 0,.int .u64 0,.int .u64 0,.int .u64 0]) (n:=9) (m:=72) (by kernel_rfl)
 rw [←hsz] at ho
 refine push_k Tryz.underlying32 hi hz (by rw [hsz];rfl) (by omega) ho (by rw [hsz];rfl) (aG.single p) (by omega) (by omega) ?_
 intro b ap cap' w3 h1 h2
 rw [hsz,←xE] at h2
 exact hk b ap cap' w3 h1 h2
theorem ri {n i:Nat} (h:i<n):(stM n)[i]?=some ⟨(i:Int),1,true⟩:=by simp [stM,h]
theorem wE (w:World) (c:Int):Does 42 [.int .i64 c] w λv w'=>v=.bool (decide (0≤c∧c<6))∧w'=w:=by
 refine does Tryz.func42 ?_
 rw [oW]
 refine aH (λh=>⟨?_,rfl⟩) (λh=>⟨?_,rfl⟩)
 ·have h:0≤c:=h
  congr 1;simp [h]
 ·have h:¬ 0≤c:=h
  congr 1;simp [h]
theorem Bp (w:World) {i:Nat} (hi:i<6):Does 20 [.int .i64 i] w λv w'=>v=.int .i64 (32+i:Nat)∧w'=w:=by
 refine does Tryz.func20 ?_
 rw [pH]
 refine aF (wE w (i:Int)) ?_
 rintro v u ⟨rfl,rfl⟩
 refine ⟨_,rfl,dZ (by simp;omega) ⟨?_,rfl⟩⟩
 rw [w64 (by omega) (by omega)]
 congr 1
theorem DE (w:World) {i:Nat} (hi:i<6):Does 39 [.int .i64 i] w λv w'=>v=.int .i64 (24+i:Nat)∧w'=w:=by
 refine does Tryz.func39 ?_
 rw [qD]
 refine aF (wE w (i:Int)) ?_
 rintro v u ⟨rfl,rfl⟩
 refine ⟨_,rfl,dZ (by simp;omega) ⟨?_,rfl⟩⟩
 rw [w64 (by omega) (by omega)]
 congr 1
structure EqX (X:FabX) (n lines:Nat):Prop where
 len:X.nodes.length=n
 eq:∀ (i:Nat) (x x0:jZ),X.nodes[i]?=some x→X.nodes[0]?=some x0→EqN x0.n x.n lines
 long:∀ (i:Nat) (x:jZ),X.nodes[i]?=some x→lines * 8≤x.n.words.length
 few:lines≤256
 many:98≤lines
theorem EP {X:FabX} {i:Nat} {x:jZ} (h:X.nodes[i]?=some x):zv X.pure i=x.n:=by
 simp [zv,FabX.pure,List.getD_eq_getElem?_getD,h]
theorem Db {A:Nat→Prop} {χ:Nat→Tag} {w:World} {fb:Nat} {X:FabX} (h:aW A χ w fb X) {i:Nat} {x:jZ} (hx:X.nodes[i]?=some x) {q:Nat} (e:x.n.get q % 256=0):band .u64 (x.n.get q) 255=0:=by
 obtain ⟨h0,h1⟩:=(h.node i x hx).node.wf_get q
 have hb:band .u64 (x.n.get q) ((2 ^ 8 - 1:Nat):Int)=x.n.get q % (2 ^ 8:Nat):=vu h0 h1 8 (by omega)
 have hb:band .u64 (x.n.get q) 255=x.n.get q % 256:=hb
 rw [hb,e]
set_option maxHeartbeats 2000000 in
theorem EQ {A:Nat→Prop} {χ:Nat→Tag} {w:World} {fb:Nat} {X:FabX} (h:aW A χ w fb X) {n lines:Nat} (hq:EqX X n lines) {a:Option Addr} {mc:Nat} (hr:Rd w a (ir (stM n)).flatten) (hn1:n≤5) :
  Does 17 [ptr fb,.slice a n mc,.int .i64 lines] w λv u=>v=.bool true∧New w u:=by
 have hfew:=hq.few
 have h98:=hq.many
 refine does Tryz.func17 ?_
 rw [ptr,qC]
 refine aQ mix (λq env z=>∃ (i:Nat) (jj:List Value),q=n - i∧i≤n∧env=eO ⟨fb,0,none⟩ a n mc lines i jj∧New w z) n ⟨0,_,rfl,by omega,rfl,Keep.refl _ _⟩ ?_
 rintro q env z ⟨i,jj,rfl,hi,rfl,hn⟩
 rw [lm]
 refine aH (λhlt=>?_) (λhge=>?_)
 rotate_left
 ·rw [mP]
  exact ⟨rfl,hn⟩
 have hlt':i<n:=by omega
 obtain ⟨x,hx⟩:∃ x,X.nodes[i]?=some x:=⟨_,List.getElem?_eq_getElem (by rw [hq.len];exact hlt')⟩
 obtain ⟨x0,hx0⟩:∃ x,X.nodes[0]?=some x:=⟨_,List.getElem?_eq_getElem (by rw [hq.len];omega)⟩
 have e:=hq.eq i x x0 hx hx0
 have e0:=hq.eq 0 x0 x0 hx0 hx0
 have hlong:=hq.long i x hx
 have hlong0:=hq.long 0 x0 hx0
 refine aQ mix (λq env z=>∃ (l:Nat) (jj:List Value),q=lines - l∧96≤l∧l≤lines∧env=eP ⟨fb,0,none⟩ a n mc lines i l jj∧New w z) (lines - 96) ⟨96,_,rfl,by omega,by omega,rfl,hn⟩ ?_
 rintro q env z2 ⟨l,jj2,rfl,hl0,hl,rfl,hn2⟩
 rw [ln]
 refine aH (λhl1=>?_) (λhl1=>?_)
 ·have hl1:l<lines:=by omega
  refine gD (cells:=aC.cells) aC.len (by omega) (hr.new hn2) (ri (i:=0) (by omega)) rfl (mE n).symm λb o _ hc=>⟨_,hc 0 _ rfl,?_⟩
  refine aF (ub (h.new hn2) hx0 (l:=l) (by omega) (by omega) e0.up) ?_
  rintro v u1 ⟨rfl,hn3⟩
  refine aG.mk_ex (x0.n.page l) ⟨true,rfl,?_⟩
  refine iR (vs:=(x0.n.page l).cells) rfl (aG.single _) λb1 u2 hb1 hz1 hn4=>?_
  have hn24:=(hn2.new hn3).new hn4
  refine gD (cells:=aC.cells) aC.len (by omega) (hr.new hn24) (ri (i:=i) hlt') rfl (mE n).symm λb o _ hc=>⟨_,hc 0 _ rfl,?_⟩
  refine aF (ub (h.new hn24) hx (l:=l) (by omega) (by omega) e.up) ?_
  rintro v u3 ⟨rfl,hn5⟩
  refine aG.mk_ex (x.n.page l) ⟨true,rfl,?_⟩
  refine iR (vs:=(x.n.page l).cells) rfl (aG.single _) λb2 u4 hb2 hz2 hn6=>?_
  have hz14:=New.blk (hn5.new hn6) hz1
  refine dZ rfl (dZ rfl ?_)
  refine aG.mk_ex (x0.n.page l) ⟨aJ hz14 rfl,aG.mk_ex (x.n.page l) ⟨aJ hz2 rfl,?_⟩⟩
  rw [←(e.page l hl0 hl1).1]
  refine zy _ (dZ rfl ⟨_,hz14.cell (i:=1) rfl,cQ (λhh=>absurd (Db h hx0 (e.page l hl0 hl1).2) hh) λ_=>?_⟩)
  rw [w64 (x:=(l:Int)+1) (by omega) (by omega)]
  exact ⟨lines - (l+1),by omega,l+1,_,rfl,by omega,by omega,rfl,(hn24.new hn5).new hn6⟩
 ·rw [mQ]
  refine aQ mix (λq env z=>∃ (c:Nat) (jj:List Value),q=6 - c∧c≤6∧env=eQ ⟨fb,0,none⟩ a n mc lines i c jj∧New w z) 6 ⟨0,_,rfl,by omega,rfl,hn2⟩ ?_
  rintro q env z3 ⟨c,jj3,rfl,hc6,rfl,hn3⟩
  rw [lp]
  refine aH (λhl1=>?_) (λhl1=>?_)
  ·have hl1:c<6:=by omega
   obtain ⟨ec,ed⟩:=e.clock c hl1
   rintro w1 hw1
   have hn4:New w w1:=by rw [hw1];exact hn3.new (aT _)
   clear hw1
   refine ⟨λy=>New w1 y,Keep.refl _ _,lG (cells:=aC.cells) aC.len (by omega) (hr.new hn4) (ri (i:=0) (by omega)) rfl (mE n).symm λb o hc=>⟨_,λu hu=>hc u hu 0 _ rfl,?_⟩⟩
   refine aF (Bp _ hl1) ?_
   rintro v u ⟨rfl,rfl⟩
   refine ⟨_,rfl,Keep.refl _ _,?_⟩
   refine aF (x9 (h.new hn4) hx0 (at_:=32+c) (by omega) e0.up) ?_
   rintro v u2 ⟨rfl,hn5⟩
   refine ⟨_,_,rfl,?_⟩
   rintro w2 hw2
   have hn6:New w w2:=by rw [hw2];exact (hn4.new hn5).new (aT _)
   clear hw2
   refine ⟨λy=>New w2 y,Keep.refl _ _,lG (cells:=aC.cells) aC.len (by omega) (hr.new hn6) (ri (i:=i) hlt') rfl (mE n).symm λb o hc=>⟨_,λu hu=>hc u hu 0 _ rfl,?_⟩⟩
   refine aF (Bp _ hl1) ?_
   rintro v u ⟨rfl,rfl⟩
   refine ⟨_,rfl,Keep.refl _ _,?_⟩
   refine aF (x9 (h.new hn6) hx (at_:=32+c) (by omega) e.up) ?_
   rintro v u3 ⟨rfl,hn7⟩
   refine ⟨_,_,rfl,?_⟩
   rintro w3 hw3
   have hn8:New w w3:=by rw [hw3];exact (hn6.new hn7).new (aT _)
   clear hw3
   refine ⟨λy=>New w3 y,Keep.refl _ _,lG (cells:=aC.cells) aC.len (by omega) (hr.new hn8) (ri (i:=0) (by omega)) rfl (mE n).symm λb o hc=>⟨_,λu hu=>hc u hu 0 _ rfl,?_⟩⟩
   refine aF (DE _ hl1) ?_
   rintro v u ⟨rfl,rfl⟩
   refine ⟨_,rfl,Keep.refl _ _,?_⟩
   refine aF (x9 (h.new hn8) hx0 (at_:=24+c) (by omega) e0.up) ?_
   rintro v u4 ⟨rfl,hn9⟩
   refine ⟨_,_,rfl,?_⟩
   rintro w4 hw4
   have hn10:New w w4:=by rw [hw4];exact (hn8.new hn9).new (aT _)
   clear hw4
   refine ⟨λy=>New w4 y,Keep.refl _ _,lG (cells:=aC.cells) aC.len (by omega) (hr.new hn10) (ri (i:=i) hlt') rfl (mE n).symm λb o hc=>⟨_,λu hu=>hc u hu 0 _ rfl,?_⟩⟩
   refine aF (DE _ hl1) ?_
   rintro v u ⟨rfl,rfl⟩
   refine ⟨_,rfl,Keep.refl _ _,?_⟩
   refine aF (x9 (h.new hn10) hx (at_:=24+c) (by omega) e.up) ?_
   rintro v u5 ⟨rfl,hn11⟩
   refine ⟨_,_,rfl,dZ rfl (dZ rfl (dZ rfl (dZ rfl (cQ (λhh=>absurd ec hh) λ_=>cQ (λhh=>absurd ed hh) λ_=>?_))))⟩
   rw [w64 (x:=(c:Int)+1) (by omega) (by omega)]
   exact ⟨6 - (c+1),by omega,c+1,_,rfl,by omega,rfl,hn10.new hn11⟩
  ·rw [mR]
   rw [w64 (x:=(i:Int)+1) (by omega) (by omega)]
   exact ⟨n - (i+1),by omega,i+1,_,rfl,by omega,rfl,hn3⟩
def zT:aB:=⟨0,0,⟨0⟩,⟨0,0,0,0,0⟩,⟨0,0,0,⟨0,none,0,0⟩,none,0,0,none,0,0⟩,none,0,0,false,false,0,⟨0,none,0,0⟩,0,none,0,0,0,0⟩
def ko (c seq lines:Int) (rv:aM) (wa:Option Addr) (wl wc:Nat):aB:=
 ⟨3,c,⟨0⟩,⟨0,0,0,0,0⟩,⟨c,seq,lines,rv,none,0,0,wa,wl,wc⟩,none,0,0,false,false,0,⟨0,none,0,0⟩,0,none,0,0,0,0⟩
set_option maxRecDepth 20000 in
set_option maxHeartbeats 2000000 in
theorem zz {A:Nat→Prop} {χ:Nat→Tag} {w:World} {fb:Nat} {X:FabX} (h:aW A χ w fb X) {p:Nat} {lines:Int} {rv:aM} (hp:Blk w p (fofC fb lines rv) TFo) {x:jZ} (hx:X.nodes[0]?=some x) (hd:x.n.down=false)
  {L:List Nat} (hL:∀ l ∈ L,96≤l∧l<256∧l * 8+8≤x.n.words.length) (hlen:L.length≤1000) {a:Option Addr} {cc:Nat} (hr:Rd w a (is (ns L))) (c seq:Int) :
  Does 21 [ptr p,.int .i64 c,.int .i64 seq,.slice a L.length cc] w λv u=>∃ wa wc,v=.tuple #[(ko c seq lines rv wa L.length wc).val,.bool true]∧New w u∧Owns u TPg 9 wa L.length wc (kP (cws c x.n L)).flatten∧∀ k,isB wa k→w.heap.size≤k:=by
 refine does Tryz.func21 ?_
 rw [ptr,mS]
 rintro b1 w1 hb1 hw1
 obtain ⟨hz1,hn1⟩:=aN hb1 hw1
 have hz1:Blk w1 b1 zT.cells 49:=hz1
 clear hw1
 rintro w2 hw2
 have hn2:New w w2:=by rw [hw2];exact hn1.new (aT _)
 have hz12:Blk w2 b1 zT.cells 49:=by rw [hw2];exact New.blk (aT _) hz1
 clear hw2
 refine ⟨λy=>New w2 y,Keep.refl _ _,lines,λu hu=>(New.blk (hn2.new hu) hp).cell (i:=1) rfl,aM.mk_ex rv ⟨λu hu=>aJ (New.blk (hn2.new hu) hp) (o:=2) rfl,?_⟩⟩
 rintro b2 w3 hb2 hw3
 obtain ⟨hz3,hn3⟩:=aN hb2 hw3
 have hl1:=hz12.lt
 have hs2:=hn2.size
 have hz13:=New.blk hn3 hz12
 clear hw3
 refine ⟨hn3,?_⟩
 refine gJ (vs:=aL.cells ⟨c,seq,lines,rv,none,0,0,none,0,0⟩) hz3 rfl (aL.single ⟨c,seq,lines,rv,none,0,0,none,0,0⟩) λw4 hz4 hk4=>?_
 have hz14:=hk4.blk hz13 (by omega)
 have hn4:New w w4:=(hn2.new hn3).trans hk4 λk hlt e=>by omega
 clear hz1 hz12 hz13 hz3 hk4
 refine aQ mix (λq env z=>∃ (i:Nat) (wa:Option Addr) (wc:Nat) (jj:List Value),q=L.length - i∧i≤L.length∧env=cJ ⟨p,0,none⟩ c a L.length cc ⟨b1,0,none⟩ ⟨b2,0,none⟩ i jj∧New w z∧Blk z b1 zT.cells 49∧Blk z b2 (aL.cells ⟨c,seq,lines,rv,none,0,0,wa,i,wc⟩) 34∧Owns z TPg 9 wa i wc (kP (cws c x.n (L.take i))).flatten∧∀ k,isB wa k→b2<k) L.length
  ⟨0,none,0,_,rfl,by omega,rfl,hn4,hz14,hz4,Owns.nil _ _ _,λk hk=>(lB hk).elim⟩ ?_
 clear hz14 hz4
 rintro q env z ⟨i,wa,wc,jj,rfl,hi,rfl,hn,hz1,hz2,hown,hfr⟩
 rw [jL]
 refine aH (λhlt=>?_) (λhge=>?_)
 ·have hlt':i<L.length:=by omega
  obtain ⟨hl0,hl2,hl3⟩:=hL L[i] (List.getElem_mem hlt')
  have hg:(ns L)[i]?=some (L[i]:Int):=by simp [ns,hlt']
  have htk:cws c x.n (L.take (i+1))=cws c x.n (L.take i)++[bump c (x.n.page L[i])]:=by
   unfold cws
   rw [List.take_succ_eq_append_getElem hlt',List.map_append]
   rfl
  generalize L[i]=l at hl0 hl2 hl3 hg htk
  rintro u1 hu1
  have hn1:New z u1:=by rw [hu1];exact aT _
  clear hu1
  refine ⟨λy=>New u1 y,Keep.refl _ _,_,λu hu=>(New.blk ((hn.new hn1).new hu) hp).cell (i:=0) rfl,?_⟩
  refine rd_i ((hr.new hn).new hn1) hg rfl (by simp [ns]) λb o hc=>⟨_,λu hu=>hc u hu,?_,?_⟩
  ·refine aF (ub (h.new (hn.new hn1)) hx (l:=l) (by omega) (by omega) hd) ?_
   rintro v u2 ⟨rfl,hn2⟩
   refine aG.mk_ex (x.n.page l) ⟨true,rfl,hn2,?_⟩
   rintro b3 u3 hb3 hu3
   obtain ⟨hzb,hnb⟩:=aN hb3 hu3
   clear hu3
   refine ⟨hn2.new hnb,?_⟩
   refine gJ (vs:=(x.n.page l).cells) hzb rfl (aG.single _) λu4 hz hk4=>?_
   have hn4:New z u4:=((hn1.new hn2).new hnb).trans hk4 λk hlt e=>by have:=(hn1.new hn2).size;omega
   have hb3':z.heap.size≤b3:=by have:=(hn1.new hn2).size;omega
   clear hzb hnb hk4
   refine dZ rfl ⟨_,hz.cell (i:=1) rfl,?_⟩
   refine lX hz (o:=1) (by simp [aG.cells]) λu5 hz5 hk5=>?_
   refine fW (by omega) (by omega) ⟨_,hz5.cell (i:=2) rfl,?_⟩
   refine fW (by omega) (by omega) ?_
   refine lX hz5 (o:=2) (by simp [aG.cells]) λu6 hz6 hk6=>?_
   refine fW (by omega) (by omega) ?_
   refine lX hz6 (o:=3) (by simp [aG.cells]) λu7 hz7 hk7=>?_
   have hz7:Blk u7 b3 (bump c (x.n.page l)).cells TPg:=hz7
   have hn7:New z u7:=hn4.trans ((hk5.trans hk6 λ_ _ h=>h).trans hk7 λ_ _ h=>h) λk hlt e=>by omega
   have hz17:=New.blk hn7 hz1
   have hz27:=New.blk hn7 hz2
   refine ⟨_,_,_,hz27.cell (i:=6) rfl,?_⟩
   refine aG.mk_ex (bump c (x.n.page l)) ⟨aJ hz7 rfl,?_⟩
   refine Bo (hown.new hn7) (by omega) ?_
   intro b4 ap cap u8 hb4 ho8 hk8 hap
   have hz18:=hk8.blk hz17 (λe=>by have:=hfr b1 e;omega)
   have hz28:=hk8.blk hz27 (λe=>by have:=hfr b2 e;omega)
   have hl2':=hz2.lt
   have hs7:=hn7.size
   have hsw:=hn.size
   have hfr8:∀ k,isB ap k→b2<k:=λk hk=>by
    rcases hap k hk with h1 | h1
    ·exact hfr k h1
    ·omega
   refine lX (b:=b2) hz28 (o:=6) (by simp [aL.cells]) λu9 hz9 hk9=>?_
   rw [w64 (x:=(i:Int)+1) (by omega) (by omega)]
   have hn8:New w u8:=kI (hn.new hn7) hk8 λk hk=>by have:=hfr k hk;omega
   exact ⟨L.length - (i+1),by omega,i+1,ap,cap,_,rfl,by omega,rfl,hn8.trans hk9 λk hlt e=>by omega,hk9.blk hz18 (by omega),hz9,by rw [htk];exact ho8.keep hk9 λk hk e=>by have:=hfr8 k hk;omega,hfr8⟩
  ·rintro b3 u3 hb3 hu3
   obtain ⟨hzb,hnb⟩:=aN hb3 hu3
   clear hu3
   refine ⟨hnb,?_⟩
   refine aF (ub (h.new ((hn.new hn1).new hnb)) hx (l:=l) (by omega) (by omega) hd) ?_
   rintro v u2 ⟨rfl,hn2⟩
   refine aG.mk_ex (x.n.page l) ⟨true,rfl,?_⟩
   refine gJ (vs:=(x.n.page l).cells) (New.blk hn2 hzb) rfl (aG.single _) λu4 hz hk4=>?_
   have hb3':z.heap.size≤b3:=by have:=hn1.size;omega
   have hn4:New z u4:=((hn1.new hnb).new hn2).trans hk4 λk hlt e=>by omega
   clear hzb hnb hk4
   refine dZ rfl ⟨_,hz.cell (i:=1) rfl,?_⟩
   refine lX hz (o:=1) (by simp [aG.cells]) λu5 hz5 hk5=>?_
   refine fW (by omega) (by omega) ⟨_,hz5.cell (i:=2) rfl,?_⟩
   refine fW (by omega) (by omega) ?_
   refine lX hz5 (o:=2) (by simp [aG.cells]) λu6 hz6 hk6=>?_
   refine fW (by omega) (by omega) ?_
   refine lX hz6 (o:=3) (by simp [aG.cells]) λu7 hz7 hk7=>?_
   have hz7:Blk u7 b3 (bump c (x.n.page l)).cells TPg:=hz7
   have hn7:New z u7:=hn4.trans ((hk5.trans hk6 λ_ _ h=>h).trans hk7 λ_ _ h=>h) λk hlt e=>by omega
   have hz17:=New.blk hn7 hz1
   have hz27:=New.blk hn7 hz2
   refine ⟨_,_,_,hz27.cell (i:=6) rfl,?_⟩
   refine aG.mk_ex (bump c (x.n.page l)) ⟨aJ hz7 rfl,?_⟩
   refine Bo (hown.new hn7) (by omega) ?_
   intro b4 ap cap u8 hb4 ho8 hk8 hap
   have hz18:=hk8.blk hz17 (λe=>by have:=hfr b1 e;omega)
   have hz28:=hk8.blk hz27 (λe=>by have:=hfr b2 e;omega)
   have hl2':=hz2.lt
   have hs7:=hn7.size
   have hsw:=hn.size
   have hfr8:∀ k,isB ap k→b2<k:=λk hk=>by
    rcases hap k hk with h1 | h1
    ·exact hfr k h1
    ·omega
   refine lX (b:=b2) hz28 (o:=6) (by simp [aL.cells]) λu9 hz9 hk9=>?_
   rw [w64 (x:=(i:Int)+1) (by omega) (by omega)]
   have hn8:New w u8:=kI (hn.new hn7) hk8 λk hk=>by have:=hfr k hk;omega
   exact ⟨L.length - (i+1),by omega,i+1,ap,cap,_,rfl,by omega,rfl,hn8.trans hk9 λk hlt e=>by omega,hk9.blk hz18 (by omega),hz9,by rw [htk];exact ho8.keep hk9 λk hk e=>by have:=hfr8 k hk;omega,hfr8⟩
 ·have hie:i=L.length:=by omega
  subst hie
  rw [kx]
  rw [List.take_length] at hown
  refine aL.mk_ex ⟨c,seq,lines,rv,none,0,0,wa,L.length,wc⟩ ⟨aJ hz2 rfl,?_⟩
  refine gJ (vs:=(ko c seq lines rv wa L.length wc).cells) hz1 rfl (aB.single _) λu1 hz hk=>?_
  refine aB.mk_ex (ko c seq lines rv wa L.length wc) ⟨aJ hz rfl,rfl,wa,wc,rfl,hn.trans hk λk hlt e=>by omega,hown.keep hk λk hk' e=>by have:=hfr k hk';omega,λk hk'=>by have:=hfr k hk';omega⟩
end Go.Proofs.YtegepanmkjemjaaGreat
namespace Go.Proofs.YtegepanmkjemjaaGreat
open Go.Eng IntKind
end Go.Proofs.YtegepanmkjemjaaGreat
namespace Go.Proofs.YtegepanmkjemjaaGreat
open Go.Eng
end Go.Proofs.YtegepanmkjemjaaGreat
namespace Go.Proofs.YtegepanmkjemjaaGreat.C12
open Go.Eng
abbrev TR:=aB
abbrev TTa:TypeId:=49
abbrev TST:TypeId:=61
structure eB (A:Nat→Prop) (w:World) (r:TR) (t:Tk conv):Prop where
 kind:r.Kind=KIND
 client:r.Client=t.client
 over:r.Over=t.over
 bad:r.Bad=t.bad
 got:mK A w r.Got t.got
 gl:r.Got_l=t.got.length
 gc:r.Got_l≤r.Got_c
 job:JAt A w r t.job
 out:OAt A w r t.out
 len:t.got.length≤201
theorem eB.keep {A A':Nat→Prop} {w w':World} {r:TR} {t:Tk conv} (h:eB A w r t) (hk:Keep A w w') (hM:∀ k,k<w.heap.size→A' k→A k):eB A' w' r t:=
 ⟨h.kind,h.client,h.over,h.bad,h.got.keep hk hM,h.gl,h.gc,h.job.keep hk hM,h.out.keep hk hM,h.len⟩
theorem eB.fail {A:Nat→Prop} {w:World} {r:TR} {t:Tk conv} (h:eB A w r t):eB A w { r with Over:=true,Bad:=true } t.fail:=
 ⟨h.kind,h.client,rfl,rfl,h.got,h.gl,h.gc,h.job,h.out,h.len⟩
theorem ug {z:World} {b1 b2:Nat} {r:TR} {cs:List Value} {R:Value→World→Prop} (hb1:Blk z b1 r.cells TTa) (hb2:Blk z b2 cs TTa) (hc:cs.length=25) (hR:∀ w',Keep (λk=>k=b2) z w'→R r.val w') :
  aB.ex λx=>aE z ⟨b1,0,none⟩ 0 x.cells∧wrAt z ⟨b2,0,none⟩ 0 x.cells∧∀ w',w'=puts z ⟨b2,0,none⟩ 0 x.cells→aB.ex λy=>aE w' ⟨b2,0,none⟩ 0 y.cells∧w'=w'∧R y.val w':=by
 refine aB.mk_ex r ⟨aJ hb1 rfl,?_⟩
 refine gJ (vs:=r.cells) hb2 (by rw [hc];rfl) (aB.single r) λw' hb' hk'=>?_
 exact aB.mk_ex r ⟨aJ hb' rfl,rfl,hR w' hk'⟩
def zB (A:Nat→Prop) (χ:Nat→Tag) (w:World) (fb:Nat) (x:Fab×Tk conv) (v:Value) (w':World):Prop:=
 dC A χ w fb x.1 w' λB=>∃ r:TR,v=r.val∧eB B w' r x.2
theorem Dc {A:Nat→Prop} {χ:Nat→Tag} {w z w':World} {fb b1 b2:Nat} {B:Nat→Prop} {ξ:Nat→Tag} {X:FabX} {r:TR} {t:Tk conv} (h:TW A χ w fb (λk=>k=b1∨k=b2) z B ξ X) (ht:eB (λk=>B k∨k=b1∨k=b2) z r t) (hk:Keep (λk=>k=b2) z w') :
  zB A χ w fb (X.pure,t) r.val w':=
 (h.local hk λ_ e=>.inr e).done ⟨r,rfl,ht.keep (hk.mono λ_ _ e=>.inr (.inr e)) λk _ hb=>.inl hb⟩
def gX (ts:List (TR×Tk conv)):List (List Value):=ts.map λx=>x.1.cells
theorem kW (ts:List (TR×Tk conv)):∀ r ∈ gX ts,r.length=25:=by
 intro r hr
 simp only [gX,List.mem_map] at hr
 obtain ⟨x,_,rfl⟩:=hr
 rfl
theorem th {ts:List (TR×Tk conv)} {i:Nat} {x:TR×Tk conv} (h:ts[i]?=some x):(gX ts)[i]?=some x.1.cells:=by simp [gX,h]
theorem wF (ts:List (TR×Tk conv)):∀ u ∈ (gX ts).flatten,single u=true:=by
 intro u hu
 obtain ⟨r,hr,hur⟩:=List.mem_flatten.1 hu
 simp only [gX,List.mem_map] at hr
 obtain ⟨x,_,rfl⟩:=hr
 exact aB.single _ u hur
end Go.Proofs.YtegepanmkjemjaaGreat.C12
namespace Go.Proofs.YtegepanmkjemjaaGreat.C12
open Go.Eng
set_option maxRecDepth 20000 in
set_option maxHeartbeats 4000000 in
theorem FX {A:Nat→Prop} {z:World} {r:TR} {t:Tk conv} (h:eB A z r t) (hlow:∀ k,A k→k<z.heap.size) :
  Does 60 [r.val] z λv z1=>New z z1∧∃ (aa:Option Addr) (ac:Nat) (raws:List aK) (r':TR),v=.tuple #[.slice aa raws.length ac,r'.val]∧Rd z1 aa (eI raws).flatten∧(∀ k,isB aa k→z.heap.size≤k)∧Vs (λk=>k<z.heap.size) z1 raws (conv.next t.job t.got).1∧eB A z1 r' t.told:=by
 refine does Tryz.func60 ?_
 rw [pJ]
 rintro b1 u1 hb1 hu1
 obtain ⟨hz1,hn1⟩:=aN hb1 hu1
 have hz1:Blk u1 b1 r.cells TTa:=hz1
 clear hu1
 rintro b2 u2 hb2 hu2
 obtain ⟨hz2,hn2⟩:=aN hb2 hu2
 obtain ⟨cs2,hz2,hcs2⟩:∃ cs,Blk u2 b2 cs TTa∧cs.length=r.cells.length:=⟨_,hz2,rfl⟩
 clear hu2
 have hn12:=hn1.new hn2
 have hs1:=hn1.size
 have hs2:=hn2.size
 have hl1:=hz1.lt
 have hl2:=hz2.lt
 have hz12:=New.blk hn2 hz1
 have hk:=h.kind
 refine ⟨_,hz12.cell (i:=0) rfl,dZ (by rw [hk];rfl) (dZ (by rw [hk];rfl) (ld (by rw [hk];rfl) ?_))⟩
 refine aL.mk_ex r.Commit ⟨aJ hz12 rfl,_,_,_,hz12.cell (i:=15) rfl,?_⟩
 have hk12:Keep A z u2:=Keep.of_new hn12
 have hj:JAtC A u2 r.Commit t.job:=h.job.keep (A':=A) hk12 λ_ _ e=>e
 have hg:=h.got.keep (A':=A) hk12 λ_ _ e=>e
 have hcall:=EF hj.at_ (λ_=>hj.dat) hg h.gl h.gc
 refine aF hcall ?_
 rintro v u3 ⟨aa,ac,raws,rfl,hn3,hrd,hfr,hvs⟩
 refine ⟨_,_,_,aA.mk_ex ⟨(dG t.job t.got).2.1.1,(dG t.job t.got).2.1.2⟩ ⟨(dG t.job t.got).2.2,rfl,?_⟩⟩
 refine iR (vs:=aA.cells ⟨(dG t.job t.got).2.1.1,(dG t.job t.got).2.1.2⟩) rfl (aA.single _) λb3 u4 hb3 hz4 hn4=>?_
 rintro u5 hu5
 have hn5:New u4 u5:=by rw [hu5];exact aT _
 clear hu5
 have hs3:=hn3.size
 have hs4:=hn4.size
 have hs5:=hn5.size
 have hz45:=New.blk hn5 hz4
 have hn25:=(hn3.new hn4).new hn5
 have hz15:=New.blk hn25 hz12
 have hz25:=New.blk hn25 hz2
 refine ⟨λy=>Blk y b3 (aA.cells ⟨(dG t.job t.got).2.1.1,(dG t.job t.got).2.1.2⟩) TCO,hz45,_,λy hy=>hy.cell (i:=0) rfl,_,λy hy=>hy.cell (i:=1) rfl,?_⟩
 refine uY hz15 (i:=16) rfl λu6 hz6 hk6=>⟨hk6.blk hz45 (by omega),?_⟩
 refine uY hz6 (i:=18) rfl λu7 hz7 hk7=>⟨hk7.blk (hk6.blk hz45 (by omega)) (by omega),?_⟩
 refine uY hz7 (i:=24) rfl λu8 hz8 hk8=>?_
 rintro u9 hu9
 have hn9:New u8 u9:=by rw [hu9];exact aT _
 clear hu9
 have hk58:Keep (λk=>k=b1) u5 u8:=(hk6.trans hk7 λ_ _ e=>e).trans hk8 λ_ _ e=>e
 have hz8:Blk u8 b1 (aB.cells { r with Over:=(dG t.job t.got).2.2,Code:=(dG t.job t.got).2.1.1,Fate:=(dG t.job t.got).2.1.2 }) TTa:=hz8
 have hz9:=New.blk hn9 hz8
 have hz29:Blk u9 b2 cs2 TTa:=New.blk hn9 (hk58.blk hz25 (by omega))
 have hk59:Keep (λk=>k=b1) u5 u9:=hk58.new hn9
 refine ⟨λy=>New u9 y,Keep.refl _ _,aB.mk_ex { r with Over:=(dG t.job t.got).2.2,Code:=(dG t.job t.got).2.1.1,Fate:=(dG t.job t.got).2.1.2 } ⟨λy hy=>aJ (New.blk hy hz9) rfl,?_⟩⟩
 refine gJ hz29 (by rw [hcs2];rfl) (aB.single _) λuA hzA hkA=>?_
 refine aB.mk_ex { r with Over:=(dG t.job t.got).2.2,Code:=(dG t.job t.got).2.1.1,Fate:=(dG t.job t.got).2.1.2 } ⟨aJ hzA rfl,rfl,?_⟩
 have hk5A:Keep (λk=>k=b1∨k=b2) u5 uA:=(hk59.mono λk _ e=>.inl e).trans (hkA.mono λk _ e=>.inr e) λ_ _ e=>e
 have hnA:New z uA:=(hn12.new hn25).trans hk5A λk hlt e=>by omega
 have hk3A:Keep (λk=>k=b1∨k=b2) u3 uA:=(Keep.of_new (hn4.new hn5)).trans hk5A λ_ _ e=>e
 refine ⟨hnA,aa,ac,raws,_,rfl,hrd.keep hk3A (mV hrd λk hk e=>by have:=hfr k hk;omega),λk hk=>by have:=hfr k hk;omega,?_,?_⟩
 ·exact hvs.keep (hk3A.mono λk _ e=>by show k<u2.heap.size;omega) λk _ e=>by show k<u2.heap.size;omega
 ·have hT:=h.keep (A':=A) (Keep.of_new hnA) λ_ _ e=>e
  exact ⟨hT.kind,hT.client,rfl,hT.bad,hT.got,hT.gl,hT.gc,hT.job,⟨rfl,rfl⟩,hT.len⟩
end Go.Proofs.YtegepanmkjemjaaGreat.C12
namespace Go.Proofs.YtegepanmkjemjaaGreat.C12
open Go.Proofs.Tryz
open Go.Eng
def yw (p0 b1 b2:Nat) (z:World) (R:Value→World→Prop):Prop:=
 ∃ (g:Option Addr) (gl gc:Nat),z.cell? ⟨b1,15,none⟩=some (.slice g gl gc)∧(bif (decide ((gl:Int)>200)) then
  ((∃ u,z.cell? ⟨b1,16,none⟩=some u)∧z.frozen? ⟨b1,16,none⟩=false∧∀ z1,z1=z.setCell ⟨b1,16,none⟩ (.bool true)→(∃ u,z1.cell? ⟨b1,17,none⟩=some u)∧z1.frozen? ⟨b1,17,none⟩=false∧∀ z2,z2=z1.setCell ⟨b1,17,none⟩ (.bool true)→
   aB.ex λx=>aE z2 ⟨b1,0,none⟩ 0 x.cells∧wrAt z2 ⟨b2,0,none⟩ 0 x.cells∧∀ w',w'=puts z2 ⟨b2,0,none⟩ 0 x.cells→aB.ex λy=>aE w' ⟨b2,0,none⟩ 0 y.cells∧w'=w'∧R y.val w')
  else (aB.ex λr=>aE z ⟨b1,0,none⟩ 0 r.cells∧Calls prog 60 #[r.val] z λe z3=>∃ (a:Option Addr) (al ac:Nat),aB.ex λr'=>e=.returned (.tuple #[.slice a al ac,r'.val])∧wrAt z3 ⟨b1,0,none⟩ 0 r'.cells∧∀ z4,z4=puts z3 ⟨b1,0,none⟩ 0 r'.cells→
   ∃ ov:Bool,z4.cell? ⟨b1,16,none⟩=some (.bool ov)∧(bif (!ov) then (∃ cl:Int,z4.cell? ⟨b1,1,none⟩=some (.int .i64 cl)∧Calls prog 61 #[.pointer (some ⟨p0,0,none⟩),.int .i64 cl,.slice a al ac] z4 λe z5=>∃ ec:Int,e=.returned (.int .i64 ec)∧(bif (ec != 0) then
     ((∃ u,z5.cell? ⟨b1,16,none⟩=some u)∧z5.frozen? ⟨b1,16,none⟩=false∧∀ z6,z6=z5.setCell ⟨b1,16,none⟩ (.bool true)→(∃ u,z6.cell? ⟨b1,17,none⟩=some u)∧z6.frozen? ⟨b1,17,none⟩=false∧∀ z7,z7=z6.setCell ⟨b1,17,none⟩ (.bool true)→
      aB.ex λx=>aE z7 ⟨b1,0,none⟩ 0 x.cells∧wrAt z7 ⟨b2,0,none⟩ 0 x.cells∧∀ w',w'=puts z7 ⟨b2,0,none⟩ 0 x.cells→aB.ex λy=>aE w' ⟨b2,0,none⟩ 0 y.cells∧w'=w'∧R y.val w')
     else (aB.ex λx=>aE z5 ⟨b1,0,none⟩ 0 x.cells∧wrAt z5 ⟨b2,0,none⟩ 0 x.cells∧∀ w',w'=puts z5 ⟨b2,0,none⟩ 0 x.cells→aB.ex λy=>aE w' ⟨b2,0,none⟩ 0 y.cells∧w'=w'∧R y.val w')))
    else (aB.ex λx=>aE z4 ⟨b1,0,none⟩ 0 x.cells∧wrAt z4 ⟨b2,0,none⟩ 0 x.cells∧∀ w',w'=puts z4 ⟨b2,0,none⟩ 0 x.cells→aB.ex λy=>aE w' ⟨b2,0,none⟩ 0 y.cells∧w'=w'∧R y.val w'))))
theorem DF {A:Nat→Prop} {χ:Nat→Tag} {w z:World} {fb b1 b2:Nat} {B:Nat→Prop} {ξ:Nat→Tag} {X:FabX} {r:TR} {t:Tk conv} (h:TW A χ w fb (λk=>k=b1∨k=b2) z B ξ X) (hne:b1≠b2) (hb1:Blk z b1 r.cells TTa) {cs:List Value} (hb2:Blk z b2 cs TTa) (hcs:cs.length=25) (ht:eB (λk=>B k∨k=b1∨k=b2) z r t) :
  (∃ u,z.cell? ⟨b1,16,none⟩=some u)∧z.frozen? ⟨b1,16,none⟩=false∧∀ z1,z1=z.setCell ⟨b1,16,none⟩ (.bool true)→(∃ u,z1.cell? ⟨b1,17,none⟩=some u)∧z1.frozen? ⟨b1,17,none⟩=false∧∀ z2,z2=z1.setCell ⟨b1,17,none⟩ (.bool true)→
   aB.ex λx=>aE z2 ⟨b1,0,none⟩ 0 x.cells∧wrAt z2 ⟨b2,0,none⟩ 0 x.cells∧∀ w',w'=puts z2 ⟨b2,0,none⟩ 0 x.cells→aB.ex λy=>aE w' ⟨b2,0,none⟩ 0 y.cells∧w'=w'∧zB A χ w fb (X.pure,t.fail) y.val w':=by
 refine ⟨⟨_,hb1.cell rfl⟩,hb1.frozen,?_⟩
 rintro z1 hz1
 have hk1:Keep (λk=>k=b1) z z1:=by rw [hz1];exact aR _ _ _ _
 have hb11:=hb1.setCell (i:=16) (.bool true)
 rw [←hz1] at hb11
 clear hz1
 refine ⟨⟨_,hb11.cell rfl⟩,hb11.frozen,?_⟩
 rintro z2 hz2
 have hk2:Keep (λk=>k=b1) z z2:=by rw [hz2];exact hk1.setCell (.inl rfl) _
 have hb12:=hb11.setCell (i:=17) (.bool true)
 rw [←hz2] at hb12
 clear hz2
 have hb12:Blk z2 b1 ({ r with Over:=true,Bad:=true }:TR).cells TTa:=hb12
 refine ug hb12 (hk2.blk hb2 λe=>hne e.symm) hcs λw' hk'=>?_
 exact Dc (h.local hk2 λ_ e=>.inl e) ((ht.keep (hk2.mono λ_ _ e=>.inr (.inl e)) λ_ _ hb=>hb).fail) hk'
set_option maxHeartbeats 2000000 in
theorem DG {A:Nat→Prop} {χ:Nat→Tag} {w z:World} {fb b1 b2:Nat} {B:Nat→Prop} {ξ:Nat→Tag} {X:FabX} {r:TR} {t:Tk conv} (h:TW A χ w fb (λk=>k=b1∨k=b2) z B ξ X) (hok:Good X.pure) (hne:b1≠b2)
  (hb1:Blk z b1 r.cells TTa) {cs:List Value} (hb2:Blk z b2 cs TTa) (hcs:cs.length=25) (ht:eB (λk=>B k∨k=b1∨k=b2) z r t) :
  yw fb b1 b2 z (zB A χ w fb (rN X.pure t)):=by
 unfold yw rN
 have hgl:=ht.gl
 refine ⟨_,_,_,hb1.cell rfl,aH (λhc=>?_) (λhc=>?_)⟩
 ·rw [if_pos (by omega)]
  exact DF h hne hb1 hb2 hcs ht
 ·rw [if_neg (by omega)]
  refine aB.mk_ex r ⟨aJ hb1 rfl,?_⟩
  refine aF (FX ht (λk hk=>h.fab.low k hk)) ?_
  rintro v z1 ⟨hn1,aa,ac,raws,r',rfl,hrd,hfr,hvs,ht'⟩
  refine ⟨_,_,_,aB.mk_ex r' ⟨rfl,?_⟩⟩
  have hb1l:=hb1.lt
  have hb2l:=hb2.lt
  refine gJ (vs:=r'.cells) (New.blk hn1 hb1) rfl (aB.single r') λz2 hb22 hk2=>?_
  have hkz2:Keep (λk=>k=b1) z z2:=(Keep.of_new hn1).trans hk2 λ_ _ e=>e
  have h2:=(h.new hn1).local hk2 λ_ e=>.inl e
  have ht2:=ht'.keep (A':=λk=>B k∨k=b1∨k=b2) (hk2.mono λ_ _ e=>.inr (.inl e)) λ_ _ hb=>hb
  have hb2z:Blk z2 b2 cs TTa:=hkz2.blk hb2 λe=>hne e.symm
  have hrd2:Rd z2 aa (eI raws).flatten:=hrd.keep hk2 (mV hrd λk hk e=>by have:=hfr k hk;omega)
  refine ⟨_,hb22.cell rfl,dT (λho=>?_) (λho=>?_)⟩
  ·have ho':(conv.next t.job t.got).2.2=false:=by rw [←ho];exact ht'.over.symm
   rw [if_neg (by rw [ho'];simp)]
   refine ⟨_,hb22.cell rfl,?_⟩
   have hoff:((eI raws).flatten=[])∨Off (λk=>B k∨k=b1∨k=b2) aa:=mV hrd2 λk hk e=>by
    have h3:=hfr k hk
    have h4:=h.fab.low k e
    omega
   have hvs2:Vs (λk=>B k∨k=b1∨k=b2) z2 raws (conv.next t.job t.got).1:=hvs.keep (hk2.mono λk _ e=>by show k<z.heap.size;omega) λk _ hb=>h.fab.low k hb
   have hcl:r'.Client=t.client:=ht'.client
   rw [hcl]
   refine aF (Fm h2.fab hok.ok t.client (lcap:=ac) hrd2 hoff hvs2) ?_
   rintro v z3 ⟨rfl,hp⟩
   obtain ⟨B',ξ',X',h3,hX3,_,hk3,hM3,hL3⟩:=h2.op hp
   have hb13:Blk z3 b1 r'.cells TTa:=(hL3 b1 (.inl rfl)).trans hb22
   have hb23:Blk z3 b2 cs TTa:=(hL3 b2 (.inr rfl)).trans hb2z
   have ht3:=ht2.keep (A':=λk=>B' k∨k=b1∨k=b2) hk3 hM3
   refine ⟨_,rfl,cQ (λhc2=>?_) (λhc2=>?_)⟩
   ·rw [if_pos hc2,←hX3]
    exact DF h3 hne hb13 hb23 hcs ht3
   ·rw [if_neg (λe=>e hc2)]
    refine ug hb13 hb23 hcs λw' hk'=>?_
    rw [←hX3]
    exact Dc h3 ht3 hk'
  ·have ho':(conv.next t.job t.got).2.2=true:=by rw [←ho];exact ht'.over.symm
   rw [if_pos ho']
   refine ug hb22 hb2z hcs λw' hk'=>?_
   exact Dc h2 ht2 hk'
set_option maxHeartbeats 2000000 in
theorem DH {A:Nat→Prop} {χ:Nat→Tag} {w:World} {fb:Nat} {X:FabX} (h:aW A χ w fb X) (hok:Good X.pure) {r:TR} {t:Tk conv} (ht:eB A w r t) (hsh:rO t) :
  Does 44 [ptr fb,r.val] w (zB A χ w fb (turn X.pure t)):=by
 refine does Tryz.func44 ?_
 rw [ptr,pI]
 rintro b1 w1 hb1 hw1 b2 w2 hb2 hw2
 obtain ⟨hz1,hn1⟩:=aN hb1 hw1
 obtain ⟨hz2,hn2⟩:=aN hb2 hw2
 have hz12:Blk w2 b1 r.cells TTa:=New.blk hn2 hz1
 have hs1:=hz1.lt
 have hs12:=hn1.size
 have hs2:=hz2.lt
 have hs22:=hn2.size
 clear hw1 hw2 hz1
 have hn02:=hn1.new hn2
 have hne:b1≠b2:=by omega
 have hT:TW A χ w fb (λk=>k=b1∨k=b2) w2 A χ X:=TW.start h hn02 λk hk=>by omega
 have ht2:eB (λk=>A k∨k=b1∨k=b2) w2 r t:=ht.keep (Keep.of_new hn02) λk hlt hc=>by
  rcases hc with hc | hc
  ·exact hc
  ·omega
 have hsame:∀ w',Keep (λk=>k=b2) w2 w'→zB A χ w fb (X.pure,t) r.val w':=λw' hk'=>Dc hT ht2 hk'
 unfold turn
 have hcl:r.Client=t.client:=ht.client
 refine ⟨_,hz12.cell rfl,?_⟩
 rw [ht.over]
 cases hov:t.over with
 |true=>
  refine ld rfl ?_
  rw [if_pos (.inl rfl)]
  exact ug hz12 hz2 rfl hsame
 |false=>
  refine dZ rfl ?_
  refine ⟨_,hz12.cell rfl,?_⟩
  rw [hcl]
  refine aF (Ao hT.fab _) ?_
  rintro v w4 ⟨rfl,rfl⟩
  refine ⟨_,rfl,dT (λha=>?_) (λha=>?_)⟩
  ·rw [if_pos (.inr (.inl ha))]
   exact ug hz12 hz2 rfl hsame
  refine ⟨_,hz12.cell rfl,?_⟩
  rw [hcl]
  refine aF (Ap hT.fab _) ?_
  rintro v w6 ⟨rfl,rfl⟩
  refine ⟨_,rfl,aH (λhw=>?_) (λhw=>?_)⟩
  ·rw [if_pos (.inr (.inr (by omega)))]
   exact ug hz12 hz2 rfl hsame
  rw [if_neg (by rw [ha];simp;omega)]
  refine ⟨_,hz12.cell rfl,?_⟩
  rw [hcl]
  refine aF (Fk hT.fab _) ?_
  rintro v w8 hp
  obtain ⟨B',ξ',X',h3,hX3,hK3,hk3,hM3,hL3⟩:=hT.op hp
  have hb13:Blk w8 b1 r.cells TTa:=(hL3 b1 (.inl rfl)).trans hz12
  have hb23:=(hL3 b2 (.inr rfl)).trans hz2
  have ht3:=ht2.keep (A':=λk=>B' k∨k=b1∨k=b2) hk3 hM3
  have hok3:Good X'.pure:=by rw [hX3];exact hok.take _
  have htl:∀ ds,(X.pure.take t.client).1=some ds→ds.length≤1024:=λds=>CM hok
  have hlen:=hsh hov
  rw [←hX3]
  generalize (X.pure.take t.client).1=od at hK3 htl ⊢
  cases od with
  |none=>
   have hK3:v=.tuple #[.slice none 0 0,.bool false]:=hK3
   subst hK3
   refine ⟨_,_,_,_,rfl,dZ rfl ?_⟩
   exact DG h3 hok3 hne hb13 hb23 rfl ht3
  |some ds=>
   obtain ⟨b,raw,rfl,hbb,hds,hnb⟩:=hK3
   refine ⟨_,_,_,_,rfl,ld rfl ?_⟩
   refine ⟨_,_,_,hb13.cell rfl,?_⟩
   rw [ht3.gl]
   refine CN ht3.got (by omega) hbb hds hnb (htl ds rfl) h3.fab.low (by rw [hds.1]) ?_
   intro b3 ap cap z hb3 hgz hcap hnz
   have hb14:=New.blk hnz hb13
   refine ⟨⟨_,hb14.cell rfl⟩,hb14.frozen,?_⟩
   rintro w12 hw12
   have hk12:Keep (λk=>k=b1) z w12:=by rw [hw12];exact aR _ _ _ _
   have hb15:=hb14.setCell (i:=15) (.slice ap (t.got.length+1) cap)
   rw [←hw12] at hb15
   clear hw12
   have hb15:Blk w12 b1 ({ r with Got:=ap,Got_l:=t.got.length+1,Got_c:=cap }:TR).cells TTa:=hb15
   refine DG ((h3.new hnz).local hk12 λ_ e=>.inl e) hok3 hne hb15 (hk12.blk (New.blk hnz hb23) λe=>hne e.symm) rfl ?_
   have hkz:Keep (λk=>B' k∨k=b1∨k=b2) w8 w12:=(Keep.of_new hnz).trans hk12 λ_ _ e=>.inr (.inl e)
   have ht4:=ht3.keep (A':=λk=>B' k∨k=b1∨k=b2) hkz λ_ _ hb=>hb
   have hgl:(t.got++[ds]).length=t.got.length+1:=by simp
   exact ⟨ht4.kind,ht4.client,ht4.over,ht4.bad,hgz.keep (hk12.mono λ_ _ e=>.inr (.inl e)) λ_ _ hb=>hb,hgl.symm,hcap,ht4.job,ht4.out,by show (t.got++[ds]).length≤201;omega⟩
end Go.Proofs.YtegepanmkjemjaaGreat.C12
