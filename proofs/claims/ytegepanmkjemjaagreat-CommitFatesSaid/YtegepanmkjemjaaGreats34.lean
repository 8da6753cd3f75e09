import Derived.Test.YtegepanmkjemjaaGreats33
import Derived.Test.YtegepanmkjemjaaGreats23
import Derived.Test.YtegepanmkjemjaaGreats01
import Derived.Laws.StructEq
import Derived.Test.YtegepanmkjemjaaGreats21
set_option linter.unusedVariables false
namespace Go.Proofs.YtegepanmkjemjaaGreat
open Go.Eng
theorem TW.more {A:Nat→Prop} {χ:Nat→Tag} {w u u':World} {fb:Nat} {L B:Nat→Prop} {ξ:Nat→Tag} {X:FabX} (t:TW A χ w fb L u B ξ X) (hn:New u u'):TW A χ w fb (λk=>L k∨(u.heap.size≤k∧k<u'.heap.size)) u' B ξ X:=by
 have hs:=t.next.keep.size
 refine ⟨⟨t.next.keep.trans hn λk hlt hs=>hs.elim,t.next.grow,t.next.iff⟩,?_,λk hk=>?_⟩
 ·refine (t.fab.widen hn).recolor (λk hk=>?_) λk hk=>.inl ((t.next.iff k).2 (.inl hk))
  rcases hk with hk | hk | hk
  ·exact .inl (.inl hk)
  ·exact .inl (.inr hk)
  ·exact .inr hk
 ·rcases hk with hk | hk
  ·have:=t.loc k hk
   exact ⟨this.1,Nat.lt_of_lt_of_le this.2.1 hn.size,this.2.2⟩
  ·exact ⟨by omega,hk.2,t.fab.fresh hk.1⟩
theorem TW.out {A:Nat→Prop} {χ:Nat→Tag} {w u:World} {fb:Nat} {L B:Nat→Prop} {ξ:Nat→Tag} {X:FabX} (t:TW A χ w fb L u B ξ X) {k:Nat} (hk:L k):¬ B k:=λhb=>by
 obtain ⟨h1,h2,h3⟩:=t.loc k hk
 rcases (t.next.iff k).1 hb with h | h
 ·exact h h3
 ·omega
theorem TW.mine {A:Nat→Prop} {χ:Nat→Tag} {w0 w u:World} {fb:Nat} {L B:Nat→Prop} {ξ:Nat→Tag} {X X0:FabX} (t:TW A χ w fb L u B ξ X) (hF:aZ A χ w fb X0) (hn:New w0 w) (hA:∀ k,A k→w0.heap.size≤k):New w0 u:=
 hn.trans t.next.keep λk hk hc=>by
  have:=hA k (hF.avoid k hc)
  omega
theorem Ar {A:Nat→Prop} {χ:Nat→Tag} {w:World} {fb:Nat} {X:FabX} (h:aZ A χ w fb X) {c:Nat} {C:Comp} (hc:X.pure.clients[c]?=some C):Does 34 [ptr fb,.int .i64 c] w λv w'=>v=.int .i64 C.posted∧w'=w:=by
 refine does Tryz.func34 ?_
 rw [ptr,lJ]
 have hx:∃ x,X.clients[c]?=some x∧x.pure=C:=by simpa [FabX.pure] using hc
 obtain ⟨x,h1,rfl⟩:=hx
 refine aE (fH h h1) ?_
 rintro v w' ⟨rfl,rfl⟩
 exact ⟨_,rfl,⟨_,h.ccell (k:=6) h1 rfl,rfl,rfl⟩⟩
abbrev TFo:TypeId:=40
def fofC (fb:Nat) (lines:Int) (r:aN):List Value:=[ptr fb,.int .i64 lines,.int .i64 r.Number,.slice r.Members r.Members_l r.Members_c]
def yO (n:Nat):Vw:=⟨0,stM n⟩
structure Made (w u:World) (n lines:Nat) (fb p:Nat) (A:Nat→Prop) (χ:Nat→Tag) (X:FabX) (r:aN):Prop where
 fab:aZ A χ u fb X
 pure:X.pure=Fab.fresh n 6 lines
 new:New w u
 own:∀ k,A k→w.heap.size≤k
 box:Blk u p (fofC fb lines r) TFo
 out:¬ A p
 view:ViewAt A u r (yO n)
theorem BZ {w:World} {n:Nat} (hn:1≤n∧n≤5) {x:Int} (hx:I64 x):Does 12 [.int .i64 n,.int .i64 x] w λv u=>∃ fb p A χ X r,v=.tuple #[ptr p,.bool true]∧Made w u n (98+(x % 7).toNat) fb p A χ X r:=by
 refine does Tryz.func12 ?_
 rw [nl]
 have e:(98+x % 7:Int)=((98+(x % 7).toNat:Nat):Int):=by omega
 refine aE (yv _ hx) ?_
 rintro v u1 ⟨rfl,rfl⟩
 rw [e]
 refine ⟨_,rfl,?_⟩
 refine aE (yh (c:=6) (lines:=98+(x % 7).toNat) hn (by omega) (by omega)) ?_
 rintro v u2 ⟨fb,A,χ,X,rfl,hF,hn2,hA,hX⟩
 refine ⟨_,_,rfl,?_⟩
 refine aE (yv _ hx) ?_
 rintro v u3 ⟨rfl,rfl⟩
 rw [e]
 refine ⟨_,rfl,?_⟩
 refine aE (yx _ (n:=n) (by omega) (by omega)) ?_
 rintro v u4 ⟨r,vw,rfl,hv,hn4,_,rfl⟩
 refine aN.mk_ex r ⟨rfl,?_⟩
 rintro b1 u5 hb1 hu5
 obtain ⟨hz5,hn5⟩:=aM hb1 hu5
 clear hu5
 have hs4:=hn4.size
 refine ⟨fb,b1,A,χ,X,r,rfl,(hF.new hn4).new hn5,hX,(hn2.new hn4).new hn5,hA,hz5,λh=>?_,?_⟩
 ·have:=hF.low _ h
  omega
 ·have h1:ViewAt A u4 r ⟨0,stM (n:Int).toNat⟩:=hv.mono λk _ hk=>hF.low k hk
  exact h1.new hn5
def As (x q:Nat):Bool:=(x+1) / 2 ^ q % 2 == 1
def g9 (x i:Nat):List Nat:=((List.range i).filter (As x)).map (96+·)
def eJ (x:Nat):List Nat:=g9 x 4
def ns (l:List Nat):List Int:=l.map Int.ofNat
theorem pm (x i:Nat):g9 x (i+1)=g9 x i++(if As x i=true then [96+i] else []):=by
 unfold g9
 rw [List.range_succ,List.filter_append,List.map_append]
 congr 1
 cases h:As x i<;>simp [h]
theorem xf:∀ x,x<14→∀ i,i<4→(band .i64 (bshr .i64 (((x+1:Nat):Int)) ((i:Nat):Int)) 1 == 1)=As x i:=by decide
theorem xg {x l:Nat} (h:l ∈ eJ x):96≤l∧l<100:=by
 simp only [eJ,g9,List.mem_map,List.mem_filter,List.mem_range] at h
 obtain ⟨q,⟨h1,_⟩,rfl⟩:=h
 omega
theorem ui (x i:Nat):(g9 x i).length≤i:=by
 unfold g9
 rw [List.length_map]
 exact Nat.le_trans (List.length_filter_le _ _) (by simp)
theorem Au {w:World} {x:Int} (hx:I64 x):Does 22 [.int .i64 x] w λv u=>∃ a c,v=.slice a (eJ (x % 14).toNat).length c∧Rd u a (is (ns (eJ (x % 14).toNat)))∧New w u:=by
 refine does Tryz.func22 ?_
 rw [mQ]
 obtain ⟨y,hy,hy14⟩:∃ y:Nat,x % 14=y∧y<14:=⟨(x % 14).toNat,by omega,by omega⟩
 refine aS mix (λm env u=>∃ (i:Nat) (a:Option Addr) (n c:Nat) (jj:List Value),m=4 - i∧i≤4∧n=(g9 y i).length∧env=cS x a n c i jj∧New w u∧Owns u 3 1 a n c (is (ns (g9 y i)))∧∀ k,isB a k→w.heap.size≤k) 4
  ⟨0,none,0,0,_,rfl,by omega,rfl,rfl,Keep.refl _ _,Owns.nil _ _ _,λk hk=>(mX hk).elim⟩ ?_
 rintro m env u ⟨i,a,n,c,jj,rfl,hi,rfl,rfl,hn,hown,hfr⟩
 rw [jA]
 refine aH (λhlt=>?_) (λhge=>?_)
 ·have hlt:i<4:=by omega
  refine aE (lQ _ _ _ hx (by omega)) ?_
  rintro v u1 ⟨rfl,rfl⟩
  rw [if_neg (by omega),hy]
  refine ⟨_,rfl,?_⟩
  have hlen:=ui y i
  have e1:IntKind.i64.wrap ((y:Int)+1)=((y+1:Nat):Int):=by rw [w64 (by omega) (by omega)];omega
  have e2:IntKind.u64.wrap (i:Int)=(i:Int):=su (by omega) (by omega)
  rw [e1,e2,xf y hy14 i hlt,w64 (x:=(i:Int)+1) (by omega) (by omega),w64 (x:=96+(i:Int)) (by omega) (by omega)]
  refine ⟨by omega,rx (λhb=>?_) (λhb=>?_)⟩
  ·refine Bw hown (x:=96+(i:Int)) (by omega) ?_
   intro b ap cap u3 hb3 ho3 hk3 hap
   have hsz:=hn.size
   have hs:=pm y i
   rw [if_pos hb] at hs
   refine ⟨4 - (i+1),by omega,i+1,ap,_,cap,_,rfl,by omega,by rw [hs,List.length_append];rfl,rfl,j0 hn hk3 hfr,?_,λk hk=>?_⟩
   ·rw [hs]
    have:is (ns (g9 y i++[96+i]))=is (ns (g9 y i)++[96+(i:Int)]):=by simp [is,ns]
    rw [this]
    exact ho3
   ·rcases hap k hk with h1 | h1
    ·exact hfr k h1
    ·omega
  ·have hs:=pm y i
   rw [if_neg (by simp [hb]),List.append_nil] at hs
   exact ⟨4 - (i+1),by omega,i+1,a,_,c,_,rfl,by omega,by rw [hs],rfl,hn,by rw [hs];exact hown,hfr⟩
 ·have:i=4:=by omega
  subst this
  rw [kq]
  have e:(x % 14).toNat=y:=by omega
  rw [e]
  exact ⟨a,c,rfl,hown.rd,hn⟩
end Go.Proofs.YtegepanmkjemjaaGreat
namespace Go.Mx
open Go.Eng
def cmp1:Bool→Value→Value→Prop
 |false,.int k _,.int j _=>k=j
 |true,.bool _,.bool _=>True
 | _,_,_=>False
def xh:List Bool→List Value→List Value→Prop
 | [],[],[]=>True
 |k::ks,x::xs,y::ys=>cmp1 k x y∧xh ks xs ys
 | _,_,_=>False
def eqv1:Value→Value→Bool
 | .int _ a,.int _ b=>a == b
 | .bool a,.bool b=>a == b
 | _,_=>true
def eqvL:List Value→List Value→Bool
 |x::xs,y::ys=>eqv1 x y && eqvL xs ys
 | _,_=>true
theorem xh.split:∀ {ks ls:List Bool} {xs ys:List Value},xh (ks++ls) xs ys→xh ks (xs.take ks.length) (ys.take ks.length)∧xh ls (xs.drop ks.length) (ys.drop ks.length)∧
  eqvL xs ys=(eqvL (xs.take ks.length) (ys.take ks.length) && eqvL (xs.drop ks.length) (ys.drop ks.length))
 | [],ls,xs,ys,h=>⟨trivial,h,rfl⟩
 |k::ks,ls,x::xs,y::ys,⟨a,h⟩=>by
  obtain ⟨h1,h2,h3⟩:=xh.split h
  refine ⟨⟨a,h1⟩,h2,?_⟩
  show (eqv1 x y && eqvL xs ys)=((eqv1 x y && eqvL (xs.take ks.length) (ys.take ks.length)) && eqvL (xs.drop ks.length) (ys.drop ks.length))
  rw [h3,Bool.and_assoc]
section
variable {P:Program}
end
end Go.Mx
namespace Go.Proofs.YtegepanmkjemjaaGreat
open Go.Proofs.Tryz
open Go.Eng C12
theorem vm (l:List aG) (p:aG):(kC (l++[p])).flatten=(kC l).flatten++p.cells:=by simp [kC]
theorem yP {u:World} {a:Option Addr} {n cap:Nat} {L:List aG} (ho:Owns u TPg 9 a n cap (kC L).flatten) {p:aG} (hb1:n≤1000000) {K:Nat→Option Addr→Nat→Nat→World→Prop}
  (hk:∀ b ap cap' w3,b=u.heap.size→Owns w3 TPg 9 ap (n+1) cap' (kC (L++[p])).flatten→Keep (isB a) u w3→(∀ k,isB ap k→isB a k∨u.heap.size≤k)→K b ap (n+1) cap' w3) :
  ∀ b1 w2,b1=u.heap.size→w2=u.alloc (.cells p.cells.toArray TPg)→∃ (ap:Option Addr) (ap_len ap_cap:Nat),∃ w3,(Builtin.append_ #[32,32] 32 #[(.slice a n cap),(.slice (some ⟨b1,0,none⟩) 1 1)]).run prog w2=.ok (.slice ap ap_len ap_cap) w3∧K b1 ap ap_len ap_cap w3:=by
 obtain ⟨inf,hi,hz,hsz,hby⟩:=jm (T:=TPg) (z:=.agg #[.int .i64 0,.int .u64 0,.int .u64 0,.int .u64 0,.int .u64 0,.int .u64 0,.int .u64 0,.int .u64 0,.int .u64 0]) (n:=9) (m:=72) (by kernel_rfl)
 rw [←hsz] at ho
 refine push_k Tryz.underlying32 hi hz (by rw [hsz];rfl) (by omega) ho (by rw [hsz];rfl) (aG.single p) (by omega) (by omega) ?_
 intro b ap cap' w3 h1 h2
 rw [hsz,←vm] at h2
 exact hk b ap cap' w3 h1 h2
theorem yQ (w:World) (c:Int):Does 42 [.int .i64 c] w λv w'=>v=.bool (decide (0≤c∧c<6))∧w'=w:=by
 refine does Tryz.func42 ?_
 rw [np]
 refine aH (λh=>⟨?_,rfl⟩) (λh=>⟨?_,rfl⟩)
 ·have h:0≤c:=h
  congr 1;simp [h]
 ·have h:¬ 0≤c:=h
  congr 1;simp [h]
structure EqX (X:FabX) (n lines:Nat):Prop where
 len:X.nodes.length=n
 eq:∀ (i:Nat) (x x0:jK),X.nodes[i]?=some x→X.nodes[0]?=some x0→EqN x0.n x.n lines
 long:∀ (i:Nat) (x:jK),X.nodes[i]?=some x→lines * 8≤x.n.words.length
 few:lines≤256
 many:98≤lines
theorem B0 {X:FabX} {i:Nat} {x:jK} (h:X.nodes[i]?=some x):jU X.pure i=x.n:=by
 simp [jU,FabX.pure,List.getD_eq_getElem?_getD,h]
def zT:aB:=⟨0,0,⟨0⟩,⟨0,0,0,0,0⟩,⟨0,0,0,⟨0,none,0,0⟩,none,0,0,none,0,0⟩,none,0,0,false,false,0,⟨0,none,0,0⟩,0,none,0,0,0,0⟩
def vX (c seq lines:Int) (rv:aN) (wa:Option Addr) (wl wc:Nat):aB:=
 ⟨3,c,⟨0⟩,⟨0,0,0,0,0⟩,⟨c,seq,lines,rv,none,0,0,wa,wl,wc⟩,none,0,0,false,false,0,⟨0,none,0,0⟩,0,none,0,0,0,0⟩
set_option maxRecDepth 20000 in
set_option maxHeartbeats 2000000 in
theorem xi {A:Nat→Prop} {χ:Nat→Tag} {w:World} {fb:Nat} {X:FabX} (h:aZ A χ w fb X) {p:Nat} {lines:Int} {rv:aN} (hp:Blk w p (fofC fb lines rv) TFo) {x:jK} (hx:X.nodes[0]?=some x) (hd:x.n.down=false)
  {L:List Nat} (hL:∀ l ∈ L,96≤l∧l<256∧l * 8+8≤x.n.words.length) (hlen:L.length≤1000) {a:Option Addr} {cc:Nat} (hr:Rd w a (is (ns L))) (c seq:Int) :
  Does 21 [ptr p,.int .i64 c,.int .i64 seq,.slice a L.length cc] w λv u=>∃ wa wc,v=.tuple #[(vX c seq lines rv wa L.length wc).val,.bool true]∧New w u∧Owns u TPg 9 wa L.length wc (kC (cws c x.n L)).flatten∧∀ k,isB wa k→w.heap.size≤k:=by
 refine does Tryz.func21 ?_
 rw [ptr,lI]
 rintro b1 w1 hb1 hw1
 obtain ⟨hz1,hn1⟩:=aM hb1 hw1
 have hz1:Blk w1 b1 zT.cells 49:=hz1
 clear hw1
 rintro w2 hw2
 have hn2:New w w2:=by rw [hw2];exact hn1.new (aW _)
 have hz12:Blk w2 b1 zT.cells 49:=by rw [hw2];exact New.blk (aW _) hz1
 clear hw2
 refine ⟨λy=>New w2 y,Keep.refl _ _,lines,λu hu=>(New.blk (hn2.new hu) hp).cell (i:=1) rfl,aN.mk_ex rv ⟨λu hu=>aI (New.blk (hn2.new hu) hp) (o:=2) rfl,?_⟩⟩
 rintro b2 w3 hb2 hw3
 obtain ⟨hz3,hn3⟩:=aM hb2 hw3
 have hl1:=hz12.lt
 have hs2:=hn2.size
 have hz13:=New.blk hn3 hz12
 clear hw3
 refine ⟨hn3,?_⟩
 refine fK (vs:=aL.cells ⟨c,seq,lines,rv,none,0,0,none,0,0⟩) hz3 rfl (aL.single ⟨c,seq,lines,rv,none,0,0,none,0,0⟩) λw4 hz4 hk4=>?_
 have hz14:=hk4.blk hz13 (by omega)
 have hn4:New w w4:=(hn2.new hn3).trans hk4 λk hlt e=>by omega
 clear hz1 hz12 hz13 hz3 hk4
 refine aS mix (λq env z=>∃ (i:Nat) (wa:Option Addr) (wc:Nat) (jj:List Value),q=L.length - i∧i≤L.length∧env=cF ⟨p,0,none⟩ c a L.length cc ⟨b1,0,none⟩ ⟨b2,0,none⟩ i jj∧New w z∧Blk z b1 zT.cells 49∧Blk z b2 (aL.cells ⟨c,seq,lines,rv,none,0,0,wa,i,wc⟩) 34∧Owns z TPg 9 wa i wc (kC (cws c x.n (L.take i))).flatten∧∀ k,isB wa k→b2<k) L.length
  ⟨0,none,0,_,rfl,by omega,rfl,hn4,hz14,hz4,Owns.nil _ _ _,λk hk=>(mX hk).elim⟩ ?_
 clear hz14 hz4
 rintro q env z ⟨i,wa,wc,jj,rfl,hi,rfl,hn,hz1,hz2,hown,hfr⟩
 rw [iM]
 refine aH (λhlt=>?_) (λhge=>?_)
 ·have hlt':i<L.length:=by omega
  obtain ⟨hl0,hl2,hl3⟩:=hL L[i] (List.getElem_mem hlt')
  have hg:(ns L)[i]?=some (L[i]:Int):=by simp [ns,hlt']
  have htk:cws c x.n (L.take (i+1))=cws c x.n (L.take i)++[bump c (x.n.page L[i])]:=by
   unfold cws
   rw [List.take_succ_eq_append_getElem hlt',List.map_append]
   rfl
  generalize L[i]=l at hl0 hl2 hl3 hg htk
  rintro u1 hu1
  have hn1:New z u1:=by rw [hu1];exact aW _
  clear hu1
  refine ⟨λy=>New u1 y,Keep.refl _ _,_,λu hu=>(New.blk ((hn.new hn1).new hu) hp).cell (i:=0) rfl,?_⟩
  refine rd_i ((hr.new hn).new hn1) hg rfl (by simp [ns]) λb o hc=>⟨_,λu hu=>hc u hu,?_,?_⟩
  ·refine aE (vN (h.new (hn.new hn1)) hx (l:=l) (by omega) (by omega) hd) ?_
   rintro v u2 ⟨rfl,hn2⟩
   refine aG.mk_ex (x.n.page l) ⟨true,rfl,hn2,?_⟩
   rintro b3 u3 hb3 hu3
   obtain ⟨hzb,hnb⟩:=aM hb3 hu3
   clear hu3
   refine ⟨hn2.new hnb,?_⟩
   refine fK (vs:=(x.n.page l).cells) hzb rfl (aG.single _) λu4 hz hk4=>?_
   have hn4:New z u4:=((hn1.new hn2).new hnb).trans hk4 λk hlt e=>by have:=(hn1.new hn2).size;omega
   have hb3':z.heap.size≤b3:=by have:=(hn1.new hn2).size;omega
   clear hzb hnb hk4
   refine dB rfl ⟨_,hz.cell (i:=1) rfl,?_⟩
   refine mg hz (o:=1) (by simp [aG.cells]) λu5 hz5 hk5=>?_
   refine jY (by omega) (by omega) ⟨_,hz5.cell (i:=2) rfl,?_⟩
   refine jY (by omega) (by omega) ?_
   refine mg hz5 (o:=2) (by simp [aG.cells]) λu6 hz6 hk6=>?_
   refine jY (by omega) (by omega) ?_
   refine mg hz6 (o:=3) (by simp [aG.cells]) λu7 hz7 hk7=>?_
   have hz7:Blk u7 b3 (bump c (x.n.page l)).cells TPg:=hz7
   have hn7:New z u7:=hn4.trans ((hk5.trans hk6 λ_ _ h=>h).trans hk7 λ_ _ h=>h) λk hlt e=>by omega
   have hz17:=New.blk hn7 hz1
   have hz27:=New.blk hn7 hz2
   refine ⟨_,_,_,hz27.cell (i:=6) rfl,?_⟩
   refine aG.mk_ex (bump c (x.n.page l)) ⟨aI hz7 rfl,?_⟩
   refine yP (hown.new hn7) (by omega) ?_
   intro b4 ap cap u8 hb4 ho8 hk8 hap
   have hz18:=hk8.blk hz17 (λe=>by have:=hfr b1 e;omega)
   have hz28:=hk8.blk hz27 (λe=>by have:=hfr b2 e;omega)
   have hl2':=hz2.lt
   have hs7:=hn7.size
   have hsw:=hn.size
   have hfr8:∀ k,isB ap k→b2<k:=λk hk=>by
    rcases hap k hk with h1 | h1
    ·exact hfr k h1
    ·omega
   refine mg (b:=b2) hz28 (o:=6) (by simp [aL.cells]) λu9 hz9 hk9=>?_
   rw [w64 (x:=(i:Int)+1) (by omega) (by omega)]
   have hn8:New w u8:=j0 (hn.new hn7) hk8 λk hk=>by have:=hfr k hk;omega
   exact ⟨L.length - (i+1),by omega,i+1,ap,cap,_,rfl,by omega,rfl,hn8.trans hk9 λk hlt e=>by omega,hk9.blk hz18 (by omega),hz9,by rw [htk];exact ho8.keep hk9 λk hk e=>by have:=hfr8 k hk;omega,hfr8⟩
  ·rintro b3 u3 hb3 hu3
   obtain ⟨hzb,hnb⟩:=aM hb3 hu3
   clear hu3
   refine ⟨hnb,?_⟩
   refine aE (vN (h.new ((hn.new hn1).new hnb)) hx (l:=l) (by omega) (by omega) hd) ?_
   rintro v u2 ⟨rfl,hn2⟩
   refine aG.mk_ex (x.n.page l) ⟨true,rfl,?_⟩
   refine fK (vs:=(x.n.page l).cells) (New.blk hn2 hzb) rfl (aG.single _) λu4 hz hk4=>?_
   have hb3':z.heap.size≤b3:=by have:=hn1.size;omega
   have hn4:New z u4:=((hn1.new hnb).new hn2).trans hk4 λk hlt e=>by omega
   clear hzb hnb hk4
   refine dB rfl ⟨_,hz.cell (i:=1) rfl,?_⟩
   refine mg hz (o:=1) (by simp [aG.cells]) λu5 hz5 hk5=>?_
   refine jY (by omega) (by omega) ⟨_,hz5.cell (i:=2) rfl,?_⟩
   refine jY (by omega) (by omega) ?_
   refine mg hz5 (o:=2) (by simp [aG.cells]) λu6 hz6 hk6=>?_
   refine jY (by omega) (by omega) ?_
   refine mg hz6 (o:=3) (by simp [aG.cells]) λu7 hz7 hk7=>?_
   have hz7:Blk u7 b3 (bump c (x.n.page l)).cells TPg:=hz7
   have hn7:New z u7:=hn4.trans ((hk5.trans hk6 λ_ _ h=>h).trans hk7 λ_ _ h=>h) λk hlt e=>by omega
   have hz17:=New.blk hn7 hz1
   have hz27:=New.blk hn7 hz2
   refine ⟨_,_,_,hz27.cell (i:=6) rfl,?_⟩
   refine aG.mk_ex (bump c (x.n.page l)) ⟨aI hz7 rfl,?_⟩
   refine yP (hown.new hn7) (by omega) ?_
   intro b4 ap cap u8 hb4 ho8 hk8 hap
   have hz18:=hk8.blk hz17 (λe=>by have:=hfr b1 e;omega)
   have hz28:=hk8.blk hz27 (λe=>by have:=hfr b2 e;omega)
   have hl2':=hz2.lt
   have hs7:=hn7.size
   have hsw:=hn.size
   have hfr8:∀ k,isB ap k→b2<k:=λk hk=>by
    rcases hap k hk with h1 | h1
    ·exact hfr k h1
    ·omega
   refine mg (b:=b2) hz28 (o:=6) (by simp [aL.cells]) λu9 hz9 hk9=>?_
   rw [w64 (x:=(i:Int)+1) (by omega) (by omega)]
   have hn8:New w u8:=j0 (hn.new hn7) hk8 λk hk=>by have:=hfr k hk;omega
   exact ⟨L.length - (i+1),by omega,i+1,ap,cap,_,rfl,by omega,rfl,hn8.trans hk9 λk hlt e=>by omega,hk9.blk hz18 (by omega),hz9,by rw [htk];exact ho8.keep hk9 λk hk e=>by have:=hfr8 k hk;omega,hfr8⟩
 ·have hie:i=L.length:=by omega
  subst hie
  rw [jM]
  rw [List.take_length] at hown
  refine aL.mk_ex ⟨c,seq,lines,rv,none,0,0,wa,L.length,wc⟩ ⟨aI hz2 rfl,?_⟩
  refine fK (vs:=(vX c seq lines rv wa L.length wc).cells) hz1 rfl (aB.single _) λu1 hz hk=>?_
  refine aB.mk_ex (vX c seq lines rv wa L.length wc) ⟨aI hz rfl,rfl,wa,wc,rfl,hn.trans hk λk hlt e=>by omega,hown.keep hk λk hk' e=>by have:=hfr k hk';omega,λk hk'=>by have:=hfr k hk';omega⟩
end Go.Proofs.YtegepanmkjemjaaGreat
namespace Go.Proofs.YtegepanmkjemjaaGreat.C12
open Go.Eng
abbrev TR:=aB
abbrev TTa:TypeId:=49
abbrev TST:TypeId:=61
structure eP (A:Nat→Prop) (w:World) (r:TR) (t:Tk conv):Prop where
 kind:r.Kind=KIND
 client:r.Client=t.client
 over:r.Over=t.over
 bad:r.Bad=t.bad
 got:lB A w r.Got t.got
 gl:r.Got_l=t.got.length
 gc:r.Got_l≤r.Got_c
 job:JAt A w r t.job
 out:OAt A w r t.out
 len:t.got.length≤201
theorem eP.keep {A A':Nat→Prop} {w w':World} {r:TR} {t:Tk conv} (h:eP A w r t) (hk:Keep A w w') (hM:∀ k,k<w.heap.size→A' k→A k):eP A' w' r t:=
 ⟨h.kind,h.client,h.over,h.bad,h.got.keep hk hM,h.gl,h.gc,h.job.keep hk hM,h.out.keep hk hM,h.len⟩
theorem eP.fail {A:Nat→Prop} {w:World} {r:TR} {t:Tk conv} (h:eP A w r t):eP A w { r with Over:=true,Bad:=true } t.fail:=
 ⟨h.kind,h.client,rfl,rfl,h.got,h.gl,h.gc,h.job,h.out,h.len⟩
theorem sh {z:World} {b1 b2:Nat} {r:TR} {cs:List Value} {R:Value→World→Prop} (hb1:Blk z b1 r.cells TTa) (hb2:Blk z b2 cs TTa) (hc:cs.length=25) (hR:∀ w',Keep (λk=>k=b2) z w'→R r.val w') :
  aB.ex λx=>aD z ⟨b1,0,none⟩ 0 x.cells∧wrAt z ⟨b2,0,none⟩ 0 x.cells∧∀ w',w'=puts z ⟨b2,0,none⟩ 0 x.cells→aB.ex λy=>aD w' ⟨b2,0,none⟩ 0 y.cells∧w'=w'∧R y.val w':=by
 refine aB.mk_ex r ⟨aI hb1 rfl,?_⟩
 refine fK (vs:=r.cells) hb2 (by rw [hc];rfl) (aB.single r) λw' hb' hk'=>?_
 exact aB.mk_ex r ⟨aI hb' rfl,rfl,hR w' hk'⟩
def xj (A:Nat→Prop) (χ:Nat→Tag) (w:World) (fb:Nat) (x:Fab×Tk conv) (v:Value) (w':World):Prop:=
 cZ A χ w fb x.1 w' λB=>∃ r:TR,v=r.val∧eP B w' r x.2
theorem Av {A:Nat→Prop} {χ:Nat→Tag} {w z w':World} {fb b1 b2:Nat} {B:Nat→Prop} {ξ:Nat→Tag} {X:FabX} {r:TR} {t:Tk conv} (h:TW A χ w fb (λk=>k=b1∨k=b2) z B ξ X) (ht:eP (λk=>B k∨k=b1∨k=b2) z r t) (hk:Keep (λk=>k=b2) z w') :
  xj A χ w fb (X.pure,t) r.val w':=
 (h.local hk λ_ e=>.inr e).done ⟨r,rfl,ht.keep (hk.mono λ_ _ e=>.inr (.inr e)) λk _ hb=>.inl hb⟩
def lN (ts:List (TR×Tk conv)):List (List Value):=ts.map λx=>x.1.cells
theorem lu (ts:List (TR×Tk conv)):∀ r ∈ lN ts,r.length=25:=by
 intro r hr
 simp only [lN,List.mem_map] at hr
 obtain ⟨x,_,rfl⟩:=hr
 rfl
theorem rk {ts:List (TR×Tk conv)} {i:Nat} {x:TR×Tk conv} (h:ts[i]?=some x):(lN ts)[i]?=some x.1.cells:=by simp [lN,h]
theorem uj (ts:List (TR×Tk conv)):∀ u ∈ (lN ts).flatten,single u=true:=by
 intro u hu
 obtain ⟨r,hr,hur⟩:=List.mem_flatten.1 hu
 simp only [lN,List.mem_map] at hr
 obtain ⟨x,_,rfl⟩:=hr
 exact aB.single _ u hur
end Go.Proofs.YtegepanmkjemjaaGreat.C12
namespace Go.Proofs.YtegepanmkjemjaaGreat.C12
open Go.Eng
set_option maxRecDepth 20000 in
set_option maxHeartbeats 4000000 in
theorem CQ {A:Nat→Prop} {z:World} {r:TR} {t:Tk conv} (h:eP A z r t) (hlow:∀ k,A k→k<z.heap.size) :
  Does 60 [r.val] z λv z1=>New z z1∧∃ (aa:Option Addr) (ac:Nat) (raws:List aK) (r':TR),v=.tuple #[.slice aa raws.length ac,r'.val]∧Rd z1 aa (et raws).flatten∧(∀ k,isB aa k→z.heap.size≤k)∧Vs (λk=>k<z.heap.size) z1 raws (conv.next t.job t.got).1∧eP A z1 r' t.told:=by
 refine does Tryz.func60 ?_
 rw [oe]
 rintro b1 u1 hb1 hu1
 obtain ⟨hz1,hn1⟩:=aM hb1 hu1
 have hz1:Blk u1 b1 r.cells TTa:=hz1
 clear hu1
 rintro b2 u2 hb2 hu2
 obtain ⟨hz2,hn2⟩:=aM hb2 hu2
 obtain ⟨cs2,hz2,hcs2⟩:∃ cs,Blk u2 b2 cs TTa∧cs.length=r.cells.length:=⟨_,hz2,rfl⟩
 clear hu2
 have hn12:=hn1.new hn2
 have hs1:=hn1.size
 have hs2:=hn2.size
 have hl1:=hz1.lt
 have hl2:=hz2.lt
 have hz12:=New.blk hn2 hz1
 have hk:=h.kind
 refine ⟨_,hz12.cell (i:=0) rfl,dB (by rw [hk];rfl) (dB (by rw [hk];rfl) (jG (by rw [hk];rfl) ?_))⟩
 refine aL.mk_ex r.Commit ⟨aI hz12 rfl,_,_,_,hz12.cell (i:=15) rfl,?_⟩
 have hk12:Keep A z u2:=Keep.of_new hn12
 have hj:JAtC A u2 r.Commit t.job:=h.job.keep (A':=A) hk12 λ_ _ e=>e
 have hg:=h.got.keep (A':=A) hk12 λ_ _ e=>e
 have hcall:=BY hj.at_ (λ_=>hj.dat) hg h.gl h.gc
 refine aE hcall ?_
 rintro v u3 ⟨aa,ac,raws,rfl,hn3,hrd,hfr,hvs⟩
 refine ⟨_,_,_,aA.mk_ex ⟨(iQ t.job t.got).2.1.1,(iQ t.job t.got).2.1.2⟩ ⟨(iQ t.job t.got).2.2,rfl,?_⟩⟩
 refine iI (vs:=aA.cells ⟨(iQ t.job t.got).2.1.1,(iQ t.job t.got).2.1.2⟩) rfl (aA.single _) λb3 u4 hb3 hz4 hn4=>?_
 rintro u5 hu5
 have hn5:New u4 u5:=by rw [hu5];exact aW _
 clear hu5
 have hs3:=hn3.size
 have hs4:=hn4.size
 have hs5:=hn5.size
 have hz45:=New.blk hn5 hz4
 have hn25:=(hn3.new hn4).new hn5
 have hz15:=New.blk hn25 hz12
 have hz25:=New.blk hn25 hz2
 refine ⟨λy=>Blk y b3 (aA.cells ⟨(iQ t.job t.got).2.1.1,(iQ t.job t.got).2.1.2⟩) TCO,hz45,_,λy hy=>hy.cell (i:=0) rfl,_,λy hy=>hy.cell (i:=1) rfl,?_⟩
 refine sU hz15 (i:=16) rfl λu6 hz6 hk6=>⟨hk6.blk hz45 (by omega),?_⟩
 refine sU hz6 (i:=18) rfl λu7 hz7 hk7=>⟨hk7.blk (hk6.blk hz45 (by omega)) (by omega),?_⟩
 refine sU hz7 (i:=24) rfl λu8 hz8 hk8=>?_
 rintro u9 hu9
 have hn9:New u8 u9:=by rw [hu9];exact aW _
 clear hu9
 have hk58:Keep (λk=>k=b1) u5 u8:=(hk6.trans hk7 λ_ _ e=>e).trans hk8 λ_ _ e=>e
 have hz8:Blk u8 b1 (aB.cells { r with Over:=(iQ t.job t.got).2.2,Code:=(iQ t.job t.got).2.1.1,Fate:=(iQ t.job t.got).2.1.2 }) TTa:=hz8
 have hz9:=New.blk hn9 hz8
 have hz29:Blk u9 b2 cs2 TTa:=New.blk hn9 (hk58.blk hz25 (by omega))
 have hk59:Keep (λk=>k=b1) u5 u9:=hk58.new hn9
 refine ⟨λy=>New u9 y,Keep.refl _ _,aB.mk_ex { r with Over:=(iQ t.job t.got).2.2,Code:=(iQ t.job t.got).2.1.1,Fate:=(iQ t.job t.got).2.1.2 } ⟨λy hy=>aI (New.blk hy hz9) rfl,?_⟩⟩
 refine fK hz29 (by rw [hcs2];rfl) (aB.single _) λuA hzA hkA=>?_
 refine aB.mk_ex { r with Over:=(iQ t.job t.got).2.2,Code:=(iQ t.job t.got).2.1.1,Fate:=(iQ t.job t.got).2.1.2 } ⟨aI hzA rfl,rfl,?_⟩
 have hk5A:Keep (λk=>k=b1∨k=b2) u5 uA:=(hk59.mono λk _ e=>.inl e).trans (hkA.mono λk _ e=>.inr e) λ_ _ e=>e
 have hnA:New z uA:=(hn12.new hn25).trans hk5A λk hlt e=>by omega
 have hk3A:Keep (λk=>k=b1∨k=b2) u3 uA:=(Keep.of_new (hn4.new hn5)).trans hk5A λ_ _ e=>e
 refine ⟨hnA,aa,ac,raws,_,rfl,hrd.keep hk3A (pV hrd λk hk e=>by have:=hfr k hk;omega),λk hk=>by have:=hfr k hk;omega,?_,?_⟩
 ·exact hvs.keep (hk3A.mono λk _ e=>by show k<u2.heap.size;omega) λk _ e=>by show k<u2.heap.size;omega
 ·have hT:=h.keep (A':=A) (Keep.of_new hnA) λ_ _ e=>e
  exact ⟨hT.kind,hT.client,rfl,hT.bad,hT.got,hT.gl,hT.gc,hT.job,⟨rfl,rfl⟩,hT.len⟩
end Go.Proofs.YtegepanmkjemjaaGreat.C12
namespace Go.Proofs.YtegepanmkjemjaaGreat.C12
open Go.Proofs.Tryz
open Go.Eng
def vY (p0 b1 b2:Nat) (z:World) (R:Value→World→Prop):Prop:=
 ∃ (g:Option Addr) (gl gc:Nat),z.cell? ⟨b1,15,none⟩=some (.slice g gl gc)∧(bif (decide ((gl:Int)>200)) then
  ((∃ u,z.cell? ⟨b1,16,none⟩=some u)∧z.frozen? ⟨b1,16,none⟩=false∧∀ z1,z1=z.setCell ⟨b1,16,none⟩ (.bool true)→(∃ u,z1.cell? ⟨b1,17,none⟩=some u)∧z1.frozen? ⟨b1,17,none⟩=false∧∀ z2,z2=z1.setCell ⟨b1,17,none⟩ (.bool true)→
   aB.ex λx=>aD z2 ⟨b1,0,none⟩ 0 x.cells∧wrAt z2 ⟨b2,0,none⟩ 0 x.cells∧∀ w',w'=puts z2 ⟨b2,0,none⟩ 0 x.cells→aB.ex λy=>aD w' ⟨b2,0,none⟩ 0 y.cells∧w'=w'∧R y.val w')
  else (aB.ex λr=>aD z ⟨b1,0,none⟩ 0 r.cells∧Calls prog 60 #[r.val] z λe z3=>∃ (a:Option Addr) (al ac:Nat),aB.ex λr'=>e=.returned (.tuple #[.slice a al ac,r'.val])∧wrAt z3 ⟨b1,0,none⟩ 0 r'.cells∧∀ z4,z4=puts z3 ⟨b1,0,none⟩ 0 r'.cells→
   ∃ ov:Bool,z4.cell? ⟨b1,16,none⟩=some (.bool ov)∧(bif (!ov) then (∃ cl:Int,z4.cell? ⟨b1,1,none⟩=some (.int .i64 cl)∧Calls prog 61 #[.pointer (some ⟨p0,0,none⟩),.int .i64 cl,.slice a al ac] z4 λe z5=>∃ ec:Int,e=.returned (.int .i64 ec)∧(bif (ec != 0) then
     ((∃ u,z5.cell? ⟨b1,16,none⟩=some u)∧z5.frozen? ⟨b1,16,none⟩=false∧∀ z6,z6=z5.setCell ⟨b1,16,none⟩ (.bool true)→(∃ u,z6.cell? ⟨b1,17,none⟩=some u)∧z6.frozen? ⟨b1,17,none⟩=false∧∀ z7,z7=z6.setCell ⟨b1,17,none⟩ (.bool true)→
      aB.ex λx=>aD z7 ⟨b1,0,none⟩ 0 x.cells∧wrAt z7 ⟨b2,0,none⟩ 0 x.cells∧∀ w',w'=puts z7 ⟨b2,0,none⟩ 0 x.cells→aB.ex λy=>aD w' ⟨b2,0,none⟩ 0 y.cells∧w'=w'∧R y.val w')
     else (aB.ex λx=>aD z5 ⟨b1,0,none⟩ 0 x.cells∧wrAt z5 ⟨b2,0,none⟩ 0 x.cells∧∀ w',w'=puts z5 ⟨b2,0,none⟩ 0 x.cells→aB.ex λy=>aD w' ⟨b2,0,none⟩ 0 y.cells∧w'=w'∧R y.val w')))
    else (aB.ex λx=>aD z4 ⟨b1,0,none⟩ 0 x.cells∧wrAt z4 ⟨b2,0,none⟩ 0 x.cells∧∀ w',w'=puts z4 ⟨b2,0,none⟩ 0 x.cells→aB.ex λy=>aD w' ⟨b2,0,none⟩ 0 y.cells∧w'=w'∧R y.val w'))))
theorem AU {A:Nat→Prop} {χ:Nat→Tag} {w z:World} {fb b1 b2:Nat} {B:Nat→Prop} {ξ:Nat→Tag} {X:FabX} {r:TR} {t:Tk conv} (h:TW A χ w fb (λk=>k=b1∨k=b2) z B ξ X) (hne:b1≠b2) (hb1:Blk z b1 r.cells TTa) {cs:List Value} (hb2:Blk z b2 cs TTa) (hcs:cs.length=25) (ht:eP (λk=>B k∨k=b1∨k=b2) z r t) :
  (∃ u,z.cell? ⟨b1,16,none⟩=some u)∧z.frozen? ⟨b1,16,none⟩=false∧∀ z1,z1=z.setCell ⟨b1,16,none⟩ (.bool true)→(∃ u,z1.cell? ⟨b1,17,none⟩=some u)∧z1.frozen? ⟨b1,17,none⟩=false∧∀ z2,z2=z1.setCell ⟨b1,17,none⟩ (.bool true)→
   aB.ex λx=>aD z2 ⟨b1,0,none⟩ 0 x.cells∧wrAt z2 ⟨b2,0,none⟩ 0 x.cells∧∀ w',w'=puts z2 ⟨b2,0,none⟩ 0 x.cells→aB.ex λy=>aD w' ⟨b2,0,none⟩ 0 y.cells∧w'=w'∧xj A χ w fb (X.pure,t.fail) y.val w':=by
 refine ⟨⟨_,hb1.cell rfl⟩,hb1.frozen,?_⟩
 rintro z1 hz1
 have hk1:Keep (λk=>k=b1) z z1:=by rw [hz1];exact aQ _ _ _ _
 have hb11:=hb1.setCell (i:=16) (.bool true)
 rw [←hz1] at hb11
 clear hz1
 refine ⟨⟨_,hb11.cell rfl⟩,hb11.frozen,?_⟩
 rintro z2 hz2
 have hk2:Keep (λk=>k=b1) z z2:=by rw [hz2];exact hk1.setCell (.inl rfl) _
 have hb12:=hb11.setCell (i:=17) (.bool true)
 rw [←hz2] at hb12
 clear hz2
 have hb12:Blk z2 b1 ({ r with Over:=true,Bad:=true }:TR).cells TTa:=hb12
 refine sh hb12 (hk2.blk hb2 λe=>hne e.symm) hcs λw' hk'=>?_
 exact Av (h.local hk2 λ_ e=>.inl e) ((ht.keep (hk2.mono λ_ _ e=>.inr (.inl e)) λ_ _ hb=>hb).fail) hk'
set_option maxHeartbeats 2000000 in
theorem AV {A:Nat→Prop} {χ:Nat→Tag} {w z:World} {fb b1 b2:Nat} {B:Nat→Prop} {ξ:Nat→Tag} {X:FabX} {r:TR} {t:Tk conv} (h:TW A χ w fb (λk=>k=b1∨k=b2) z B ξ X) (hok:Good X.pure) (hne:b1≠b2)
  (hb1:Blk z b1 r.cells TTa) {cs:List Value} (hb2:Blk z b2 cs TTa) (hcs:cs.length=25) (ht:eP (λk=>B k∨k=b1∨k=b2) z r t) :
  vY fb b1 b2 z (xj A χ w fb (qt X.pure t)):=by
 unfold vY qt
 have hgl:=ht.gl
 refine ⟨_,_,_,hb1.cell rfl,aH (λhc=>?_) (λhc=>?_)⟩
 ·rw [if_pos (by omega)]
  exact AU h hne hb1 hb2 hcs ht
 ·rw [if_neg (by omega)]
  refine aB.mk_ex r ⟨aI hb1 rfl,?_⟩
  refine aE (CQ ht (λk hk=>h.fab.low k hk)) ?_
  rintro v z1 ⟨hn1,aa,ac,raws,r',rfl,hrd,hfr,hvs,ht'⟩
  refine ⟨_,_,_,aB.mk_ex r' ⟨rfl,?_⟩⟩
  have hb1l:=hb1.lt
  have hb2l:=hb2.lt
  refine fK (vs:=r'.cells) (New.blk hn1 hb1) rfl (aB.single r') λz2 hb22 hk2=>?_
  have hkz2:Keep (λk=>k=b1) z z2:=(Keep.of_new hn1).trans hk2 λ_ _ e=>e
  have h2:=(h.new hn1).local hk2 λ_ e=>.inl e
  have ht2:=ht'.keep (A':=λk=>B k∨k=b1∨k=b2) (hk2.mono λ_ _ e=>.inr (.inl e)) λ_ _ hb=>hb
  have hb2z:Blk z2 b2 cs TTa:=hkz2.blk hb2 λe=>hne e.symm
  have hrd2:Rd z2 aa (et raws).flatten:=hrd.keep hk2 (pV hrd λk hk e=>by have:=hfr k hk;omega)
  refine ⟨_,hb22.cell rfl,dM (λho=>?_) (λho=>?_)⟩
  ·have ho':(conv.next t.job t.got).2.2=false:=by rw [←ho];exact ht'.over.symm
   rw [if_neg (by rw [ho'];simp)]
   refine ⟨_,hb22.cell rfl,?_⟩
   have hoff:((et raws).flatten=[])∨Off (λk=>B k∨k=b1∨k=b2) aa:=pV hrd2 λk hk e=>by
    have h3:=hfr k hk
    have h4:=h.fab.low k e
    omega
   have hvs2:Vs (λk=>B k∨k=b1∨k=b2) z2 raws (conv.next t.job t.got).1:=hvs.keep (hk2.mono λk _ e=>by show k<z.heap.size;omega) λk _ hb=>h.fab.low k hb
   have hcl:r'.Client=t.client:=ht'.client
   rw [hcl]
   refine aE (Co h2.fab hok.ok t.client (lcap:=ac) hrd2 hoff hvs2) ?_
   rintro v z3 ⟨rfl,hp⟩
   obtain ⟨B',ξ',X',h3,hX3,_,hk3,hM3,hL3⟩:=h2.op hp
   have hb13:Blk z3 b1 r'.cells TTa:=(hL3 b1 (.inl rfl)).trans hb22
   have hb23:Blk z3 b2 cs TTa:=(hL3 b2 (.inr rfl)).trans hb2z
   have ht3:=ht2.keep (A':=λk=>B' k∨k=b1∨k=b2) hk3 hM3
   refine ⟨_,rfl,cU (λhc2=>?_) (λhc2=>?_)⟩
   ·rw [if_pos hc2,←hX3]
    exact AU h3 hne hb13 hb23 hcs ht3
   ·rw [if_neg (λe=>e hc2)]
    refine sh hb13 hb23 hcs λw' hk'=>?_
    rw [←hX3]
    exact Av h3 ht3 hk'
  ·have ho':(conv.next t.job t.got).2.2=true:=by rw [←ho];exact ht'.over.symm
   rw [if_pos ho']
   refine sh hb22 hb2z hcs λw' hk'=>?_
   exact Av h2 ht2 hk'
set_option maxHeartbeats 2000000 in
theorem AW {A:Nat→Prop} {χ:Nat→Tag} {w:World} {fb:Nat} {X:FabX} (h:aZ A χ w fb X) (hok:Good X.pure) {r:TR} {t:Tk conv} (ht:eP A w r t) (hsh:rJ t) :
  Does 44 [ptr fb,r.val] w (xj A χ w fb (turn X.pure t)):=by
 refine does Tryz.func44 ?_
 rw [ptr,n9]
 rintro b1 w1 hb1 hw1 b2 w2 hb2 hw2
 obtain ⟨hz1,hn1⟩:=aM hb1 hw1
 obtain ⟨hz2,hn2⟩:=aM hb2 hw2
 have hz12:Blk w2 b1 r.cells TTa:=New.blk hn2 hz1
 have hs1:=hz1.lt
 have hs12:=hn1.size
 have hs2:=hz2.lt
 have hs22:=hn2.size
 clear hw1 hw2 hz1
 have hn02:=hn1.new hn2
 have hne:b1≠b2:=by omega
 have hT:TW A χ w fb (λk=>k=b1∨k=b2) w2 A χ X:=TW.start h hn02 λk hk=>by omega
 have ht2:eP (λk=>A k∨k=b1∨k=b2) w2 r t:=ht.keep (Keep.of_new hn02) λk hlt hc=>by
  rcases hc with hc | hc
  ·exact hc
  ·omega
 have hsame:∀ w',Keep (λk=>k=b2) w2 w'→xj A χ w fb (X.pure,t) r.val w':=λw' hk'=>Av hT ht2 hk'
 unfold turn
 have hcl:r.Client=t.client:=ht.client
 refine ⟨_,hz12.cell rfl,?_⟩
 rw [ht.over]
 cases hov:t.over with
 |true=>
  refine jG rfl ?_
  rw [if_pos (.inl rfl)]
  exact sh hz12 hz2 rfl hsame
 |false=>
  refine dB rfl ?_
  refine ⟨_,hz12.cell rfl,?_⟩
  rw [hcl]
  refine aE (x7 hT.fab _) ?_
  rintro v w4 ⟨rfl,rfl⟩
  refine ⟨_,rfl,dM (λha=>?_) (λha=>?_)⟩
  ·rw [if_pos (.inr (.inl ha))]
   exact sh hz12 hz2 rfl hsame
  refine ⟨_,hz12.cell rfl,?_⟩
  rw [hcl]
  refine aE (x8 hT.fab _) ?_
  rintro v w6 ⟨rfl,rfl⟩
  refine ⟨_,rfl,aH (λhw=>?_) (λhw=>?_)⟩
  ·rw [if_pos (.inr (.inr (by omega)))]
   exact sh hz12 hz2 rfl hsame
  rw [if_neg (by rw [ha];simp;omega)]
  refine ⟨_,hz12.cell rfl,?_⟩
  rw [hcl]
  refine aE (Cm hT.fab _) ?_
  rintro v w8 hp
  obtain ⟨B',ξ',X',h3,hX3,hK3,hk3,hM3,hL3⟩:=hT.op hp
  have hb13:Blk w8 b1 r.cells TTa:=(hL3 b1 (.inl rfl)).trans hz12
  have hb23:=(hL3 b2 (.inr rfl)).trans hz2
  have ht3:=ht2.keep (A':=λk=>B' k∨k=b1∨k=b2) hk3 hM3
  have hok3:Good X'.pure:=by rw [hX3];exact hok.take _
  have htl:∀ ds,(X.pure.take t.client).1=some ds→ds.length≤1024:=λds=>zK hok
  have hlen:=hsh hov
  rw [←hX3]
  generalize (X.pure.take t.client).1=od at hK3 htl ⊢
  cases od with
  |none=>
   have hK3:v=.tuple #[.slice none 0 0,.bool false]:=hK3
   subst hK3
   refine ⟨_,_,_,_,rfl,dB rfl ?_⟩
   exact AV h3 hok3 hne hb13 hb23 rfl ht3
  |some ds=>
   obtain ⟨b,raw,rfl,hbb,hds,hnb⟩:=hK3
   refine ⟨_,_,_,_,rfl,jG rfl ?_⟩
   refine ⟨_,_,_,hb13.cell rfl,?_⟩
   rw [ht3.gl]
   refine zL ht3.got (by omega) hbb hds hnb (htl ds rfl) h3.fab.low (by rw [hds.1]) ?_
   intro b3 ap cap z hb3 hgz hcap hnz
   have hb14:=New.blk hnz hb13
   refine ⟨⟨_,hb14.cell rfl⟩,hb14.frozen,?_⟩
   rintro w12 hw12
   have hk12:Keep (λk=>k=b1) z w12:=by rw [hw12];exact aQ _ _ _ _
   have hb15:=hb14.setCell (i:=15) (.slice ap (t.got.length+1) cap)
   rw [←hw12] at hb15
   clear hw12
   have hb15:Blk w12 b1 ({ r with Got:=ap,Got_l:=t.got.length+1,Got_c:=cap }:TR).cells TTa:=hb15
   refine AV ((h3.new hnz).local hk12 λ_ e=>.inl e) hok3 hne hb15 (hk12.blk (New.blk hnz hb23) λe=>hne e.symm) rfl ?_
   have hkz:Keep (λk=>B' k∨k=b1∨k=b2) w8 w12:=(Keep.of_new hnz).trans hk12 λ_ _ e=>.inr (.inl e)
   have ht4:=ht3.keep (A':=λk=>B' k∨k=b1∨k=b2) hkz λ_ _ hb=>hb
   have hgl:(t.got++[ds]).length=t.got.length+1:=by simp
   exact ⟨ht4.kind,ht4.client,ht4.over,ht4.bad,hgz.keep (hk12.mono λ_ _ e=>.inr (.inl e)) λ_ _ hb=>hb,hgl.symm,hcap,ht4.job,ht4.out,by show (t.got++[ds]).length≤201;omega⟩
end Go.Proofs.YtegepanmkjemjaaGreat.C12
