/- A part of the proof. -/
import Derived.Test.YtafopfaomkklpaaGreatp11
set_option linter.unusedVariables false
namespace Go.Proofs.YtafopfaomkklpaaGreat
open Go.Proofs.Tryz
open Go.Eng
def b8s (l:List Int):List Value:=l.map (Value.int .u8)
theorem rd_b {u:World} {a:Option Addr} {l:List Int} (h:Rd u a (b8s l)) {i:Nat} {x:Int} (hx:l[i]?=some x) {z:Int} (hz:z=i) {n:Nat} (hn:n=l.length) {K:Addr→Prop}
  (hk:∀ b o,(∀ y,New u y→y.cell? ⟨b,o,none⟩=some (.int .u8 x))→K ⟨b,o,none⟩):idxS a n z 1 K:=by
 subst hz hn
 have hlt:=cN hx
 have hxx:(b8s l)[i]?=some (.int .u8 x):=by unfold b8s;rw [List.getElem?_map,hx];rfl
 rcases h with he | ⟨b,o,rfl,hc⟩
 ·rw [he] at hxx;cases hxx
 ·refine bI (by omega) (by omega) ?_
  have:=hk b (o+i) λy hy=>(Rd.new hy (.inr ⟨b,o,rfl,hc⟩)).cell hxx
  simpa using this
theorem DL (l:List Int) (i:Nat) (x:Int):(b8s l).set i (.int .u8 x)=b8s (l.set i x):=by simp [b8s,List.map_set]
set_option maxHeartbeats 1000000 in
theorem Cg (w:World) (x:Int):Does 177 [.int .u64 x] w λv w'=>∃ b l,v=.slice (some ⟨b,0,none⟩) 8 8∧Rd w' (some ⟨b,0,none⟩) (b8s l)∧l.length=8∧New w w':=by
 refine does Tryz.func177 ?_
 rw [qN]
 refine ⟨by omega,by omega,by omega,by omega,?_⟩
 rintro b w1 hb hw1
 obtain ⟨hz,hn⟩:=aR hb hw1
 have hz:Blk w1 b (b8s (List.replicate 8 0)) 5:=hz
 clear hw1
 refine aW mix (λm env u=>∃ (i:Nat) (l:List Int) (jj:List Value),m=8 - i∧i≤8∧env=eM x (some ⟨b,0,none⟩) 8 8 i jj∧New w u∧Blk u b (b8s l) 5∧l.length=8) 8
  ⟨0,_,_,by omega,by omega,rfl,hn,hz,rfl⟩ ?_
 rintro m env u ⟨i,l,jj,rfl,hi,rfl,hnu,hbu,hl⟩
 rw [ly]
 refine aD (λhp=>?_) (λhp=>?_)
 ·have e1:0+(i:Int).toNat * 1=i:=by omega
  have hg:(b8s l)[i]?=some (.int .u8 (l.getD i 0)):=by
   unfold b8s
   rw [List.getElem?_map,List.getElem?_eq_getElem (by omega),List.getD_eq_getElem?_getD,List.getElem?_eq_getElem (by omega)]
   rfl
  refine ⟨(lr _).1,bI (by omega) (by omega) ⟨⟨_,by rw [e1];exact hbu.cell hg⟩,by rw [e1];exact hbu.frozen,?_⟩⟩
  rintro u2 hu2
  rw [e1] at hu2
  have hk:Keep (λk=>k=b) u u2:=by rw [hu2];exact aZ _ _ _ _
  generalize (IntKind.u8.wrap (bshr .u64 x (IntKind.u64.wrap (IntKind.i64.wrap (8 * (i:Int))))))=y at hu2
  have hb2:=hbu.setCell (i:=i) (.int .u8 y)
  rw [DL,←hu2] at hb2
  rw [w64 (x:=(i:Int)+1) (by omega) (by omega)]
  exact ⟨8 - (i+1),by omega,i+1,l.set i y,_,rfl,by omega,rfl,hnu.trans hk λk hlt e=>by omega,hb2,by rw [List.length_set];exact hl⟩
 ·rw [nu]
  exact ⟨b,l,rfl,fM hbu (by rw [List.drop_zero];exact List.take_of_length_le (Nat.le_refl _)),hl,hnu⟩
theorem Ch {w:World} {a:Option Addr} {l:List Int} (hr:Rd w a (b8s l)) (hl:l.length=8) (s:Int) (c:Nat):Does 176 [.int .u64 s,.slice a 8 c] w λv w'=>(∃ x,v=.int .u64 x∧U64 x)∧w'=w:=by
 refine does Tryz.func176 ?_
 rw [qM]
 refine aW mix (λm env u=>∃ (i:Nat) (x:Int) (jj:List Value),m=8 - i∧i≤8∧env=eL a 8 c x i jj∧u=w) 8
  ⟨0,_,_,by omega,by omega,rfl,rfl⟩ ?_
 rintro m env u ⟨i,x,jj,rfl,hi,rfl,rfl⟩
 rw [lw]
 refine aD (λhp=>?_) (λhp=>?_)
 ·have hg:l[i]?=some l[i]:=List.getElem?_eq_getElem (by omega)
  refine rd_b hr hg rfl hl.symm λb o hc=>⟨_,hc u (Keep.refl _ _),?_⟩
  refine aW mix (λm env z=>∃ (k:Nat) (y:Int) (jj:List Value),m=8 - k∧k≤8∧env=dV a 8 c y i k jj∧z=u) 8
   ⟨0,_,_,by omega,by omega,rfl,rfl⟩ ?_
  rintro m env z ⟨k,y,jj2,rfl,hk,rfl,rfl⟩
  rw [lx]
  refine aD (λhq=>?_) (λhq=>?_)
  ·rw [w64 (x:=(k:Int)+1) (by omega) (by omega)]
   exact lm (λ_=>⟨8 - (k+1),by omega,k+1,_,_,rfl,by omega,rfl,rfl⟩) (λ_=>⟨8 - (k+1),by omega,k+1,_,_,rfl,by omega,rfl,rfl⟩)
  ·rw [nt,w64 (x:=(i:Int)+1) (by omega) (by omega)]
   exact ⟨8 - (i+1),by omega,i+1,_,_,rfl,by omega,rfl,rfl⟩
 ·rw [nr]
  exact ⟨⟨_,rfl,B0 _ _⟩,rfl⟩
theorem DM {w:World} {a:Option Addr} {l:List Int} (hr:Rd w a (us l)) (hl:l.length≤1000) (c:Nat):Does 147 [.slice a l.length c] w λv w'=>∃ x,v=.int .u64 x∧U64 x∧New w w':=by
 refine does Tryz.func147 ?_
 rw [ri]
 refine aW mix (λm env u=>∃ (i:Nat) (x:Int) (jj:List Value),m=l.length - i∧i≤l.length∧env=eV a l.length c x i jj∧New w u∧U64 x) l.length
  ⟨0,_,_,by omega,by omega,rfl,Keep.refl _ _,u0⟩ ?_
 rintro m env u ⟨i,x,jj,rfl,hi,rfl,hnu,hx⟩
 rw [lT]
 refine aD (λhp=>?_) (λhp=>?_)
 ·have hg:l[i]?=some l[i]:=List.getElem?_eq_getElem (by omega)
  refine rd_w (hr.new hnu) hg rfl rfl λb o hc=>⟨_,hc u (Keep.refl _ _),?_⟩
  refine aC (Cg u l[i]) ?_
  rintro v u1 ⟨b1,bl,rfl,hrb,hbl,hn1⟩
  refine ⟨_,_,_,rfl,?_⟩
  refine aC (Ch hrb hbl x 8) ?_
  rintro v u2 ⟨⟨y,rfl,hy⟩,rfl⟩
  rw [w64 (x:=(i:Int)+1) (by omega) (by omega)]
  exact ⟨_,rfl,l.length - (i+1),by omega,i+1,_,_,rfl,by omega,rfl,hnu.new hn1,hy⟩
 ·rw [oe]
  exact ⟨x,rfl,hx,hnu⟩
structure WL (w0 w:World) (a:Option Addr) (n c:Nat) (l:List Int):Prop where
 own:Owns w TU 1 a n c (us l)
 len:n=l.length
 u64:∀ x ∈ l,U64 x
 fresh:∀ k,isB a k→w0.heap.size≤k
theorem WL.push {w0 u:World} {a:Option Addr} {n c:Nat} {l:List Int} (h:WL w0 u a n c l) (hn:New w0 u) {b:Nat} {m cs:Nat} {l2:List Int} {T:TypeId} (hb:Blk u b (us l2) T) (hm:m=l2.length) (hU:∀ x ∈ l2,U64 x) (hlt:n+m≤1000000) {K:Option Addr→Nat→Nat→World→Prop}
  (hk:∀ ap cap' w3,WL w0 w3 ap (n+m) cap' (l++l2)→New w0 w3→K ap (n+m) cap' w3) :
  ∃ (ap:Option Addr) (ap_len ap_cap:Nat),∃ w3,(Builtin.append_ #[34,34] 34 #[(.slice a n c),(.slice (some ⟨b,0,none⟩) m cs)]).run prog u=.ok (.slice ap ap_len ap_cap) w3∧K ap ap_len ap_cap w3:=by
 refine uE h.own (fM hb (by rw [List.drop_zero];exact List.take_of_length_le (Nat.le_refl _))) hm hlt λap cap' w3 h1 h2 h3=>hk ap cap' w3 ⟨h1,by rw [List.length_append,←h.len,hm],λx hx=>?_,λk hk=>?_⟩ (hn.trans h2 λk hlt e=>by have:=h.fresh k e;omega)
 ·rcases List.mem_append.1 hx with hx | hx
  ·exact h.u64 x hx
  ·exact hU x hx
 ·have:=hn.size
  rcases h3 k hk with e | e
  ·exact h.fresh k e
  ·omega
theorem WL.new {w0 u z:World} {a:Option Addr} {n c:Nat} {l:List Int} (h:WL w0 u a n c l) (hn:New u z):WL w0 z a n c l:=⟨Owns.new hn h.own,h.len,h.u64,h.fresh⟩
set_option maxHeartbeats 1000000 in
theorem EA {w:World} {r:aM} {W:List aG} (h:Aq w r.Writes r.Writes_l W) (hW:W.length≤12) (hD:∀ p ∈ W,PgD p):Does 114 [r.val] w λv w'=>∃ a n c l,v=.slice a n c∧WL w w' a n c l∧l.length≤3+9 * W.length∧New w w':=by
 refine does Tryz.func114 ?_
 rw [rW]
 rintro b1 w1 hb1 hw1
 obtain ⟨hz1,hn1⟩:=aR hb1 hw1
 have hz1:Blk w1 b1 r.cells 210:=hz1
 clear hw1
 refine aM.mk_ex r ⟨aH hz1 rfl,?_⟩
 refine aC (Ar (h.new hn1) 256) ?_
 rintro v w2 ⟨rfl,hn2⟩
 have hn02:=hn1.new hn2
 refine ⟨_,rfl,bQ (λ_=>⟨none,0,0,[],rfl,⟨Owns.nil _ _ _,rfl,by simp,λk hk=>absurd hk noB⟩,by simp,hn02⟩) (λ_=>?_)⟩
 have hz2:=New.blk hn2 hz1
 have hlen:=h.len
 refine ⟨_,hz2.cell (i:=0) rfl,_,_,_,hz2.cell (i:=1) rfl,?_⟩
 rintro b2 w3 hb2 hw3
 obtain ⟨hz3,hn3⟩:=aR hb2 hw3
 have hz3:Blk w3 b2 (us [IntKind.u64.wrap r.Seq,IntKind.u64.wrap r.Writes_l]) TU:=hz3
 clear hw3
 have hn03:=hn02.new hn3
 have s02:=hn02.size
 have wl0:WL w w3 (some ⟨b2,0,none⟩) 2 2 [IntKind.u64.wrap r.Seq,IntKind.u64.wrap r.Writes_l]:=by
  refine ⟨⟨rfl,.inr ⟨b2,_,rfl,hz3,by omega,by simp [maxLen],rfl,rfl⟩⟩,rfl,?_,λk hk=>by rw [lX hk];omega⟩
  intro x hx
  simp at hx
  rcases hx with rfl | rfl<;>exact lr _
 refine aW mix (λm env u=>∃ (i:Nat) (a:Option Addr) (n c:Nat) (l:List Int) (jj:List Value),m=W.length - i∧i≤W.length∧env=fH ⟨b1,0,none⟩ a n c i jj∧New w u∧Blk u b1 r.cells 210∧WL w u a n c l∧l.length=2+9 * i) W.length
  ⟨0,_,_,_,_,_,by omega,by omega,rfl,hn03,New.blk hn3 hz2,wl0,rfl⟩ ?_
 clear wl0 hz3 hz2 hz1
 rintro m env u ⟨i,a,n,c,l,jj,rfl,hi,rfl,hnu,hz,hw,hl⟩
 rw [mA]
 have hnl:=hw.len
 refine ⟨_,_,_,hz.cell (i:=1) rfl,aD (λhp=>?_) (λhp=>?_)⟩
 ·have hlt:i<W.length:=by omega
  have hg:W[i]?=some W[i]:=List.getElem?_eq_getElem hlt
  have hdi:=hD _ (List.getElem_mem hlt)
  have hhi:=h.u64 _ (List.getElem_mem hlt)
  generalize W[i]=p at hg hdi hhi
  rintro u1 hu1
  have hn1':New u u1:=by rw [hu1];exact aT _
  clear hu1
  have hz1:=New.blk hn1' hz
  have hnu1:=hnu.new hn1'
  refine ⟨λy=>New w y∧Blk y b1 r.cells 210,⟨hnu1,hz1⟩,_,_,_,λy hy=>hy.2.cell (i:=1) rfl,?_⟩
  refine iL (cells:=aG.cells) aG.len (by omega) h.rd hg rfl hlen λb' o' hc=>⟨_,λy hy=>hc y hy.1 0 _ rfl,_,_,_,λy hy=>hy.2.cell (i:=1) rfl,?_⟩
  refine iL (cells:=aG.cells) aG.len (by omega) h.rd hg rfl hlen λb' o' hc=>⟨_,λy hy=>hc y hy.1 1 _ rfl,?_⟩
  rintro b3 u2 hb3 hu2
  obtain ⟨hz3,hn3'⟩:=aR hb3 hu2
  have hz3:Blk u2 b3 (us [IntKind.u64.wrap p.Line,p.Head]) TU:=hz3
  clear hu2
  have hz2:=New.blk hn3' hz1
  refine ⟨⟨hnu1.new hn3',hz2⟩,?_⟩
  have hw2:=(hw.new hn1').new hn3'
  have hne:=Owns.noB hw2.own hz2 (by decide)
  refine uE hw2.own (s:=some ⟨b3,0,none⟩) (m:=2) (c:=2) (l2:=[IntKind.u64.wrap p.Line,p.Head]) (fM hz3 (by simp [us])) rfl (by omega) λap cap' u3 q1 q2 q3=>?_
  have hz3':=q2.blk hz2 hne
  have hnu3:New w u3:=(hnu1.new hn3').trans q2 λk hlt e=>by have:=hw.fresh k e;omega
  have su:=hnu1.size
  have su2:=hn3'.size
  have wl3:WL w u3 ap (n+2) cap' (l++[IntKind.u64.wrap p.Line,p.Head]):=⟨q1,by rw [List.length_append,←hnl];rfl,λx hx=>by
   rcases List.mem_append.1 hx with hx | hx
   ·exact hw.u64 x hx
   ·simp at hx
    rcases hx with rfl | rfl
    ·exact lr _
    ·exact hhi,λk hk=>by
   rcases q3 k hk with e | e
   ·exact hw.fresh k e
   ·omega⟩
  refine ⟨⟨hnu3,hz3'⟩,?_⟩
  refine aW mix (λm env z=>∃ (k:Nat) (a:Option Addr) (n c:Nat) (l:List Int) (jj:List Value),m=7 - k∧k≤7∧env=fJ ⟨b1,0,none⟩ a n c i k jj∧New w z∧Blk z b1 r.cells 210∧WL w z a n c l∧l.length=4+9 * i+k) 7
   ⟨0,_,_,_,_,_,by omega,by omega,rfl,hnu3,hz3',wl3,by rw [List.length_append,hl];simp;omega⟩ ?_
  clear wl3 hz3' hnu3 q1 q2 q3 hw2 hz3 hz2 hw hz hl hnl hnu hc
  rintro m env z ⟨k,a,n,c,l,jj2,rfl,hk,rfl,hnz,hzz,hwz,hlz⟩
  have hnl:=hwz.len
  rw [mB]
  refine aD (λhq=>⟨_,_,_,hzz.cell (i:=1) rfl,?_⟩) (λhq=>?_)
  ·obtain ⟨x,hx,hxU⟩:=hdi k (by omega)
   refine gN (cells:=aG.cells) aG.len (by omega) (h.rd.new hnz) hg rfl hlen λb' o' _ hc=>tK (by omega) (by omega) ⟨x,?_,?_⟩
   ·have:=hc (2+k) _ hx
    rw [show o'+2+(k:Int).toNat * 1=o'+(2+k) by omega]
    exact this
   rintro b4 z1 hb4 hz1'
   obtain ⟨hz4,hn4⟩:=aR hb4 hz1'
   have hz4:Blk z1 b4 (us [x]) TU:=hz4
   clear hz1'
   have hw1:=hwz.new hn4
   have hzz1:=New.blk hn4 hzz
   have hne:=Owns.noB hw1.own hzz1 (by decide)
   have szz:=hnz.size
   have sz1:=hn4.size
   refine uE hw1.own (s:=some ⟨b4,0,none⟩) (m:=1) (c:=1) (l2:=[x]) (fM hz4 (by simp [us])) rfl (by omega) λap cap' z2 q1 q2 q3=>?_
   rw [w64 (x:=(k:Int)+1) (by omega) (by omega)]
   refine ⟨7 - (k+1),by omega,k+1,ap,n+1,cap',l++[x],_,rfl,by omega,rfl,(hnz.new hn4).trans q2 λk hlt e=>by have:=hwz.fresh k e;omega,q2.blk hzz1 hne,⟨q1,by rw [List.length_append,←hnl];rfl,λy hy=>?_,λk hk=>?_⟩,by rw [List.length_append,hlz];simp;omega⟩
   ·rcases List.mem_append.1 hy with hy | hy
    ·exact hwz.u64 y hy
    ·rw [List.mem_singleton.1 hy];exact hxU
   ·rcases q3 k hk with e | e
    ·exact hwz.fresh k e
    ·omega
  ·rw [oO,w64 (x:=(i:Int)+1) (by omega) (by omega)]
   exact ⟨W.length - (i+1),by omega,i+1,a,n,c,l,_,rfl,by omega,rfl,hnz,hzz,hwz,by omega⟩
 ·rw [oN]
  subst hnl
  refine aC (DM hw.own.rd (by omega) c) ?_
  rintro v u1 ⟨x,rfl,hx,hn1'⟩
  refine ⟨_,rfl,?_⟩
  rintro b4 u2 hb4 hu2
  obtain ⟨hz4,hn4⟩:=aR hb4 hu2
  have hz4:Blk u2 b4 (us [x]) TU:=hz4
  clear hu2
  refine WL.push ((hw.new hn1').new hn4) ((hnu.new hn1').new hn4) hz4 rfl (by intro y hy;rw [List.mem_singleton.1 hy];exact hx) (by show l.length+1≤1000000;omega) λap cap' w3 q1 q2=>⟨ap,_,cap',_,rfl,q1,by rw [List.length_append,hl];simp;omega,q2⟩
end Go.Proofs.YtafopfaomkklpaaGreat
