/- A part of the proof. -/
import Derived.Test.YtafopfaomkklpaaGreatp29
import Derived.Test.YtafopfaomkklpaaGreatp28
import Derived.Test.YtafopfaomkklpaaGreatProg
import Derived.Test.YtafopfaomkklpaaGreatp03
set_option linter.unusedVariables false
namespace Go.Proofs.YtafopfaomkklpaaGreat
open Go.Proofs.Tryz
open Go.Eng
abbrev TDn:TypeId:=53
theorem wz:∀ (vs cs:List Value) (i n:Nat),(splice cs i vs).take n=splice (cs.take n) i vs
 | [],cs,i,n=>rfl
 |v::vs,cs,i,n=>by
  unfold splice
  rw [wz vs,List.take_set]
theorem Owns.putD {u:World} {g n cap:Nat} {dn:List aY} (h:Owns u TDn 2 (some ⟨g,0,none⟩) n cap (gS dn).flatten) {i:Nat} (hi:i<dn.length) (d:aY) :
  wrAt u ⟨g,i * 2,none⟩ 0 d.cells∧Owns (puts u ⟨g,i * 2,none⟩ 0 d.cells) TDn 2 (some ⟨g,0,none⟩) n cap (gS (dn.set i d)).flatten:=by
 have hl0:=h.1
 have hfl:(gS dn).flatten.length=dn.length * 2:=lh aY.len dn
 rcases h.2 with ⟨he,_⟩ | ⟨g',cur,he,hb,hc,hm,hl,ht⟩
 ·cases he
 ·simp only [Option.some.injEq,Addr.mk.injEq,and_true] at he
  subst he
  have hdl:d.cells.length=2:=aY.len d
  refine ⟨eZ hb (by omega) (aY.single d),?_⟩
  have hp:=hb.puts (o:=i * 2) (i:=0) (vs:=d.cells)
  refine ⟨?_,.inr ⟨g,_,rfl,hp,hc,hm,by rw [length_splice];exact hl,?_⟩⟩
  ·rw [show (gS (dn.set i d)).flatten.length=(dn.set i d).length * 2 from lh aY.len _,List.length_set]
   omega
  ·rw [wz,ht,Nat.add_zero,Bb hi]
theorem Owns.cutD {u:World} {g n cap:Nat} {dn:List aY} (h:Owns u TDn 2 (some ⟨g,0,none⟩) n cap (gS dn).flatten) {m:Nat} (hm:m≤n):Owns u TDn 2 (some ⟨g,0,none⟩) m cap (gS (dn.take m)).flatten:=by
 have hl0:=h.1
 have hfl:(gS dn).flatten.length=dn.length * 2:=lh aY.len dn
 have hft:(gS dn).flatten.take (m * 2)=(gS (dn.take m)).flatten:=vH aY.len dn m
 rcases h.2 with ⟨he,_⟩ | ⟨g',cur,he,hb,hc,hmx,hl,ht⟩
 ·cases he
 ·simp only [Option.some.injEq,Addr.mk.injEq,and_true] at he
  subst he
  refine ⟨?_,.inr ⟨g,cur,rfl,hb,by omega,hmx,hl,?_⟩⟩
  ·rw [show (gS (dn.take m)).flatten.length=(dn.take m).length * 2 from lh aY.len _,List.length_take]
   omega
  ·rw [←hft,←ht,List.take_take,Nat.min_eq_left (by omega)]
theorem HW {u:World} {s:Option Addr} {m c:Nat} {l:List aY} (hs:Rd u s (gS l).flatten) (hm:m=l.length) (hn:m≤100000) {K:Option Addr→Nat→Nat→World→Prop}
  (hk:∀ ap cap' w3,Owns w3 TDn 2 ap m cap' (gS l).flatten→New u w3→(∀ k,isB ap k→u.heap.size≤k)→K ap m cap' w3) :
  ∃ (ap:Option Addr) (ap_len ap_cap:Nat),∃ w3,(Builtin.append_ #[46,46] 46 #[(.slice none 0 0),(.slice s m c)]).run prog u=.ok (.slice ap ap_len ap_cap) w3∧K ap ap_len ap_cap w3:=by
 obtain ⟨inf,hi,hz,hsz,hby⟩:=p7 (T:=TDn) (z:=.agg #[.int .i64 0,.slice none 0 0]) (n:=2) (m:=32) (by kernel_rfl)
 refine pH (cells:=aY.cells) aY.len aY.single Tryz.underlying46 hi hz (by rw [hsz];rfl) hsz (by omega) (by omega) (l:=[]) (Owns.nil u TDn 2) hs hm (by omega) λap cap' w3 h1 h2 h3=>?_
 rw [Nat.zero_add] at h1 ⊢
 exact hk ap cap' w3 h1 (h2.mono λk _ h=>noB h) λk hb=>(h3 k hb).resolve_left noB
def DnB (B:Nat) (w:World) (Av:Nat→Prop) (d:aY):Prop:=(∃ xs:List Int,Rd w d.Words (us xs)∧d.Wl=xs.length∧(∀ x ∈ xs,U64 x)∧xs.length≤B)∧(∀ k,isB d.Words k→¬ Av k)∧∀ k,isB d.Words k→k<w.heap.size
theorem DnAt.b {w:World} {Av:Nat→Prop} {d:aY} (h:DnAt w Av d):DnB 100000 w Av d:=h
theorem DnB.keep {B:Nat} {u z:World} {Av M:Nat→Prop} {d:aY} (h:DnB B u Av d) (hk:Keep M u z) (hM:∀ k,k<u.heap.size→M k→Av k):DnB B z Av d:=by
 obtain ⟨⟨xs,h1,h2,h3⟩,h4,h5⟩:=h
 exact ⟨⟨xs,ko hk h1 λk hlt hb hm=>h4 k hb (hM k hlt hm),h2,h3⟩,h4,λk hb=>Nat.lt_of_lt_of_le (h5 k hb) hk.size⟩
theorem DnB.to {B B':Nat} {u:World} {Av Av':Nat→Prop} {d:aY} (h:DnB B u Av d) (hB:B≤B') (ha:∀ k,k<u.heap.size→Av' k→Av k):DnB B' u Av' d:=by
 obtain ⟨⟨xs,h1,h2,h3,h6⟩,h4,h5⟩:=h
 exact ⟨⟨xs,h1,h2,h3,by omega⟩,λk hb hA=>h4 k hb (ha k (h5 k hb) hA),h5⟩
theorem DnB.nil {B:Nat} {u:World} {Av:Nat→Prop} (c:Int) (cap:Nat):DnB B u Av ⟨c,none,0,cap⟩:=⟨⟨[],.inl rfl,rfl,by simp,by simp⟩,λk hk=>absurd hk noB,λk hk=>absurd hk noB⟩
def DnsB (B:Nat) (w:World) (Av:Nat→Prop) (dn:List aY):Prop:=∀ d ∈ dn,DnB B w Av d
theorem DnsB.ds {B:Nat} {u:World} {Av:Nat→Prop}:∀ {raw:List aY},DnsB B u Av raw→∃ ds,Ds u raw ds
 | [],_=>⟨[],rfl,λi v x h=>by simp at h⟩
 |d::raw,h=>by
  obtain ⟨ds,h1,h2⟩:=DnsB.ds (raw:=raw) λd' hd=>h d' (List.mem_cons_of_mem _ hd)
  obtain ⟨⟨xs,g1,g2,g3,_⟩,_⟩:=h d (List.mem_cons_self ..)
  refine ⟨⟨d.Code,xs⟩::ds,by simp [h1],λi v y hv hy=>?_⟩
  cases i with
  |zero=>
   simp at hv hy
   subst hv hy
   exact ⟨rfl,g2,g1,g3⟩
  |succ i=>exact h2 i v y (by simpa using hv) (by simpa using hy)
abbrev AlR:=aZ
structure AlOk (a:AlR):Prop where
 batch:I64 a.Batch
 verb:I64 a.Verb
 kind:I64 a.Kind
 w:U64 a.W
def zp (l:List AlR):List (List Value):=l.map aZ.cells
abbrev TAl:TypeId:=101
noncomputable abbrev fAl:Func:=f12
structure AlS (w z:World) (oa:Option Addr) (m cap:Nat) (dn:List aY) (B:Nat):Prop where
 new:New w z
 own:Owns z TDn 2 oa m cap (gS dn).flatten
 len:dn.length=m
 few:m≤8
 fresh:∀ k,isB oa k→w.heap.size≤k
 ok:DnsB B z (isB oa) dn
theorem AlS.next {w z z':World} {oa:Option Addr} {m cap:Nat} {dn:List aY} {B:Nat} (h:AlS w z oa m cap dn B) (hn:New z z'):AlS w z' oa m cap dn B:=
 ⟨h.new.new hn,Owns.new hn h.own,h.len,h.few,h.fresh,λd hd=>(h.ok d hd).keep hn λ_ _ e=>e.elim⟩
theorem AlS.to {w z:World} {oa:Option Addr} {m cap:Nat} {dn:List aY} {B B':Nat} (h:AlS w z oa m cap dn B) (hB:B≤B'):AlS w z oa m cap dn B':=
 ⟨h.new,h.own,h.len,h.few,h.fresh,λd hd=>(h.ok d hd).to hB λ_ _ e=>e⟩
theorem al7 {w z:World} {R:Value→World→Prop} {Q:Exit→List Value→World→Prop} (hQ:∀ env w',Q .ret env w'=retQ prog fAl R .ret env w') {p1:Int} {a2:Option Addr} {n2 c2 i:Nat} {oa:Option Addr} {m cap:Nat} {dn:List aY} {B:Nat} (h:AlS w z oa m cap dn B) {xb:Nat} {d:aY} (hx:Blk z xb d.cells TDn) (hd:DnB B z (isB oa) d) {k:Nat} (hk:k<m) (jj:List Value)
  (hN:∀ z' dn' jj,AlS w z' oa m cap dn' B→Q .normal (bH p1 a2 n2 c2 oa m cap i jj) z') :
  W prog (sub (aA fAl) [1,1,0,1,0,0,1,0,0,1,1,1,1,1]) (bW p1 a2 n2 c2 oa m cap i k ⟨xb,0,none⟩ jj) Q z:=by
 refine dP (P:=prog) (fn:=fAl) (R:=R) hQ ?_
 rw [ow]
 obtain ⟨g,cur,rfl,_⟩:=rq h.own (by omega)
 obtain ⟨hw,ho⟩:=Owns.putD h.own (i:=k) (by rw [h.len];exact hk) d
 have e0:0+(k:Int).toNat * 2=k * 2:=by omega
 refine aY.mk_ex d ⟨aK hx rfl,bG (by omega) (by omega) ⟨by rw [e0];exact hw,?_⟩⟩
 rintro z1 hz1
 rw [e0] at hz1
 have hk1:Keep (λb=>b=g) z z1:=by rw [hz1];exact dU _ _ _ _ _
 rw [←hz1] at ho
 have hM:∀ b,b<z.heap.size→b=g→isB (some ⟨g,0,none⟩) b:=λb _ e=>⟨0,by rw [e]⟩
 refine hN z1 (dn.set k d) _ ⟨h.new.trans hk1 λb hlt e=>?_,ho,by rw [List.length_set];exact h.len,h.few,h.fresh,λd' hd'=>?_⟩
 ·have:=h.fresh g ⟨0,rfl⟩
  omega
 ·rcases List.mem_or_eq_of_mem_set hd' with e | rfl
  ·exact (h.ok d' e).keep hk1 hM
  ·exact hd.keep hk1 hM
set_option maxHeartbeats 1000000 in
theorem al6 {w z:World} {R:Value→World→Prop} {Q:Exit→List Value→World→Prop} (hQ:∀ env w',Q .ret env w'=retQ prog fAl R .ret env w') {p1:Int} {a2:Option Addr} {n2 c2 i:Nat} {oa:Option Addr} {m cap:Nat} {dn:List aY} {B:Nat} (h:AlS w z oa m cap dn B) {ab:Nat} {a:AlR} (ha:Blk z ab a.cells TAl) (haok:AlOk a)
  {xb:Nat} {cd:Int} {wa:Option Addr} {wl wc:Nat} {xs:List Int} (hx:Blk z xb (aY.cells ⟨cd,wa,wl,wc⟩) TDn) (hxo:¬ isB oa xb) (hwo:Owns z TU 1 wa wl wc (us xs)) (hdis:∀ k,isB oa k→¬ isB wa k) (hwl:wl=xs.length) (hU:∀ x ∈ xs,U64 x) (hB:xs.length≤B) (hB2:B≤500000) (hfx:w.heap.size≤xb) (hfw:∀ k,isB wa k→w.heap.size≤k) (hoff:DnsB B z (λk=>isB oa k∨isB wa k∨k=xb) dn) {k:Nat} (hk:k<m) (jj:List Value)
  (hN:∀ z' oa' m' cap' dn' jj,AlS w z' oa' m' cap' dn' (B+1)→Q .normal (bH p1 a2 n2 c2 oa' m' cap' i jj) z')
  (hE:∀ z' oa' m' cap' dn' jj,AlS w z' oa' m' cap' dn' (B+1)→Q (.exit 1) (bH p1 a2 n2 c2 oa' m' cap' i jj) z') :
  W prog (sub (aA fAl) [1,1,0,1,0,0,1,0,0,1,1,1,1]) (em p1 a2 n2 c2 oa m cap i ⟨ab,0,none⟩ k ⟨xb,0,none⟩ jj) Q z:=by
 rw [lY]
 refine dP (P:=prog) (fn:=fAl) (R:=R) (λenv w'=>hQ env w') ?_
 rw [ou]
 refine ⟨_,ha.cell (i:=2) rfl,?_⟩
 refine aG (eW z a.Kind 8 haok.kind (by omega)) ?_
 rintro v z0 ⟨rfl,rfl⟩
 refine ⟨_,rfl,?_⟩
 have hfew:=h.few
 have wwb:∀ k,isB wa k→k≠xb:=λk hk e=>Owns.noB hwo hx (by decide) (by rw [←e];exact hk)
 have out:∀ z2 d2,Keep (λk=>isB wa k∨k=xb) z0 z2→Blk z2 xb (aY.cells d2) TDn→DnB (B+1) z2 (isB oa) d2→∀ jj,W prog (sub (aA fAl) [1,1,0,1,0,0,1,0,0,1,1,1,1,1]) (bW p1 a2 n2 c2 oa m cap i k ⟨xb,0,none⟩ jj) Q z2:=by
  intro z2 d2 hk2 hb2 hd2 jj
  refine al7 hQ ⟨h.new.trans hk2 λk hlt e=>?_,Owns.keep hk2 h.own λk ho e=>?_,h.len,h.few,h.fresh,λd hd=>?_⟩ hb2 hd2 hk jj λz' dn' jj h'=>hN _ _ _ _ _ jj h'
  ·rcases e with e | e
   ·have:=hfw k e;omega
   ·omega
  ·rcases e with e | e
   ·exact hdis k ho e
   ·exact hxo (e▸ho)
  ·exact ((hoff d hd).keep hk2 λk _ e=>.inr e).to (by omega) λk _ e=>.inl e
 have kx:∀ {z2:World},Keep (λk=>k=xb) z0 z2→Keep (λk=>isB wa k∨k=xb) z0 z2:=λhk2=>hk2.mono λk _ e=>.inr e
 have old:∀ {z2:World} (c:Int),Keep (λk=>k=xb) z0 z2→DnB (B+1) z2 (isB oa) ⟨c,wa,wl,wc⟩:=λc hk2=>by
  have ho2:=Owns.keep hk2 hwo wwb
  exact ⟨⟨xs,ho2.rd,hwl,hU,by omega⟩,λk hb ho=>hdis k ho hb,λk hb=>Owns.lt ho2 hb⟩
 refine bC (λ_=>?_) (λ_=>bC (λ_=>?_) (λ_=>bC (λ_=>?_) (λ_=>bC (λ_=>?_) (λ_=>bC (λ_=>?_) (λ_=>?_)))))
 ·exact qL hx (vs:=aY.cells ⟨4,none,0,0⟩) rfl (aY.single _) λz2 hb2 hk2=>bY (out z2 ⟨4,none,0,0⟩ (kx hk2) hb2 (DnB.nil _ _) _)
 ·exact qL hx (vs:=aY.cells ⟨5,none,0,0⟩) rfl (aY.single _) λz2 hb2 hk2=>bY (out z2 ⟨5,none,0,0⟩ (kx hk2) hb2 (DnB.nil _ _) _)
 ·refine ⟨wa,wl,wc,hx.cell (i:=1) rfl,a.W,ha.cell (i:=3) rfl,?_⟩
  rintro b1 w4 hb1 hw4
  obtain ⟨hz4,hn4⟩:=aR hb1 hw4
  have hz4:Blk w4 b1 (us [a.W]) TU:=hz4
  clear hw4
  have hxl:=hx.lt
  have hs4:=hn4.size
  refine wO (m:=1) (l2:=[a.W]) (Owns.new hn4 hwo) (eV hz4 rfl) rfl (by omega) λap cap' w5 ho5 hk5 hap=>?_
  have hx5:=hk5.blk (New.blk hn4 hx) λe=>wwb _ e rfl
  refine ⟨⟨_,hx5.cell (i:=1) rfl⟩,hx5.frozen,?_⟩
  rintro w6 hw6
  have hk6:Keep (λk=>k=xb) w5 w6:=by rw [hw6];exact aN _ _ _ _
  have hz6:=hx5.setCell (i:=1) (.slice ap (wl+1) cap')
  have hw6':w6=w5.setCell ⟨xb,1,none⟩ (.slice ap (wl+1) cap'):=by rw [hw6]
  rw [←hw6'] at hz6
  clear hw6 hw6'
  have hz6:Blk w6 xb (aY.cells ⟨cd,ap,wl+1,cap'⟩) TDn:=hz6
  have ho6:=Owns.keep hk6 ho5 λk hb e=>Owns.noB ho5 hx5 (by decide) (by rw [←e];exact hb)
  refine bY (out w6 ⟨cd,ap,wl+1,cap'⟩ (((Keep.of_new hn4).trans (hk5.mono λk _ e=>.inl e) λ_ _ e=>e).trans (hk6.mono λk _ e=>.inr e) λ_ _ e=>e) hz6 ⟨⟨xs++[a.W],ho6.rd,by simp;omega,λx hx=>?_,by simp;omega⟩,λk hb ho=>?_,λk hb=>Owns.lt ho6 hb⟩ _)
  ·rcases List.mem_append.1 hx with hx | hx
   ·exact hU x hx
   ·rw [List.mem_singleton.1 hx];exact haok.w
  ·rcases hap k hb with e | e
   ·exact hdis k ho e
   ·have:=Owns.lt h.own ho
    omega
 ·rw [w64 (x:=(m:Int) - 1) (by omega) (by omega)]
  obtain ⟨g,cur,rfl,_⟩:=rq h.own (by omega)
  have hle:=Owns.le h.own
  have e1:((m:Int) - 1).toNat - (0:Int).toNat=m - 1:=by omega
  have e2:(cap:Int).toNat - (0:Int).toNat=cap:=by omega
  refine Fk (by omega) (by omega) (by omega) (by omega) hle λxa hxa=>?_
  rw [e1,e2]
  have hxa:xa=some ⟨g,0,none⟩:=by
   rcases hxa with e | ⟨_,e⟩
   ·rw [e];rfl
   ·exact e
  subst hxa
  refine vE (hE _ _ _ _ (dn.take (m - 1)) _ ⟨h.new,Owns.cutD h.own (by omega),by rw [List.length_take,h.len];omega,by have:=h.few;omega,h.fresh,λd hd=>(h.ok d (List.mem_of_mem_take hd)).to (by omega) λ_ _ e=>e⟩)
 ·refine ⟨⟨_,hx.cell (i:=0) rfl⟩,hx.frozen,?_⟩
  rintro w7 hw7
  have hk7:Keep (λk=>k=xb) z0 w7:=by rw [hw7];exact aN _ _ _ _
  have hz7:=hx.setCell (i:=0) (.int .i64 12)
  rw [←hw7] at hz7
  have hz7:Blk w7 xb (aY.cells ⟨12,wa,wl,wc⟩) TDn:=hz7
  exact bY (out w7 ⟨12,wa,wl,wc⟩ (kx hk7) hz7 (old 12 hk7) _)
 ·refine ⟨wa,wl,wc,hx.cell (i:=1) rfl,aE (λhpos=>?_) (λ_=>bY (out z0 ⟨cd,wa,wl,wc⟩ (Keep.refl _ _) hx (old cd (Keep.refl _ _)) _))⟩
  rintro w8 hw8
  have hn8:New z0 w8:=by rw [hw8];exact aW _
  clear hw8
  have hx8:=New.blk hn8 hx
  have ha8:=New.blk hn8 ha
  refine ⟨λy=>New w8 y,Keep.refl _ _,wa,wl,wc,λy hy=>(New.blk hy hx8).cell (i:=1) rfl,a.W,λy hy=>(New.blk hy ha8).cell (i:=3) rfl,wa,wl,wc,λy hy=>(New.blk hy hx8).cell (i:=1) rfl,a.W,λy hy=>(New.blk hy ha8).cell (i:=3) rfl,?_⟩
  refine aG (eW w8 _ wl (lg _) (by omega)) ?_
  rintro v w9 ⟨rfl,hw9⟩
  have hn9:New z0 w9:=by rw [hw9];exact hn8
  have hn89:New w8 w9:=by rw [hw9];exact Keep.refl _ _
  clear hw9
  have hpi:=oK (x:=IntKind.i64.wrap (Int.tmod a.W 4096)) (n:=wl) (by omega)
  refine ⟨_,rfl,hn89,?_⟩
  generalize (if (wl:Int)<1 then 0 else IntKind.i64.wrap (Int.tmod a.W 4096) % wl)=rr at hpi ⊢
  obtain ⟨r,rfl⟩:=Int.eq_ofNat_of_zero_le hpi.1
  obtain ⟨g2,cur2,rfl,_⟩:=rq hwo (by omega)
  have ho9:=Owns.new hn9 hwo
  have hlen9:(us xs).length=xs.length:=by simp [us]
  have e1:0+(r:Int).toNat * 1=r:=by omega
  refine bG (by omega) (by omega) ?_
  rw [e1]
  refine ⟨⟨_,Owns.cell ho9 (v:=(us xs)[r]'(by omega)) (List.getElem?_eq_getElem (by omega))⟩,Owns.frozen ho9,?_⟩
  rintro w10 hw10
  have hk10:Keep (λk=>k=g2) w9 w10:=by rw [hw10];exact aN _ _ _ _
  have ho10:=Owns.setCell ho9 (i:=r) (by omega) (.int .u64 a.W)
  rw [←hw10] at ho10
  have e2:(us xs).set r (.int .u64 a.W)=us (xs.set r a.W):=by simp [us]
  rw [e2] at ho10
  have hx10:=hk10.blk (New.blk hn9 hx) λe=>wwb g2 ⟨0,rfl⟩ e.symm
  refine bY (out w10 ⟨cd,some ⟨g2,0,none⟩,wl,wc⟩ ((Keep.of_new hn9).trans (hk10.mono λk _ e=>.inl ⟨0,by rw [e]⟩) λ_ _ e=>e) hx10 ⟨⟨xs.set r a.W,ho10.rd,by rw [List.length_set];exact hwl,λx hx=>?_,by rw [List.length_set];omega⟩,λk hb ho=>hdis k ho hb,λk hb=>Owns.lt ho10 hb⟩ _)
  rcases List.mem_or_eq_of_mem_set hx with e | rfl
  ·exact hU x e
  ·exact haok.w
set_option maxHeartbeats 1000000 in
theorem al5 {w z:World} {R:Value→World→Prop} {Q:Exit→List Value→World→Prop} (hQ:∀ env w',Q .ret env w'=retQ prog fAl R .ret env w') {p1:Int} {a2:Option Addr} {n2 c2 i:Nat} {oa:Option Addr} {m cap:Nat} {dn:List aY} {B:Nat} (h:AlS w z oa m cap dn B) {ab:Nat} {a:AlR} (ha:Blk z ab a.cells TAl) (haok:AlOk a) (hm:0<m) (hB2:B≤500000) (jj:List Value)
  (hN:∀ z' oa' m' cap' dn' jj,AlS w z' oa' m' cap' dn' (B+1)→Q .normal (bH p1 a2 n2 c2 oa' m' cap' i jj) z')
  (hE:∀ z' oa' m' cap' dn' jj,AlS w z' oa' m' cap' dn' (B+1)→Q (.exit 1) (bH p1 a2 n2 c2 oa' m' cap' i jj) z') :
  W prog (sub (aA fAl) [1,1,0,1,0,0,1,0,0,1,1]) (iu p1 a2 n2 c2 oa m cap i ⟨ab,0,none⟩ jj) Q z:=by
 refine dP (P:=prog) (fn:=fAl) (R:=R) hQ ?_
 rw [ot]
 have hfew:=h.few
 refine ⟨_,ha.cell (i:=1) rfl,?_⟩
 refine aG (eW z a.Verb m haok.verb (by omega)) ?_
 rintro v z1 ⟨rfl,rfl⟩
 have hpi:=oK (x:=a.Verb) (n:=m) (by omega)
 refine ⟨_,rfl,?_⟩
 generalize (if (m:Int)<1 then 0 else a.Verb % m)=kk at hpi ⊢
 obtain ⟨k,rfl⟩:=Int.eq_ofNat_of_zero_le hpi.1
 have hkm:k<m:=by omega
 rintro z2 hz2
 have hn2:New z1 z2:=by rw [hz2];exact aW _
 clear hz2
 have hdl:=h.len
 have hg:dn[k]?=some dn[k]:=List.getElem?_eq_getElem (by omega)
 have hdm:dn[k] ∈ dn:=List.getElem_mem (by omega)
 generalize dn[k]=d at hg hdm
 obtain ⟨⟨xs,q1,q2,q3,q4⟩,q5,q6⟩:=h.ok d hdm
 have e0:0+(k:Int).toNat * 2=k * 2:=by omega
 have h2:=h.next hn2
 have hz2s:=hn2.size
 obtain ⟨g,cur,hoa,_⟩:=rq h.own hm
 have hrow:∀ (y:World),New z2 y→∀ (j:Nat) (v:Value),d.cells[j]?=some v→y.cell? ⟨g,k * 2+j,none⟩=some v:=λy hy j v hv=>by
  have ho:=Owns.new hy h2.own
  rw [hoa] at ho
  exact Owns.row aY.len ho hg hv
 rw [hoa]
 refine ⟨λy=>New z2 y,Keep.refl _ _,bG (by omega) (by omega) ?_⟩
 rw [e0]
 refine ⟨d.Code,λy hy=>hrow y hy 0 _ rfl,bG (by omega) (by omega) ?_⟩
 rw [e0]
 refine ⟨d.Words,d.Wl,d.Wc,λy hy=>hrow y hy 1 _ rfl,?_⟩
 rw [←hoa]
 have hr2:=q1.new hn2
 have hlto:∀ k,isB oa k→k<z1.heap.size:=λk hk=>Owns.lt h.own hk
 have fin:∀ (z5:World) (xb:Nat) (wa:Option Addr) (wc:Nat) (jj:List Value),New z2 z5→z2.heap.size≤xb→Blk z5 xb (aY.cells ⟨d.Code,wa,d.Wl,wc⟩) TDn→Owns z5 TU 1 wa d.Wl wc (us xs)→(∀ k,isB wa k→z2.heap.size≤k)→
   W prog (sub (aA fAl) [1,1,0,1,0,0,1,0,0,1,1,1,1]) (em p1 a2 n2 c2 oa m cap i ⟨ab,0,none⟩ k ⟨xb,0,none⟩ jj) (Qr prog fAl R Q) z5:=by
  intro z5 xb wa wc jj hn5 hxb hx5 ho5 hwa
  have hn25:=hn2.new hn5
  have hsw:=h.new.size
  refine al6 (R:=R) (Q:=Qr prog fAl R Q) (λ_ _=>rfl) (h2.next hn5) (New.blk hn25 ha) haok hx5 (λe=>by have:=hlto _ e;omega) ho5 (λk e e'=>by have:=hlto _ e;have:=hwa _ e';omega) q2 q3 q4 hB2 (by omega) (λk e=>by have:=hwa k e;omega) (λd' hd'=>?_) hkm jj (λz' oa' m' cap' dn' jj h'=>Qr_n (hN z' oa' m' cap' dn' jj h')) (λz' oa' m' cap' dn' jj h'=>Qr_x (hE z' oa' m' cap' dn' jj h'))
  refine ((h.ok d' hd').to (Nat.le_refl _) (Av':=λk=>isB oa k∨isB wa k∨k=xb) λk hlt e=>?_).keep hn25 λ_ _ e=>e.elim
  rcases e with e | e | e
  ·exact e
  ·have:=hwa k e;omega
  ·omega
 refine ⟨?_,?_⟩
 ·refine yz (l:=xs) hr2 q2 (by omega) λap cap' w3 ho3 hn3 hap=>⟨hn3,?_⟩
  rintro b1 w4 hb1 hw4
  obtain ⟨hz4,hn4⟩:=aR hb1 hw4
  have hz4:Blk w4 b1 (aY.cells ⟨0,none,0,0⟩) TDn:=hz4
  have hs3:=hn3.size
  refine ⟨hn3.new hn4,qL hz4 (vs:=aY.cells ⟨d.Code,ap,d.Wl,cap'⟩) rfl (aY.single _) λw5 hz5 hk5=>?_⟩
  have hn35:=hn4.trans hk5 λk hlt e=>by omega
  exact fin w5 b1 ap cap' _ (hn3.new hn35) (by omega) hz5 (Owns.new hn35 ho3) hap
 ·rintro b2 w6 hb2 hw6
  obtain ⟨hz6,hn6⟩:=aR hb2 hw6
  have hz6:Blk w6 b2 (aY.cells ⟨0,none,0,0⟩) TDn:=hz6
  have hs6:=hn6.size
  have hl6:=hz6.lt
  refine ⟨hn6,yz (l:=xs) (hr2.new hn6) q2 (by omega) λap cap' w7 ho7 hn7 hap=>⟨hn6.new hn7,qL (New.blk hn7 hz6) (vs:=aY.cells ⟨d.Code,ap,d.Wl,cap'⟩) rfl (aY.single _) λw8 hz8 hk8=>?_⟩⟩
  have hn28:=(hn6.new hn7).trans hk8 λk hlt e=>by omega
  exact fin w8 b2 ap cap' _ hn28 (by omega) hz8 (Owns.keep hk8 ho7 λk hk e=>by have:=hap k hk;omega) λk hk=>by have:=hap k hk;omega
theorem al1 {w z:World} {R:Value→World→Prop} {Q:Exit→List Value→World→Prop} (hQ:∀ env w',Q .ret env w'=retQ prog fAl R .ret env w') {p1:Int} {a2:Option Addr} {n2 c2 i:Nat} {oa:Option Addr} {m cap:Nat} {dn:List aY} {B:Nat} (h:AlS w z oa m cap dn B) {ab:Nat} {a:AlR} (ha:Blk z ab a.cells TAl) (haok:AlOk a) (hB2:B≤500000) (jj:List Value)
  (hN:∀ z' oa' m' cap' dn' jj,AlS w z' oa' m' cap' dn' (B+1)→Q .normal (bH p1 a2 n2 c2 oa' m' cap' i jj) z')
  (hE:∀ z' oa' m' cap' dn' jj,AlS w z' oa' m' cap' dn' (B+1)→Q (.exit 1) (bH p1 a2 n2 c2 oa' m' cap' i jj) z') :
  W prog (sub (aA fAl) [1,1,0,1,0,0,1,0,0,1]) (ir p1 a2 n2 c2 oa m cap i ⟨ab,0,none⟩ jj) Q z:=by
 rw [lX,lJ]
 refine dP (P:=prog) (fn:=fAl) (R:=R) (λenv w'=>hQ env w') ?_
 rw [oh]
 refine ⟨_,ha.cell (i:=0) rfl,?_⟩
 refine aG (eW z a.Batch 20 haok.batch (by omega)) ?_
 rintro v z1 ⟨rfl,rfl⟩
 refine ⟨_,rfl,?_⟩
 have go:∀ b:Bool,(b=false→0<m)→∀ jj,W prog (sub (aA fAl) [1,1,0,1,0,0,1,0,0,1,0,1]) (fH p1 a2 n2 c2 oa m cap i ⟨ab,0,none⟩ b jj) (seqQ (λenv w=>W prog (sub (aA fAl) [1,1,0,1,0,0,1,0,0,1,1]) env Q w) Q) z1:=by
  intro b hb jj
  refine dP (P:=prog) (fn:=fAl) (R:=R) (λenv w'=>hQ env w') ?_
  rw [om]
  exact iL (λ_=>vE (hE _ _ _ _ _ _ (h.to (by omega)))) (λe=>bY (al5 hQ h ha haok (hb e) hB2 _ hN hE))
 exact bE (λ_=>bY (go true (λe=>(nomatch e)) _)) (λ_=>bY (go _ (λe=>by
  have e2:¬ (m:Int)=0:=by simpa using e
  omega) _))
def qF (w:World) (x:Value) (w':World):Prop:=∃ (oa:Option Addr) (cap:Nat) (dn:List aY),x=.slice oa dn.length cap∧dn.length≤8∧Rd w' oa (gS dn).flatten∧DnsB 200000 w' (λ_=>False) dn∧New w w'
set_option maxHeartbeats 1000000 in
theorem DX {w:World} {a:Option Addr} {n c:Nat} {dn:List aY} (hn:n=dn.length) (h8:n≤8) (hr:Rd w a (gS dn).flatten) (hd:DnsB 100000 w (λ_=>False) dn) {a2:Option Addr} {n2 c2:Nat} {l:List AlR} (hn2:n2=l.length) (hl:Rd w a2 (zp l).flatten) (hok:∀ x ∈ l,AlOk x) (hfew:n2≤6) (p1:Int) :
  Does 12 [.slice a n c,.int .i64 p1,.slice a2 n2 c2] w (qF w):=by
 refine does Tryz.func12 ?_
 rw [rQ]
 refine HW hr hn (by omega) λoa cap w1 ho1 hn1 hoa=>?_
 refine aS mix (λq env z=>∃ (i:Nat) (oa:Option Addr) (m cap:Nat) (dn':List aY) (jj:List Value),q=l.length - i∧i≤l.length∧env=ek p1 a2 n2 c2 oa m cap i jj∧AlS w z oa m cap dn' (100000+i)) l.length
  ⟨0,oa,n,cap,dn,_,by omega,by omega,rfl,⟨hn1,ho1,hn.symm,h8,hoa,λd hd'=>?_⟩⟩ ?_
 ·refine ((hd d hd').to (Nat.le_refl _) (Av':=isB oa) λk hlt e=>?_).keep hn1 λ_ _ e=>e.elim
  have:=hoa k e
  omega
 rintro q env z ⟨i,oa,m,cap,dn',jj,rfl,hi,rfl,hst⟩
 refine dP (P:=prog) (fn:=fAl) (R:=qF w) (λ_ _=>rfl) ?_
 rw [lW]
 refine aE (λhq=>?_) (λhq=>?_)
 ·have hg:l[i]?=some l[i]:=List.getElem?_eq_getElem (by omega)
  have hrm:=hok _ (List.getElem_mem (l:=l) (n:=i) (by omega))
  generalize l[i]=x at hg hrm
  have nxt:∀ (z':World) (oa':Option Addr) (m' cap':Nat) (dn2:List aY) (jj:List Value),AlS w z' oa' m' cap' dn2 (100000+i+1)→W prog (sub (aA fAl) [1,1,0,1,0,0,1,1]) (bH p1 a2 n2 c2 oa' m' cap' i jj) (Qr prog fAl (qF w) (seqQ (λenv w2=>∃ m,m<l.length - i∧∃ (i:Nat) (oa:Option Addr) (m_1 cap:Nat) (dn':List aY) (jj:List Value),m=l.length - i∧i≤l.length∧env=ek p1 a2 n2 c2 oa m_1 cap i jj∧AlS w w2 oa m_1 cap dn' (100000+i)) (aI 0 (seqQ (λenv w2=>W prog (sub (aA fAl) [1,1,1]) env (retQ prog fAl (qF w)) w2) (retQ prog fAl (qF w)))))) z':=by
   intro z' oa' m' cap' dn2 jj h'
   rw [oq,w64 (x:=(i:Int)+1) (by omega) (by omega)]
   exact bY ⟨l.length - (i+1),by omega,i+1,oa',m',cap',dn2,_,rfl,by omega,rfl,h'⟩
  refine fY (cells:=aZ.cells) aZ.len (by omega) (hl.new hst.new) hg rfl hn2 λb o hcc _=>aZ.mk_ex x ⟨hcc,?_⟩
  refine kE (vs:=aZ.cells x) rfl (aZ.single _) λb1 w2 hb1 hz2 hn2'=>?_
  refine al1 (R:=qF w) ?_ (hst.next hn2') hz2 hrm (by omega) _ ?_ ?_
  ·exact λ_ _=>rfl
  ·exact λz' oa' m' cap' dn2 jj h'=>xx (bY (nxt z' oa' m' cap' dn2 jj h'))
  ·exact λz' oa' m' cap' dn2 jj h'=>tp (bY (nxt z' oa' m' cap' dn2 jj h'))
 ·refine vE (tp (bY ?_))
  refine dP (P:=prog) (fn:=fAl) (R:=qF w) (λ_ _=>rfl) ?_
  rw [ol]
  have hml:=hst.len
  subst hml
  exact ⟨oa,cap,dn',rfl,hst.few,hst.own.rd,λd hd=>(hst.ok d hd).to (by omega) λ_ _ e=>e.elim,hst.new⟩
end Go.Proofs.YtafopfaomkklpaaGreat
namespace Go.Proofs.YtafopfaomkklpaaGreat
open Go.Proofs.Tryz
open Go.Eng IntKind
variable (w:World) (R:Value→World→Prop)
def dI (s0 s1:Int) (s2:Option Addr) (a b:Nat) (s3:Option Addr) (c d:Nat) (s4 f:Bool) (j:LV):LV:=[(.int .i64 s0),(.int .i64 s1),(.slice s2 a b),(.slice s3 c d),(.bool s4),jg j 0,jg j 1,jg j 2,jg j 3,jg j 4,jg j 5,jg j 6,jg j 7,jg j 8,jg j 9,jg j 10,jg j 11,jg j 12,jg j 13,jg j 14,jg j 15,jg j 16,jg j 17,jg j 18,jg j 19,jg j 20,jg j 21,jg j 22,jg j 23,jg j 24,jg j 25,(.bool f),jg j 26,jg j 27,jg j 28,jg j 29,jg j 30,jg j 31,jg j 32,jg j 33,jg j 34,jg j 35,jg j 36,jg j 37,jg j 38,jg j 39,jg j 40,jg j 41,jg j 42,jg j 43,jg j 44,jg j 45,jg j 46,jg j 47,jg j 48,jg j 49,jg j 50,jg j 51,jg j 52,jg j 53,jg j 54,jg j 55,jg j 56,jg j 57,jg j 58,jg j 59,jg j 60,jg j 61,jg j 62,jg j 63,jg j 64,jg j 65,jg j 66,jg j 67,jg j 68,jg j 69,jg j 70,jg j 71,jg j 72,jg j 73,jg j 74,jg j 75,jg j 76,jg j 77,jg j 78,jg j 79,jg j 80,jg j 81,jg j 82,jg j 83,jg j 84,jg j 85,jg j 86,jg j 87,jg j 88,jg j 89,jg j 90,jg j 91,jg j 92,jg j 93,jg j 94,jg j 95,jg j 96,jg j 97,jg j 98,jg j 99,jg j 100,jg j 101,jg j 102,jg j 103,jg j 104,jg j 105,jg j 106,jg j 107,jg j 108,jg j 109,jg j 110,jg j 111,jg j 112,jg j 113,jg j 114,jg j 115,jg j 116,jg j 117,jg j 118,jg j 119,jg j 120,jg j 121,jg j 122,jg j 123]
def eO (s0 s1:Int) (s2:Option Addr) (a b:Nat) (s3:Option Addr) (c d:Nat) (s4:Bool) (j:LV):LV:=.int .i64 s0::.int .i64 s1::.slice s2 a b::.slice s3 c d::.bool s4::jq j 0 125 []
def gY (s0 s1:Int) (s3:Option Addr) (a b:Nat) (s4:Bool) (c d:Option Addr) (f g:Nat) (h:Bool) (i:Option Addr) (k l:Nat) (m:Bool) (j:LV):LV:=.int .i64 s0::.int .i64 s1::jq j 0 1 (.slice s3 a b::.bool s4::jq j 1 6 (.pointer c::.slice d f g::jq j 7 1 (.bool h::.slice i k l::jq j 8 1 (.bool m::jq j 9 112 []))))
def cL (s0 s1:Int) (s3:Option Addr) (a b:Nat) (s4:Bool) (c d:Option Addr) (f g:Nat) (h:Bool) (j:LV):LV:=.int .i64 s0::.int .i64 s1::jq j 0 1 (.slice s3 a b::.bool s4::jq j 1 6 (.pointer c::jq j 7 3 (.slice d f g::jq j 10 48 (.bool h::jq j 58 65 []))))
def eP (s0 s1:Int) (s3:Option Addr) (a b:Nat) (s4:Bool) (c d:Option Addr) (f g:Nat) (j:LV):LV:=.int .i64 s0::.int .i64 s1::jq j 0 1 (.slice s3 a b::.bool s4::jq j 1 6 (.pointer c::jq j 7 3 (.slice d f g::jq j 10 114 [])))
def dJ (s0 s1:Int) (s4:Bool) (a:Option Addr) (b c:Nat) (j:LV):LV:=.int .i64 s0::.int .i64 s1::jq j 0 2 (.bool s4::jq j 2 13 (.slice a b c::jq j 15 111 []))
def dK (s0 s1:Int) (a:Option Addr) (b c:Nat) (j:LV):LV:=.int .i64 s0::.int .i64 s1::jq j 0 16 (.slice a b c::jq j 16 111 [])
def eQ (s1:Int) (a:Bool) (b:Option Addr) (c d:Nat) (f g:Addr) (j:LV):LV:=jq j 0 1 (.int .i64 s1::jq j 1 12 (.bool a::jq j 13 4 (.slice b c d::.pointer (some f)::jq j 17 1 (.pointer (some g)::jq j 18 107 []))))
def dL (s1:Int) (a:Addr) (b:Bool) (j:LV):LV:=jq j 0 1 (.int .i64 s1::jq j 1 18 (.pointer (some a)::jq j 19 84 (.bool b::jq j 103 24 [])))
def eD (s1:Int) (a:Addr) (j:LV):LV:=jq j 0 1 (.int .i64 s1::jq j 1 18 (.pointer (some a)::jq j 19 109 []))
theorem mL (p0 p1:Int) (p2:Option Addr) (a b:Nat) (p3:Option Addr) (c d:Nat) (p4:Bool):fnW prog f3 [.int .i64 p0,.int .i64 p1,.slice p2 a b,.slice p3 c d,.bool p4] R w=((bif (decide (((a:Nat):Int)>16)) then (W prog (sub (aA f3) [1,0,1]) (dI p0 p1 p2 a b p3 c d p4 true (uq 5 (jb false::uq 13 (js p2 a b::jn a::jb (decide (((a:Nat):Int)>16))::jb true::uq 101 [])))) (nx f3 [1,1] R) w) else (W prog (sub (aA f3) [1,0,1]) (dI p0 p1 p2 a b p3 c d p4 (decide (((c:Nat):Int)>6)) (uq 5 (jb false::uq 13 (js p2 a b::jn a::jb (decide (((a:Nat):Int)>16))::jb false::js p3 c d::jn c::jb (decide (((c:Nat):Int)>6))::uq 98 [])))) (nx f3 [1,1] R) w))):=by kernel_rfl
theorem ku (s0 s1:Int) (s2:Option Addr) (a b:Nat) (s3:Option Addr) (c d:Nat) (s4 f:Bool) (j:LV) (QX:Exit→LV→World→Prop):W prog (sub (aA f3) [1,0,1]) (dI s0 s1 s2 a b s3 c d s4 f j) (Qr prog f3 R QX) w=((bif f then (R (.bool true) w) else (QX .normal (eO s0 s1 s2 a b s3 c d s4 (jq j 0 26 (jb f::jq j 26 98 []))) w))):=by kernel_rfl
theorem kv (s0 s1:Int) (s2:Option Addr) (a b:Nat) (s3:Option Addr) (c d:Nat) (s4:Bool) (j:LV) (QX:Exit→LV→World→Prop):W prog (sub (aA f3) [1,1]) (eO s0 s1 s2 a b s3 c d s4 j) (Qr prog f3 R QX) w=(Calls prog 6 #[.int .i64 s0,.int .i64 5] w λe w1=>∃ (f:Int),e=.returned (.int .i64 f)∧Calls prog 7 #[.int .i64 (i64.wrap (f+1)),.int .i64 1,.int .i64 98,.slice s2 a b] w1 λe w2=>∃ (g:Option Addr),e=.returned (.pointer g)∧Calls prog 8 #[.agg #[.int .i64 (i64.wrap (f+1))],.slice none 0 0] w2 λe w3=>∃ (h:Option Addr) (i k:Nat),aB.ex λq=>∃ (l:Bool),e=.returned (.tuple #[.slice h i k,q.val,.bool l])∧∀ b1 w4,b1=w3.heap.size→w4=w3.alloc (.cells #[.int .i64 0,.int .i64 0,.int .i64 0,.slice none 0 0,.int .i64 0,.bool false,.int .u64 0,.slice none 0 0,.slice none 0 0,.slice none 0 0] 36)→wrAt w4 ⟨b1,0,none⟩ 0 q.cells∧∀ w5,w5=puts w4 ⟨b1,0,none⟩ 0 q.cells→Calls prog 9 #[.int .i64 (i64.wrap (f+1)),.slice none 0 0] w5 λe w6=>∃ (m:Option Addr) (n o:Nat),aD.ex λr=>∃ (p:Bool),e=.returned (.tuple #[.slice m n o,r.val,.bool p])∧∀ b2 w7,b2=w6.heap.size→w7=w6.alloc (.cells #[.int .i64 0,.int .i64 0,.int .i64 0,.slice none 0 0,.int .i64 0,.bool false,.int .u64 0,.slice none 0 0,.slice none 0 0,.slice none 0 0] 41)→wrAt w7 ⟨b2,0,none⟩ 0 r.cells∧∀ w8,w8=puts w7 ⟨b2,0,none⟩ 0 r.cells→W prog (sub (aA f3) [1,1,1,1,1,1]) (gY (i64.wrap (f+1)) s1 s3 c d s4 g h i k l m n o p (js s2 a b::jq j 0 6 (jp ⟨b1,0,none⟩::jp ⟨b2,0,none⟩::jq j 13 14 (ji s0::ji f::ji (i64.wrap (f+1))::ji (i64.wrap (f+1))::js s2 a b::.pointer g::.tuple #[.slice h i k,q.val,.bool l]::ji (i64.wrap (f+1))::.agg #[.int .i64 (i64.wrap (f+1))]::.tuple #[.slice h i k,q.val,.bool l]::js h i k::q.val::jb l::.tuple #[.slice m n o,r.val,.bool p]::ji (i64.wrap (f+1))::.tuple #[.slice m n o,r.val,.bool p]::js m n o::r.val::jb p::jq j 46 79 [])))) (Qr prog f3 R QX) w8):=by kernel_rfl
theorem jy (env:LV) (w:World) (Q:Exit→LV→World→Prop):W prog (sub (aA f3) [1,1,1,1,1,1]) env Q w=W prog (sub (aA f3) [1,1,1,1,1,1,0]) env (seqQ (λenv w=>W prog (sub (aA f3) [1,1,1,1,1,1,1]) env Q w) Q) w:=by
 rw [show sub (aA f3) [1,1,1,1,1,1]=.seq (sub (aA f3) [1,1,1,1,1,1,0]) (sub (aA f3) [1,1,1,1,1,1,1]) by kernel_rfl]
 generalize sub (aA f3) [1,1,1,1,1,1,0]=a
 generalize sub (aA f3) [1,1,1,1,1,1,1]=b
 kernel_rfl
theorem ja (env:LV) (w:World) (Q:Exit→LV→World→Prop):W prog (sub (aA f3) [1,1,1,1,1,1,0]) env Q w=W prog (sub (aA f3) [1,1,1,1,1,1,0,0]) env (seqQ (λenv w=>W prog (sub (aA f3) [1,1,1,1,1,1,0,1]) env Q w) Q) w:=by
 rw [show sub (aA f3) [1,1,1,1,1,1,0]=.seq (sub (aA f3) [1,1,1,1,1,1,0,0]) (sub (aA f3) [1,1,1,1,1,1,0,1]) by kernel_rfl]
 generalize sub (aA f3) [1,1,1,1,1,1,0,0]=a
 generalize sub (aA f3) [1,1,1,1,1,1,0,1]=b
 kernel_rfl
set_option maxHeartbeats 4000000 in
theorem kw (s0 s1:Int) (s3:Option Addr) (a b:Nat) (s4:Bool) (c d:Option Addr) (f g:Nat) (h:Bool) (i:Option Addr) (k l:Nat) (m:Bool) (j:LV) (QX:Exit→LV→World→Prop):W prog (sub (aA f3) [1,1,1,1,1,1,0,0]) (gY s0 s1 s3 a b s4 c d f g h i k l m j) (Qr prog f3 R QX) w=((bif h then (QX .normal (cL s0 s1 s3 a b s4 c i k l true (jq j 0 7 (js d f g::jg j 7::jb h::jg j 8::jb m::jq j 9 33 (jb h::jb true::undef::jb true::jb true::uq 4 (jb true::jb true::uq 2 (jq j 56 65 [])))))) w) else ((bif m then (QX .normal (cL s0 s1 s3 a b s4 c i k l true (jq j 0 7 (js d f g::jg j 7::jb h::jg j 8::jb m::jq j 9 33 (jb h::jb false::jb m::jb m::jb true::uq 4 (jb true::jb true::uq 2 (jq j 56 65 [])))))) w) else (Calls prog 10 #[.slice d f g,.slice i k l] w λe w1=>∃ n,e=.returned (.bool n)∧(bif (!n) then (QX .normal (cL s0 s1 s3 a b s4 c i k l true (jq j 0 7 (js d f g::jg j 7::jb h::jg j 8::jb m::jq j 9 33 (jb h::jb false::jb m::jb m::jb false::js d f g::js i k l::jb n::jb (!n)::jb (!n)::jb true::uq 2 (jq j 56 65 []))))) w1) else (Calls prog 11 #[] w1 λe w2=>∃ o,e=.returned (.bool o)∧QX .normal (cL s0 s1 s3 a b s4 c i k l (!o) (jq j 0 7 (js d f g::jg j 7::jb h::jg j 8::jb m::jq j 9 33 (jb h::jb false::jb m::jb m::jb false::js d f g::js i k l::jb n::jb (!n)::jb (!n)::jb false::jb o::jb (!o)::jq j 56 65 [])))) w2))))))):=by kernel_rfl
theorem ky (s0 s1:Int) (s3:Option Addr) (a b:Nat) (s4:Bool) (c d:Option Addr) (f g:Nat) (h:Bool) (j:LV) (QX:Exit→LV→World→Prop):W prog (sub (aA f3) [1,1,1,1,1,1,0,1]) (cL s0 s1 s3 a b s4 c d f g h j) (Qr prog f3 R QX) w=((bif h then (R (.bool false) w) else (QX .normal (eP s0 s1 s3 a b s4 c d f g (jq j 0 58 (jb h::jq j 58 65 []))) w))):=by kernel_rfl
theorem kz (s0 s1:Int) (s3:Option Addr) (a b:Nat) (s4:Bool) (c d:Option Addr) (f g:Nat) (j:LV) (QX:Exit→LV→World→Prop):W prog (sub (aA f3) [1,1,1,1,1,1,1]) (eP s0 s1 s3 a b s4 c d f g j) (Qr prog f3 R QX) w=(Calls prog 13 #[.pointer c,.int .i64 0,.slice d f g] w λe w1=>∃ h i k,e=.returned (.slice h i k)∧Calls prog 12 #[.slice h i k,.int .i64 0,.slice s3 a b] w1 λe w2=>∃ l m n,e=.returned (.slice l m n)∧∀ b1 w3,b1=w2.heap.size→w3=w2.alloc (.cells #[.slice l m n] 46)→W prog (sub (aA f3) [1,1,1,1,1,1,1,1]) (dJ s0 s1 s4 (some ⟨b1,0,none⟩) 1 1 (jg j 0::js s3 a b::jq j 1 6 (.pointer c::jg j 7::jg j 8::jg j 9::js d f g::jg j 10::jg j 11::jq j 13 46 (.pointer c::js d f g::js h i k::js s3 a b::js l m n::js (some ⟨b1,0,none⟩) 1 1::jq j 65 59 [])))) (Qr prog f3 R QX) w3):=by kernel_rfl
theorem jA (env:LV) (w:World) (Q:Exit→LV→World→Prop):W prog (sub (aA f3) [1,1,1,1,1,1,1,1]) env Q w=W prog (sub (aA f3) [1,1,1,1,1,1,1,1,0]) env (seqQ (λenv w=>W prog (sub (aA f3) [1,1,1,1,1,1,1,1,1]) env Q w) Q) w:=by
 rw [show sub (aA f3) [1,1,1,1,1,1,1,1]=.seq (sub (aA f3) [1,1,1,1,1,1,1,1,0]) (sub (aA f3) [1,1,1,1,1,1,1,1,1]) by kernel_rfl]
 generalize sub (aA f3) [1,1,1,1,1,1,1,1,0]=a
 generalize sub (aA f3) [1,1,1,1,1,1,1,1,1]=b
 kernel_rfl
theorem kA (s0 s1:Int) (s4:Bool) (a:Option Addr) (b c:Nat) (j:LV) (QX:Exit→LV→World→Prop):W prog (sub (aA f3) [1,1,1,1,1,1,1,1,0]) (dJ s0 s1 s4 a b c j) (Qr prog f3 R QX) w=((bif s4 then (idxS a b 0 1 λad=>∃ x d f,w.cell? ad=some (.slice x d f)∧∀ b1 w1,b1=w.heap.size→w1=w.alloc (.cells #[.slice x d f] 46)→∃ ap g h,∃ w2,(Builtin.append_ #[49,49] 49 #[.slice a b c,.slice (some ⟨b1,0,none⟩) 1 1]).run prog w1=.ok (.slice ap g h) w2∧QX .normal (dK s0 s1 ap g h (jg j 0::jg j 1::jb s4::jq j 2 65 (jb s4::js a b c::js a b c::jp ad::js x d f::js (some ⟨b1,0,none⟩) 1 1::js ap g h::jq j 74 52 []))) w2) else (QX .normal (dK s0 s1 a b c (jg j 0::jg j 1::jb s4::jq j 2 65 (jb s4::jq j 68 58 []))) w))):=by kernel_rfl
theorem kB (s0 s1:Int) (a:Option Addr) (b c:Nat) (j:LV) (QX:Exit→LV→World→Prop):W prog (sub (aA f3) [1,1,1,1,1,1,1,1,1]) (dK s0 s1 a b c j) (Qr prog f3 R QX) w=(Calls prog 8 #[.agg #[.int .i64 s0],.slice a b c] w λe w1=>∃ d f g,aB.ex λn=>∃ h,e=.returned (.tuple #[.slice d f g,n.val,.bool h])∧∀ b1 w2,b1=w1.heap.size→w2=w1.alloc (.cells #[.int .i64 0,.int .i64 0,.int .i64 0,.slice none 0 0,.int .i64 0,.bool false,.int .u64 0,.slice none 0 0,.slice none 0 0,.slice none 0 0] 36)→wrAt w2 ⟨b1,0,none⟩ 0 n.cells∧∀ w3,w3=puts w2 ⟨b1,0,none⟩ 0 n.cells→Calls prog 9 #[.int .i64 s0,.slice a b c] w3 λe w4=>∃ i k l,aD.ex λo=>∃ m,e=.returned (.tuple #[.slice i k l,o.val,.bool m])∧∀ b2 w5,b2=w4.heap.size→w5=w4.alloc (.cells #[.int .i64 0,.int .i64 0,.int .i64 0,.slice none 0 0,.int .i64 0,.bool false,.int .u64 0,.slice none 0 0,.slice none 0 0,.slice none 0 0] 41)→wrAt w5 ⟨b2,0,none⟩ 0 o.cells∧∀ w6,w6=puts w5 ⟨b2,0,none⟩ 0 o.cells→W prog (sub (aA f3) [1,1,1,1,1,1,1,1,1,1,1]) (eQ s1 h d f g ⟨b1,0,none⟩ ⟨b2,0,none⟩ (ji s0::jq j 0 12 (jg j 13::jg j 14::jg j 15::js a b c::js i k l::jb m::jq j 21 54 (.tuple #[.slice d f g,n.val,.bool h]::ji s0::.agg #[.int .i64 s0]::js a b c::.tuple #[.slice d f g,n.val,.bool h]::js d f g::n.val::jb h::.tuple #[.slice i k l,o.val,.bool m]::ji s0::js a b c::.tuple #[.slice i k l,o.val,.bool m]::js i k l::o.val::jb m::jq j 90 37 [])))) (Qr prog f3 R QX) w6):=by kernel_rfl
theorem jB (env:LV) (w:World) (Q:Exit→LV→World→Prop):W prog (sub (aA f3) [1,1,1,1,1,1,1,1,1,1,1]) env Q w=W prog (sub (aA f3) [1,1,1,1,1,1,1,1,1,1,1,0]) env (seqQ (λenv w=>W prog (sub (aA f3) [1,1,1,1,1,1,1,1,1,1,1,1]) env Q w) Q) w:=by
 rw [show sub (aA f3) [1,1,1,1,1,1,1,1,1,1,1]=.seq (sub (aA f3) [1,1,1,1,1,1,1,1,1,1,1,0]) (sub (aA f3) [1,1,1,1,1,1,1,1,1,1,1,1]) by kernel_rfl]
 generalize sub (aA f3) [1,1,1,1,1,1,1,1,1,1,1,0]=a
 generalize sub (aA f3) [1,1,1,1,1,1,1,1,1,1,1,1]=b
 kernel_rfl
theorem jc (env:LV) (w:World) (Q:Exit→LV→World→Prop):W prog (sub (aA f3) [1,1,1,1,1,1,1,1,1,1,1,0]) env Q w=W prog (sub (aA f3) [1,1,1,1,1,1,1,1,1,1,1,0,0]) env (seqQ (λenv w=>W prog (sub (aA f3) [1,1,1,1,1,1,1,1,1,1,1,0,1]) env Q w) Q) w:=by
 rw [show sub (aA f3) [1,1,1,1,1,1,1,1,1,1,1,0]=.seq (sub (aA f3) [1,1,1,1,1,1,1,1,1,1,1,0,0]) (sub (aA f3) [1,1,1,1,1,1,1,1,1,1,1,0,1]) by kernel_rfl]
 generalize sub (aA f3) [1,1,1,1,1,1,1,1,1,1,1,0,0]=a
 generalize sub (aA f3) [1,1,1,1,1,1,1,1,1,1,1,0,1]=b
 kernel_rfl
theorem kC (s1:Int) (a:Bool) (b:Option Addr) (c d:Nat) (f g:Addr) (j:LV) (QX:Exit→LV→World→Prop):W prog (sub (aA f3) [1,1,1,1,1,1,1,1,1,1,1,0,0]) (eQ s1 a b c d f g j) (Qr prog f3 R QX) w=((bif (!a) then (QX .normal (dL s1 f true (jq j 0 13 (jb a::jq j 13 4 (js b c d::jg j 17::jp g::jq j 18 70 (jb a::jb (!a)::jb true::uq 3 (jb true::jb true::uq 4 (jq j 101 24 []))))))) w) else ((bif (((c:Nat):Int) != 0) then (QX .normal (dL s1 f true (jq j 0 13 (jb a::jq j 13 4 (js b c d::jg j 17::jp g::jq j 18 70 (jb a::jb (!a)::jb false::js b c d::jn c::jb (((c:Nat):Int) != 0)::jb (((c:Nat):Int) != 0)::jb true::uq 4 (jq j 101 24 [])))))) w) else (aB.ex λr=>aH w f 0 r.cells∧aD.ex λr1=>aH w g 0 r1.cells∧Calls prog 14 #[r.val,r1.val] w λe w1=>∃ h,e=.returned (.bool h)∧QX .normal (dL s1 f (!h) (jq j 0 13 (jb a::jq j 13 4 (js b c d::jg j 17::jp g::jq j 18 70 (jb a::jb (!a)::jb false::js b c d::jn c::jb (((c:Nat):Int) != 0)::jb (((c:Nat):Int) != 0)::jb false::r.val::r1.val::jb h::jb (!h)::jq j 101 24 []))))) w1))))):=by kernel_rfl
theorem kD (s1:Int) (a:Addr) (b:Bool) (j:LV) (QX:Exit→LV→World→Prop):W prog (sub (aA f3) [1,1,1,1,1,1,1,1,1,1,1,0,1]) (dL s1 a b j) (Qr prog f3 R QX) w=((bif b then (R (.bool false) w) else (QX .normal (eD s1 a (jq j 0 103 (jb b::jq j 103 24 []))) w))):=by kernel_rfl
theorem jR (s1:Int) (a:Addr) (j:LV) (QX:Exit→LV→World→Prop):W prog (sub (aA f3) [1,1,1,1,1,1,1,1,1,1,1,1]) (eD s1 a j) (Qr prog f3 R QX) w=(Calls prog 8 #[.agg #[.int .i64 s1],.slice none 0 0] w λe w1=>∃ b c d,aB.ex λi=>∃ f,e=.returned (.tuple #[.slice b c d,i.val,.bool f])∧wrAt w1 a 0 i.cells∧∀ w2,w2=puts w1 a 0 i.cells→(bif (decide ((s1:Int)<1)) then ((bif (f == true) then ((bif (!f) then (R (.bool true) w2) else (∃ g,w2.cell? a=some (.int .i64 g)∧R (.bool ((g:Int) == 1)) w2))) else (R (.bool false) w2))) else ((bif (f == (decide ((s1:Int)>5))) then ((bif (!f) then (R (.bool true) w2) else (∃ h,w2.cell? a=some (.int .i64 h)∧R (.bool ((h:Int) == 1)) w2))) else (R (.bool false) w2))))):=by kernel_rfl
end Go.Proofs.YtafopfaomkklpaaGreat
