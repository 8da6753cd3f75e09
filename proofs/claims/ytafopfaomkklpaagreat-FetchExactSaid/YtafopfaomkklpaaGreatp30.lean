/- A part of the proof. -/
import Derived.Test.YtafopfaomkklpaaGreatp22
import Derived.Test.YtafopfaomkklpaaGreatProg
import Derived.Test.YtafopfaomkklpaaGreatp03
import Derived.Test.YtafopfaomkklpaaGreatp02
import Derived.RangeFuncNested
import Derived.RangeFuncBound
import Derived.RangeFuncCalls
import Derived.RangeFuncLeaves
set_option linter.unusedVariables false
namespace Go.Proofs.YtafopfaomkklpaaGreat
open Go.Proofs.Tryz
open Go.Eng
abbrev TDn:TypeId:=53
theorem tZ:∀ (vs cs:List Value) (i n:Nat),(splice cs i vs).take n=splice (cs.take n) i vs
 | [],cs,i,n=>rfl
 |v::vs,cs,i,n=>by
  unfold splice
  rw [tZ vs,List.take_set]
theorem Owns.putD {u:World} {g n cap:Nat} {dn:List aV} (h:Owns u TDn 2 (some ⟨g,0,none⟩) n cap (gI dn).flatten) {i:Nat} (hi:i<dn.length) (d:aV) :
  wrAt u ⟨g,i * 2,none⟩ 0 d.cells∧Owns (puts u ⟨g,i * 2,none⟩ 0 d.cells) TDn 2 (some ⟨g,0,none⟩) n cap (gI (dn.set i d)).flatten:=by
 have hl0:=h.1
 have hfl:(gI dn).flatten.length=dn.length * 2:=j9 aV.len dn
 rcases h.2 with ⟨he,_⟩ | ⟨g',cur,he,hb,hc,hm,hl,ht⟩
 ·cases he
 ·simp only [Option.some.injEq,Addr.mk.injEq,and_true] at he
  subst he
  have hdl:d.cells.length=2:=aV.len d
  refine ⟨fF hb (by omega) (aV.single d),?_⟩
  have hp:=hb.puts (o:=i * 2) (i:=0) (vs:=d.cells)
  refine ⟨?_,.inr ⟨g,_,rfl,hp,hc,hm,by rw [length_splice];exact hl,?_⟩⟩
  ·rw [show (gI (dn.set i d)).flatten.length=(dn.set i d).length * 2 from j9 aV.len _,List.length_set]
   omega
  ·rw [tZ,ht,Nat.add_zero,yV hi]
theorem Owns.cutD {u:World} {g n cap:Nat} {dn:List aV} (h:Owns u TDn 2 (some ⟨g,0,none⟩) n cap (gI dn).flatten) {m:Nat} (hm:m≤n):Owns u TDn 2 (some ⟨g,0,none⟩) m cap (gI (dn.take m)).flatten:=by
 have hl0:=h.1
 have hfl:(gI dn).flatten.length=dn.length * 2:=j9 aV.len dn
 have hft:(gI dn).flatten.take (m * 2)=(gI (dn.take m)).flatten:=tM aV.len dn m
 rcases h.2 with ⟨he,_⟩ | ⟨g',cur,he,hb,hc,hmx,hl,ht⟩
 ·cases he
 ·simp only [Option.some.injEq,Addr.mk.injEq,and_true] at he
  subst he
  refine ⟨?_,.inr ⟨g,cur,rfl,hb,by omega,hmx,hl,?_⟩⟩
  ·rw [show (gI (dn.take m)).flatten.length=(dn.take m).length * 2 from j9 aV.len _,List.length_take]
   omega
  ·rw [←hft,←ht,List.take_take,Nat.min_eq_left (by omega)]
theorem EP {u:World} {s:Option Addr} {m c:Nat} {l:List aV} (hs:Rd u s (gI l).flatten) (hm:m=l.length) (hn:m≤100000) {K:Option Addr→Nat→Nat→World→Prop}
  (hk:∀ ap cap' w3,Owns w3 TDn 2 ap m cap' (gI l).flatten→New u w3→(∀ k,isB ap k→u.heap.size≤k)→K ap m cap' w3) :
  ∃ (ap:Option Addr) (ap_len ap_cap:Nat),∃ w3,(Builtin.append_ #[46,46] 46 #[(.slice none 0 0),(.slice s m c)]).run prog u=.ok (.slice ap ap_len ap_cap) w3∧K ap ap_len ap_cap w3:=by
 obtain ⟨inf,hi,hz,hsz,hby⟩:=nV (T:=TDn) (z:=.agg #[.int .i64 0,.slice none 0 0]) (n:=2) (m:=32) (by kernel_rfl)
 refine lR (cells:=aV.cells) aV.len aV.single Tryz.underlying46 hi hz (by rw [hsz];rfl) hsz (by omega) (by omega) (l:=[]) (Owns.nil u TDn 2) hs hm (by omega) λap cap' w3 h1 h2 h3=>?_
 rw [Nat.zero_add] at h1 ⊢
 exact hk ap cap' w3 h1 (h2.mono λk _ h=>noB h) λk hb=>(h3 k hb).resolve_left noB
def DnB (B:Nat) (w:World) (Av:Nat→Prop) (d:aV):Prop:=(∃ xs:List Int,Rd w d.Words (us xs)∧d.Wl=xs.length∧(∀ x ∈ xs,U64 x)∧xs.length≤B∧d.Wl≤d.Wc)∧(∀ k,isB d.Words k→¬ Av k)∧∀ k,isB d.Words k→k<w.heap.size
theorem DnAt.b {w:World} {Av:Nat→Prop} {d:aV} (h:DnAt w Av d):DnB 100000 w Av d:=h
theorem DnB.keep {B:Nat} {u z:World} {Av M:Nat→Prop} {d:aV} (h:DnB B u Av d) (hk:Keep M u z) (hM:∀ k,k<u.heap.size→M k→Av k):DnB B z Av d:=by
 obtain ⟨⟨xs,h1,h2,h3⟩,h4,h5⟩:=h
 exact ⟨⟨xs,jd hk h1 λk hlt hb hm=>h4 k hb (hM k hlt hm),h2,h3⟩,h4,λk hb=>Nat.lt_of_lt_of_le (h5 k hb) hk.size⟩
theorem DnB.to {B B':Nat} {u:World} {Av Av':Nat→Prop} {d:aV} (h:DnB B u Av d) (hB:B≤B') (ha:∀ k,k<u.heap.size→Av' k→Av k):DnB B' u Av' d:=by
 obtain ⟨⟨xs,h1,h2,h3,h6,h7⟩,h4,h5⟩:=h
 exact ⟨⟨xs,h1,h2,h3,by omega,h7⟩,λk hb hA=>h4 k hb (ha k (h5 k hb) hA),h5⟩
theorem DnB.nil {B:Nat} {u:World} {Av:Nat→Prop} (c:Int) (cap:Nat):DnB B u Av ⟨c,none,0,cap⟩:=⟨⟨[],.inl rfl,rfl,by simp,by simp,Nat.zero_le _⟩,λk hk=>absurd hk noB,λk hk=>absurd hk noB⟩
def DnsB (B:Nat) (w:World) (Av:Nat→Prop) (dn:List aV):Prop:=∀ d ∈ dn,DnB B w Av d
theorem DnsB.ds {B:Nat} {u:World} {Av:Nat→Prop}:∀ {raw:List aV},DnsB B u Av raw→∃ ds,Ds u raw ds
 | [],_=>⟨[],rfl,λi v x h=>by simp at h⟩
 |d::raw,h=>by
  obtain ⟨ds,h1,h2⟩:=DnsB.ds (raw:=raw) λd' hd=>h d' (List.mem_cons_of_mem _ hd)
  obtain ⟨⟨xs,g1,g2,g3,_⟩,_⟩:=h d (List.mem_cons_self ..)
  refine ⟨⟨d.Code,xs⟩::ds,by simp [h1],λi v y hv hy=>?_⟩
  cases i with
  |zero=>
   simp at hv hy
   subst hv hy
   exact ⟨rfl,g2,g1,g3⟩
  |succ i=>exact h2 i v y (by simpa using hv) (by simpa using hy)
abbrev AlR:=aY
structure AlOk (a:AlR):Prop where
 batch:I64 a.Batch
 verb:I64 a.Verb
 kind:I64 a.Kind
 w:U64 a.W
def wJ (l:List AlR):List (List Value):=l.map aY.cells
abbrev TAl:TypeId:=101
noncomputable abbrev fAl:Func:=f12
structure AlS (w z:World) (oa:Option Addr) (m cap:Nat) (dn:List aV) (B:Nat):Prop where
 new:New w z
 own:Owns z TDn 2 oa m cap (gI dn).flatten
 len:dn.length=m
 few:m≤2000
 fresh:∀ k,isB oa k→w.heap.size≤k
 ok:DnsB B z (isB oa) dn
theorem AlS.next {w z z':World} {oa:Option Addr} {m cap:Nat} {dn:List aV} {B:Nat} (h:AlS w z oa m cap dn B) (hn:New z z'):AlS w z' oa m cap dn B:=
 ⟨h.new.new hn,Owns.new hn h.own,h.len,h.few,h.fresh,λd hd=>(h.ok d hd).keep hn λ_ _ e=>e.elim⟩
theorem AlS.to {w z:World} {oa:Option Addr} {m cap:Nat} {dn:List aV} {B B':Nat} (h:AlS w z oa m cap dn B) (hB:B≤B'):AlS w z oa m cap dn B':=
 ⟨h.new,h.own,h.len,h.few,h.fresh,λd hd=>(h.ok d hd).to hB λ_ _ e=>e⟩
theorem al7 {w z:World} {R:Value→World→Prop} {Q:Exit→List Value→World→Prop} (hQ:∀ env w',Q .ret env w'=retQ prog fAl R .ret env w') {p1:Int} {a2:Option Addr} {n2 c2 i:Nat} {oa:Option Addr} {m cap:Nat} {dn:List aV} {B:Nat} (h:AlS w z oa m cap dn B) {xb:Nat} {d:aV} (hx:Blk z xb d.cells TDn) (hd:DnB B z (isB oa) d) {k:Nat} (hk:k<m) (jj:List Value)
  (hN:∀ z' dn' jj,AlS w z' oa m cap dn' B→Q .normal (bC p1 a2 n2 c2 oa m cap i jj) z') :
  W prog (sub (aA fAl) [1,1,0,1,0,0,1,0,0,1,1,1,1,1]) (bM p1 a2 n2 c2 oa m cap i k ⟨xb,0,none⟩ jj) Q z:=by
 refine cH (P:=prog) (fn:=fAl) (R:=R) hQ ?_
 rw [mX]
 obtain ⟨g,cur,rfl,_⟩:=nW h.own (by omega)
 obtain ⟨hw,ho⟩:=Owns.putD h.own (i:=k) (by rw [h.len];exact hk) d
 have e0:0+(k:Int).toNat * 2=k * 2:=by omega
 refine aV.mk_ex d ⟨aH hx rfl,bI (by omega) (by omega) ⟨by rw [e0];exact hw,?_⟩⟩
 rintro z1 hz1
 rw [e0] at hz1
 have hk1:Keep (λb=>b=g) z z1:=by rw [hz1];exact ej _ _ _ _ _
 rw [←hz1] at ho
 have hM:∀ b,b<z.heap.size→b=g→isB (some ⟨g,0,none⟩) b:=λb _ e=>⟨0,by rw [e]⟩
 refine hN z1 (dn.set k d) _ ⟨h.new.trans hk1 λb hlt e=>?_,ho,by rw [List.length_set];exact h.len,h.few,h.fresh,λd' hd'=>?_⟩
 ·have:=h.fresh g ⟨0,rfl⟩
  omega
 ·rcases List.mem_or_eq_of_mem_set hd' with e | rfl
  ·exact (h.ok d' e).keep hk1 hM
  ·exact hd.keep hk1 hM
set_option maxHeartbeats 1000000 in
theorem al6 {w z:World} {R:Value→World→Prop} {Q:Exit→List Value→World→Prop} (hQ:∀ env w',Q .ret env w'=retQ prog fAl R .ret env w') {p1:Int} {a2:Option Addr} {n2 c2 i:Nat} {oa:Option Addr} {m cap:Nat} {dn:List aV} {B:Nat} (h:AlS w z oa m cap dn B) {ab:Nat} {a:AlR} (ha:Blk z ab a.cells TAl) (haok:AlOk a)
  {xb:Nat} {cd:Int} {wa:Option Addr} {wl wc:Nat} {xs:List Int} (hx:Blk z xb (aV.cells ⟨cd,wa,wl,wc⟩) TDn) (hxo:¬ isB oa xb) (hwo:Owns z TU 1 wa wl wc (us xs)) (hdis:∀ k,isB oa k→¬ isB wa k) (hwl:wl=xs.length) (hU:∀ x ∈ xs,U64 x) (hB:xs.length≤B) (hB2:B≤500000) (hfx:w.heap.size≤xb) (hfw:∀ k,isB wa k→w.heap.size≤k) (hoff:DnsB B z (λk=>isB oa k∨isB wa k∨k=xb) dn) {k:Nat} (hk:k<m) (jj:List Value)
  (hN:∀ z' oa' m' cap' dn' jj,AlS w z' oa' m' cap' dn' (B+1)→Q .normal (bC p1 a2 n2 c2 oa' m' cap' i jj) z')
  (hE:∀ z' oa' m' cap' dn' jj,AlS w z' oa' m' cap' dn' (B+1)→Q (.exit 1) (bC p1 a2 n2 c2 oa' m' cap' i jj) z') :
  W prog (sub (aA fAl) [1,1,0,1,0,0,1,0,0,1,1,1,1]) (dQ p1 a2 n2 c2 oa m cap i ⟨ab,0,none⟩ k ⟨xb,0,none⟩ jj) Q z:=by
 rw [kV]
 refine cH (P:=prog) (fn:=fAl) (R:=R) (λenv w'=>hQ env w') ?_
 rw [mW]
 refine ⟨_,ha.cell (i:=2) rfl,?_⟩
 refine aC (dK z a.Kind 8 haok.kind (by omega)) ?_
 rintro v z0 ⟨rfl,rfl⟩
 refine ⟨_,rfl,?_⟩
 have hfew:=h.few
 have wwb:∀ k,isB wa k→k≠xb:=λk hk e=>Owns.noB hwo hx (by decide) (by rw [←e];exact hk)
 have out:∀ z2 d2,Keep (λk=>isB wa k∨k=xb) z0 z2→Blk z2 xb (aV.cells d2) TDn→DnB (B+1) z2 (isB oa) d2→∀ jj,W prog (sub (aA fAl) [1,1,0,1,0,0,1,0,0,1,1,1,1,1]) (bM p1 a2 n2 c2 oa m cap i k ⟨xb,0,none⟩ jj) Q z2:=by
  intro z2 d2 hk2 hb2 hd2 jj
  refine al7 hQ ⟨h.new.trans hk2 λk hlt e=>?_,Owns.keep hk2 h.own λk ho e=>?_,h.len,h.few,h.fresh,λd hd=>?_⟩ hb2 hd2 hk jj λz' dn' jj h'=>hN _ _ _ _ _ jj h'
  ·rcases e with e | e
   ·have:=hfw k e;omega
   ·omega
  ·rcases e with e | e
   ·exact hdis k ho e
   ·exact hxo (e▸ho)
  ·exact ((hoff d hd).keep hk2 λk _ e=>.inr e).to (by omega) λk _ e=>.inl e
 have kx:∀ {z2:World},Keep (λk=>k=xb) z0 z2→Keep (λk=>isB wa k∨k=xb) z0 z2:=λhk2=>hk2.mono λk _ e=>.inr e
 have old:∀ {z2:World} (c:Int),Keep (λk=>k=xb) z0 z2→DnB (B+1) z2 (isB oa) ⟨c,wa,wl,wc⟩:=λc hk2=>by
  have ho2:=Owns.keep hk2 hwo wwb
  exact ⟨⟨xs,ho2.rd,hwl,hU,by omega,Owns.le ho2⟩,λk hb ho=>hdis k ho hb,λk hb=>Owns.lt ho2 hb⟩
 refine bB (λ_=>?_) (λ_=>bB (λ_=>?_) (λ_=>bB (λ_=>?_) (λ_=>bB (λ_=>?_) (λ_=>bB (λ_=>?_) (λ_=>?_)))))
 ·exact oG hx (vs:=aV.cells ⟨4,none,0,0⟩) rfl (aV.single _) λz2 hb2 hk2=>bF (out z2 ⟨4,none,0,0⟩ (kx hk2) hb2 (DnB.nil _ _) _)
 ·exact oG hx (vs:=aV.cells ⟨5,none,0,0⟩) rfl (aV.single _) λz2 hb2 hk2=>bF (out z2 ⟨5,none,0,0⟩ (kx hk2) hb2 (DnB.nil _ _) _)
 ·refine ⟨wa,wl,wc,hx.cell (i:=1) rfl,a.W,ha.cell (i:=3) rfl,?_⟩
  rintro b1 w4 hb1 hw4
  obtain ⟨hz4,hn4⟩:=aR hb1 hw4
  have hz4:Blk w4 b1 (us [a.W]) TU:=hz4
  clear hw4
  have hxl:=hx.lt
  have hs4:=hn4.size
  refine uE (m:=1) (l2:=[a.W]) (Owns.new hn4 hwo) (fM hz4 rfl) rfl (by omega) λap cap' w5 ho5 hk5 hap=>?_
  have hx5:=hk5.blk (New.blk hn4 hx) λe=>wwb _ e rfl
  refine ⟨⟨_,hx5.cell (i:=1) rfl⟩,hx5.frozen,?_⟩
  rintro w6 hw6
  have hk6:Keep (λk=>k=xb) w5 w6:=by rw [hw6];exact aZ _ _ _ _
  have hz6:=hx5.setCell (i:=1) (.slice ap (wl+1) cap')
  have hw6':w6=w5.setCell ⟨xb,1,none⟩ (.slice ap (wl+1) cap'):=by rw [hw6]
  rw [←hw6'] at hz6
  clear hw6 hw6'
  have hz6:Blk w6 xb (aV.cells ⟨cd,ap,wl+1,cap'⟩) TDn:=hz6
  have ho6:=Owns.keep hk6 ho5 λk hb e=>Owns.noB ho5 hx5 (by decide) (by rw [←e];exact hb)
  refine bF (out w6 ⟨cd,ap,wl+1,cap'⟩ (((Keep.of_new hn4).trans (hk5.mono λk _ e=>.inl e) λ_ _ e=>e).trans (hk6.mono λk _ e=>.inr e) λ_ _ e=>e) hz6 ⟨⟨xs++[a.W],ho6.rd,by simp;omega,λx hx=>?_,by simp;omega,Owns.le ho6⟩,λk hb ho=>?_,λk hb=>Owns.lt ho6 hb⟩ _)
  ·rcases List.mem_append.1 hx with hx | hx
   ·exact hU x hx
   ·rw [List.mem_singleton.1 hx];exact haok.w
  ·rcases hap k hb with e | e
   ·exact hdis k ho e
   ·have:=Owns.lt h.own ho
    omega
 ·rw [w64 (x:=(m:Int) - 1) (by omega) (by omega)]
  obtain ⟨g,cur,rfl,_⟩:=nW h.own (by omega)
  have hle:=Owns.le h.own
  have e1:((m:Int) - 1).toNat - (0:Int).toNat=m - 1:=by omega
  have e2:(cap:Int).toNat - (0:Int).toNat=cap:=by omega
  refine C5 (by omega) (by omega) (by omega) (by omega) hle λxa hxa=>?_
  rw [e1,e2]
  have hxa:xa=some ⟨g,0,none⟩:=by
   rcases hxa with e | ⟨_,e⟩
   ·rw [e];rfl
   ·exact e
  subst hxa
  refine ph (hE _ _ _ _ (dn.take (m - 1)) _ ⟨h.new,Owns.cutD h.own (by omega),by rw [List.length_take,h.len];omega,by have:=h.few;omega,h.fresh,λd hd=>(h.ok d (List.mem_of_mem_take hd)).to (by omega) λ_ _ e=>e⟩)
 ·refine ⟨⟨_,hx.cell (i:=0) rfl⟩,hx.frozen,?_⟩
  rintro w7 hw7
  have hk7:Keep (λk=>k=xb) z0 w7:=by rw [hw7];exact aZ _ _ _ _
  have hz7:=hx.setCell (i:=0) (.int .i64 12)
  rw [←hw7] at hz7
  have hz7:Blk w7 xb (aV.cells ⟨12,wa,wl,wc⟩) TDn:=hz7
  exact bF (out w7 ⟨12,wa,wl,wc⟩ (kx hk7) hz7 (old 12 hk7) _)
 ·refine ⟨wa,wl,wc,hx.cell (i:=1) rfl,aD (λhpos=>?_) (λ_=>bF (out z0 ⟨cd,wa,wl,wc⟩ (Keep.refl _ _) hx (old cd (Keep.refl _ _)) _))⟩
  rintro w8 hw8
  have hn8:New z0 w8:=by rw [hw8];exact aT _
  clear hw8
  have hx8:=New.blk hn8 hx
  have ha8:=New.blk hn8 ha
  refine ⟨λy=>New w8 y,Keep.refl _ _,wa,wl,wc,λy hy=>(New.blk hy hx8).cell (i:=1) rfl,a.W,λy hy=>(New.blk hy ha8).cell (i:=3) rfl,wa,wl,wc,λy hy=>(New.blk hy hx8).cell (i:=1) rfl,a.W,λy hy=>(New.blk hy ha8).cell (i:=3) rfl,?_⟩
  refine aC (dK w8 _ wl (iZ _) (by omega)) ?_
  rintro v w9 ⟨rfl,hw9⟩
  have hn9:New z0 w9:=by rw [hw9];exact hn8
  have hn89:New w8 w9:=by rw [hw9];exact Keep.refl _ _
  clear hw9
  have hpi:=jT (x:=IntKind.i64.wrap (Int.tmod a.W 4096)) (n:=wl) (by omega)
  refine ⟨_,rfl,hn89,?_⟩
  generalize (if (wl:Int)<1 then 0 else IntKind.i64.wrap (Int.tmod a.W 4096) % wl)=rr at hpi ⊢
  obtain ⟨r,rfl⟩:=Int.eq_ofNat_of_zero_le hpi.1
  obtain ⟨g2,cur2,rfl,_⟩:=nW hwo (by omega)
  have ho9:=Owns.new hn9 hwo
  have hlen9:(us xs).length=xs.length:=by simp [us]
  have e1:0+(r:Int).toNat * 1=r:=by omega
  refine bI (by omega) (by omega) ?_
  rw [e1]
  refine ⟨⟨_,Owns.cell ho9 (v:=(us xs)[r]'(by omega)) (List.getElem?_eq_getElem (by omega))⟩,Owns.frozen ho9,?_⟩
  rintro w10 hw10
  have hk10:Keep (λk=>k=g2) w9 w10:=by rw [hw10];exact aZ _ _ _ _
  have ho10:=Owns.setCell ho9 (i:=r) (by omega) (.int .u64 a.W)
  rw [←hw10] at ho10
  have e2:(us xs).set r (.int .u64 a.W)=us (xs.set r a.W):=by simp [us]
  rw [e2] at ho10
  have hx10:=hk10.blk (New.blk hn9 hx) λe=>wwb g2 ⟨0,rfl⟩ e.symm
  refine bF (out w10 ⟨cd,some ⟨g2,0,none⟩,wl,wc⟩ ((Keep.of_new hn9).trans (hk10.mono λk _ e=>.inl ⟨0,by rw [e]⟩) λ_ _ e=>e) hx10 ⟨⟨xs.set r a.W,ho10.rd,by rw [List.length_set];exact hwl,λx hx=>?_,by rw [List.length_set];omega,Owns.le ho10⟩,λk hb ho=>hdis k ho hb,λk hb=>Owns.lt ho10 hb⟩ _)
  rcases List.mem_or_eq_of_mem_set hx with e | rfl
  ·exact hU x e
  ·exact haok.w
set_option maxHeartbeats 1000000 in
theorem al5 {w z:World} {R:Value→World→Prop} {Q:Exit→List Value→World→Prop} (hQ:∀ env w',Q .ret env w'=retQ prog fAl R .ret env w') {p1:Int} {a2:Option Addr} {n2 c2 i:Nat} {oa:Option Addr} {m cap:Nat} {dn:List aV} {B:Nat} (h:AlS w z oa m cap dn B) {ab:Nat} {a:AlR} (ha:Blk z ab a.cells TAl) (haok:AlOk a) (hm:0<m) (hB2:B≤500000) (jj:List Value)
  (hN:∀ z' oa' m' cap' dn' jj,AlS w z' oa' m' cap' dn' (B+1)→Q .normal (bC p1 a2 n2 c2 oa' m' cap' i jj) z')
  (hE:∀ z' oa' m' cap' dn' jj,AlS w z' oa' m' cap' dn' (B+1)→Q (.exit 1) (bC p1 a2 n2 c2 oa' m' cap' i jj) z') :
  W prog (sub (aA fAl) [1,1,0,1,0,0,1,0,0,1,1]) (gD p1 a2 n2 c2 oa m cap i ⟨ab,0,none⟩ jj) Q z:=by
 refine cH (P:=prog) (fn:=fAl) (R:=R) hQ ?_
 rw [mV]
 have hfew:=h.few
 refine ⟨_,ha.cell (i:=1) rfl,?_⟩
 refine aC (dK z a.Verb m haok.verb (by omega)) ?_
 rintro v z1 ⟨rfl,rfl⟩
 have hpi:=jT (x:=a.Verb) (n:=m) (by omega)
 refine ⟨_,rfl,?_⟩
 generalize (if (m:Int)<1 then 0 else a.Verb % m)=kk at hpi ⊢
 obtain ⟨k,rfl⟩:=Int.eq_ofNat_of_zero_le hpi.1
 have hkm:k<m:=by omega
 rintro z2 hz2
 have hn2:New z1 z2:=by rw [hz2];exact aT _
 clear hz2
 have hdl:=h.len
 have hg:dn[k]?=some dn[k]:=List.getElem?_eq_getElem (by omega)
 have hdm:dn[k] ∈ dn:=List.getElem_mem (by omega)
 generalize dn[k]=d at hg hdm
 obtain ⟨⟨xs,q1,q2,q3,q4,q7⟩,q5,q6⟩:=h.ok d hdm
 have e0:0+(k:Int).toNat * 2=k * 2:=by omega
 have h2:=h.next hn2
 have hz2s:=hn2.size
 obtain ⟨g,cur,hoa,_⟩:=nW h.own hm
 have hrow:∀ (y:World),New z2 y→∀ (j:Nat) (v:Value),d.cells[j]?=some v→y.cell? ⟨g,k * 2+j,none⟩=some v:=λy hy j v hv=>by
  have ho:=Owns.new hy h2.own
  rw [hoa] at ho
  exact Owns.row aV.len ho hg hv
 rw [hoa]
 refine ⟨λy=>New z2 y,Keep.refl _ _,bI (by omega) (by omega) ?_⟩
 rw [e0]
 refine ⟨d.Code,λy hy=>hrow y hy 0 _ rfl,bI (by omega) (by omega) ?_⟩
 rw [e0]
 refine ⟨d.Words,d.Wl,d.Wc,λy hy=>hrow y hy 1 _ rfl,?_⟩
 rw [←hoa]
 have hr2:=q1.new hn2
 have hlto:∀ k,isB oa k→k<z1.heap.size:=λk hk=>Owns.lt h.own hk
 have fin:∀ (z5:World) (xb:Nat) (wa:Option Addr) (wc:Nat) (jj:List Value),New z2 z5→z2.heap.size≤xb→Blk z5 xb (aV.cells ⟨d.Code,wa,d.Wl,wc⟩) TDn→Owns z5 TU 1 wa d.Wl wc (us xs)→(∀ k,isB wa k→z2.heap.size≤k)→
   W prog (sub (aA fAl) [1,1,0,1,0,0,1,0,0,1,1,1,1]) (dQ p1 a2 n2 c2 oa m cap i ⟨ab,0,none⟩ k ⟨xb,0,none⟩ jj) (Qr prog fAl R Q) z5:=by
  intro z5 xb wa wc jj hn5 hxb hx5 ho5 hwa
  have hn25:=hn2.new hn5
  have hsw:=h.new.size
  refine al6 (R:=R) (Q:=Qr prog fAl R Q) (λ_ _=>rfl) (h2.next hn5) (New.blk hn25 ha) haok hx5 (λe=>by have:=hlto _ e;omega) ho5 (λk e e'=>by have:=hlto _ e;have:=hwa _ e';omega) q2 q3 q4 hB2 (by omega) (λk e=>by have:=hwa k e;omega) (λd' hd'=>?_) hkm jj (λz' oa' m' cap' dn' jj h'=>Qr_n (hN z' oa' m' cap' dn' jj h')) (λz' oa' m' cap' dn' jj h'=>Qr_x (hE z' oa' m' cap' dn' jj h'))
  refine ((h.ok d' hd').to (Nat.le_refl _) (Av':=λk=>isB oa k∨isB wa k∨k=xb) λk hlt e=>?_).keep hn25 λ_ _ e=>e.elim
  rcases e with e | e | e
  ·exact e
  ·have:=hwa k e;omega
  ·omega
 refine ⟨?_,?_⟩
 ·refine wv (l:=xs) hr2 q2 (by omega) λap cap' w3 ho3 hn3 hap=>⟨hn3,?_⟩
  rintro b1 w4 hb1 hw4
  obtain ⟨hz4,hn4⟩:=aR hb1 hw4
  have hz4:Blk w4 b1 (aV.cells ⟨0,none,0,0⟩) TDn:=hz4
  have hs3:=hn3.size
  refine ⟨hn3.new hn4,oG hz4 (vs:=aV.cells ⟨d.Code,ap,d.Wl,cap'⟩) rfl (aV.single _) λw5 hz5 hk5=>?_⟩
  have hn35:=hn4.trans hk5 λk hlt e=>by omega
  exact fin w5 b1 ap cap' _ (hn3.new hn35) (by omega) hz5 (Owns.new hn35 ho3) hap
 ·rintro b2 w6 hb2 hw6
  obtain ⟨hz6,hn6⟩:=aR hb2 hw6
  have hz6:Blk w6 b2 (aV.cells ⟨0,none,0,0⟩) TDn:=hz6
  have hs6:=hn6.size
  have hl6:=hz6.lt
  refine ⟨hn6,wv (l:=xs) (hr2.new hn6) q2 (by omega) λap cap' w7 ho7 hn7 hap=>⟨hn6.new hn7,oG (New.blk hn7 hz6) (vs:=aV.cells ⟨d.Code,ap,d.Wl,cap'⟩) rfl (aV.single _) λw8 hz8 hk8=>?_⟩⟩
  have hn28:=(hn6.new hn7).trans hk8 λk hlt e=>by omega
  exact fin w8 b2 ap cap' _ hn28 (by omega) hz8 (Owns.keep hk8 ho7 λk hk e=>by have:=hap k hk;omega) λk hk=>by have:=hap k hk;omega
theorem al1 {w z:World} {R:Value→World→Prop} {Q:Exit→List Value→World→Prop} (hQ:∀ env w',Q .ret env w'=retQ prog fAl R .ret env w') {p1:Int} {a2:Option Addr} {n2 c2 i:Nat} {oa:Option Addr} {m cap:Nat} {dn:List aV} {B:Nat} (h:AlS w z oa m cap dn B) {ab:Nat} {a:AlR} (ha:Blk z ab a.cells TAl) (haok:AlOk a) (hB2:B≤500000) (jj:List Value)
  (hN:∀ z' oa' m' cap' dn' jj,AlS w z' oa' m' cap' dn' (B+1)→Q .normal (bC p1 a2 n2 c2 oa' m' cap' i jj) z')
  (hE:∀ z' oa' m' cap' dn' jj,AlS w z' oa' m' cap' dn' (B+1)→Q (.exit 1) (bC p1 a2 n2 c2 oa' m' cap' i jj) z') :
  W prog (sub (aA fAl) [1,1,0,1,0,0,1,0,0,1]) (gC p1 a2 n2 c2 oa m cap i ⟨ab,0,none⟩ jj) Q z:=by
 rw [kU,kw]
 refine cH (P:=prog) (fn:=fAl) (R:=R) (λenv w'=>hQ env w') ?_
 rw [mR]
 refine ⟨_,ha.cell (i:=0) rfl,?_⟩
 refine aC (dK z a.Batch 20 haok.batch (by omega)) ?_
 rintro v z1 ⟨rfl,rfl⟩
 refine ⟨_,rfl,?_⟩
 have go:∀ b:Bool,(b=false→0<m)→∀ jj,W prog (sub (aA fAl) [1,1,0,1,0,0,1,0,0,1,0,1]) (eA p1 a2 n2 c2 oa m cap i ⟨ab,0,none⟩ b jj) (seqQ (λenv w=>W prog (sub (aA fAl) [1,1,0,1,0,0,1,0,0,1,1]) env Q w) Q) z1:=by
  intro b hb jj
  refine cH (P:=prog) (fn:=fAl) (R:=R) (λenv w'=>hQ env w') ?_
  rw [mT]
  exact lm (λ_=>ph (hE _ _ _ _ _ _ (h.to (by omega)))) (λe=>bF (al5 hQ h ha haok (hb e) hB2 _ hN hE))
 exact bQ (λ_=>bF (go true (λe=>(nomatch e)) _)) (λ_=>bF (go _ (λe=>by
  have e2:¬ (m:Int)=0:=by simpa using e
  omega) _))
def oV (w:World) (x:Value) (w':World):Prop:=∃ (oa:Option Addr) (cap:Nat) (dn:List aV),x=.slice oa dn.length cap∧dn.length≤2000∧Rd w' oa (gI dn).flatten∧DnsB 200000 w' (λ_=>False) dn∧New w w'∧∀ k,isB oa k→w.heap.size≤k
set_option maxHeartbeats 1000000 in
theorem AQ {w:World} {a:Option Addr} {n c:Nat} {dn:List aV} (hn:n=dn.length) (h8:n≤2000) (hr:Rd w a (gI dn).flatten) (hd:DnsB 100000 w (λ_=>False) dn) {a2:Option Addr} {n2 c2:Nat} {l:List AlR} (hn2:n2=l.length) (hl:Rd w a2 (wJ l).flatten) (hok:∀ x ∈ l,AlOk x) (hfew:n2≤6) (p1:Int) :
  Does 12 [.slice a n c,.int .i64 p1,.slice a2 n2 c2] w (oV w):=by
 refine does Tryz.func12 ?_
 rw [p8]
 refine EP hr hn (by omega) λoa cap w1 ho1 hn1 hoa=>?_
 refine aW mix (λq env z=>∃ (i:Nat) (oa:Option Addr) (m cap:Nat) (dn':List aV) (jj:List Value),q=l.length - i∧i≤l.length∧env=dP p1 a2 n2 c2 oa m cap i jj∧AlS w z oa m cap dn' (100000+i)) l.length
  ⟨0,oa,n,cap,dn,_,by omega,by omega,rfl,⟨hn1,ho1,hn.symm,h8,hoa,λd hd'=>?_⟩⟩ ?_
 ·refine ((hd d hd').to (Nat.le_refl _) (Av':=isB oa) λk hlt e=>?_).keep hn1 λ_ _ e=>e.elim
  have:=hoa k e
  omega
 rintro q env z ⟨i,oa,m,cap,dn',jj,rfl,hi,rfl,hst⟩
 refine cH (P:=prog) (fn:=fAl) (R:=oV w) (λ_ _=>rfl) ?_
 rw [kT]
 refine aD (λhq=>?_) (λhq=>?_)
 ·have hg:l[i]?=some l[i]:=List.getElem?_eq_getElem (by omega)
  have hrm:=hok _ (List.getElem_mem (l:=l) (n:=i) (by omega))
  generalize l[i]=x at hg hrm
  have nxt:∀ (z':World) (oa':Option Addr) (m' cap':Nat) (dn2:List aV) (jj:List Value),AlS w z' oa' m' cap' dn2 (100000+i+1)→W prog (sub (aA fAl) [1,1,0,1,0,0,1,1]) (bC p1 a2 n2 c2 oa' m' cap' i jj) (Qr prog fAl (oV w) (seqQ (λenv w2=>∃ m,m<l.length - i∧∃ (i:Nat) (oa:Option Addr) (m_1 cap:Nat) (dn':List aV) (jj:List Value),m=l.length - i∧i≤l.length∧env=dP p1 a2 n2 c2 oa m_1 cap i jj∧AlS w w2 oa m_1 cap dn' (100000+i)) (aK 0 (seqQ (λenv w2=>W prog (sub (aA fAl) [1,1,1]) env (retQ prog fAl (oV w)) w2) (retQ prog fAl (oV w)))))) z':=by
   intro z' oa' m' cap' dn2 jj h'
   rw [mU,w64 (x:=(i:Int)+1) (by omega) (by omega)]
   exact bF ⟨l.length - (i+1),by omega,i+1,oa',m',cap',dn2,_,rfl,by omega,rfl,h'⟩
  refine gN (cells:=aY.cells) aY.len (by omega) (hl.new hst.new) hg rfl hn2 λb o hcc _=>aY.mk_ex x ⟨hcc,?_⟩
  refine mr (vs:=aY.cells x) rfl (aY.single _) λb1 w2 hb1 hz2 hn2'=>?_
  refine al1 (R:=oV w) ?_ (hst.next hn2') hz2 hrm (by omega) _ ?_ ?_
  ·exact λ_ _=>rfl
  ·exact λz' oa' m' cap' dn2 jj h'=>tA (bF (nxt z' oa' m' cap' dn2 jj h'))
  ·exact λz' oa' m' cap' dn2 jj h'=>j8 (bF (nxt z' oa' m' cap' dn2 jj h'))
 ·refine ph (j8 (bF ?_))
  refine cH (P:=prog) (fn:=fAl) (R:=oV w) (λ_ _=>rfl) ?_
  rw [mS]
  have hml:=hst.len
  subst hml
  exact ⟨oa,cap,dn',rfl,hst.few,hst.own.rd,λd hd=>(hst.ok d hd).to (by omega) λ_ _ e=>e.elim,hst.new,hst.fresh⟩
end Go.Proofs.YtafopfaomkklpaaGreat
namespace Go.Proofs.YtafopfaomkklpaaGreat
open Go.Proofs.Tryz
open Go.Eng IntKind
variable (w:World) (R:Value→World→Prop)
theorem vG (a b c d f g:Int) (h:Option Addr) (i k:Nat) (l m:Int) (w:World) (R:Value→World→Prop):fnW prog f198 [.agg #[.int .i64 a,.int .i64 b,.int .i64 c,.int .i64 d,.int .u64 f,.int .u64 g,.slice h i k,.int .u64 l,.int .i64 m]] R w=(∀ b1 w1,b1=w.heap.size→w1=w.alloc (.cells #[.int .i64 a,.int .i64 b,.int .i64 c,.int .i64 d,.int .u64 f,.int .u64 g,.slice h i k,.int .u64 l,.int .i64 m] 91)→∃ n,w1.cell? ⟨b1,0,none⟩=some (.int .i64 n)∧(bif ((n:Int) == 1) then (∃ N_,w1.cell? ⟨b1,3,none⟩=some (.int .i64 N_)∧R (.int .i64 N_) w1) else ((bif ((n:Int) == 2) then (∃ o p q,w1.cell? ⟨b1,6,none⟩=some (.slice o p q)∧R (.int .i64 (p:Nat)) w1) else ((bif ((n:Int) == 3) then ((bif ((n:Int) == 3) then (R (.int .i64 1) w1) else (R (.int .i64 0) w1))) else ((bif ((n:Int) == 4) then (R (.int .i64 1) w1) else (R (.int .i64 0) w1))))))))):=by kernel_rfl
theorem uw (a b c d f g:Int) (h:Option Addr) (i k:Nat) (l m:Int) (w:World) (R:Value→World→Prop):fnW prog f224 [.agg #[.int .i64 a,.int .i64 b,.int .i64 c,.int .i64 d,.int .u64 f,.int .u64 g,.slice h i k,.int .u64 l,.int .i64 m]] R w=(∀ b1 w1,b1=w.heap.size→w1=w.alloc (.cells #[.int .i64 a,.int .i64 b,.int .i64 c,.int .i64 d,.int .u64 f,.int .u64 g,.slice h i k,.int .u64 l,.int .i64 m] 91)→R (.func (.func 257) #[] #[.pointer (some ⟨b1,0,none⟩)]) w1):=by kernel_rfl
def gS (s0:Value) (s3 s4:Int) (j:LV):LV:=s0::jq j 0 2 (.int .i64 s3::.int .i64 s4::jq j 2 24 [])
theorem tu (p0:Value) (c0:Nat):fnW prog f257 [p0,.pointer (some ⟨c0,0,none⟩)] R w=(∀ w1,w1=w.drew→∃ Sx:World→Prop,Sx w1∧∃ At,(∀ u,Sx u→u.cell? ⟨c0,2,none⟩=some (.int .i64 At))∧∃ a b c N_ d f g h i k l,(∀ u,Sx u→aE u ⟨c0,0,none⟩ 0 [.int .i64 a,.int .i64 b,.int .i64 c,.int .i64 N_,.int .u64 d,.int .u64 f,.slice g h i,.int .u64 k,.int .i64 l])∧Calls prog 198 #[.agg #[.int .i64 a,.int .i64 b,.int .i64 c,.int .i64 N_,.int .u64 d,.int .u64 f,.slice g h i,.int .u64 k,.int .i64 l]] w1 λe w2=>∃ m,e=.returned (.int .i64 m)∧Sx w2∧bW prog (.loop (sub (aA f257) [1,0,0])) (gS p0 At m (jp ⟨c0,0,none⟩::uq 2 (jp ⟨c0,2,none⟩::ji At::.agg #[.int .i64 a,.int .i64 b,.int .i64 c,.int .i64 N_,.int .u64 d,.int .u64 f,.slice g h i,.int .u64 k,.int .i64 l]::ji m::uq 19 []))) (aK 0 (retQ prog f257 R)) w2):=by kernel_rfl
theorem ox (s0:Value) (s3 s4:Int) (j:LV) (N1:LV→World→Prop):W prog (sub (aA f257) [1,0,0]) (gS s0 s3 s4 j) (seqQ N1 (aK 0 (retQ prog f257 R))) w=((bif (decide ((s4:Int)>0)) then (v9 prog s0 #[.agg #[.int .i64 s3,.int .i64 (if ((i64.wrap (8 - (Int.tmod s3 8))):Int)<s4 then ((i64.wrap (8 - (Int.tmod s3 8))):Int) else s4)]] w λe w1=>∃ a,e=.returned (.bool a)∧(bif (!a) then (R (.tuple #[]) w1) else (N1 (gS s0 (i64.wrap (s3+(if ((i64.wrap (8 - (Int.tmod s3 8))):Int)<s4 then ((i64.wrap (8 - (Int.tmod s3 8))):Int) else s4))) (i64.wrap (s4 - (if ((i64.wrap (8 - (Int.tmod s3 8))):Int)<s4 then ((i64.wrap (8 - (Int.tmod s3 8))):Int) else s4))) (jg j 0::jg j 1::ji (if ((i64.wrap (8 - (Int.tmod s3 8))):Int)<s4 then ((i64.wrap (8 - (Int.tmod s3 8))):Int) else s4)::jq j 3 4 [ji s4,jb (decide ((s4:Int)>0)),ji s4,ji s3,ji (Int.tmod s3 8),ji (i64.wrap (8 - (Int.tmod s3 8))),ji (if ((i64.wrap (8 - (Int.tmod s3 8))):Int)<s4 then ((i64.wrap (8 - (Int.tmod s3 8))):Int) else s4),s0,ji s3,ji (if ((i64.wrap (8 - (Int.tmod s3 8))):Int)<s4 then ((i64.wrap (8 - (Int.tmod s3 8))):Int) else s4),.agg #[.int .i64 s3,.int .i64 (if ((i64.wrap (8 - (Int.tmod s3 8))):Int)<s4 then ((i64.wrap (8 - (Int.tmod s3 8))):Int) else s4)],jb a,jb (!a),ji s3,ji (if ((i64.wrap (8 - (Int.tmod s3 8))):Int)<s4 then ((i64.wrap (8 - (Int.tmod s3 8))):Int) else s4),ji (i64.wrap (s3+(if ((i64.wrap (8 - (Int.tmod s3 8))):Int)<s4 then ((i64.wrap (8 - (Int.tmod s3 8))):Int) else s4))),ji s4,ji (if ((i64.wrap (8 - (Int.tmod s3 8))):Int)<s4 then ((i64.wrap (8 - (Int.tmod s3 8))):Int) else s4),ji (i64.wrap (s4 - (if ((i64.wrap (8 - (Int.tmod s3 8))):Int)<s4 then ((i64.wrap (8 - (Int.tmod s3 8))):Int) else s4)))])) w1))) else (R (.tuple #[]) w))):=by kernel_rfl
end Go.Proofs.YtafopfaomkklpaaGreat
namespace Go.Proofs.YtafopfaomkklpaaGreat
open Go.Eng
theorem Fs {w:World} {ad:Addr} {v:aU} {K:Int→Int→Int→Int→Int→Int→Option Addr→Nat→Nat→Int→Int→Prop} (h:aE w ad 0 v.cells)
  (hk:K v.Kind v.Node v.At v.N v.Old v.New v.Words v.Wl v.Wc v.Key v.Boot) :
  ∃ (Kind:Int) (Node:Int) (At:Int) (N:Int) (Old:Int) (New:Int) (Words:Option Addr) (Wl:Nat) (Wc:Nat) (Key:Int) (Boot:Int),
   aE w ad 0 [.int .i64 Kind,.int .i64 Node,.int .i64 At,.int .i64 N,.int .u64 Old,.int .u64 New,.slice Words Wl Wc,.int .u64 Key,.int .i64 Boot]∧K Kind Node At N Old New Words Wl Wc Key Boot:=
 ⟨_,_,_,_,_,_,_,_,_,_,_,h,hk⟩
theorem EQ {S:World→Prop} {ad:Addr} {v:aU} {K:Int→Int→Int→Int→Int→Int→Option Addr→Nat→Nat→Int→Int→Prop} (h:∀ u,S u→aE u ad 0 v.cells)
  (hk:K v.Kind v.Node v.At v.N v.Old v.New v.Words v.Wl v.Wc v.Key v.Boot) :
  ∃ (Kind:Int) (Node:Int) (At:Int) (N:Int) (Old:Int) (New:Int) (Words:Option Addr) (Wl:Nat) (Wc:Nat) (Key:Int) (Boot:Int),
   (∀ u,S u→aE u ad 0 [.int .i64 Kind,.int .i64 Node,.int .i64 At,.int .i64 N,.int .u64 Old,.int .u64 New,.slice Words Wl Wc,.int .u64 Key,.int .i64 Boot])∧K Kind Node At N Old New Words Wl Wc Key Boot:=
 ⟨_,_,_,_,_,_,_,_,_,_,_,h,hk⟩
abbrev TV:TypeId:=91
theorem vbox {w:World} {b:Nat} {v:aU} (h:Blk w b v.cells TV):aE w ⟨b,0,none⟩ 0 v.cells:=aH h (by simp [aU.cells])
theorem ES (w:World) (v:aU):Blk (w.alloc (.cells v.cells.toArray TV)) w.heap.size v.cells TV:=nS _ _ _
def aU.count (v:aU):Int:=if v.Kind=1 then v.N else if v.Kind=2 then v.Wl else if v.Kind=3∨v.Kind=4 then 1 else 0
theorem D2 (w:World) (v:aU):Does 198 [v.val] w λx w'=>x=.int .i64 v.count∧New w w':=by
 refine does Tryz.func198 ?_
 refine Eq.mpr (vG v.Kind v.Node v.At v.N v.Old v.New v.Words v.Wl v.Wc v.Key v.Boot w _) ?_
 rintro b1 w1 rfl rfl
 have hb:=ES w v
 have hn:=ke w (.cells v.cells.toArray TV)
 refine ⟨_,hb.cell rfl,bB (λh1=>⟨_,hb.cell rfl,?_,hn⟩) (λh1=>bB (λh2=>⟨_,_,_,hb.cell rfl,?_,hn⟩) (λh2=>bB (λh3=>bB (λ_=>⟨?_,hn⟩) (λh=>absurd h3 h)) (λh3=>bB (λh4=>⟨?_,hn⟩) (λh4=>⟨?_,hn⟩))))⟩
 ·simp [aU.count,h1]
 ·simp [aU.count,h2]
 ·simp [aU.count,h3]
 ·simp [aU.count,h4]
 ·simp [aU.count,h1,h2,h3,h4]
end Go.Proofs.YtafopfaomkklpaaGreat
namespace Go.Proofs.YtafopfaomkklpaaGreat
open Go.Proofs.Tryz
open Go.Eng Go.RowKit
def encP (x:Int×Int):Array Value:=#[.agg #[.int .i64 x.1,.int .i64 x.2]]
def cZ:Nat→Int→Int→List (Int×Int)
 | 0,_,_=>[]
 |f+1,at_,left=>if left≤0 then [] else (at_,if 8 - at_ % 8<left then 8 - at_ % 8 else left)::
   cZ f (at_+(if 8 - at_ % 8<left then 8 - at_ % 8 else left)) (left - (if 8 - at_ % 8<left then 8 - at_ % 8 else left))
def aU.pieces (v:aU):List (Int×Int):=cZ v.count.toNat v.At v.count
theorem wK {w w':World} (h:Go.Eng.New w w'):w.grownBy w' none:=⟨h.os,h.tape,h.output,h.size,λk hk _=>h.block k hk id⟩
theorem zF {m:Nat} {P:Program} {l:Nat} {args:Array Value} {W:World} {R:Ending→World→Prop} (h:YieldAt Fence.wide m P l args W R) (k:Nat):YieldAt Fence.wide k P l args W R:=by
 obtain ⟨fn,tmps,assign,body,h1,h2⟩:=h
 exact ⟨fn,tmps,assign,body,h1,h2.1,λc cs _=>h2.2 c cs (room_wide _)⟩
theorem zG (n l Bn n₀:Nat) (v:aU) (J Jx:List (Int×Int)→World→Prop) (ha0:0≤v.At) (ha1:v.At≤1000000) (hc0:1≤v.count) (hc1:v.count≤1000000) (W:World)
  (hJ:AbidesFrom W.heap.size J) (hY:∀ pre x W,J pre W→pre.length<v.pieces.length→YieldAt Fence.wide (n - 1) prog l (encP x) W λe W'=>
   (e=.returned (.bool true)∧J (pre++[x]) W'∧Below n₀ W W')∨(e=.returned (.bool false)∧Jx (pre++[x]) W'))
  (hBn:∀ u,Below (Bn+1) W u→aE u ⟨Bn,0,none⟩ 0 v.cells) (hb:Bn+1≤W.heap.size) (h0:J [] W) :
  CallsIn Fence.wide n prog 257 #[.func (.yield l) #[] #[],.pointer (some ⟨Bn,0,none⟩)] W λe W'=>(∃ v,e=.returned v)∧
   ((∃ ys,ys=v.pieces∧J ys W')∨(∃ pre,pre <+: v.pieces∧Jx pre W')):=by
 refine callsIn_wide.2 (Calls.mono (R:=λe w'=>∃ x,e=.returned x∧((∃ ys,ys=v.pieces∧J ys w')∨(∃ pre,pre <+: v.pieces∧Jx pre w'))) ?_ λe w' ⟨x,hx,hr⟩=>⟨⟨x,hx⟩,hr⟩)
 refine does Tryz.func257 (args:=[.func (.yield l) #[] #[],.pointer (some ⟨Bn,0,none⟩)]) (R:=λ_ w'=>(∃ ys,ys=v.pieces∧J ys w')∨(∃ pre,pre <+: v.pieces∧Jx pre w')) ?_
 rw [tu]
 intro w1 hw1
 have hn1:Go.Eng.New W w1:=by rw [hw1];exact aT _
 clear hw1
 have hbl:∀ u,Go.Eng.New w1 u→Below (Bn+1) W u:=λu hu=>(hn1.new hu).below (by omega) λ_ _ h=>h
 refine ⟨λu=>Go.Eng.New w1 u,Keep.refl _ _,v.At,λu hu=>?_,?_⟩
 ·have:=hBn u (hbl u hu)
  exact this.2.2.1
 refine EQ (v:=v) (λu hu=>hBn u (hbl u hu)) ?_
 refine aC (D2 _ v) ?_
 rintro r w2 ⟨rfl,hn2⟩
 refine ⟨_,rfl,hn2,?_⟩
 have hJ2:J [] w2:=hJ _ _ _ none h0 (wK (hn1.new hn2)) (λ_ h=>by cases h)
 refine aW mix (λm env u=>∃ (f:Nat) (at_ left:Int) (jj:List Value) (pre:List (Int×Int)),m=f∧left≤f∧0≤at_∧0≤left∧at_+left≤2000000∧env=gS (.func (.yield l) #[] #[]) at_ left jj∧v.pieces=pre++cZ f at_ left∧J pre u) v.count.toNat
  ⟨v.count.toNat,v.At,v.count,_,[],rfl,by omega,ha0,by omega,by omega,rfl,rfl,hJ2⟩ ?_
 rintro f env u ⟨_,at_,left,jj,pre,rfl,hlf,hat,hle,hsum,rfl,hpre,hJu⟩
 rw [ox]
 refine aD (λhp=>?_) (λhp=>?_)
 ·obtain ⟨f',rfl⟩:∃ f',f=f'+1:=⟨f - 1,by omega⟩
  have hmod:Int.tmod at_ 8=at_ % 8:=Int.tmod_eq_emod_of_nonneg hat
  rw [hmod,w64 (x:=8 - at_ % 8) (by omega) (by omega)]
  generalize hk:(if 8 - at_ % 8<left then 8 - at_ % 8 else left)=k
  have hk1:1≤k∧k≤left∧k≤8:=by rw [←hk];split<;>omega
  have hcons:cZ (f'+1) at_ left=(at_,k)::cZ f' (at_+k) (left - k):=by
   rw [cZ,if_neg (by omega),hk]
  rw [hcons] at hpre
  have hy:=zF (hY pre (at_,k) u hJu (by rw [hpre];simp)) 0
  refine Exists.imp (λfn=>Exists.imp λtmps=>Exists.imp λassign=>Exists.imp λbody=>And.imp id λh=>RoundIn.mono h ?_) hy
  rintro e w3 (⟨rfl,hJ3,_⟩ | ⟨rfl,hJx3⟩)
  ·refine ⟨_,rfl,eE rfl ?_⟩
   rw [w64 (by omega) (by omega),w64 (by omega) (by omega)]
   refine ⟨f',by omega,f',at_+k,left - k,_,pre++[(at_,k)],rfl,by omega,by omega,by omega,by omega,rfl,by rw [hpre];simp,hJ3⟩
  ·exact ⟨_,rfl,cM rfl (.inr ⟨_,⟨cZ f' (at_+k) (left - k),by rw [hpre];simp⟩,hJx3⟩)⟩
 ·refine .inl ⟨pre,?_,hJu⟩
  have:left=0:=by omega
  subst this
  rw [hpre]
  cases f<;>simp [cZ]
end Go.Proofs.YtafopfaomkklpaaGreat
