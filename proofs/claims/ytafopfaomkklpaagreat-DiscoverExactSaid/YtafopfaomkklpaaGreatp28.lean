/- A part of the proof. -/
import Derived.Test.YtafopfaomkklpaaGreatp27
import Derived.Test.YtafopfaomkklpaaGreatProg
import Derived.Test.YtafopfaomkklpaaGreatp03
set_option linter.unusedVariables false
namespace Go.Proofs.YtafopfaomkklpaaGreat
open Go.Eng
def remP (p:dR):Nat:=(npV p.V).length - p.Executed.toNat
def rem:List dR→Nat
 | []=>0
 |p::ps=>remP p+rem ps
def msr (Q:Nat→List dR):Nat→Nat
 | 0=>0
 |n+1=>msr Q n+rem (Q n)
theorem Fx (Q:Nat→List dR) (i:Nat) (ps:List dR):∀ n,n≤i→msr (setQ Q i ps) n=msr Q n
 | 0,_=>rfl
 |n+1,h=>by
  unfold msr
  rw [Fx Q i ps n (by omega)]
  unfold setQ
  rw [if_neg (by omega)]
theorem Da (Q:Nat→List dR) (i:Nat) (ps:List dR):∀ n,i<n→msr (setQ Q i ps) n+rem (Q i)=msr Q n+rem ps
 | 0,h=>by omega
 |n+1,h=>by
  unfold msr
  by_cases e:i=n
  ·subst e
   rw [Fx Q i ps i (Nat.le_refl _)]
   unfold setQ
   rw [if_pos rfl]
   omega
  ·have:=Da Q i ps n (by omega)
   have e2:setQ Q i ps n=Q n:=by unfold setQ;rw [if_neg (by omega)]
   rw [e2]
   omega
structure Mid (u:World) (fb:Nat) (F:Fa) (N:List cB) (Cl:List CliR) (P:Nat→List bS) (c m:Nat) (Av:Nat→Prop) (Q:Nat→List dR) (db hb:Nat) (dn:List aY) (hv:List Bool) (sl:Int):Prop where
 st:PlSt u fb F N Cl P c m Av Q
 row:∃ cr:CliR,Cl[c]?=some cr∧cr.On=true∧cr.Done=some ⟨db,0,none⟩∧cr.Dl=m∧cr.Have=some ⟨hb,0,none⟩∧cr.Hl=m
 done:Blk u db (gS dn).flatten 53
 dlen:dn.length=m
 dok:∀ d ∈ dn,DnAt u Av d
 have_:Blk u hb (bs hv) 4
 hlen:hv.length=m
 cov:∀ t:Nat,hv[t]?=some false→(t:Int)≠sl→∃ (i:Nat) (p:dR),i<N.length∧p ∈ Q i∧p.Slot=(t:Int)
 avd:Av db∧Av hb
 new_:¬ F.own fb N Cl.length db∧¬ F.own fb N Cl.length hb
theorem uX.mid {u:World} {fb:Nat} {F:Fa} {N:List cB} {Cl:List CliR} {P:Nat→List bS} {c m:Nat} {Av:Nat→Prop} {Q:Nat→List dR} {db hb:Nat} {dn:List aY} {hv:List Bool} (h:uX u fb F N Cl P c m Av Q db hb dn hv):Mid u fb F N Cl P c m Av Q db hb dn hv (-1):=
 ⟨h.st,h.row,h.done,h.dlen,h.dok,h.have_,h.hlen,λt ht _=>h.cov t ht,h.avd,h.new_⟩
theorem Mid.run {u:World} {fb:Nat} {F:Fa} {N:List cB} {Cl:List CliR} {P:Nat→List bS} {c m:Nat} {Av:Nat→Prop} {Q:Nat→List dR} {db hb:Nat} {dn:List aY} {hv:List Bool} (h:Mid u fb F N Cl P c m Av Q db hb dn hv (-1)):uX u fb F N Cl P c m Av Q db hb dn hv:=
 ⟨h.st,h.row,h.done,h.dlen,h.dok,h.have_,h.hlen,λt ht=>h.cov t ht (by omega),h.avd,h.new_⟩
theorem DnAt.keep {u z:World} {Av M:Nat→Prop} {d:aY} (h:DnAt u Av d) (hk:Keep M u z) (hM:∀ k,k<u.heap.size→M k→Av k):DnAt z Av d:=by
 obtain ⟨⟨xs,h1,h2,h3⟩,h4,h5⟩:=h
 exact ⟨⟨xs,ko hk h1 λk hlt hb hm=>h4 k hb (hM k hlt hm),h2,h3⟩,h4,λk hb=>Nat.lt_of_lt_of_le (h5 k hb) hk.size⟩
theorem DnAt.to {u:World} {Av Av':Nat→Prop} {d:aY} (h:DnAt u Av d) (ha:∀ k,k<u.heap.size→Av' k→Av k):DnAt u Av' d:=⟨h.1,λk hb hA=>h.2.1 k hb (ha k (h.2.2 k hb) hA),h.2.2⟩
theorem PlSt.keep {u z:World} {fb:Nat} {F:Fa} {N:List cB} {Cl:List CliR} {P:Nat→List bS} {c m:Nat} {Av:Nat→Prop} {Q:Nat→List dR} (h:PlSt u fb F N Cl P c m Av Q) {M:Nat→Prop} (hk:Keep M u z) (hM:∀ k,k<u.heap.size→M k→Av k) (hO:∀ k,F.own fb N Cl.length k→¬ M k):PlSt z fb F N Cl P c m Av Q:=
 ⟨h.fab.keep hk hO,h.hc,λi pr hi=>⟨(h.pairs i pr hi).1,(h.pairs i pr hi).2.keep hk hM⟩,h.others,λk hk'=>Nat.lt_of_lt_of_le (h.ams k hk') hk.size,h.own⟩
theorem Mid.keep {u z:World} {fb:Nat} {F:Fa} {N:List cB} {Cl:List CliR} {P:Nat→List bS} {c m:Nat} {Av:Nat→Prop} {Q:Nat→List dR} {db hb:Nat} {dn:List aY} {hv:List Bool} {sl:Int} (h:Mid u fb F N Cl P c m Av Q db hb dn hv sl) {M:Nat→Prop} (hk:Keep M u z) (hM:∀ k,k<u.heap.size→M k→Av k) (hO:∀ k,F.own fb N Cl.length k→¬ M k) (h1:¬ M db) (h2:¬ M hb):Mid z fb F N Cl P c m Av Q db hb dn hv sl:=
 ⟨h.st.keep hk hM hO,h.row,hk.blk h.done h1,h.dlen,λd hd=>(h.dok d hd).keep hk hM,hk.blk h.have_ h2,h.hlen,h.cov,h.avd,h.new_⟩
theorem Mid.next {u z:World} {fb:Nat} {F:Fa} {N:List cB} {Cl:List CliR} {P:Nat→List bS} {c m:Nat} {Av:Nat→Prop} {Q:Nat→List dR} {db hb:Nat} {dn:List aY} {hv:List Bool} {sl:Int} (h:Mid u fb F N Cl P c m Av Q db hb dn hv sl) (hn:New u z):Mid z fb F N Cl P c m Av Q db hb dn hv sl:=
 h.keep hn (λ_ _ e=>e.elim) (λ_ _=>id) id id
theorem Mid.box {u z:World} {fb:Nat} {F:Fa} {N:List cB} {Cl:List CliR} {P:Nat→List bS} {c m:Nat} {Av:Nat→Prop} {Q:Nat→List dR} {db hb:Nat} {dn:List aY} {hv:List Bool} {sl:Int} (h:Mid u fb F N Cl P c m Av Q db hb dn hv sl) (hn:New u z) {b:Nat} (h1:u.heap.size≤b) (h2:b<z.heap.size):Mid z fb F N Cl P c m (λk=>Av k∨k=b) Q db hb dn hv sl:=by
 have to:∀ k,k<u.heap.size→(Av k∨k=b)→Av k:=λk hlt e=>e.elim id λe=>by omega
 refine ⟨⟨h.st.fab.new hn,h.st.hc,λi pr hi=>⟨(h.st.pairs i pr hi).1,((h.st.pairs i pr hi).2.to to).next hn⟩,h.st.others,λk hk=>?_,λk hk=>.inl (h.st.own k hk)⟩,h.row,New.blk hn h.done,h.dlen,λd hd=>((h.dok d hd).to to).keep hn λ_ _ e=>e.elim,New.blk hn h.have_,h.hlen,h.cov,⟨.inl h.avd.1,.inl h.avd.2⟩,h.new_⟩
 rcases hk with e | e
 ·exact Nat.lt_of_lt_of_le (h.st.ams k e) hn.size
 ·omega
theorem uX.step {u z:World} {fb:Nat} {F:Fa} {N:List cB} {Cl:List CliR} {P:Nat→List bS} {c m:Nat} {Av:Nat→Prop} {Q:Nat→List dR} {db hb:Nat} {dn:List aY} {hv:List Bool} (h:Mid u fb F N Cl P c m Av Q db hb dn hv (-1)) {i:Nat} {pr:bS} (hi:(P c)[i]?=some pr) {q:dR} {qs:List dR} (hQ:Q i=q::qs) {x:Value} (hst:StR u fb F N Cl P c i m pr Av q qs x z) :
  ∃ (d:aY) (slot:Int) (done:Bool) (P':Nat→List bS) (Q':Nat→List dR) (sl:Int),x=.tuple #[d.val,.int .i64 slot,.bool done,.bool true]∧Mid z fb F N Cl P' c m Av Q' db hb dn hv sl∧msr Q' N.length<msr Q N.length∧Keep (λk=>F.own fb N Cl.length k) u z∧
   ((done=true∧sl=slot∧0≤slot∧slot<m∧DnAt z Av d)∨(done=false∧sl=-1)):=by
 obtain ⟨d,slot,done,a,n,cap,ps,hx,hf,hq,hk,hcase⟩:=hst
 have hiN:i<N.length:=by have:=(h.st.fab.pairs c h.st.hc).2;have:=dF hi;omega
 have hpr:=(h.st.pairs i pr hi).2
 rw [hQ] at hpr
 have hqo:=hpr.ok q (List.mem_cons_self ..)
 have hown:∀ k,(k=F.pb c∨WBk N k)→F.own fb N Cl.length k:=λk e=>by
  rcases e with e | ⟨r,hr,hb⟩
  ·exact .inr (.inr (.inr (.inr (.inl ⟨c,h.st.hc,e⟩))))
  ·exact .inr (.inr (.inr (.inr (.inr ⟨r,hr,hb⟩))))
 have hM:∀ k,k<u.heap.size→(k=F.pb c∨WBk N k)→Av k:=λk _ e=>h.st.own k (hown k e)
 have hms:=Da Q i ps N.length hiN
 rw [hQ] at hms
 have hqex:=hqo.ex
 have mid:∀ {sl:Int},(∀ t:Nat,hv[t]?=some false→(t:Int)≠sl→∃ (j:Nat) (p:dR),j<N.length∧p ∈ setQ Q i ps j∧p.Slot=(t:Int))→Mid z fb F N Cl (setP P c ((P c).set i ⟨pr.Client,pr.Inc,pr.Node,a,n,cap⟩)) c m Av (setQ Q i ps) db hb dn hv sl:=λhc=>
  ⟨h.st.set hk hM hi hf hq,h.row,hk.blk h.done λe=>h.new_.1 (hown _ e),h.dlen,λd hd=>(h.dok d hd).keep hk hM,hk.blk h.have_ λe=>h.new_.2 (hown _ e),h.hlen,hc,h.avd,h.new_⟩
 have cov:∀ (t:Nat),hv[t]?=some false→(∃ (j:Nat) (p:dR),j<N.length∧p ∈ setQ Q i ps j∧p.Slot=(t:Int))∨q.Slot=(t:Int):=by
  intro t ht
  obtain ⟨j,p,g1,g2,g3⟩:=h.cov t ht (by omega)
  by_cases e:j=i
  ·subst e
   rw [hQ] at g2
   rcases List.mem_cons.1 g2 with rfl | g2
   ·exact .inr g3
   ·refine .inl ⟨j,p,g1,?_,g3⟩
    unfold setQ
    rw [if_pos rfl]
    rcases hcase with ⟨_,rfl,_⟩ | ⟨_,q',rfl,_⟩
    ·exact g2
    ·exact List.mem_cons_of_mem _ g2
  ·refine .inl ⟨j,p,g1,?_,g3⟩
   unfold setQ
   rw [if_neg e]
   exact g2
 have hkO:Keep (λk=>F.own fb N Cl.length k) u z:=hk.mono λk _ e=>hown k e
 rcases hcase with ⟨hd,rfl,hs,hdn⟩ | ⟨hd,q',rfl,hq1,hq2,hq3⟩
 ·refine ⟨d,slot,done,_,_,slot,hx,mid λt ht hne=>?_,?_,hkO,.inl ⟨hd,rfl,by rw [hs];exact hqo.slot.1,by rw [hs];exact hqo.slot.2,hdn⟩⟩
  ·rcases cov t ht with e | e
   ·exact e
   ·rw [hs] at hne;exact absurd e.symm hne
  ·have:rem (q::ps)=remP q+rem ps:=rfl
   have:remP q=(npV q.V).length - q.Executed.toNat:=rfl
   omega
 ·refine ⟨d,slot,done,_,_,-1,hx,mid λt ht hne=>?_,?_,hkO,.inr ⟨hd,rfl⟩⟩
  ·rcases cov t ht with e | e
   ·exact e
   ·exact ⟨i,q',hiN,by unfold setQ;rw [if_pos rfl];exact List.mem_cons_self ..,by rw [hq1];exact e⟩
  ·have e1:rem (q::qs)=remP q+rem qs:=rfl
   have e2:rem (q'::qs)=remP q'+rem qs:=rfl
   have e3:remP q=(npV q.V).length - q.Executed.toNat:=rfl
   have e4:remP q'=(npV q.V).length - (q.Executed+1).toNat:=by unfold remP;rw [hq2,hq3]
   omega
theorem Bb {l:List aY} {i:Nat} (hi:i<l.length) (d:aY):splice (gS l).flatten (i * 2) d.cells=(gS (l.set i d)).flatten:=by
 have hs:∀ r ∈ gS l,r.length=2:=λr hr=>by obtain ⟨y,_,rfl⟩:=List.mem_map.1 hr;rfl
 rw [zx hs (by simpa [gS] using hi) rfl]
 simp [gS]
theorem Mid.put {u z:World} {fb:Nat} {F:Fa} {N:List cB} {Cl:List CliR} {P:Nat→List bS} {c m:Nat} {Av:Nat→Prop} {Q:Nat→List dR} {db hb:Nat} {dn:List aY} {hv:List Bool} {sl:Int} (h:Mid u fb F N Cl P c m Av Q db hb dn hv sl) {s:Nat} (hs:s<m) {d:aY} (hd:DnAt u Av d) (hz:z=puts u ⟨db,s * 2,none⟩ 0 d.cells):Mid z fb F N Cl P c m Av Q db hb (dn.set s d) hv sl:=by
 have hk:Keep (λk=>k=db) u z:=by rw [hz];exact dU _ _ _ _ _
 have hM:∀ k,k<u.heap.size→k=db→Av k:=λk _ e=>by rw [e];exact h.avd.1
 have hO:∀ k,F.own fb N Cl.length k→¬ k=db:=λk hk e=>h.new_.1 (e▸hk)
 have hb':=h.done.puts (o:=s * 2) (i:=0) (vs:=d.cells)
 rw [Nat.add_zero,Bb (by rw [h.dlen];exact hs),←hz] at hb'
 exact ⟨h.st.keep hk hM hO,h.row,hb',by rw [List.length_set];exact h.dlen,λd' hd'=>by
  rcases List.mem_or_eq_of_mem_set hd' with e | rfl
  ·exact (h.dok d' e).keep hk hM
  ·exact hd.keep hk hM,hk.blk h.have_ (h.have_.ne h.done (by decide)),h.hlen,h.cov,h.avd,h.new_⟩
theorem Mid.mark {u z:World} {fb:Nat} {F:Fa} {N:List cB} {Cl:List CliR} {P:Nat→List bS} {c m:Nat} {Av:Nat→Prop} {Q:Nat→List dR} {db hb:Nat} {dn:List aY} {hv:List Bool} {s:Nat} (h:Mid u fb F N Cl P c m Av Q db hb dn hv s) (hs:s<m) (hz:z=u.setCell ⟨hb,s,none⟩ (.bool true)):Mid z fb F N Cl P c m Av Q db hb dn (hv.set s true) (-1):=by
 have hk:Keep (λk=>k=hb) u z:=by rw [hz];exact aN _ _ _ _
 have hM:∀ k,k<u.heap.size→k=hb→Av k:=λk _ e=>by rw [e];exact h.avd.2
 have hO:∀ k,F.own fb N Cl.length k→¬ k=hb:=λk hk e=>h.new_.2 (e▸hk)
 have hb':=h.have_.setCell (i:=s) (.bool true)
 rw [GZ,←hz] at hb'
 refine ⟨h.st.keep hk hM hO,h.row,hk.blk h.done (h.done.ne h.have_ (by decide)),h.dlen,λd' hd'=>(h.dok d' hd').keep hk hM,hb',by rw [List.length_set];exact h.hlen,λt ht _=>?_,h.avd,h.new_⟩
 by_cases e:s=t
 ·subst e
  rw [List.getElem?_set_self (by rw [h.hlen];exact hs)] at ht
  cases ht
 ·rw [List.getElem?_set_ne e] at ht
  exact h.cov t ht (by omega)
end Go.Proofs.YtafopfaomkklpaaGreat
namespace Go.Proofs.YtafopfaomkklpaaGreat
open Go.Proofs.Tryz
open Go.Eng IntKind
variable (w:World) (R:Value→World→Prop)
def ek (s1:Int) (s2:Option Addr) (a b:Nat) (s7:Option Addr) (c d:Nat) (s8:Int) (j:LV):LV:=[jg j 0,(.int .i64 s1),(.slice s2 a b),jg j 1,jg j 2,jg j 3,jg j 4,(.slice s7 c d),(.int .i64 s8),jg j 5,jg j 6,jg j 7,jg j 8,jg j 9,jg j 10,jg j 11,jg j 12,jg j 13,jg j 14,jg j 15,jg j 16,jg j 17,jg j 18,jg j 19,jg j 20,jg j 21,jg j 22,jg j 23,jg j 24,jg j 25,jg j 26,jg j 27,jg j 28,jg j 29,jg j 30,jg j 31,jg j 32,jg j 33,jg j 34,jg j 35,jg j 36,jg j 37,jg j 38,jg j 39,jg j 40,jg j 41,jg j 42,jg j 43,jg j 44,jg j 45,jg j 46,jg j 47,jg j 48,jg j 49,jg j 50,jg j 51,jg j 52,jg j 53,jg j 54,jg j 55,jg j 56,jg j 57,jg j 58,jg j 59,jg j 60,jg j 61,jg j 62,jg j 63,jg j 64,jg j 65,jg j 66,jg j 67,jg j 68,jg j 69,jg j 70,jg j 71,jg j 72,jg j 73,jg j 74,jg j 75,jg j 76,jg j 77,jg j 78,jg j 79,jg j 80,jg j 81,jg j 82,jg j 83,jg j 84,jg j 85,jg j 86,jg j 87,jg j 88,jg j 89,jg j 90,jg j 91,jg j 92,jg j 93,jg j 94,jg j 95,jg j 96]
def ir (s1:Int) (s2:Option Addr) (a b:Nat) (s7:Option Addr) (c d:Nat) (s8:Int) (f:Addr) (j:LV):LV:=jq j 0 1 (.int .i64 s1::.slice s2 a b::jq j 1 4 (.slice s7 c d::.int .i64 s8::.pointer (some f)::jq j 5 91 []))
def kq (s7:Option Addr) (a b:Nat) (j:LV):LV:=jq j 0 7 (.slice s7 a b::jq j 7 93 [])
def fH (s1:Int) (s2:Option Addr) (a b:Nat) (s7:Option Addr) (c d:Nat) (s8:Int) (f:Addr) (g:Bool) (j:LV):LV:=jq j 0 1 (.int .i64 s1::.slice s2 a b::jq j 1 4 (.slice s7 c d::.int .i64 s8::.pointer (some f)::jq j 5 23 (.bool g::jq j 28 67 [])))
def bH (s1:Int) (s2:Option Addr) (a b:Nat) (s7:Option Addr) (c d:Nat) (s8:Int) (j:LV):LV:=jq j 0 1 (.int .i64 s1::.slice s2 a b::jq j 1 4 (.slice s7 c d::.int .i64 s8::jq j 5 92 []))
def iu (s1:Int) (s2:Option Addr) (a b:Nat) (s7:Option Addr) (c d:Nat) (s8:Int) (f:Addr) (j:LV):LV:=jq j 0 1 (.int .i64 s1::.slice s2 a b::jq j 1 4 (.slice s7 c d::.int .i64 s8::.pointer (some f)::jq j 5 91 []))
def em (s1:Int) (s2:Option Addr) (a b:Nat) (s7:Option Addr) (c d:Nat) (s8:Int) (f:Addr) (g:Int) (h:Addr) (j:LV):LV:=jq j 0 1 (.int .i64 s1::.slice s2 a b::jq j 1 4 (.slice s7 c d::.int .i64 s8::.pointer (some f)::.int .i64 g::.pointer (some h)::jq j 5 89 []))
def bW (s1:Int) (s2:Option Addr) (a b:Nat) (s7:Option Addr) (c d:Nat) (s8 f:Int) (g:Addr) (j:LV):LV:=jq j 0 1 (.int .i64 s1::.slice s2 a b::jq j 1 4 (.slice s7 c d::.int .i64 s8::jq j 5 1 (.int .i64 f::.pointer (some g)::jq j 6 89 [])))
theorem rQ (p0:Option Addr) (a b:Nat) (p1:Int) (p2:Option Addr) (c d:Nat):fnW prog f12 [.slice p0 a b,.int .i64 p1,.slice p2 c d] R w=(∃ ap f g,∃ w1,(Builtin.append_ #[46,46] 46 #[.slice none 0 0,.slice p0 a b]).run prog w=.ok (.slice ap f g) w1∧bT prog (.loop (sub (aA f12) [1,1,0,1,0,0])) (ek p1 p2 c d ap f g 0 (js p0 a b::uq 3 (jz::uq 3 (js p0 a b::js ap f g::uq 87 [])))) (aI 0 (nx f12 [1,1,1] R)) w1):=by kernel_rfl
theorem lW (s1:Int) (s2:Option Addr) (a b:Nat) (s7:Option Addr) (c d:Nat) (s8:Int) (j:LV) (QX:Exit→LV→World→Prop):W prog (sub (aA f12) [1,1,0,1,0,0]) (ek s1 s2 a b s7 c d s8 j) (Qr prog f12 R QX) w=((bif (decide ((s8:Int)<(a:Nat))) then (idxS s2 a s8 4 λad=>aZ.ex λr=>aH w ad 0 r.cells∧∀ b1 w1,b1=w.heap.size→w1=w.alloc (.cells #[.int .i64 0,.int .i64 0,.int .i64 0,.int .u64 0] 101)→wrAt w1 ⟨b1,0,none⟩ 0 r.cells∧∀ w2,w2=puts w1 ⟨b1,0,none⟩ 0 r.cells→W prog (sub (aA f12) [1,1,0,1,0,0,1,0,0,1]) (ir s1 s2 a b s7 c d s8 ⟨b1,0,none⟩ (jq j 0 5 (jq j 6 4 (ji s8::js s2 a b::jn a::jb (decide ((s8:Int)<(a:Nat)))::jg j 14::jg j 15::js s2 a b::ji s8::jp ad::r.val::jq j 20 77 [])))) (aI 1 (seqQ (λenv w=>W prog (sub (aA f12) [1,1,0,1,0,0,1,1]) env (Qr prog f12 R QX) w) (Qr prog f12 R QX))) w2) else (QX (.exit 0) (kq s7 c d (jg j 0::ji s1::js s2 a b::jq j 1 4 (ji s8::jq j 5 5 (ji s8::js s2 a b::jn a::jb (decide ((s8:Int)<(a:Nat)))::jq j 14 83 [])))) w))):=by kernel_rfl
theorem lX (env:LV) (w:World) (Q:Exit→LV→World→Prop):W prog (sub (aA f12) [1,1,0,1,0,0,1,0,0,1]) env Q w=W prog (sub (aA f12) [1,1,0,1,0,0,1,0,0,1,0]) env (seqQ (λenv w=>W prog (sub (aA f12) [1,1,0,1,0,0,1,0,0,1,1]) env Q w) Q) w:=by
 rw [show sub (aA f12) [1,1,0,1,0,0,1,0,0,1]=.seq (sub (aA f12) [1,1,0,1,0,0,1,0,0,1,0]) (sub (aA f12) [1,1,0,1,0,0,1,0,0,1,1]) by kernel_rfl]
 generalize sub (aA f12) [1,1,0,1,0,0,1,0,0,1,0]=a
 generalize sub (aA f12) [1,1,0,1,0,0,1,0,0,1,1]=b
 kernel_rfl
theorem lJ (env:LV) (w:World) (Q:Exit→LV→World→Prop):W prog (sub (aA f12) [1,1,0,1,0,0,1,0,0,1,0]) env Q w=W prog (sub (aA f12) [1,1,0,1,0,0,1,0,0,1,0,0]) env (seqQ (λenv w=>W prog (sub (aA f12) [1,1,0,1,0,0,1,0,0,1,0,1]) env Q w) Q) w:=by
 rw [show sub (aA f12) [1,1,0,1,0,0,1,0,0,1,0]=.seq (sub (aA f12) [1,1,0,1,0,0,1,0,0,1,0,0]) (sub (aA f12) [1,1,0,1,0,0,1,0,0,1,0,1]) by kernel_rfl]
 generalize sub (aA f12) [1,1,0,1,0,0,1,0,0,1,0,0]=a
 generalize sub (aA f12) [1,1,0,1,0,0,1,0,0,1,0,1]=b
 kernel_rfl
theorem oh (s1:Int) (s2:Option Addr) (a b:Nat) (s7:Option Addr) (c d:Nat) (s8:Int) (f:Addr) (j:LV) (QX:Exit→LV→World→Prop):W prog (sub (aA f12) [1,1,0,1,0,0,1,0,0,1,0,0]) (ir s1 s2 a b s7 c d s8 f j) (Qr prog f12 R QX) w=(∃ g,w.cell? f=some (.int .i64 g)∧Calls prog 6 #[.int .i64 g,.int .i64 20] w λe w1=>∃ h,e=.returned (.int .i64 h)∧(bif ((h:Int) != s1) then (QX .normal (fH s1 s2 a b s7 c d s8 f true (jq j 0 19 (jp f::ji g::ji h::ji s1::jb ((h:Int) != s1)::jb true::uq 3 (jq j 29 67 [])))) w1) else (QX .normal (fH s1 s2 a b s7 c d s8 f (((c:Nat):Int) == 0) (jq j 0 19 (jp f::ji g::ji h::ji s1::jb ((h:Int) != s1)::jb false::js s7 c d::jn c::jb (((c:Nat):Int) == 0)::jq j 29 67 []))) w1))):=by kernel_rfl
theorem ol (s7:Option Addr) (a b:Nat) (j:LV) (QX:Exit→LV→World→Prop):W prog (sub (aA f12) [1,1,1]) (kq s7 a b j) (Qr prog f12 R QX) w=(R (.slice s7 a b) w):=by kernel_rfl
theorem om (s1:Int) (s2:Option Addr) (a b:Nat) (s7:Option Addr) (c d:Nat) (s8:Int) (f:Addr) (g:Bool) (j:LV) (QX:Exit→LV→World→Prop):W prog (sub (aA f12) [1,1,0,1,0,0,1,0,0,1,0,1]) (fH s1 s2 a b s7 c d s8 f g j) (Qr prog f12 R QX) w=((bif g then (QX (.exit 1) (bH s1 s2 a b s7 c d s8 (jq j 0 5 (jp f::jq j 5 23 (jb g::jq j 28 67 [])))) w) else (QX .normal (iu s1 s2 a b s7 c d s8 f (jq j 0 28 (jb g::jq j 28 67 []))) w))):=by kernel_rfl
theorem oq (s1:Int) (s2:Option Addr) (a b:Nat) (s7:Option Addr) (c d:Nat) (s8:Int) (j:LV) (QX:Exit→LV→World→Prop):W prog (sub (aA f12) [1,1,0,1,0,0,1,1]) (bH s1 s2 a b s7 c d s8 j) (Qr prog f12 R QX) w=(QX .normal (ek s1 s2 a b s7 c d (i64.wrap (s8+1)) (jq j 0 14 (ji s8::ji (i64.wrap (s8+1))::jq j 16 81 []))) w):=by kernel_rfl
theorem ot (s1:Int) (s2:Option Addr) (a b:Nat) (s7:Option Addr) (c d:Nat) (s8:Int) (f:Addr) (j:LV) (QX:Exit→LV→World→Prop):W prog (sub (aA f12) [1,1,0,1,0,0,1,0,0,1,1]) (iu s1 s2 a b s7 c d s8 f j) (Qr prog f12 R QX) w=(∃ g,w.cell? ⟨f.block,f.off+1,none⟩=some (.int .i64 g)∧Calls prog 6 #[.int .i64 g,.int .i64 (c:Nat)] w λe w1=>∃ (h:Int),e=.returned (.int .i64 h)∧∀ w2,w2=w1.drew→∃ Sx:World→Prop,Sx w2∧idxS s7 c h 2 λad=>∃ i,(∀ u,Sx u→u.cell? ad=some (.int .i64 i))∧idxS s7 c h 2 λs=>∃ k l m,(∀ u,Sx u→u.cell? ⟨s.block,s.off+1,none⟩=some (.slice k l m))∧(∃ (ap:Option Addr) (n o:Nat),∃ w3,(Builtin.append_ #[34,34] 34 #[.slice none 0 0,.slice k l m]).run prog w2=.ok (.slice ap n o) w3∧Sx w3∧∀ b1 w4,b1=w3.heap.size→w4=w3.alloc (.cells #[.int .i64 0,.slice none 0 0] 53)→Sx w4∧wrAt w4 ⟨b1,0,none⟩ 0 [.int .i64 i,.slice ap n o]∧∀ w5,w5=puts w4 ⟨b1,0,none⟩ 0 [.int .i64 i,.slice ap n o]→W prog (sub (aA f12) [1,1,0,1,0,0,1,0,0,1,1,1,1]) (em s1 s2 a b s7 c d s8 f h ⟨b1,0,none⟩ (jq j 0 5 (jq j 7 22 (jf f 1::ji g::js s7 c d::jn c::ji h::js s7 c d::ji h::jp ad::jp ad::ji i::js s7 c d::ji h::jp s::jf s 1::js k l m::js ap n o::.agg #[.int .i64 i,.slice ap n o]::jq j 46 50 [])))) (Qr prog f12 R QX) w5)∧(∀ b2 w6,b2=w2.heap.size→w6=w2.alloc (.cells #[.int .i64 0,.slice none 0 0] 53)→Sx w6∧∃ (p:Option Addr) (q r:Nat),∃ w7,(Builtin.append_ #[34,34] 34 #[.slice none 0 0,.slice k l m]).run prog w6=.ok (.slice p q r) w7∧Sx w7∧wrAt w7 ⟨b2,0,none⟩ 0 [.int .i64 i,.slice p q r]∧∀ w8,w8=puts w7 ⟨b2,0,none⟩ 0 [.int .i64 i,.slice p q r]→W prog (sub (aA f12) [1,1,0,1,0,0,1,0,0,1,1,1,1]) (em s1 s2 a b s7 c d s8 f h ⟨b2,0,none⟩ (jq j 0 5 (jq j 7 22 (jf f 1::ji g::js s7 c d::jn c::ji h::js s7 c d::ji h::jp ad::jp ad::ji i::js s7 c d::ji h::jp s::jf s 1::js k l m::js p q r::.agg #[.int .i64 i,.slice p q r]::jq j 46 50 [])))) (Qr prog f12 R QX) w8)):=by kernel_rfl
theorem lY (env:LV) (w:World) (Q:Exit→LV→World→Prop):W prog (sub (aA f12) [1,1,0,1,0,0,1,0,0,1,1,1,1]) env Q w=W prog (sub (aA f12) [1,1,0,1,0,0,1,0,0,1,1,1,1,0]) env (seqQ (λenv w=>W prog (sub (aA f12) [1,1,0,1,0,0,1,0,0,1,1,1,1,1]) env Q w) Q) w:=by
 rw [show sub (aA f12) [1,1,0,1,0,0,1,0,0,1,1,1,1]=.seq (sub (aA f12) [1,1,0,1,0,0,1,0,0,1,1,1,1,0]) (sub (aA f12) [1,1,0,1,0,0,1,0,0,1,1,1,1,1]) by kernel_rfl]
 generalize sub (aA f12) [1,1,0,1,0,0,1,0,0,1,1,1,1,0]=a
 generalize sub (aA f12) [1,1,0,1,0,0,1,0,0,1,1,1,1,1]=b
 kernel_rfl
set_option maxHeartbeats 4000000 in
theorem ou (s1:Int) (s2:Option Addr) (a b:Nat) (s7:Option Addr) (c d:Nat) (s8:Int) (f:Addr) (g:Int) (h:Addr) (j:LV) (QX:Exit→LV→World→Prop):W prog (sub (aA f12) [1,1,0,1,0,0,1,0,0,1,1,1,1,0]) (em s1 s2 a b s7 c d s8 f g h j) (Qr prog f12 R QX) w=(∃ i,w.cell? ⟨f.block,f.off+2,none⟩=some (.int .i64 i)∧Calls prog 6 #[.int .i64 i,.int .i64 8] w λe w1=>∃ (k:Int),e=.returned (.int .i64 k)∧(bif ((k:Int) == 0) then (wrAt w1 h 0 [.int .i64 4,.slice none 0 0]∧∀ w2,w2=puts w1 h 0 [.int .i64 4,.slice none 0 0]→QX .normal (bW s1 s2 a b s7 c d s8 g h (jq j 0 5 (jp f::jq j 5 39 (jf f 2::ji i::ji k::jq j 47 17 (jb ((k:Int) == 0)::jb ((k:Int) == 0)::.agg #[.int .i64 4,.slice none 0 0]::jq j 67 27 []))))) w2) else ((bif ((k:Int) == 1) then (wrAt w1 h 0 [.int .i64 5,.slice none 0 0]∧∀ w3,w3=puts w1 h 0 [.int .i64 5,.slice none 0 0]→QX .normal (bW s1 s2 a b s7 c d s8 g h (jq j 0 5 (jp f::jq j 5 39 (jf f 2::ji i::ji k::jq j 47 17 (jb ((k:Int) == 0)::jb ((k:Int) == 0)::jg j 66::jb ((k:Int) == 1)::jb ((k:Int) == 1)::.agg #[.int .i64 5,.slice none 0 0]::jq j 70 24 []))))) w3) else ((bif ((k:Int) == 2) then (∃ l m n,w1.cell? ⟨h.block,h.off+1,none⟩=some (.slice l m n)∧∃ W,w1.cell? ⟨f.block,f.off+3,none⟩=some (.int .u64 W)∧∀ b1 w4,b1=w1.heap.size→w4=w1.alloc (.cells #[.int .u64 W] 32)→∃ (ap:Option Addr) (o p:Nat),∃ w5,(Builtin.append_ #[34,34] 34 #[.slice l m n,.slice (some ⟨b1,0,none⟩) 1 1]).run prog w4=.ok (.slice ap o p) w5∧(∃ u,w5.cell? ⟨h.block,h.off+1,none⟩=some u)∧w5.frozen? ⟨h.block,h.off+1,none⟩=false∧∀ w6,w6=w5.setCell ⟨h.block,h.off+1,none⟩ (.slice ap o p)→QX .normal (bW s1 s2 a b s7 c d s8 g h (jq j 0 5 (jp f::jq j 5 39 (jf f 2::ji i::ji k::jq j 47 17 (jb ((k:Int) == 0)::jb ((k:Int) == 0)::jg j 66::jb ((k:Int) == 1)::jb ((k:Int) == 1)::jg j 69::jb ((k:Int) == 2)::jb ((k:Int) == 2)::jf h 1::js l m n::jf f 3::ju W::js (some ⟨b1,0,none⟩) 1 1::js ap o p::jf h 1::jq j 79 15 []))))) w6) else ((bif ((k:Int) == 3) then (sl3 s7 c d 0 (i64.wrap ((c:Nat) - 1)) (d:Nat) 2 λxa xl xc=>QX (.exit 1) (bH s1 s2 a b xa xl xc s8 (jq j 0 5 (jp f::ji g::jp h::jq j 5 39 (jf f 2::ji i::ji k::jq j 47 17 (jb ((k:Int) == 0)::jb ((k:Int) == 0)::jg j 66::jb ((k:Int) == 1)::jb ((k:Int) == 1)::jg j 69::jb ((k:Int) == 2)::jb ((k:Int) == 2)::jq j 72 7 (jb ((k:Int) == 3)::jb ((k:Int) == 3)::js s7 c d::js s7 c d::jn c::ji (i64.wrap ((c:Nat) - 1))::js xa xl xc::jq j 86 8 [])))))) w1) else ((bif ((k:Int) == 4) then ((∃ u,w1.cell? h=some u)∧w1.frozen? h=false∧∀ w7,w7=w1.setCell h (.int .i64 12)→QX .normal (bW s1 s2 a b s7 c d s8 g h (jq j 0 5 (jp f::jq j 5 39 (jf f 2::ji i::ji k::jq j 47 17 (jb ((k:Int) == 0)::jb ((k:Int) == 0)::jg j 66::jb ((k:Int) == 1)::jb ((k:Int) == 1)::jg j 69::jb ((k:Int) == 2)::jb ((k:Int) == 2)::jq j 72 7 (jb ((k:Int) == 3)::jb ((k:Int) == 3)::jq j 81 5 (jb ((k:Int) == 4)::jb ((k:Int) == 4)::jp h::jq j 89 5 []))))))) w7) else (∃ q r s,w1.cell? ⟨h.block,h.off+1,none⟩=some (.slice q r s)∧(bif (decide (((r:Nat):Int)>0)) then (∀ w8,w8=w1.drew→∃ Sx:World→Prop,Sx w8∧∃ t v x,(∀ u,Sx u→u.cell? ⟨h.block,h.off+1,none⟩=some (.slice t v x))∧∃ W1,(∀ u,Sx u→u.cell? ⟨f.block,f.off+3,none⟩=some (.int .u64 W1))∧∃ y z aa,(∀ u,Sx u→u.cell? ⟨h.block,h.off+1,none⟩=some (.slice y z aa))∧∃ W2,(∀ u,Sx u→u.cell? ⟨f.block,f.off+3,none⟩=some (.int .u64 W2))∧Calls prog 6 #[.int .i64 (i64.wrap (Int.tmod W1 4096)),.int .i64 (z:Nat)] w8 λe w9=>∃ (ab:Int),e=.returned (.int .i64 ab)∧Sx w9∧idxS t v ab 1 λad=>(∃ u,w9.cell? ad=some u)∧w9.frozen? ad=false∧∀ ac,ac=w9.setCell ad (.int .u64 W2)→QX .normal (bW s1 s2 a b s7 c d s8 g h (jq j 0 5 (jp f::jq j 5 39 (jf f 2::ji i::ji k::jf h 1::js q r s::jn r::jb (decide (((r:Nat):Int)>0))::jf h 1::js t v x::jf f 3::ju W1::ju (Int.tmod W1 4096)::ji (i64.wrap (Int.tmod W1 4096))::jf h 1::js y z aa::jn z::ji ab::jf f 3::ju W2::jp ad::jb ((k:Int) == 0)::jb ((k:Int) == 0)::jg j 66::jb ((k:Int) == 1)::jb ((k:Int) == 1)::jg j 69::jb ((k:Int) == 2)::jb ((k:Int) == 2)::jq j 72 7 (jb ((k:Int) == 3)::jb ((k:Int) == 3)::jq j 81 5 (jb ((k:Int) == 4)::jb ((k:Int) == 4)::jq j 88 6 [])))))) ac) else (QX .normal (bW s1 s2 a b s7 c d s8 g h (jq j 0 5 (jp f::jq j 5 39 (jf f 2::ji i::ji k::jf h 1::js q r s::jn r::jb (decide (((r:Nat):Int)>0))::jq j 51 13 (jb ((k:Int) == 0)::jb ((k:Int) == 0)::jg j 66::jb ((k:Int) == 1)::jb ((k:Int) == 1)::jg j 69::jb ((k:Int) == 2)::jb ((k:Int) == 2)::jq j 72 7 (jb ((k:Int) == 3)::jb ((k:Int) == 3)::jq j 81 5 (jb ((k:Int) == 4)::jb ((k:Int) == 4)::jq j 88 6 []))))))) w1))))))))))))):=by kernel_rfl
theorem ow (s1:Int) (s2:Option Addr) (a b:Nat) (s7:Option Addr) (c d:Nat) (s8 f:Int) (g:Addr) (j:LV) (QX:Exit→LV→World→Prop):W prog (sub (aA f12) [1,1,0,1,0,0,1,0,0,1,1,1,1,1]) (bW s1 s2 a b s7 c d s8 f g j) (Qr prog f12 R QX) w=(aY.ex λr=>aH w g 0 r.cells∧idxS s7 c f 2 λad=>wrAt w ad 0 r.cells∧∀ w1,w1=puts w ad 0 r.cells→QX .normal (bH s1 s2 a b s7 c d s8 (jq j 0 6 (ji f::jp g::jq j 6 84 [js s7 c d,ji f,r.val,jp ad,jg j 94]))) w1):=by kernel_rfl
def gM (s0:Addr) (s1:Int) (j:LV):LV:=.pointer (some s0)::.int .i64 s1::jq j 0 29 []
def mg (a:Addr) (s1:Int) (j:LV):LV:=.pointer (some a)::.int .i64 s1::jq j 0 29 []
theorem tX (p0:Nat) (p1:Int) (p2:Option Addr) (a b:Nat):fnW prog f13 [.pointer (some ⟨p0,0,none⟩),.int .i64 p1,.slice p2 a b] R w=(Calls prog 36 #[.pointer (some ⟨p0,0,none⟩),.int .i64 p1,.slice p2 a b] w λe w1=>∃ c,e=.returned (.int .i64 c)∧(bif ((c:Int) != 0) then (R (.slice none 0 0) w1) else (bT prog (.loop (sub (aA f13) [1,1,0,0,0])) (gM ⟨p0,0,none⟩ p1 (js p2 a b::uq 3 (jz::uq 2 (jp ⟨p0,0,none⟩::ji p1::js p2 a b::ji c::jb ((c:Int) != 0)::uq 17 [])))) (aI 0 (nx f13 [1,1,1] R)) w1))):=by kernel_rfl
theorem ox (s0:Addr) (s1:Int) (j:LV) (N1:LV→World→Prop):W prog (sub (aA f13) [1,1,0,0,0]) (gM s0 s1 j) (seqQ N1 (aI 0 (nx f13 [1,1,1] R))) w=(Calls prog 37 #[.pointer (some s0),.int .i64 s1] w λe w1=>∃ a,e=.returned (.int .i64 a)∧(bif (decide ((a:Int)>0)) then (Calls prog 39 #[.pointer (some s0)] w1 λe w2=>∃ b c d,e=.returned (.slice b c d)∧idxS b c 0 3 λad=>aL.ex λr=>aH w2 ad 0 r.cells∧Calls prog 38 #[.pointer (some s0),r.val] w2 λe w3=>∃ f,e=.returned (.bool f)∧N1 (gM s0 s1 (jq j 0 12 (jp s0::ji s1::ji a::jb (decide ((a:Int)>0))::jp s0::jp s0::js b c d::jp ad::r.val::jb f::jq j 22 7 []))) w3) else (W prog (sub (aA f13) [1,1,1]) (mg s0 s1 (jq j 0 12 (jp s0::ji s1::ji a::jb (decide ((a:Int)>0))::jq j 16 13 []))) (retQ prog f13 R) w1))):=by kernel_rfl
theorem qq (a:Addr) (s1:Int) (j:LV):W prog (sub (aA f13) [1,1,1]) (mg a s1 j) (retQ prog f13 R) w=(Calls prog 40 #[.pointer (some a),.int .i64 s1] w λe w1=>∃ b c d f,e=.returned (.tuple #[.slice b c d,.bool f])∧R (.slice b c d) w1):=by kernel_rfl
end Go.Proofs.YtafopfaomkklpaaGreat
