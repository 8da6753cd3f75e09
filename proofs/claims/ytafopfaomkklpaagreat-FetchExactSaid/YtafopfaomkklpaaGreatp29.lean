/- A part of the proof. -/
import Derived.Test.YtafopfaomkklpaaGreatp25
set_option linter.unusedVariables false
namespace Go.Proofs.YtafopfaomkklpaaGreat
open Go.Proofs.Tryz
open Go.Eng
structure FRaw (w:World) (r:aX) (l:List Int):Prop where
 a:I64 r.Total
 b:I64 r.Mask
 c:I64 r.Spoil
 d:I64 r.At
 rd:Rd w r.Lines (is l)
 len:r.Lines_l=l.length
 few:l.length≤10
 i64:∀ x ∈ l,I64 x
structure FOf (w u:World) (b1 b2 b3 b4:Nat) (p:aX) (l:List Int) (q:aN) (v:Vw) (L:List Int):Prop where
 new:New w u
 h1:Blk u b1 p.cells 58
 h2:Blk u b2 (aN.cells ⟨0,⟨0,none,0,0⟩,none,0,0⟩) 60
 h3:Blk u b3 q.cells 60
 lo:w.heap.size≤b1∧b1<b2∧b2<b3∧b3<b4
 view:gO (λk=>k=b1∨k=b2∨k=b3∨b4≤k) u q.View v
 ne:v.mem≠[]
 own:Owns u 3 1 q.Lines q.Lines_l q.Lines_c (is L)
 off:∀ k,isB q.Lines k→b4<k
 len:L.length≤16
theorem FOf.keep {w u u':World} {b1 b2 b3 b4:Nat} {p:aX} {l L:List Int} {q:aN} {v:Vw} (h:FOf w u b1 b2 b3 b4 p l q v L) {M:Nat→Prop} (hk:Keep M u u') (hM:∀ k,M k→b4≤k) (ho:∀ k,isB q.Lines k→¬ M k):FOf w u' b1 b2 b3 b4 p l q v L:=by
 have:=h.lo
 exact ⟨h.new.trans hk λk hlt hm=>by have:=hM k hm;omega,hk.blk h.h1 λe=>by have:=hM _ e;omega,hk.blk h.h2 λe=>by have:=hM _ e;omega,hk.blk h.h3 λe=>by have:=hM _ e;omega,
  h.lo,h.view.keep hk λk hn=>.inr (.inr (.inr (hM k hn))),h.ne,Owns.keep hk h.own ho,h.off,h.len⟩
theorem FRaw.new {w w':World} {r:aX} {l:List Int} (h:FRaw w r l) (hn:New w w'):FRaw w' r l:=⟨h.a,h.b,h.c,h.d,h.rd.new hn,h.len,h.few,h.i64⟩
set_option maxHeartbeats 1000000 in
set_option maxRecDepth 100000 in
theorem Fr (w:World) {n0:Int} (h1n:1≤n0) (h5n:n0≤5) {p:aX} {l:List Int} (hp:FRaw w p l):Does 17 [p.val,.int .i64 n0] w λx w'=>∃ r j,x=aN.val r∧jP w' r j∧New w w':=by
 refine does Tryz.func17 ?_
 rw [sT]
 rintro b1 w1 hb1 hw1
 obtain ⟨hz1,hn1⟩:=aR hb1 hw1
 have hz1:Blk w1 b1 p.cells 58:=hz1
 clear hw1
 rintro b2 w2 hb2 hw2
 obtain ⟨hz2,hn2⟩:=aR hb2 hw2
 have hz2:Blk w2 b2 (aN.cells ⟨0,⟨0,none,0,0⟩,none,0,0⟩) 60:=hz2
 clear hw2
 have hz12:=New.blk hn2 hz1
 have hl1:=hz1.lt
 have hl2:=hz2.lt
 have hs1:=hn1.size
 refine ⟨_,hz12.cell (i:=0) rfl,?_⟩
 refine aC (Lines_c w2 hp.a) ?_
 rintro x w3 ⟨n,rfl,hn98,hn104,rfl⟩
 refine ⟨_,rfl,?_⟩
 refine aC (DB w3 (n:=n0) h1n h5n) ?_
 rintro x w4 ⟨rs,vs,rfl,hvs,hn4,hgs,_⟩
 refine aF.mk_ex rs ⟨rfl,?_⟩
 refine mr (vs:=aN.cells ⟨n,rs,none,0,0⟩) rfl (aN.single _) λb3 w6 hb3 hz3 hn6=>?_
 have hn16:=(hn1.new hn2).new (hn4.new hn6)
 have hz16:=New.blk (hn4.new hn6) hz12
 have hz26:=New.blk (hn4.new hn6) hz2
 have hs4:=hn4.size
 have hl3:=hz3.lt
 have hl16:=hz16.lt
 refine ⟨_,hz16.cell (i:=1) rfl,?_⟩
 refine aC (dK w6 p.Mask 3 hp.b (by omega)) ?_
 rintro x w7 ⟨rfl,rfl⟩
 refine ⟨_,rfl,?_⟩
 have rest:∀ (u:World) (b4:Nat) (rv:aF) (v:Vw) (jj:List Value),b4<u.heap.size→FOf w u b1 b2 b3 b4 p l ⟨n,rv,none,0,0⟩ v []→Blk u b4 (bs (List.replicate 16 false)) 130→
   bW prog (.loop (sub (aA f17) [1,1,1,1,0,1,0,0])) (ee ⟨b1,0,none⟩ ⟨b2,0,none⟩ ⟨b3,0,none⟩ ⟨b4,0,none⟩ 0 jj) (aK 0 (seqQ (λenv z=>W prog (sub (aA f17) [1,1,1,1,1]) env (retQ prog f17 λx w'=>∃ r j,x=aN.val r∧jP w' r j∧New w w') z) (retQ prog f17 λx w'=>∃ r j,x=aN.val r∧jP w' r j∧New w w'))) u:=by
  intro u b4 rv v jj hb4 hF hB
  have hlo:=hF.lo
  refine aW mix (λm env z=>∃ (i:Nat) (B:List Bool) (jj:List Value),m=l.length - i∧i≤l.length∧env=ee ⟨b1,0,none⟩ ⟨b2,0,none⟩ ⟨b3,0,none⟩ ⟨b4,0,none⟩ i jj∧FOf w z b1 b2 b3 b4 p l ⟨n,rv,none,0,0⟩ v []∧Blk z b4 (bs B) 130∧B.length=16∧b4<z.heap.size) l.length
   ⟨0,_,_,by omega,by omega,rfl,hF,hB,by simp,hb4⟩ ?_
  clear hF hB hb4 jj u
  rintro m env u ⟨i,B,jj,rfl,hi,rfl,hF,hB,hBl,hb4⟩
  rw [nK]
  refine ⟨_,_,_,hF.h1.cell (i:=4) rfl,aD (λhq=>?_) (λhq=>?_)⟩
  ·have hlt:i<l.length:=by have:=hp.len;omega
   have hg:l[i]?=some l[i]:=List.getElem?_eq_getElem hlt
   have hfew:=hp.few
   rintro u1 hu1
   have hn1':New u u1:=by rw [hu1];exact aT _
   clear hu1
   have hF1:=hF.keep hn1' (λk h=>h.elim) (λk _ h=>h)
   have hB1:=New.blk hn1' hB
   refine ⟨λy=>New u1 y,Keep.refl _ _,_,_,_,λy hy=>(New.blk hy hF1.h1).cell (i:=4) rfl,?_⟩
   refine rd_i (hp.new hF1.new).rd hg rfl hp.len λb o hc=>⟨_,λy hy=>hc y hy,_,λy hy=>(New.blk hy hF1.h3).cell (i:=0) rfl,?_⟩
   rw [w64 (x:=n - 96) (by omega) (by omega)]
   refine aC (dK u1 l[i] (n - 96) (hp.i64 _ (List.getElem_mem hlt)) (by omega)) ?_
   rintro x u2 ⟨rfl,rfl⟩
   have hpk:=jT (x:=l[i]) (n:=n - 96) (by omega)
   generalize (if n - 96<1 then 0 else l[i] % (n - 96))=k at hpk
   refine ⟨_,rfl,Keep.refl _ _,tK (by omega) (by omega) ?_⟩
   refine qR (b:=b4) hB1 (o:=0+k.toNat * 1) (by simp [bs,hBl];omega) λu3 hB3 hk3=>?_
   rw [Da] at hB3
   rw [w64 (by omega) (by omega)]
   refine ⟨l.length - (i+1),by omega,i+1,_,_,rfl,by omega,rfl,hF1.keep hk3 (λk h=>by omega) (λk hk=>by obtain ⟨o,ho⟩:=hk;cases ho),hB3,by simp [hBl],?_⟩
   have:=hn1'.size;have:=hk3.size;omega
  ·rw [pC]
   refine aW mix (λm env z=>∃ (i:Nat) (a:Option Addr) (nn c:Nat) (L:List Int) (jj:List Value),m=16 - i∧i≤16∧env=eG ⟨b1,0,none⟩ ⟨b2,0,none⟩ ⟨b3,0,none⟩ ⟨b4,0,none⟩ i jj∧FOf w z b1 b2 b3 b4 p l ⟨n,rv,a,nn,c⟩ v L∧Blk z b4 (bs B) 130∧b4<z.heap.size∧L.length≤i∧nn=L.length) 16
    ⟨0,none,0,0,[],_,by omega,by omega,rfl,hF,hB,hb4,by simp,rfl⟩ ?_
   clear hF hB hb4 jj hq hi
   rintro m env u ⟨i,a,nn,c,L,jj,rfl,hi,rfl,hF,hB,hb4,hLi,rfl⟩
   rw [nL]
   refine aD (λhq=>?_) (λhq=>?_)
   ·have hlt:i<B.length:=by omega
    have hg:B[i]?=some B[i]:=List.getElem?_eq_getElem hlt
    refine tK (by omega) (by omega) ⟨B[i],?_,lm (λhx=>⟨_,_,_,hF.h3.cell (i:=3) rfl,?_⟩) (λhx=>?_)⟩
    ·refine hB.cell ?_
     simp [bs,hg]
    ·refine DC (n:=L.length) hF.own (by have:=hF.len;omega) ?_
     intro b ap cap u3 hb ho3 hk3 hap
     have hF3:=hF.keep hk3 (λk h=>by have:=hF.off k h;omega)
     have hoff:∀ k,isB ap k→b4<k:=λk hk=>by
      rcases hap k hk with h | h
      ·exact hF.off k h
      ·omega
     have h33:=hk3.blk hF.h3 λe=>by have:=hF.off b3 e;omega
     refine qR (b:=b3) h33 (o:=0+3) (by simp [aN.cells]) λu4 h34 hk4=>?_
     have hkk:=(hk3.mono (M':=λk=>k=b3∨isB a k) λ_ _ h=>.inr h).trans hk4 λ_ _ h=>.inl h
     rw [w64 (x:=(i:Int)+1) (by omega) (by omega)]
     refine ⟨16 - (i+1),by omega,i+1,ap,L.length+1,cap,L++[IntKind.i64.wrap (96+(i:Int))],_,rfl,by omega,rfl,⟨?_,?_,?_,h34,hF.lo,?_,hF.ne,?_,hoff,by simp;omega⟩,?_,?_,by simp;omega,by simp⟩
     ·exact hF.new.trans hkk λk hlt e=>by rcases e with e | e;omega;have:=hF.off k e;omega
     ·exact hkk.blk hF.h1 λe=>by rcases e with e | e;omega;have:=hF.off b1 e;omega
     ·exact hkk.blk hF.h2 λe=>by rcases e with e | e;omega;have:=hF.off b2 e;omega
     ·exact hF.view.keep hkk λk e=>by
       rcases e with e | e
       ·exact .inr (.inr (.inl e))
       ·have:=hF.off k e;exact .inr (.inr (.inr (by omega)))
     ·exact Owns.keep hk4 ho3 λk hk e=>by have:=hoff k hk;omega
     ·exact hkk.blk hB λe=>by rcases e with e | e;omega;have:=hF.off b4 e;omega
     ·have:=hkk.size;omega
    ·rw [w64 (by omega) (by omega)]
     exact ⟨16 - (i+1),by omega,i+1,a,L.length,c,L,_,rfl,by omega,rfl,hF,hB,hb4,by omega,rfl⟩
   ·rw [pD]
    clear hq hLi hi
    have hLl:=hF.len
    have fin:∀ (q:aN) (v':Vw) (L':List Int) (M:Nat→Prop) (u' w':World),New w u'→gO M u' q.View v'→M b2→Owns u' 3 1 q.Lines q.Lines_l q.Lines_c (is L')→(∀ k,isB q.Lines k→k≠b2)→L'.length≤16→Keep (λk=>k=b2) u' w'→∃ r j,aN.val q=aN.val r∧jP w' r j∧New w w':=by
     intro q v' L' M u' w' hn' hv' hM ho' hf' h16 hk'
     refine ⟨q,⟨q.Total,v',L'⟩,rfl,⟨rfl,⟨M,?_⟩,?_,?_,?_⟩,hn'.trans hk' λk hlt e=>by omega⟩
     ·exact hv'.keep hk' λk e=>e▸hM
     ·exact (Owns.keep hk' ho' λk hk e=>hf' k hk e).rd
     ·have:=ho'.1;simp [is] at this;exact this.symm
     ·show L'.length≤100000;omega
    have hM2:(λk=>k=b1∨k=b2∨k=b3∨b4≤k) b2:=.inr (.inl rfl)
    have hof2:∀ k,isB a k→k≠b2:=λk hk e=>by have:=hF.off k hk;omega
    have plain:∀ w',Keep (λk=>k=b2) u w'→∃ r j,aN.val ⟨n,rv,a,L.length,c⟩=aN.val r∧jP w' r j∧New w w':=λw' hk'=>
     fin ⟨n,rv,a,L.length,c⟩ v L _ u w' hF.new hF.view hM2 hF.own hof2 hLl hk'
    refine ⟨_,hF.h1.cell (i:=3) rfl,_,_,_,hF.h3.cell (i:=3) rfl,?_⟩
    refine aC (dK u p.At (if (1:Int)<(L.length:Nat) then ((L.length:Nat):Int) else 1) hp.d (by split<;>omega)) ?_
    rintro x u1 ⟨rfl,rfl⟩
    have hpk:=jT (x:=p.At) (n:=if (1:Int)<(L.length:Nat) then (L.length:Nat) else 1) (by split<;>omega)
    generalize (if (if (1:Int)<(L.length:Nat) then ((L.length:Nat):Int) else 1)<1 then 0 else p.At % (if (1:Int)<(L.length:Nat) then ((L.length:Nat):Int) else 1))=k at hpk
    refine ⟨_,rfl,_,hF.h1.cell (i:=2) rfl,?_⟩
    refine aC (dK u1 p.Spoil 12 hp.c (by omega)) ?_
    rintro x u2 ⟨rfl,rfl⟩
    generalize (if (12:Int)<1 then 0 else p.Spoil % 12)=s
    have out:∀ {q:aN} {z:World},Blk z b2 (aN.cells ⟨0,⟨0,none,0,0⟩,none,0,0⟩) 60→Blk z b3 q.cells 60→(∀ w',Keep (λk=>k=b2) z w'→∃ r j,aN.val q=aN.val r∧jP w' r j∧New w w')→_:=λ{q z} h1 h2 h3=>
     Ff (cells:=aN.cells) (ex:=aN.ex) (λK r h=>aN.mk_ex r h) aN.single (r:=q) h1 rfl h2 (K:=λq w'=>∃ r j,aN.val q=aN.val r∧jP w' r j∧New w w') h3
    refine ⟨_,rfl,bB (λhs=>⟨_,hF.h1.cell (i:=3) rfl,?_⟩) (λhs=>bB (λhs1=>⟨_,_,_,hF.h3.cell (i:=2) rfl,?_⟩) (λhs1=>bB (λhs2=>⟨_,_,_,hF.h3.cell (i:=3) rfl,aD (λhl0=>?_) (λhl0=>out hF.h2 hF.h3 plain)⟩) (λhs2=>out hF.h2 hF.h3 plain)))⟩
    ·refine aC (dK u2 p.At 300 hp.d (by omega)) ?_
     rintro x u3 ⟨rfl,rfl⟩
     refine ⟨_,rfl,qR (b:=b3) hF.h3 (o:=0) (by simp [aN.cells]) λu4 h34 hk4=>?_⟩
     refine out (q:=⟨_,rv,a,L.length,c⟩) (hk4.blk hF.h2 (by omega)) h34 λw' hk'=>?_
     refine fin _ v L _ u4 w' (hF.new.trans hk4 λk hlt e=>by omega) (hF.view.keep hk4 λk e=>.inr (.inr (.inl e))) hM2 (Owns.keep hk4 hF.own λk hk e=>by have:=hF.off k hk;omega) hof2 hLl hk'
    ·
     have hvl:=hF.view.len
     have hvc:=hF.view.cap
     have hvs:=hF.view.small
     have hmpos:0<v.mem.length:=List.length_pos_iff.2 hF.ne
     obtain ⟨m0,mt,hmm⟩:∃ m0 mt,v.mem=m0::mt:=by
      cases hm:v.mem with
      |nil=>exact absurd hm hF.ne
      |cons m0 mt=>exact ⟨m0,mt,rfl⟩
     have hnews:(gV v.mem).flatten=m0.cells++(gV mt).flatten:=by rw [hmm];rfl
     have hmt:mt.length=v.mem.length - 1:=by rw [hmm];rfl
     obtain ⟨inf,hinf,hz,hsz,hby⟩:=nV (T:=TMb) (z:=.agg #[.int .i64 0,.int .i64 0,.bool false]) (n:=3) (m:=24) (by kernel_rfl)
     refine ⟨by omega,by omega,by omega,by omega,by omega,?_⟩
     have hrd:Rd u2 (if (rv.Members_c:Int)=1 then rv.Members else rv.Members.map (·.add ((1:Int).toNat * 3))) (gV mt).flatten:=by
      by_cases h1:(rv.Members_c:Int)=1
      ·have:mt=[]:=List.eq_nil_of_length_eq_zero (by have:rv.Members_l=v.mem.length:=hvl;have:rv.Members_l≤rv.Members_c:=hvc;omega)
       rw [this]
       exact Rd.nil _ _
      ·rw [if_neg h1]
       have hr:=hF.view.rd
       rcases hr with he | ⟨b,o,he,hc⟩
       ·rw [hnews] at he;simp [aB.cells] at he
       ·have he':rv.Members=some ⟨b,o,none⟩:=he
        rw [he']
        have:=Rd.drop (.inr ⟨b,o,rfl,hc⟩:Rd u2 (some ⟨b,o,none⟩) (gV v.mem).flatten) 3
        rw [hnews] at this
        exact this
     have hl3:(gV mt).flatten.length=mt.length * inf.size:=by
      rw [hsz]
      have:=oF (rows:=gV mt) (sz:=3) (λr hr=>by obtain ⟨y,_,rfl⟩:=List.mem_map.1 hr;rfl)
      rw [this];simp [gV]
     have hsing:∀ x ∈ (gV mt).flatten,single x=true:=by
      intro x hx
      obtain ⟨r,hr,hx⟩:=List.mem_flatten.1 hx
      obtain ⟨y,_,rfl⟩:=List.mem_map.1 hr
      exact aB.single y x hx
     have hnat:Int.toNat (rv.Members_l:Int) - Int.toNat 1=mt.length:=by have:rv.Members_l=v.mem.length:=hvl;omega
     rw [hnat]
     have hon:Owns u2 TMb inf.size none 0 0 []:=Owns.nil _ _ _
     obtain ⟨ap,cap',w7',hrun,hown7,hk7,hap⟩:=Owns.append (P:=prog) (t:=TSM) (ty:=TSM) Tryz.underlying29 hinf hz (by rw [hsz];rfl) (by omega) hon (m:=mt.length) (c:=Int.toNat (rv.Members_c:Int) - Int.toNat 1) hl3 hrd hsing (by omega) (by rw [hby];omega)
     rw [hsz] at hown7
     simp only [Nat.zero_add,List.nil_append] at hrun hown7
     have hn7:New u2 w7':=hk7.mono λk _ hk=>by obtain ⟨o,ho⟩:=hk;cases ho
     refine ⟨ap,mt.length,cap',w7',hrun,?_⟩
     have hap4:∀ k,isB ap k→b4<k:=λk hk=>by
      obtain ⟨o,ho⟩:=hk
      rcases hap with e | e
      ·rw [e] at ho;cases ho
      ·rw [e] at ho;simp at ho;omega
     refine qR (b:=b3) (New.blk hn7 hF.h3) (o:=0+1+1) (by simp [aN.cells]) λu4 h34 hk4=>?_
     refine out (q:=⟨n,⟨rv.Number,ap,mt.length,cap'⟩,a,L.length,c⟩) (hk4.blk (New.blk hn7 hF.h2) (by omega)) h34 λw' hk'=>?_
     have ho4:=Owns.keep hk4 hown7 λk hk e=>by have:=hap4 k hk;omega
     refine fin _ ⟨v.number,mt⟩ L (λk=>k=b2) u4 w' ((hF.new.new hn7).trans hk4 λk hlt e=>by omega) ⟨hF.view.num,rfl,ho4.le,ho4.rd,C8 ho4.rd λk hk e=>by have:=hap4 k hk;omega,by show mt.length≤_;omega⟩ rfl (Owns.keep hk4 (Owns.new hn7 hF.own) λk hk e=>by have:=hF.off k hk;omega) hof2 hLl hk'
    ·
     have hpos:0<L.length:=by have:(L.length:Int)>0:=hl0;omega
     have hkl:k.toNat<L.length:=by
      have:k<(L.length:Int):=by
       have h2:=hpk.2
       by_cases hc1:(1:Int)<(L.length:Nat)
       ·rw [if_pos hc1] at h2;exact h2
       ·rw [if_neg hc1] at h2;omega
      omega
     have hg:L[k.toNat]?=some L[k.toNat]:=List.getElem?_eq_getElem hkl
     rintro u3 hu3
     have hn3:New u2 u3:=by rw [hu3];exact aT _
     clear hu3
     have hF3:=hF.keep hn3 (λk h=>h.elim) (λk _ h=>h)
     refine ⟨λy=>New u3 y,Keep.refl _ _,_,_,_,λy hy=>(New.blk hy hF3.h3).cell (i:=3) rfl,_,_,_,λy hy=>(New.blk hy hF3.h3).cell (i:=3) rfl,?_⟩
     refine rd_i hF3.own.rd hg (by omega) rfl λb o hc=>⟨_,λy hy=>hc y hy,_,λy hy=>(New.blk hy hF3.h1).cell (i:=3) rfl,?_⟩
     refine aC (dK u3 _ 9 (iZ _) (by omega)) ?_
     rintro x u4 ⟨rfl,rfl⟩
     refine ⟨_,rfl,Keep.refl _ _,?_⟩
     obtain ⟨g,cur,rfl,hgb,hgl⟩:=nW hF3.own hpos
     refine bI (by omega) (by show k<(L.length:Int);omega) ?_
     have hlt:0+k.toNat * 1<cur.length:=by have:L.length * 1≤cur.length:=hgl;omega
     refine ⟨⟨_,hgb.cell (List.getElem?_eq_getElem hlt)⟩,hgb.frozen,λu5 hu5=>?_⟩
     generalize (IntKind.i64.wrap _)=nv at hu5
     have hk5:Keep (λk=>k=g) u4 u5:=by rw [hu5];exact aZ _ _ _ _
     have ho5:=Owns.setCell hF3.own (i:=0+k.toNat * 1) (by show _<L.length * 1;omega) (.int .i64 nv)
     have hse:(is L).set (0+k.toNat * 1) (.int .i64 nv)=is (L.set k.toNat nv):=by simp [is]
     rw [hse] at ho5
     have ho5:Owns u5 3 1 (some ⟨g,0,none⟩) L.length c (is (L.set k.toNat nv)):=by rw [hu5];exact ho5
     have hgb4:b4<g:=hF3.off g ⟨0,rfl⟩
     refine out (q:=⟨n,rv,some ⟨g,0,none⟩,L.length,c⟩) (hk5.blk hF3.h2 (by omega)) (hk5.blk hF3.h3 (by omega)) λw' hk'=>?_
     exact fin _ v (L.set k.toNat nv) _ u5 w' (hF3.new.trans hk5 λk hlt e=>by omega) (hF3.view.keep hk5 λk e=>.inr (.inr (.inr (by omega)))) hM2 ho5 hof2 (by simpa using hLl) hk'
 refine aD (λhq=>?_) (λhq=>?_)
 ·refine ⟨_,hz16.cell (i:=1) rfl,?_⟩
  refine aC (vo w7 (number:=0) (full:=31) (n:=n0) (boots:=[]) ⟨by omega,by omega⟩ hp.b ⟨by omega,by omega⟩ (Rd.nil _ _) rfl (by simp) (by simp) (by omega) (by omega)) ?_
  rintro x w8 ⟨rv,v,rfl,hv,hn8,hgv⟩
  refine aF.mk_ex rv ⟨rfl,?_⟩
  have hz38:=New.blk hn8 hz3
  refine ⟨fF hz38 (by simp [aN.cells,aF.cells]) (aF.single _),λw9 hw9=>?_⟩
  have hk9:Keep (λk=>k=b3) w8 w9:=by rw [hw9];exact ej _ _ _ _ _
  have hz39:Blk w9 b3 (aN.cells ⟨n,rv,none,0,0⟩) 60:=by rw [hw9];exact hz38.puts
  have hv9:gO (Ao w7.heap.size) w9 rv v:=hv.keep hk9 λk e=>by show k<_;omega
  clear hw9
  rintro b4 w10 hb4 hw10
  obtain ⟨hz4,hn10⟩:=aR hb4 hw10
  have hs10:b4<w10.heap.size:=hz4.lt
  clear hw10
  have hs8:=hn8.size
  have hs9:=hk9.size
  have hnew:New w w10:=((hn16.new hn8).trans hk9 λk hlt e=>by omega).new hn10
  refine rest w10 b4 rv v _ hs10 ⟨hnew,New.blk hn10 (hk9.blk (New.blk hn8 hz16) (by omega)),New.blk hn10 (hk9.blk (New.blk hn8 hz26) (by omega)),New.blk hn10 hz39,⟨by omega,by omega,by omega,by omega⟩,?_,hgv.ne,Owns.nil _ _ _,(λk hk=>by obtain ⟨o,ho⟩:=hk;cases ho),by simp⟩ hz4
  refine ((hv9.mono λk hlt hm=>?_).new hn10)
  show k<w7.heap.size
  rcases hm with e | e | e | e<;>omega
 ·rintro b4 w10 hb4 hw10
  obtain ⟨hz4,hn10⟩:=aR hb4 hw10
  have hs10:b4<w10.heap.size:=hz4.lt
  clear hw10
  refine rest w10 b4 rs vs _ hs10 ⟨hn16.new hn10,New.blk hn10 hz16,New.blk hn10 hz26,New.blk hn10 hz3,⟨by omega,by omega,by omega,by omega⟩,?_,hgs.ne,Owns.nil _ _ _,(λk hk=>by obtain ⟨o,ho⟩:=hk;cases ho),by simp⟩ hz4
  refine ((hvs.mono λk hlt hm=>?_).new (hn6.new hn10))
  show k<w3.heap.size
  rcases hm with e | e | e | e<;>omega
end Go.Proofs.YtafopfaomkklpaaGreat
