import Derived.Test.YtegepanmkjemjaaGreatw37
import Derived.Test.YtegepanmkjemjaaGreatw38
set_option linter.unusedVariables false
namespace Go.Proofs.YtegepanmkjemjaaGreat.Pg
open Go.Proofs.Tryz
open Go.Eng C12
abbrev TSPg:TypeId:=32
abbrev Asc (L:List aB):Prop:=L.Pairwise λp q=>p.Line<q.Line
theorem xt {α:Type} {cells:α→List Value} {sz:Nat} (hsz:∀ x,(cells x).length=sz):∀ (l:List α) (n:Nat),(l.map cells).flatten.drop (n * sz)=((l.drop n).map cells).flatten
 |l,0=>by simp
 | [],n+1=>by simp
 |x::l,n+1=>by
  have e:(n+1) * sz=(cells x).length+n * sz:=by rw [hsz,Nat.succ_mul,Nat.add_comm]
  rw [List.map_cons,List.flatten_cons,List.drop_succ_cons,e,←List.drop_drop,List.drop_left]
  exact xt hsz l n
theorem xu {α:Type} {cells:α→List Value} {sz:Nat} (hsz:∀ x,(cells x).length=sz):∀ (l:List α) (n:Nat),(l.map cells).flatten.take (n * sz)=((l.take n).map cells).flatten
 |l,0=>by simp
 | [],n+1=>by simp
 |x::l,n+1=>by
  have e:(n+1) * sz=(cells x).length+n * sz:=by rw [hsz,Nat.succ_mul,Nat.add_comm]
  rw [List.map_cons,List.flatten_cons,List.take_succ_cons,List.map_cons,List.flatten_cons,e,List.take_append,List.take_of_length_le (by omega),Nat.add_sub_cancel_left,xu hsz l n]
theorem yX {α:Type} {cells:α→List Value} {sz:Nat} (hsz:∀ x,(cells x).length=sz) {u:World} {a:Option Addr} {l:List α} (h:Rd u a (l.map cells).flatten) {n cap:Nat} (hn:n=l.length) (hc:n≤cap) {lo hi:Int} {i k:Nat} (hlo:lo=i) (hhi:hi=k) (h1:i≤k) (h2:k≤n) {K:Option Addr→Nat→Nat→Prop}
  (hk:∀ a',Rd u a' (((l.take k).drop i).map cells).flatten→((l.take k).drop i).length=k - i→K a' (k - i) (cap - i)):sl3 a n cap lo hi cap sz K:=by
 subst hlo hhi hn
 refine ⟨by omega,by omega,by omega,by omega,by omega,?_⟩
 have hl:((l.take k).drop i).length=k - i:=by rw [List.length_drop,List.length_take];omega
 refine hk _ ?_ hl
 by_cases hci:(cap:Int)=i
 ·have:(l.take k).drop i=[]:=List.eq_nil_of_length_eq_zero (by omega)
  rw [this]
  exact Rd.nil _ _
 ·rw [if_neg hci]
  have ht:=h.take (k * sz)
  rw [xu hsz] at ht
  have hd:=xt hsz (l.take k) i
  rw [←hd]
  rcases ht with he | ⟨b,o,rfl,hcs⟩
  ·rw [he];exact .inl (by simp)
  ·simp only [Option.map_some,m7,Int.toNat_natCast]
   exact Rd.drop (.inr ⟨b,o,rfl,hcs⟩:Rd u (some ⟨b,o,none⟩) _) (i * sz)
theorem Ac {u0 u:World} {a s:Option Addr} {n cap m c:Nat} {xs ys:List aB} (hn:New u0 u) (ho:Owns u TPg 9 a n cap (eI xs).flatten) (hf:∀ k,isB a k→u0.heap.size≤k) (hs:Rd u s (eI ys).flatten) (hm:m=ys.length) (hx:n+m≤1000000) {K:Option Addr→Nat→Nat→World→Prop}
  (hk:∀ a' cap' w',New u0 w'→Owns w' TPg 9 a' (n+m) cap' (eI (xs++ys)).flatten→(∀ k,isB a' k→u0.heap.size≤k)→K a' (n+m) cap' w') :
  ∃ (ap:Option Addr) (ap_len ap_cap:Nat),∃ w3,(Builtin.append_ #[TSPg,TSPg] TSPg #[(.slice a n cap),(.slice s m c)]).run prog u=.ok (.slice ap ap_len ap_cap) w3∧K ap ap_len ap_cap w3:=by
 obtain ⟨inf,hinf,hz,hsz,hby⟩:=j8 (T:=TPg) (z:=.agg #[.int .i64 0,.int .u64 0,.int .u64 0,.int .u64 0,.int .u64 0,.int .u64 0,.int .u64 0,.int .u64 0,.int .u64 0]) (n:=9) (m:=72) (by kernel_rfl)
 rw [←hsz] at ho
 have hlr:(eI ys).flatten.length=m * inf.size:=by
  rw [hsz,hm,dQ (rows:=eI ys) (sz:=9) (λr hr=>by obtain ⟨y,_,rfl⟩:=List.mem_map.1 hr;rfl)]
  simp [eI]
 have hsing:∀ x ∈ (eI ys).flatten,single x=true:=by
  intro x hx
  obtain ⟨r,hr,hx⟩:=List.mem_flatten.1 hx
  obtain ⟨y,_,rfl⟩:=List.mem_map.1 hr
  exact aB.single y x hx
 obtain ⟨ap,cap',w7,hrun,hown,hk7,hap⟩:=Owns.append (P:=prog) (t:=TSPg) (ty:=TSPg) Tryz.underlying32 hinf hz (by rw [hsz];rfl) (by omega) ho (c:=c) hlr hs hsing (by omega) (by rw [hby];omega)
 rw [hsz] at hown
 have e:(eI xs).flatten++(eI ys).flatten=(eI (xs++ys)).flatten:=by simp [eI]
 rw [e] at hown
 refine ⟨ap,n+m,cap',w7,hrun,hk ap cap' w7 (hn.trans hk7 λk hlt hb=>by have:=hf k hb;omega) hown λk hb=>?_⟩
 rcases hap with rfl | rfl
 ·exact hf k hb
 ·obtain ⟨o,ho⟩:=hb
  simp at ho
  have:=hn.size
  omega
theorem yY (x:Int):U64 (IntKind.u64.wrap x):=by
 unfold U64
 simp only [IntKind.wrap,IntKind.bits,IntKind.signed]
 simp
 omega
theorem DE (p:aB) {i:Nat} (hi:i<7) (x:Int):∃ q:aB,p.cells.set (2+i) (.int .u64 x)=q.cells∧q.Head=p.Head∧q.Line=p.Line:=by
 match i,hi with
 | 0,_=>exact ⟨{ p with Data0:=x },rfl,rfl,rfl⟩
 | 1,_=>exact ⟨{ p with Data1:=x },rfl,rfl,rfl⟩
 | 2,_=>exact ⟨{ p with Data2:=x },rfl,rfl,rfl⟩
 | 3,_=>exact ⟨{ p with Data3:=x },rfl,rfl,rfl⟩
 | 4,_=>exact ⟨{ p with Data4:=x },rfl,rfl,rfl⟩
 | 5,_=>exact ⟨{ p with Data5:=x },rfl,rfl,rfl⟩
 | 6,_=>exact ⟨{ p with Data6:=x },rfl,rfl,rfl⟩
def PgD (p:aB):Prop:=∀ i,i<7→∃ x,p.cells[2+i]?=some (.int .u64 x)∧U64 x
def PgOk (lines:Int) (p:aB):Prop:=U64 p.Head∧(96≤p.Line∧p.Line<lines)∧PgD p
theorem pgD0 (l h:Int):PgD ⟨l,h,0,0,0,0,0,0,0⟩:=by
 have u0:U64 0:=⟨by omega,by omega⟩
 intro i hi
 match i,hi with
 | 0,_=>exact ⟨0,rfl,u0⟩
 | 1,_=>exact ⟨0,rfl,u0⟩
 | 2,_=>exact ⟨0,rfl,u0⟩
 | 3,_=>exact ⟨0,rfl,u0⟩
 | 4,_=>exact ⟨0,rfl,u0⟩
 | 5,_=>exact ⟨0,rfl,u0⟩
 | 6,_=>exact ⟨0,rfl,u0⟩
theorem Fo {p q:aB} {i:Nat} {x:Int} (h:PgD p) (hx:U64 x) (hq:p.cells.set (2+i) (.int .u64 x)=q.cells):PgD q:=by
 intro j hj
 rw [←hq]
 by_cases e:i=j
 ·subst e
  exact ⟨x,by rw [List.getElem?_set_self (by rw [aB.len];omega)],hx⟩
 ·rw [List.getElem?_set_ne (by omega)]
  exact h j hj
theorem G4 {x:Int} (hx:I64 x):I64 (IntKind.i64.wrap (Int.tdiv x 64)):=CI _
set_option maxHeartbeats 1000000 in
theorem ux (w:World) {n lines:Int} (hn:I64 n) (h1:98≤lines) (h2:lines≤256):Does 51 [.int .i64 n,.int .i64 lines] w λx w'=>∃ p:aB,x=p.val∧PgOk lines p∧New w w':=by
 refine does Tryz.func51 ?_
 rw [qY]
 rintro b1 w1 hb1 hw1
 obtain ⟨hz1,hn1⟩:=aN hb1 hw1
 have hz1:Blk w1 b1 noP.cells TPg:=hz1
 clear hw1
 rw [w64 (x:=lines - 96) (by omega) (by omega)]
 refine aE (fS w1 n (lines - 96) hn (by omega)) ?_
 rintro x w2 ⟨rfl,rfl⟩
 refine ⟨_,rfl,?_⟩
 refine aE (fS w2 _ 4 (G4 hn) (by omega)) ?_
 rintro x w3 ⟨rfl,rfl⟩
 refine ⟨_,rfl,?_⟩
 have hs1:=hn1.size
 have hl1:=hz1.lt
 have hln:96≤IntKind.i64.wrap (96+(if lines - 96<1 then 0 else n % (lines - 96)))∧IntKind.i64.wrap (96+(if lines - 96<1 then 0 else n % (lines - 96)))<lines:=by
  have hp:=Ar (x:=n) (n:=lines - 96) (by omega)
  generalize (if lines - 96<1 then 0 else n % (lines - 96))=q at hp ⊢
  rw [w64 (by omega) (by omega)]
  omega
 generalize (IntKind.i64.wrap (96+_))=ln at hln ⊢
 generalize (IntKind.i64.wrap (_+1))=hd
 have hu:U64 (bshl .u64 (IntKind.u64.wrap hd) 8):=yY _
 generalize (bshl .u64 (IntKind.u64.wrap hd) 8)=hw at hu
 refine gX (vs:=aB.cells ⟨ln,hw,0,0,0,0,0,0,0⟩) rfl (aB.single _) λb2 w5 hb2 hz2 hn2=>?_
 refine aQ mix (λm env u=>∃ (i:Nat) (p:aB) (jj:List Value),m=7 - i∧i≤7∧env=eV n ⟨b1,0,none⟩ ⟨b2,0,none⟩ i jj∧New w u∧Blk u b1 noP.cells TPg∧Blk u b2 p.cells TPg∧PgOk lines p) 7
  ⟨0,_,_,by omega,by omega,rfl,hn1.new hn2,New.blk hn2 hz1,hz2,hu,hln,pgD0 _ _⟩ ?_
 rintro m env u ⟨i,p,jj,rfl,hi,rfl,hnu,hu1,hu2,hph⟩
 rw [lv]
 refine aJ (λhq=>?_) (λhq=>?_)
 ·refine aE (fS u n 1048576 hn (by omega)) ?_
  rintro x u2 ⟨rfl,rfl⟩
  refine ⟨_,rfl,sN (by omega) (by omega) ?_⟩
  have hi7:i<7:=by omega
  refine rN (b:=b2) hu2 (o:=0+2+((i:Nat):Int).toNat * 1) (by simp [aB.cells];omega) λu3 hu3 hk3=>?_
  have e:0+2+((i:Nat):Int).toNat * 1=2+i:=by omega
  rw [e] at hu3
  obtain ⟨q,hq,hqh,hql⟩:=DE p hi7 (IntKind.u64.wrap (IntKind.u64.wrap (if (1048576:Int)<1 then 0 else n % 1048576) * IntKind.u64.wrap (IntKind.i64.wrap ((i:Int)+3))))
  rw [hq] at hu3
  rw [w64 (x:=(i:Int)+1) (by omega) (by omega)]
  refine ⟨7 - (i+1),by omega,i+1,q,_,rfl,by omega,rfl,hnu.trans hk3 λk hlt e=>by omega,hk3.blk hu1 (by omega),hu3,by rw [hqh];exact hph.1,by rw [hql];exact hph.2.1,Fo hph.2.2 (yY _) hq⟩
 ·rw [m5]
  refine aB.mk_ex p ⟨aK hu2 rfl,?_⟩
  refine gJ (vs:=p.cells) hu1 rfl (aB.single _) λu3 hz3 hk3=>?_
  exact aB.mk_ex p ⟨aK hz3 rfl,rfl,p,rfl,hph,hnu.trans hk3 λk hlt e=>by omega⟩
theorem Fp {L:List aB} {p:aB} {q:Nat} (h:Asc L) (h1:∀ k (hk:k<L.length),k<q→L[k].Line<p.Line) (h2:∀ k (hk:k<L.length),q≤k→p.Line<L[k].Line):Asc (([]++(L.take q).drop 0)++[p]++(L.take L.length).drop q):=by
 show List.Pairwise _ _
 rw [List.nil_append,List.drop_zero,List.take_length,List.append_assoc]
 have ht:∀ x ∈ L.take q,x.Line<p.Line:=λx hx=>by
  obtain ⟨k,hk,rfl⟩:=List.getElem_of_mem hx
  rw [List.length_take] at hk
  rw [List.getElem_take]
  exact h1 k (by omega) (by omega)
 have hd:∀ x ∈ L.drop q,p.Line<x.Line:=λx hx=>by
  obtain ⟨k,hk,rfl⟩:=List.getElem_of_mem hx
  rw [List.length_drop] at hk
  rw [List.getElem_drop]
  exact h2 (q+k) (by omega) (by omega)
 rw [List.pairwise_append]
 refine ⟨h.sublist (List.take_sublist _ _),List.Pairwise.cons (λx hx=>hd x (by simpa using hx)) (h.sublist (List.drop_sublist _ _)),λa ha b hb=>?_⟩
 have h3:=ht a ha
 rcases List.mem_cons.1 hb with rfl | hb
 ·exact h3
 ·have:=hd b hb
  omega
abbrev tR (w:World) (lines most:Int):Value→World→Prop:=λx w'=>∃ (a:Option Addr) (c:Nat) (L:List aB),x=.slice a L.length c∧Owns w' TPg 9 a L.length c (eI L).flatten∧New w w'∧(∀ k,isB a k→w.heap.size≤k)∧(L.length:Int)≤most∧(∀ p ∈ L,PgOk lines p)∧Asc L
set_option maxHeartbeats 4000000 in
theorem B6 (w:World) {a0:Option Addr} {n0 c0:Nat} {l:List Int} (hr:Rd w a0 (is l)) (hl:n0=l.length) (hfew:l.length≤1000) (hi64:∀ x ∈ l,I64 x) {lines most:Int} (h1:98≤lines) (h2:lines≤256) (h3:0≤most) (h4:most≤1000) :
  Does 36 [.slice a0 n0 c0,.int .i64 lines,.int .i64 most] w (tR w lines most):=by
 refine does Tryz.func36 ?_
 rw [pX]
 refine aQ mix (λm env u=>∃ (i:Nat) (a:Option Addr) (n c:Nat) (L:List aB) (jj:List Value),m=l.length - i∧i≤l.length∧env=cK a0 n0 c0 lines most a n c i jj∧New w u∧Owns u TPg 9 a n c (eI L).flatten∧(∀ k,isB a k→w.heap.size≤k)∧n=L.length∧(L.length:Int)≤most∧(∀ p ∈ L,PgOk lines p)∧Asc L) l.length
  ⟨0,none,0,0,[],_,by omega,by omega,rfl,Keep.refl _ _,Owns.nil _ _ _,(λk hk=>by obtain ⟨o,ho⟩:=hk;cases ho),rfl,by simpa using h3,by simp,List.Pairwise.nil⟩ ?_
 rintro m env u ⟨i,a,n,c,L,jj,rfl,hi,rfl,hnu,hown,hfr,rfl,hmost,hu64,hasc⟩
 refine lu (P:=prog) (fn:=f36) (R:=tR w lines most) (λ_ _=>rfl) ?_
 rw [ld]
 refine aJ (λhq=>?_) (λhq=>?_)
 ·have hlt:i<l.length:=by omega
  have hg:l[i]?=some l[i]:=List.getElem?_eq_getElem hlt
  refine rd_i (hr.new hnu) hg rfl hl λb o hc=>⟨_,hc _ (Keep.refl _ _),?_⟩
  refine aE (ux u (hi64 _ (List.getElem_mem hlt)) h1 h2) ?_
  rintro x u1 ⟨p,rfl,hp,hn1⟩
  refine aB.mk_ex p ⟨rfl,gX (vs:=p.cells) rfl (aB.single _) λb1 u2 hb1 hz1 hn2=>?_⟩
  have hz1:Blk u2 b1 p.cells TPg:=hz1
  have hn02:=(hnu.new hn1).new hn2
  have hown2:=Owns.new (hn1.new hn2) hown
  refine aQ mix (λm env z=>∃ (q:Nat) (jj:List Value),m=L.length - q∧q≤L.length∧env=eK a0 n0 c0 lines most a L.length c i ⟨b1,0,none⟩ q jj∧New u2 z∧∀ k (hk:k<L.length),k<q→L[k].Line<p.Line) L.length
   ⟨0,_,by omega,by omega,rfl,Keep.refl _ _,λk _ hk=>by omega⟩ ?_
  rintro m env z ⟨q,jj,rfl,hqL,rfl,hnz,hbef⟩
  refine lu (P:=prog) (fn:=f36) (R:=tR w lines most) (λ_ _=>rfl) ?_
  rw [lf]
  rintro z1 hz1'
  have hnz1:New z z1:=by rw [hz1'];exact aV _
  clear hz1'
  have hn2z:=hnz.new hnz1
  have hzz:=New.blk hn2z hz1
  have hownz:=Owns.new hn2z hown2
  have hn0z:=hn02.new hn2z
  refine ⟨λy=>New z1 y,Keep.refl _ _,aJ (λhql=>?g1) (λhql=>?g2)⟩
  case' g1=>
   have hg1:L[q]?=some L[q]:=List.getElem?_eq_getElem (by omega)
   refine kN (cells:=aB.cells) aB.len (by omega) hownz.rd hg1 rfl rfl λb' o' hc'=>⟨_,λy hy=>hc' y hy 0 _ rfl,_,λy hy=>(New.blk hy hzz).cell (i:=0) rfl,?_⟩
  all_goals
   refine lu (P:=prog) (fn:=f36) (R:=tR w lines most) (λ_ _=>rfl) ?_
   rw [mE]
   refine rX (λhs=>?_) (λhs1=>?_)
   ·first
    |exact absurd hs (by decide)
    |refine fQ ?_
     rw [mF]
     refine fQ ?_
     rw [w64 (by omega) (by omega)]
     exact ⟨L.length - (q+1),by omega,q+1,_,rfl,by omega,rfl,hn2z,λk hk hkq=>by by_cases e:k=q;(· subst e;exact of_decide_eq_true hs);(· exact hbef k hk (by omega))⟩
   refine uo (Qr_x (uo (p6 (fQ ?_))))
   refine (lg _ _ _).mpr ?_
   refine lu (P:=prog) (fn:=f36) (R:=tR w lines most) (λ_ _=>rfl) ?_
   rw [mG]
   rintro z2 hz2
   have hnz2:New z1 z2:=by rw [hz2];exact aV _
   clear hz2
   have hzz2:=New.blk hnz2 hzz
   have hownz2:=Owns.new hnz2 hownz
   have hn0z2:=hn0z.new hnz2
   refine ⟨λy=>New z2 y,Keep.refl _ _,aJ (λhql2=>?_) (λhql2=>?_)⟩
   all_goals try
    have hg1:L[q]?=some L[q]:=List.getElem?_eq_getElem (by omega)
    refine kN (cells:=aB.cells) aB.len (by omega) hownz2.rd hg1 rfl rfl λb' o' hc'=>⟨_,λy hy=>hc' y hy 0 _ rfl,_,λy hy=>(New.blk hy hzz2).cell (i:=0) rfl,bH (λhe=>?_) (λhe=>?_)⟩
   all_goals
    rw [mH]
    refine rX (λhs=>?_) (λhs=>?_)
    ·refine uo (p6 (fQ ?_))
     rw [eZ]
     refine fQ ?_
     rw [w64 (x:=(i:Int)+1) (by omega) (by omega)]
     exact ⟨l.length - (i+1),by omega,i+1,a,L.length,c,L,_,rfl,by omega,rfl,hn0z2,hownz2,hfr,rfl,hmost,hu64,hasc⟩
    have haft:∀ k (hk:k<L.length),q≤k→p.Line<L[k].Line:=λk hk hqk=>by
     first
     |cases hs
     |omega
     | (have e1:¬ (L[q]'(by omega)).Line<p.Line:=of_decide_eq_false hs1
        have e2:p.Line<(L[q]'(by omega)).Line:=by omega
        by_cases e:q=k
        ·subst e;exact e2
        ·have:=List.pairwise_iff_getElem.1 hasc q k (by omega) hk (by omega)
         omega)
    have hmm:¬ ((L.length:Int)≥most):=by first | exact of_decide_eq_false hs | cases hs
    refine fQ ?_
    refine lu (P:=prog) (fn:=f36) (R:=tR w lines most) (λ_ _=>rfl) ?_
    rw [mI]
    rintro z3 hz3
    have hnz3:New z2 z3:=by rw [hz3];exact aV _
    clear hz3
    have hzz3:=New.blk hnz3 hzz2
    have hownz3:=Owns.new hnz3 hownz2
    have hn0z3:=hn0z2.new hnz3
    have hsz3:=hn0z3.size
    refine ⟨λy=>New z3 y,Keep.refl _ _,?_⟩
    refine yX (cells:=aB.cells) aB.len hownz3.rd rfl hownz3.le (i:=0) (k:=q) rfl rfl (by omega) hqL λa1 hr1 hl1=>?_
    refine aB.mk_ex p ⟨λy hy=>aK (New.blk hy hzz3) rfl,?_⟩
    refine yX (cells:=aB.cells) aB.len hownz3.rd rfl hownz3.le (i:=q) (k:=L.length) rfl rfl hqL (by omega) λa2 hr2 hl2=>?_
    have nope:∀ (h:Nat) k,isB (none:Option Addr) k→h≤k:=λh k hk=>by obtain ⟨o,ho⟩:=hk;cases ho
    have nil9:∀ y:World,Owns y TPg 9 none 0 0 (eI []).flatten:=λy=>Owns.nil _ _ _
    have hpp:(eI [p]).flatten=p.cells:=by simp [eI]
    have fin:∀ (a5:Option Addr) (c5:Nat) (w5:World) (jj5:List Value),New z3 w5→Owns w5 TPg 9 a5 (0+(q - 0)+1+(L.length - q)) c5 (eI (([]++(L.take q).drop 0)++[p]++(L.take L.length).drop q)).flatten→(∀ k,isB a5 k→z3.heap.size≤k)→
      ∃ m',m'<l.length - i∧∃ (i':Nat) (a:Option Addr) (n c:Nat) (L':List aB) (jj:List Value),m'=l.length - i'∧i'≤l.length∧cK a0 n0 c0 lines most a5 (0+(q - 0)+1+(L.length - q)) c5 ((i:Int)+1) jj5=cK a0 n0 c0 lines most a n c i' jj∧New w w5∧Owns w5 TPg 9 a n c (eI L').flatten∧(∀ k,isB a k→w.heap.size≤k)∧n=L'.length∧(L'.length:Int)≤most∧(∀ p ∈ L',PgOk lines p)∧Asc L':=by
     intro a5 c5 w5 jj5 hn5 ho5 hf5
     have hlen:(([]++(L.take q).drop 0)++[p]++(L.take L.length).drop q).length=0+(q - 0)+1+(L.length - q):=by
      rw [List.length_append,List.length_append,List.length_append,hl1,hl2];rfl
     refine ⟨l.length - (i+1),by omega,i+1,a5,_,c5,_,jj5,rfl,by omega,rfl,hn0z3.new hn5,ho5,λk hk=>by have:=hf5 k hk;omega,hlen.symm,by rw [hlen];omega,?_,?_⟩
     rotate_left
     ·exact Fp hasc hbef haft
     intro y hy
     rcases List.mem_append.1 hy with hy | hy
     ·rcases List.mem_append.1 hy with hy | hy
      ·rw [List.nil_append,List.drop_zero] at hy
       exact hu64 y (List.mem_of_mem_take hy)
      ·rw [List.mem_singleton.1 hy];exact hp
     ·exact hu64 y (List.mem_of_mem_take (List.mem_of_mem_drop hy))
    constructor
    ·refine Ac (Keep.refl _ z3) (nil9 z3) (nope _) hr1 hl1.symm (by omega) λa3 c3 w3 hn3 ho3 hf3=>⟨hn3,?_⟩
     rintro b4 w4 hb4 hw4
     obtain ⟨hz4,hn4⟩:=aN hb4 hw4
     have hz4:Blk w4 b4 p.cells TPg:=hz4
     clear hw4
     have hn34:=hn3.new hn4
     refine ⟨hn34,?_⟩
     refine Ac hn34 (Owns.new hn4 ho3) hf3 (s:=some ⟨b4,0,none⟩) (m:=1) (ys:=[p]) (by rw [hpp];exact fG hz4 (by simp)) rfl (by omega) λa5 c5 w5 hn5 ho5 hf5=>⟨hn5,?_⟩
     refine Ac hn5 ho5 hf5 (hr2.new hn5) hl2.symm (by omega) λa6 c6 w6 hn6 ho6 hf6=>⟨hn6,?_⟩
     refine uT (fQ ?_)
     rw [eZ]
     refine fQ ?_
     rw [w64 (x:=(i:Int)+1) (by omega) (by omega)]
     exact fin a6 c6 w6 _ hn6 ho6 hf6
    ·rintro b4 w4 hb4 hw4
     obtain ⟨hz4,hn4⟩:=aN hb4 hw4
     have hz4:Blk w4 b4 p.cells TPg:=hz4
     clear hw4
     have hs4:=hn4.size
     refine ⟨hn4,?_⟩
     refine Ac (Keep.refl _ w4) (nil9 w4) (nope _) (hr1.new hn4) hl1.symm (by omega) λa3 c3 w3 hn3 ho3 hf3=>⟨hn4.new hn3,?_⟩
     refine Ac hn3 ho3 hf3 (s:=some ⟨b4,0,none⟩) (m:=1) (ys:=[p]) (by rw [hpp];exact fG (New.blk hn3 hz4) (by simp)) rfl (by omega) λa5 c5 w5 hn5 ho5 hf5=>⟨hn4.new hn5,?_⟩
     refine Ac hn5 ho5 hf5 (hr2.new (hn4.new hn5)) hl2.symm (by omega) λa6 c6 w6 hn6 ho6 hf6=>⟨hn4.new hn6,?_⟩
     refine uT (fQ ?_)
     rw [eZ]
     refine fQ ?_
     rw [w64 (x:=(i:Int)+1) (by omega) (by omega)]
     exact fin a6 c6 w6 _ (hn4.new hn6) ho6 λk hk=>by have:=hf6 k hk;omega
 ·refine uo (p6 (fQ ?_))
  refine lu (P:=prog) (fn:=f36) (R:=tR w lines most) (λ_ _=>rfl) ?_
  rw [mD]
  exact ⟨a,c,L,rfl,hown,hnu,hfr,hmost,hu64,hasc⟩
end Go.Proofs.YtegepanmkjemjaaGreat.Pg
namespace Go.Proofs.YtegepanmkjemjaaGreat.Pg
open Go.Proofs.Tryz
open Go.Eng C12
theorem Fq {α:Type} {cells:α→List Value} {sz:Nat} (hsz:∀ x,(cells x).length=sz) {l:List α} {i k:Nat} {x y:α} {v:Value} (hg:l[i]?=some x) (hk:k<sz) (he:(cells x).set k v=cells y):(l.map cells).flatten.set (i * sz+k) v=((l.set i y).map cells).flatten:=oF hsz l i k x y v hg hk he
theorem Fr {α:Type} {cells:α→List Value} {sz:Nat} (hsz:∀ x,(cells x).length=sz) {u:World} {e:TypeId} {a:Option Addr} {n cap:Nat} {l:List α} (ho:Owns u e sz a n cap (l.map cells).flatten) {i k:Nat} {x y:α} {v:Value} (hg:l[i]?=some x) (hn:n=l.length) (hk:k<sz) (he:(cells x).set k v=cells y) {z:Int} (hz:z=i)
  {F:Addr→Addr} (hF:∀ g o,F ⟨g,o,none⟩=⟨g,o+k,none⟩) {K:Addr→World→Prop} (hK:∀ ad u',Keep (isB a) u u'→Owns u' e sz a n cap ((l.set i y).map cells).flatten→K ad u') :
  idxS a n z sz λad=>(∃ x,u.cell? (F ad)=some x)∧u.frozen? (F ad)=false∧∀ u',u'=u.setCell (F ad) v→K ad u':=by
 subst hz hn
 have hlt:=aO hg
 obtain ⟨g,cur,rfl,hgb,hgl⟩:=AX ho (by omega)
 have hm:(i+1) * sz≤l.length * sz:=Nat.mul_le_mul_right _ hlt
 rw [Nat.succ_mul] at hm
 refine bB (by omega) (by omega) ?_
 rw [hF,Int.toNat_natCast,Nat.zero_add]
 have hlt2:i * sz+k<cur.length:=by omega
 refine ⟨⟨_,hgb.cell (List.getElem?_eq_getElem hlt2)⟩,hgb.frozen,λu' hu=>hK _ u' ?_ ?_⟩
 ·rw [hu]
  exact (aR _ _ _ _).mono λk' _ h=>⟨0,by rw [h]⟩
 ·have:=Owns.setCell ho (i:=i * sz+k) (by omega) v
  rw [Fq hsz hg hk he] at this
  rw [hu]
  exact this
abbrev TSn:TypeId:=71
abbrev TCJ:TypeId:=34
abbrev TR12:TypeId:=37
def zj:List Value:=aH.cells ⟨0,0,0,⟨0,none,0,0⟩,none,0,0,none,0,0⟩
theorem B7 {w:World} {e sz n cap k:Nat} {a:Option Addr} {xs:List Value} (h:Owns w e sz a n cap xs) (hk:isB a k):k<w.heap.size:=by
 obtain ⟨o,ho⟩:=hk
 rcases h.2 with ⟨e,_⟩ | ⟨g,cur,e,hg,_⟩
 ·rw [e] at ho;cases ho
 ·rw [e] at ho;simp at ho;have:=hg.lt;omega
theorem io (k:Nat):¬ isB (none:Option Addr) k:=λh=>by obtain ⟨o,ho⟩:=h;cases ho
structure COf (w u:World) (b1 b2 b3 B:Nat) (p:aT) (q:aH) (v:Vw) (X:List aU) (Y:List aB):Prop where
 new:New w u
 h1:Blk u b1 p.cells TR12
 h2:Blk u b2 zj TCJ
 h3:Blk u b3 q.cells TCJ
 lo:w.heap.size≤b1∧b1<b2∧b2<b3∧b3<B
 view:ViewAt (λk=>k=b1∨k=b2∨k=b3∨B≤k) u q.View v
 rown:Owns u TSn 2 q.Reads q.Reads_l q.Reads_c (lF X).flatten
 rlen:q.Reads_l=X.length
 rfew:X.length≤1000
 roff:∀ k,isB q.Reads k→B≤k
 wown:Owns u TPg 9 q.Writes q.Writes_l q.Writes_c (eI Y).flatten
 wlen:q.Writes_l=Y.length
 wfew:Y.length≤1000
 woff:∀ k,isB q.Writes k→B≤k
 wu64:∀ x ∈ Y,U64 x.Head
 dis:∀ k,isB q.Reads k→¬ isB q.Writes k
 big:B≤u.heap.size
variable {w u u':World} {b1 b2 b3 B:Nat} {p:aT} {q:aH} {v:Vw} {X X':List aU} {Y Y':List aB}
theorem COf.keep (h:COf w u b1 b2 b3 B p q v X Y) {M:Nat→Prop} (hk:Keep M u u') (hM:∀ k,M k→B≤k) (hR:∀ k,isB q.Reads k→¬ M k) (hW:∀ k,isB q.Writes k→¬ M k):COf w u' b1 b2 b3 B p q v X Y:=by
 have hl:=h.lo
 exact ⟨h.new.trans hk λk hlt hm=>by have:=hM k hm;omega,hk.blk h.h1 λe=>by have:=hM _ e;omega,hk.blk h.h2 λe=>by have:=hM _ e;omega,hk.blk h.h3 λe=>by have:=hM _ e;omega,
  h.lo,h.view.keep hk λk hn=>.inr (.inr (.inr (hM k hn))),Owns.keep hk h.rown hR,h.rlen,h.rfew,h.roff,Owns.keep hk h.wown hW,h.wlen,h.wfew,h.woff,h.wu64,h.dis,Nat.le_trans h.big hk.size⟩
theorem COf.nw (h:COf w u b1 b2 b3 B p q v X Y) (hn:New u u'):COf w u' b1 b2 b3 B p q v X Y:=h.keep hn (λ_ h=>h.elim) (λ_ _ h=>h) (λ_ _ h=>h)
theorem COf.wset (h:COf w u b1 b2 b3 B p q v X Y) (hk:Keep (isB q.Writes) u u') (ho:Owns u' TPg 9 q.Writes q.Writes_l q.Writes_c (eI Y').flatten) (hl:Y'.length=Y.length) (hu:∀ x ∈ Y',U64 x.Head):COf w u' b1 b2 b3 B p q v X Y':=by
 have hlo:=h.lo
 exact ⟨h.new.trans hk λk hlt hm=>by have:=h.woff k hm;omega,hk.blk h.h1 λe=>by have:=h.woff _ e;omega,hk.blk h.h2 λe=>by have:=h.woff _ e;omega,hk.blk h.h3 λe=>by have:=h.woff _ e;omega,
  h.lo,h.view.keep hk λk hn=>.inr (.inr (.inr (h.woff k hn))),Owns.keep hk h.rown λk hr hw=>h.dis k hr hw,h.rlen,h.rfew,h.roff,ho,by rw [hl];exact h.wlen,by rw [hl];exact h.wfew,h.woff,hu,h.dis,Nat.le_trans h.big hk.size⟩
theorem Fs {u:World} {a:Option Addr} {n cap:Nat} {L:List aU} (ho:Owns u TSn 2 a n cap (lF L).flatten) {x:aU} (hb1:n≤1000000) {K:Nat→Option Addr→Nat→Nat→World→Prop}
  (hk:∀ b ap cap' w3,b=u.heap.size→Owns w3 TSn 2 ap (n+1) cap' (lF (L++[x])).flatten→Keep (isB a) u w3→(∀ k,isB ap k→isB a k∨u.heap.size≤k)→K b ap (n+1) cap' w3) :
  ∀ b1 w2,b1=u.heap.size→w2=u.alloc (.cells x.cells.toArray TSn)→∃ (ap:Option Addr) (ap_len ap_cap:Nat),∃ w3,(Builtin.append_ #[31,31] 31 #[(.slice a n cap),(.slice (some ⟨b1,0,none⟩) 1 1)]).run prog w2=.ok (.slice ap ap_len ap_cap) w3∧K b1 ap ap_len ap_cap w3:=by
 obtain ⟨inf,hi,hz,hsz,hby⟩:=j8 (T:=TSn) (z:=.agg #[.int .i64 0,.int .u64 0]) (n:=2) (m:=16) (by kernel_rfl)
 rw [←hsz] at ho
 refine push_k (vs:=x.cells) Tryz.underlying31 hi hz (by rw [hsz];rfl) (by omega) ho (by rw [hsz];rfl) (aU.single x) (by omega) (by omega) ?_
 intro b ap cap' w3 h1 h2
 have e:(lF L).flatten++x.cells=(lF (L++[x])).flatten:=by simp [lF]
 rw [hsz,e] at h2
 exact hk b ap cap' w3 h1 h2
theorem DF {u:World} {a:Option Addr} {n cap:Nat} {L:List aU} (ho:Owns u TSn 2 a n cap (lF L).flatten) {x:aU} (hb1:n≤1000000) {S:World→Prop} (hS:∀ w2,New u w2→S w2) {K:Nat→Option Addr→Nat→Nat→World→Prop}
  (hk:∀ b ap cap' w3,b=u.heap.size→Owns w3 TSn 2 ap (n+1) cap' (lF (L++[x])).flatten→Keep (isB a) u w3→(∀ k,isB ap k→isB a k∨u.heap.size≤k)→K b ap (n+1) cap' w3) :
  ∀ b1 w2,b1=u.heap.size→w2=u.alloc (.cells x.cells.toArray TSn)→S w2∧∃ (ap:Option Addr) (ap_len ap_cap:Nat),∃ w3,(Builtin.append_ #[31,31] 31 #[(.slice a n cap),(.slice (some ⟨b1,0,none⟩) 1 1)]).run prog w2=.ok (.slice ap ap_len ap_cap) w3∧K b1 ap ap_len ap_cap w3:=
 λb1 w2 h1 h2=>⟨hS _ (aN h1 h2).2,Fs ho hb1 hk b1 w2 h1 h2⟩
theorem Ft {α:Type} {cells:α→List Value} {sz:Nat} (hsz:∀ x,(cells x).length=sz) (h0:0<sz) {u:World} {e:TypeId} {a:Option Addr} {n cap:Nat} {l:List α} (h:Owns u e sz a n cap (l.map cells).flatten) {M:Nat→Prop} (hM:∀ k,isB a k→¬ M k) {i:Nat} {x:α} (hx:l[i]?=some x) {z:Int} (hz:z=i) (hn:n=l.length) {K:Addr→Prop}
  (hk:∀ b o,(∀ y,Keep M u y→∀ (q:Nat) (v:Value),(cells x)[q]?=some v→y.cell? ⟨b,o+q,none⟩=some v)→K ⟨b,o,none⟩):idxS a n z sz K:=by
 subst hz hn
 have hlt:=aO hx
 have hs:∀ r ∈ l.map cells,r.length=sz:=λr hr=>by obtain ⟨y,_,rfl⟩:=List.mem_map.1 hr;exact hsz y
 obtain ⟨b,o,rfl,h1,h2⟩:=h.rd.row (sz:=sz) hs h0 (i:=i) (r:=cells x) (by simp [hx])
 refine bB (by omega) (by omega) ?_
 have:=hk b (o+i * sz) λy hy q v hv=>by
  obtain ⟨b',o',e,_,g2⟩:=(Owns.keep hy h hM).rd.row (sz:=sz) hs h0 (i:=i) (r:=cells x) (by simp [hx])
  simp at e
  obtain ⟨rfl,rfl⟩:=e
  exact g2 q v hv
 simpa using this
structure CRaw (w:World) (p:aT) (rl wl:List Int):Prop where
 a:I64 p.Client
 b:I64 p.Seq
 c:I64 p.Lines
 d:I64 p.Mask
 e:I64 p.Spoil
 f:I64 p.At
 rd:Rd w p.Reads (is rl)
 rlen:p.Reads_l=rl.length
 rfew:rl.length≤8
 ri:∀ x ∈ rl,I64 x
 wd:Rd w p.Writes (is wl)
 wlen:p.Writes_l=wl.length
 wfew:wl.length≤8
 wi:∀ x ∈ wl,I64 x
theorem CRaw.new {w w':World} {p:aT} {rl wl:List Int} (h:CRaw w p rl wl) (hn:New w w'):CRaw w' p rl wl:=⟨h.a,h.b,h.c,h.d,h.e,h.f,h.rd.new hn,h.rlen,h.rfew,h.ri,h.wd.new hn,h.wlen,h.wfew,h.wi⟩
section
variable {w u u':World} {b1 b2 b3 B:Nat} {p:aT} {q:aH} {v:Vw} {X:List aU} {Y P:List aB}
theorem COf.radd {c s l:Int} {vw:aM} {a ap wa:Option Addr} {n cc cap wl wc:Nat} {u3 u4:World} {x:aU} (h:COf w u b1 b2 b3 B p ⟨c,s,l,vw,a,n,cc,wa,wl,wc⟩ v X Y) (hk3:Keep (isB a) u u3) (ho3:Owns u3 TSn 2 ap (n+1) cap (lF (X++[x])).flatten)
  (hap:∀ k,isB ap k→isB a k∨u.heap.size≤k) (hX:X.length<900) (hk4:Keep (λk=>k=b3) u3 u4) (h34:Blk u4 b3 (aH.cells ⟨c,s,l,vw,ap,n+1,cap,wa,wl,wc⟩) TCJ):COf w u4 b1 b2 b3 B p ⟨c,s,l,vw,ap,n+1,cap,wa,wl,wc⟩ v (X++[x]) Y:=by
 have hlo:=h.lo
 have hbig:=h.big
 have hro:∀ k,isB a k→B≤k:=h.roff
 have hwo:∀ k,isB wa k→B≤k:=h.woff
 have hrl:n=X.length:=h.rlen
 have hkk:Keep (λk=>k=b3∨isB a k) u u4:=(hk3.mono λ_ _ h=>.inr h).trans hk4 λ_ _ h=>.inl h
 have hoff:∀ k,isB ap k→B≤k:=λk hk=>by
  rcases hap k hk with h | h
  ·exact hro k h
  ·omega
 have hd:∀ k,isB a k→¬ isB wa k:=h.dis
 refine ⟨h.new.trans hkk λk hlt e=>?_,hkk.blk h.h1 λe=>?_,hkk.blk h.h2 λe=>?_,h34,h.lo,h.view.keep hkk λk e=>?_,Owns.keep hk4 ho3 λk hk e=>?_,?_,by simp;omega,hoff,Owns.keep hkk h.wown λk hk e=>?_,h.wlen,h.wfew,h.woff,h.wu64,λk hk=>?_,Nat.le_trans hbig hkk.size⟩
 ·rcases e with e | e
  ·omega
  ·have:=hro k e;omega
 ·rcases e with e | e
  ·omega
  ·have:=hro _ e;omega
 ·rcases e with e | e
  ·omega
  ·have:=hro _ e;omega
 ·rcases e with e | e
  ·exact .inr (.inr (.inl e))
  ·exact .inr (.inr (.inr (hro k e)))
 ·have:=hoff k hk;omega
 ·show n+1=_
  simp [hrl]
 ·have hk:isB wa k:=hk
  rcases e with e | e
  ·have:=hwo k hk;omega
  ·exact hd k e hk
 ·rcases hap k hk with h1 | h1
  ·exact hd k h1
  ·intro hw
   have:=B7 h.wown hw
   omega
theorem Fu (h:COf w u b1 b2 b3 B p q v X Y) (hs:p.Spoil=23):Does 37 [.pointer (some ⟨b3,0,none⟩),p.val] u λx u'=>x=.tuple #[]∧New u u':=by
 refine does Tryz.func37 ?_
 rw [pq]
 rintro b4 u1 hb4 hw1
 obtain ⟨hz4,hn1⟩:=aN hb4 hw1
 have hz4:Blk u1 b4 p.cells TR12:=hz4
 refine ⟨_,hz4.cell (i:=4) rfl,?_⟩
 rw [hs]
 refine aE (fS u1 23 24 ⟨by omega,by omega⟩ (by omega)) ?_
 rintro x u2 ⟨rfl,rfl⟩
 rw [if_neg (by omega)]
 exact ⟨_,rfl,cU (by decide) (cU (by decide) (cU (by decide) (cU (by decide) (cU (by decide) (cU (by decide) ⟨rfl,hn1⟩)))))⟩
def setH (p:aB):aB:={ p with Head:=256 }
theorem yZ:∀ {Y:List aB} {i:Nat} {y:aB},Y[i]?=some y→((Y.take i).map setH++Y.drop i).set i (setH y)=(Y.take (i+1)).map setH++Y.drop (i+1)
 | [],i,y,h=>by simp at h
 |x::Y,0,y,h=>by
  simp only [List.getElem?_cons_zero,Option.some.injEq] at h
  subst h
  simp
 |x::Y,i+1,y,h=>by
  have:=yZ (Y:=Y) (i:=i) (y:=y) (by simpa using h)
  simp only [List.take_succ_cons,List.map_cons,List.cons_append,List.drop_succ_cons,List.set_cons_succ]
  rw [this]
theorem DG {Y:List aB} {i:Nat} {y:aB} (h:Y[i]?=some y):((Y.take i).map setH++Y.drop i)[i]?=some y:=by
 have hlt:=aO h
 rw [List.getElem?_append_right (by simp;omega),List.getElem?_drop]
 simp only [List.length_map,List.length_take]
 rw [show i+(i - min i Y.length)=i by omega]
 exact h
def OfX (w:World) (cl sq li:Int) (v:Vw) (X:List aU) (Y:List aB) (x:Value) (w':World):Prop:=∃ (rv:aM) (ra wa:Option Addr) (rl rc wl wc:Nat),x=aH.val ⟨cl,sq,li,rv,ra,rl,rc,wa,wl,wc⟩∧New w w'∧rl=X.length∧wl=Y.length∧Owns w' TSn 2 ra rl rc (lF X).flatten∧Owns w' TPg 9 wa wl wc (eI Y).flatten∧(∀ k,isB ra k→w.heap.size≤k)∧∀ k,isB wa k→w.heap.size≤k
set_option maxHeartbeats 1000000 in
theorem DH {cl sq li:Int} {vw:aM} {ra wa:Option Addr} {rl rc wl wc:Nat} (h:COf w u b1 b2 b3 B p ⟨cl,sq,li,vw,ra,rl,rc,wa,wl,wc⟩ v X Y) (he:p.Spoil=23) (hf:p.At=1) (jj:List Value) {R:Value→World→Prop} (hR:∀ x u,OfX w cl sq li v X (Y.map setH) x u→R x u) :
  W prog (sub (aD f14) [1,1,1,1,1,1,1]) (ig ⟨b1,0,none⟩ ⟨b2,0,none⟩ ⟨b3,0,none⟩ jj) (retQ prog f14 R) u:=by
 rw [nB]
 refine aQ mix (λm env z=>∃ (i:Nat) (jj:List Value),m=Y.length - i∧i≤Y.length∧env=eh ⟨b1,0,none⟩ ⟨b2,0,none⟩ ⟨b3,0,none⟩ i jj∧COf w z b1 b2 b3 B p ⟨cl,sq,li,vw,ra,rl,rc,wa,wl,wc⟩ v X ((Y.take i).map setH++Y.drop i)) Y.length
  ⟨0,_,by omega,by omega,rfl,by simpa using h⟩ ?_
 have hwl0:wl=Y.length:=h.wlen
 have hwf0:=h.wfew
 clear h
 rintro m env z ⟨i,jj,rfl,hi,rfl,h⟩
 rw [lZ]
 refine ⟨_,_,_,h.h3.cell (i:=6) rfl,aJ (λhq=>⟨_,h.h1.cell (i:=5) rfl,?_⟩) (λhq=>?_)⟩
 ·have hq:(i:Int)<(wl:Nat):=hq
  rw [hf]
  refine aE (fS z 1 3 ⟨by omega,by omega⟩ (by omega)) ?_
  rintro x z2 ⟨rfl,rfl⟩
  rw [if_neg (by omega)]
  have hlt:i<Y.length:=by omega
  have hg0:Y[i]?=some Y[i]:=List.getElem?_eq_getElem hlt
  have hg:=DG hg0
  refine ⟨_,rfl,jt (by decide) ⟨_,_,_,h.h3.cell (i:=6) rfl,?_⟩⟩
  refine Fr (cells:=aB.cells) aB.len h.wown hg h.wlen (k:=1) (y:=setH Y[i]) (by omega) rfl (z:=i) rfl (F:=λad=>⟨ad.block,ad.off+1,none⟩) (λ_ _=>rfl) λad u7 hk7 ho7=>?_
  have h7:=h.wset hk7 ho7 (by simp) λx hx=>by
   rcases List.mem_or_eq_of_mem_set hx with hx | rfl
   ·exact h.wu64 x hx
   ·show U64 256
    exact ⟨by omega,by omega⟩
  rw [yZ hg0] at h7
  rw [w64 (by omega) (by omega)]
  exact ⟨Y.length - (i+1),by omega,i+1,_,rfl,by omega,rfl,h7⟩
 ·have hq:¬ (i:Int)<(wl:Nat):=hq
  have hie:i=Y.length:=by omega
  subst hie
  rw [List.take_length,List.drop_length,List.append_nil] at h
  rw [nD]
  refine aT.mk_ex p ⟨aK h.h1 rfl,?_⟩
  refine aE (Fu h he) ?_
  rintro x u2 ⟨rfl,hn2⟩
  have h:=h.nw hn2
  refine ⟨rfl,?_⟩
  have hlo:=h.lo
  exact GT (cells:=aH.cells) (ex:=aH.ex) (λK r h=>aH.mk_ex r h) aH.single (r:=⟨cl,sq,li,vw,ra,rl,rc,wa,wl,wc⟩) h.h2 rfl h.h3 (K:=λr w'=>R (aH.val r) w') λw' hk'=>hR _ _ ⟨vw,ra,wa,rl,rc,wl,wc,rfl,h.new.trans hk' λk hlt e=>by omega,h.rlen,h.wlen,Owns.keep hk' h.rown λk hk e=>by have:=h.roff k hk;omega,Owns.keep hk' h.wown λk hk e=>by have:=h.woff k hk;omega,λk hk=>by have:=h.roff k hk;omega,λk hk=>by have:=h.woff k hk;omega⟩
end
end Go.Proofs.YtegepanmkjemjaaGreat.Pg
