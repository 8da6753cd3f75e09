/- A part of the proof. -/
import Derived.Test.YtafopfaomkklpaaGreatp05
set_option linter.unusedVariables false
namespace Go.Proofs.YtafopfaomkklpaaGreat
open Go.Proofs.Tryz
open Go.Eng
abbrev TPg:TypeId:=140
def i7 (l:List aP):List (List Value):=l.map aP.cells
def noP:aP:=⟨0,0,0,0,0,0,0,0,0⟩
def unl (h:Int):Bool:=band .u64 h 255 == 0
def rt (h:Int):Bool:=decide (1≤bshr .u64 h 8∧bshr .u64 h 8≤281474976710654)
def sG (p:aP):Bool:=rt p.Head && unl p.Head
def ascP (l:List aP) (i:Nat):Bool:=decide (i=0) || decide ((l.getD (i - 1) noP).Line<(l.getD i noP).Line)
def Fo (seq:Int) (W:List aP) (lines:Int):Int:=
 if ¬ (98≤lines∧lines≤256) then 18 else if seq<1∨1073741824≤seq∨W.length<1∨12<W.length then 1
 else if W.all (λp=>AM p.Line lines)=false then 2 else if (List.range W.length).all (λi=>ascP W i && sG (W.getD i noP))=false then 1 else 0
theorem FP {h:Int} (h0:U64 h):0≤bshr .u64 h 8∧bshr .u64 h 8<18446744073709551615:=by
 have e:bshr .u64 h 8=h / 256:=by
  show Int.fdiv h 256=_
  rw [Int.fdiv_eq_ediv_of_nonneg _ (by decide)]
 have:=h0.1
 have:=h0.2
 omega
theorem CE (w:World) (h:Int):Does 175 [.int .u64 h] w λv w'=>v=.bool (unl h)∧w'=w:=by
 refine does Tryz.func175 ?_
 rw [qM]
 exact ⟨rfl,rfl⟩
theorem FQ {a b c:Int} {w:World} (h:b=c):∃ x,Value.tuple #[.int .u64 a,.int .i64 b]=.tuple #[.int .u64 x,.int .i64 c]∧w=w:=⟨a,by rw [h],rfl⟩
theorem FR (w:World) {h:Int} (hu:U64 h):Does 174 [.int .u64 h] w λv w'=>∃ x,v=.tuple #[.int .u64 x,.int .i64 (if rt h=true then 0 else 2)]∧w'=w:=by
 refine does Tryz.func174 ?_
 rw [tC]
 have hb:=FP hu
 have hw:IntKind.u64.wrap (bshr .u64 h 8+1)=bshr .u64 h 8+1:=yt (by omega) (by omega)
 unfold rt
 refine aE (λh1=>FQ ?_) (λh1=>aE (λh2=>FQ ?_) (λh2=>FQ ?_))
 ·rw [if_neg (by simp;omega)]
 ·rw [hw] at h2;rw [if_neg (by simp;omega)]
 ·rw [hw] at h2;rw [if_pos (by simp;omega)]
structure CF (w:World) (a:Option Addr) (n:Nat) (W:List aP):Prop where
 rd:Rd w a (i7 W).flatten
 len:n=W.length
 few:W.length≤1000000
 u64:∀ p ∈ W,U64 p.Head
theorem CF.new {w w':World} {a:Option Addr} {n:Nat} {W:List aP} (h:CF w a n W) (hn:New w w'):CF w' a n W:=⟨h.rd.new hn,h.len,h.few,h.u64⟩
abbrev TSPg:TypeId:=62
theorem dP {P:Program} {fn:Func} {R:Value→World→Prop} {Q:Exit→List Value→World→Prop} {c:Code} {env:List Value} {w:World} (h':∀ env w,Q .ret env w=retQ P fn R .ret env w) (h:W P c env (Qr P fn R Q) w):W P c env Q w:=(W_qr h').mp h
theorem yy {α:Type} {cells:α→List Value} {sz:Nat} (hsz:∀ x,(cells x).length=sz):∀ (l:List α) (n:Nat),(l.map cells).flatten.drop (n * sz)=((l.drop n).map cells).flatten
 |l,0=>by simp
 | [],n+1=>by simp
 |x::l,n+1=>by
  have e:(n+1) * sz=(cells x).length+n * sz:=by rw [hsz,Nat.succ_mul,Nat.add_comm]
  rw [List.map_cons,List.flatten_cons,List.drop_succ_cons,e,←List.drop_drop,List.drop_left]
  exact yy hsz l n
theorem vH {α:Type} {cells:α→List Value} {sz:Nat} (hsz:∀ x,(cells x).length=sz):∀ (l:List α) (n:Nat),(l.map cells).flatten.take (n * sz)=((l.take n).map cells).flatten
 |l,0=>by simp
 | [],n+1=>by simp
 |x::l,n+1=>by
  have e:(n+1) * sz=(cells x).length+n * sz:=by rw [hsz,Nat.succ_mul,Nat.add_comm]
  rw [List.map_cons,List.flatten_cons,List.take_succ_cons,List.map_cons,List.flatten_cons,e,List.take_append,List.take_of_length_le (by omega),Nat.add_sub_cancel_left,vH hsz l n]
theorem vj {α:Type} {cells:α→List Value} {sz:Nat} (hsz:∀ x,(cells x).length=sz) {u:World} {a:Option Addr} {l:List α} (h:Rd u a (l.map cells).flatten) {n cap:Nat} (hn:n=l.length) (hc:n≤cap) {lo hi:Int} {i k:Nat} (hlo:lo=i) (hhi:hi=k) (h1:i≤k) (h2:k≤n) {K:Option Addr→Nat→Nat→Prop}
  (hk:∀ a',Rd u a' (((l.take k).drop i).map cells).flatten→((l.take k).drop i).length=k - i→K a' (k - i) (cap - i)):sl3 a n cap lo hi cap sz K:=by
 subst hlo hhi hn
 refine ⟨by omega,by omega,by omega,by omega,by omega,?_⟩
 have hl:((l.take k).drop i).length=k - i:=by rw [List.length_drop,List.length_take];omega
 refine hk _ ?_ hl
 by_cases hci:(cap:Int)=i
 ·have:(l.take k).drop i=[]:=List.eq_nil_of_length_eq_zero (by omega)
  rw [this]
  exact Rd.nil _ _
 ·rw [if_neg hci]
  have ht:=h.take (k * sz)
  rw [vH hsz] at ht
  have hd:=yy hsz (l.take k) i
  rw [←hd]
  rcases ht with he | ⟨b,o,rfl,hcs⟩
  ·rw [he];exact .inl (by simp)
  ·simp only [Option.map_some,rg,Int.toNat_natCast]
   exact Rd.drop (.inr ⟨b,o,rfl,hcs⟩:Rd u (some ⟨b,o,none⟩) _) (i * sz)
theorem BG {u0 u:World} {a s:Option Addr} {n cap m c:Nat} {xs ys:List aP} (hn:New u0 u) (ho:Owns u TPg 9 a n cap (i7 xs).flatten) (hf:∀ k,isB a k→u0.heap.size≤k) (hs:Rd u s (i7 ys).flatten) (hm:m=ys.length) (hx:n+m≤1000000) {K:Option Addr→Nat→Nat→World→Prop}
  (hk:∀ a' cap' w',New u0 w'→Owns w' TPg 9 a' (n+m) cap' (i7 (xs++ys)).flatten→(∀ k,isB a' k→u0.heap.size≤k)→K a' (n+m) cap' w') :
  ∃ (ap:Option Addr) (ap_len ap_cap:Nat),∃ w3,(Builtin.append_ #[TSPg,TSPg] TSPg #[(.slice a n cap),(.slice s m c)]).run prog u=.ok (.slice ap ap_len ap_cap) w3∧K ap ap_len ap_cap w3:=by
 obtain ⟨inf,hinf,hz,hsz,hby⟩:=p7 (T:=TPg) (z:=.agg #[.int .i64 0,.int .u64 0,.int .u64 0,.int .u64 0,.int .u64 0,.int .u64 0,.int .u64 0,.int .u64 0,.int .u64 0]) (n:=9) (m:=72) (by kernel_rfl)
 rw [←hsz] at ho
 have hlr:(i7 ys).flatten.length=m * inf.size:=by
  rw [hsz,hm,sK (rows:=i7 ys) (sz:=9) (λr hr=>by obtain ⟨y,_,rfl⟩:=List.mem_map.1 hr;rfl)]
  simp [i7]
 have hsing:∀ x ∈ (i7 ys).flatten,single x=true:=by
  intro x hx
  obtain ⟨r,hr,hx⟩:=List.mem_flatten.1 hx
  obtain ⟨y,_,rfl⟩:=List.mem_map.1 hr
  exact aP.single y x hx
 obtain ⟨ap,cap',w7,hrun,hown,hk7,hap⟩:=Owns.append (P:=prog) (t:=TSPg) (ty:=TSPg) Tryz.underlying62 hinf hz (by rw [hsz];rfl) (by omega) ho (c:=c) hlr hs hsing (by omega) (by rw [hby];omega)
 rw [hsz] at hown
 have e:(i7 xs).flatten++(i7 ys).flatten=(i7 (xs++ys)).flatten:=by simp [i7]
 rw [e] at hown
 refine ⟨ap,n+m,cap',w7,hrun,hk ap cap' w7 (hn.trans hk7 λk hlt hb=>by have:=hf k hb;omega) hown λk hb=>?_⟩
 rcases hap with rfl | rfl
 ·exact hf k hb
 ·obtain ⟨o,ho⟩:=hb
  simp at ho
  have:=hn.size
  omega
theorem mq (x:Int):U64 (IntKind.u64.wrap x):=by
 unfold U64
 simp only [IntKind.wrap,IntKind.bits,IntKind.signed]
 simp
 omega
theorem D9 (p:aP) {i:Nat} (hi:i<7) (x:Int):∃ q:aP,p.cells.set (2+i) (.int .u64 x)=q.cells∧q.Head=p.Head∧q.Line=p.Line:=by
 match i,hi with
 | 0,_=>exact ⟨{ p with Data0:=x },rfl,rfl,rfl⟩
 | 1,_=>exact ⟨{ p with Data1:=x },rfl,rfl,rfl⟩
 | 2,_=>exact ⟨{ p with Data2:=x },rfl,rfl,rfl⟩
 | 3,_=>exact ⟨{ p with Data3:=x },rfl,rfl,rfl⟩
 | 4,_=>exact ⟨{ p with Data4:=x },rfl,rfl,rfl⟩
 | 5,_=>exact ⟨{ p with Data5:=x },rfl,rfl,rfl⟩
 | 6,_=>exact ⟨{ p with Data6:=x },rfl,rfl,rfl⟩
def PgD (p:aP):Prop:=∀ i,i<7→∃ x,p.cells[2+i]?=some (.int .u64 x)∧U64 x
def PgOk (lines:Int) (p:aP):Prop:=U64 p.Head∧(96≤p.Line∧p.Line<lines)∧PgD p
theorem pgD0 (l h:Int):PgD ⟨l,h,0,0,0,0,0,0,0⟩:=by
 have u0:U64 0:=⟨by omega,by omega⟩
 intro i hi
 match i,hi with
 | 0,_=>exact ⟨0,rfl,u0⟩
 | 1,_=>exact ⟨0,rfl,u0⟩
 | 2,_=>exact ⟨0,rfl,u0⟩
 | 3,_=>exact ⟨0,rfl,u0⟩
 | 4,_=>exact ⟨0,rfl,u0⟩
 | 5,_=>exact ⟨0,rfl,u0⟩
 | 6,_=>exact ⟨0,rfl,u0⟩
theorem FS {p q:aP} {i:Nat} {x:Int} (h:PgD p) (hx:U64 x) (hq:p.cells.set (2+i) (.int .u64 x)=q.cells):PgD q:=by
 intro j hj
 rw [←hq]
 by_cases e:i=j
 ·subst e
  exact ⟨x,by rw [List.getElem?_set_self (by rw [aP.len];omega)],hx⟩
 ·rw [List.getElem?_set_ne (by omega)]
  exact h j hj
theorem H8 {x:Int} (hx:I64 x):I64 (IntKind.i64.wrap (Int.tdiv x 64)):=lg _
set_option maxHeartbeats 1000000 in
theorem Fp (w:World) {n lines:Int} (hn:I64 n) (h1:98≤lines) (h2:lines≤256):Does 73 [.int .i64 n,.int .i64 lines] w λx w'=>∃ p:aP,x=p.val∧PgOk lines p∧New w w':=by
 refine does Tryz.func73 ?_
 rw [tB]
 rintro b1 w1 hb1 hw1
 obtain ⟨hz1,hn1⟩:=aR hb1 hw1
 have hz1:Blk w1 b1 noP.cells TPg:=hz1
 clear hw1
 rw [w64 (x:=lines - 96) (by omega) (by omega)]
 refine aG (eW w1 n (lines - 96) hn (by omega)) ?_
 rintro x w2 ⟨rfl,rfl⟩
 refine ⟨_,rfl,?_⟩
 refine aG (eW w2 _ 4 (H8 hn) (by omega)) ?_
 rintro x w3 ⟨rfl,rfl⟩
 refine ⟨_,rfl,?_⟩
 have hs1:=hn1.size
 have hl1:=hz1.lt
 have hln:96≤IntKind.i64.wrap (96+(if lines - 96<1 then 0 else n % (lines - 96)))∧IntKind.i64.wrap (96+(if lines - 96<1 then 0 else n % (lines - 96)))<lines:=by
  have hp:=oK (x:=n) (n:=lines - 96) (by omega)
  generalize (if lines - 96<1 then 0 else n % (lines - 96))=q at hp ⊢
  rw [w64 (by omega) (by omega)]
  omega
 generalize (IntKind.i64.wrap (96+_))=ln at hln ⊢
 generalize (IntKind.i64.wrap (_+1))=hd
 have hu:U64 (bshl .u64 (IntKind.u64.wrap hd) 8):=mq _
 generalize (bshl .u64 (IntKind.u64.wrap hd) 8)=hw at hu
 refine kE (vs:=aP.cells ⟨ln,hw,0,0,0,0,0,0,0⟩) rfl (aP.single _) λb2 w5 hb2 hz2 hn2=>?_
 refine aS mix (λm env u=>∃ (i:Nat) (p:aP) (jj:List Value),m=7 - i∧i≤7∧env=gJ n ⟨b1,0,none⟩ ⟨b2,0,none⟩ i jj∧New w u∧Blk u b1 noP.cells TPg∧Blk u b2 p.cells TPg∧PgOk lines p) 7
  ⟨0,_,_,by omega,by omega,rfl,hn1.new hn2,New.blk hn2 hz1,hz2,hu,hln,pgD0 _ _⟩ ?_
 rintro m env u ⟨i,p,jj,rfl,hi,rfl,hnu,hu1,hu2,hph⟩
 rw [nG]
 refine aE (λhq=>?_) (λhq=>?_)
 ·refine aG (eW u n 1048576 hn (by omega)) ?_
  rintro x u2 ⟨rfl,rfl⟩
  refine ⟨_,rfl,Cy (by omega) (by omega) ?_⟩
  have hi7:i<7:=by omega
  refine yv (b:=b2) hu2 (o:=0+2+((i:Nat):Int).toNat * 1) (by simp [aP.cells];omega) λu3 hu3 hk3=>?_
  have e:0+2+((i:Nat):Int).toNat * 1=2+i:=by omega
  rw [e] at hu3
  obtain ⟨q,hq,hqh,hql⟩:=D9 p hi7 (IntKind.u64.wrap (IntKind.u64.wrap (if (1048576:Int)<1 then 0 else n % 1048576) * IntKind.u64.wrap (IntKind.i64.wrap ((i:Int)+3))))
  rw [hq] at hu3
  rw [w64 (x:=(i:Int)+1) (by omega) (by omega)]
  refine ⟨7 - (i+1),by omega,i+1,q,_,rfl,by omega,rfl,hnu.trans hk3 λk hlt e=>by omega,hk3.blk hu1 (by omega),hu3,by rw [hqh];exact hph.1,by rw [hql];exact hph.2.1,FS hph.2.2 (mq _) hq⟩
 ·rw [qd]
  refine aP.mk_ex p ⟨aK hu2 rfl,?_⟩
  refine qL (vs:=p.cells) hu1 rfl (aP.single _) λu3 hz3 hk3=>?_
  exact aP.mk_ex p ⟨aK hz3 rfl,rfl,p,rfl,hph,hnu.trans hk3 λk hlt e=>by omega⟩
abbrev vI (w:World) (lines most:Int):Value→World→Prop:=λx w'=>∃ (a:Option Addr) (c:Nat) (L:List aP),x=.slice a L.length c∧Owns w' TPg 9 a L.length c (i7 L).flatten∧New w w'∧(∀ k,isB a k→w.heap.size≤k)∧(L.length:Int)≤most∧∀ p ∈ L,PgOk lines p
set_option maxHeartbeats 4000000 in
theorem FT (w:World) {a0:Option Addr} {n0 c0:Nat} {l:List Int} (hr:Rd w a0 (is l)) (hl:n0=l.length) (hfew:l.length≤1000) (hi64:∀ x ∈ l,I64 x) {lines most:Int} (h1:98≤lines) (h2:lines≤256) (h3:0≤most) (h4:most≤1000) :
  Does 113 [.slice a0 n0 c0,.int .i64 lines,.int .i64 most] w (vI w lines most):=by
 refine does Tryz.func113 ?_
 rw [sL]
 refine aS mix (λm env u=>∃ (i:Nat) (a:Option Addr) (n c:Nat) (L:List aP) (jj:List Value),m=l.length - i∧i≤l.length∧env=dV a0 n0 c0 lines most a n c i jj∧New w u∧Owns u TPg 9 a n c (i7 L).flatten∧(∀ k,isB a k→w.heap.size≤k)∧n=L.length∧(L.length:Int)≤most∧∀ p ∈ L,PgOk lines p) l.length
  ⟨0,none,0,0,[],_,by omega,by omega,rfl,Keep.refl _ _,Owns.nil _ _ _,(λk hk=>by obtain ⟨o,ho⟩:=hk;cases ho),rfl,by simpa using h3,by simp⟩ ?_
 rintro m env u ⟨i,a,n,c,L,jj,rfl,hi,rfl,hnu,hown,hfr,rfl,hmost,hu64⟩
 refine dP (P:=prog) (fn:=f113) (R:=vI w lines most) (λ_ _=>rfl) ?_
 rw [mR]
 refine aE (λhq=>?_) (λhq=>?_)
 ·have hlt:i<l.length:=by omega
  have hg:l[i]?=some l[i]:=List.getElem?_eq_getElem hlt
  refine rd_i (hr.new hnu) hg rfl hl λb o hc=>⟨_,hc _ (Keep.refl _ _),?_⟩
  refine aG (Fp u (hi64 _ (List.getElem_mem hlt)) h1 h2) ?_
  rintro x u1 ⟨p,rfl,hp,hn1⟩
  refine aP.mk_ex p ⟨rfl,kE (vs:=p.cells) rfl (aP.single _) λb1 u2 hb1 hz1 hn2=>?_⟩
  have hz1:Blk u2 b1 p.cells TPg:=hz1
  have hn02:=(hnu.new hn1).new hn2
  have hown2:=Owns.new (hn1.new hn2) hown
  refine aS mix (λm env z=>∃ (q:Nat) (jj:List Value),m=L.length - q∧q≤L.length∧env=fZ a0 n0 c0 lines most a L.length c i ⟨b1,0,none⟩ q jj∧New u2 z) L.length
   ⟨0,_,by omega,by omega,rfl,Keep.refl _ _⟩ ?_
  rintro m env z ⟨q,jj,rfl,hqL,rfl,hnz⟩
  refine dP (P:=prog) (fn:=f113) (R:=vI w lines most) (λ_ _=>rfl) ?_
  rw [mS]
  rintro z1 hz1'
  have hnz1:New z z1:=by rw [hz1'];exact aW _
  clear hz1'
  have hn2z:=hnz.new hnz1
  have hzz:=New.blk hn2z hz1
  have hownz:=Owns.new hn2z hown2
  have hn0z:=hn02.new hn2z
  refine ⟨λy=>New z1 y,Keep.refl _ _,aE (λhql=>?g1) (λhql=>?g2)⟩
  case' g1=>
   have hg1:L[q]?=some L[q]:=List.getElem?_eq_getElem (by omega)
   refine iN (cells:=aP.cells) aP.len (by omega) hownz.rd hg1 rfl rfl λb' o' hc'=>⟨_,λy hy=>hc' y hy 0 _ rfl,_,λy hy=>(New.blk hy hzz).cell (i:=0) rfl,?_⟩
  all_goals
   refine dP (P:=prog) (fn:=f113) (R:=vI w lines most) (λ_ _=>rfl) ?_
   rw [pC]
   refine iL (λhs=>?_) (λhs=>?_)
   ·first
    |exact absurd hs (by decide)
    |refine bY ?_
     rw [pD]
     refine bY ?_
     rw [w64 (by omega) (by omega)]
     exact ⟨L.length - (q+1),by omega,q+1,_,rfl,by omega,rfl,hn2z⟩
   refine vE (Qr_x (vE (tp (bY ?_))))
   refine (mT _ _ _).mpr ?_
   refine dP (P:=prog) (fn:=f113) (R:=vI w lines most) (λ_ _=>rfl) ?_
   rw [pE]
   rintro z2 hz2
   have hnz2:New z1 z2:=by rw [hz2];exact aW _
   clear hz2
   have hzz2:=New.blk hnz2 hzz
   have hownz2:=Owns.new hnz2 hownz
   have hn0z2:=hn0z.new hnz2
   refine ⟨λy=>New z2 y,Keep.refl _ _,aE (λhql2=>?_) (λhql2=>?_)⟩
   all_goals try
    have hg1:L[q]?=some L[q]:=List.getElem?_eq_getElem (by omega)
    refine iN (cells:=aP.cells) aP.len (by omega) hownz2.rd hg1 rfl rfl λb' o' hc'=>⟨_,λy hy=>hc' y hy 0 _ rfl,_,λy hy=>(New.blk hy hzz2).cell (i:=0) rfl,bC (λhe=>?_) (λhe=>?_)⟩
   all_goals
    rw [pF]
    refine iL (λhs=>?_) (λhs=>?_)
    ·refine vE (tp (bY ?_))
     rw [gP]
     refine bY ?_
     rw [w64 (x:=(i:Int)+1) (by omega) (by omega)]
     exact ⟨l.length - (i+1),by omega,i+1,a,L.length,c,L,_,rfl,by omega,rfl,hn0z2,hownz2,hfr,rfl,hmost,hu64⟩
    have hmm:¬ ((L.length:Int)≥most):=by first | exact of_decide_eq_false hs | cases hs
    refine bY ?_
    refine dP (P:=prog) (fn:=f113) (R:=vI w lines most) (λ_ _=>rfl) ?_
    rw [pG]
    rintro z3 hz3
    have hnz3:New z2 z3:=by rw [hz3];exact aW _
    clear hz3
    have hzz3:=New.blk hnz3 hzz2
    have hownz3:=Owns.new hnz3 hownz2
    have hn0z3:=hn0z2.new hnz3
    have hsz3:=hn0z3.size
    refine ⟨λy=>New z3 y,Keep.refl _ _,?_⟩
    refine vj (cells:=aP.cells) aP.len hownz3.rd rfl hownz3.le (i:=0) (k:=q) rfl rfl (by omega) hqL λa1 hr1 hl1=>?_
    refine aP.mk_ex p ⟨λy hy=>aK (New.blk hy hzz3) rfl,?_⟩
    refine vj (cells:=aP.cells) aP.len hownz3.rd rfl hownz3.le (i:=q) (k:=L.length) rfl rfl hqL (by omega) λa2 hr2 hl2=>?_
    have nope:∀ (h:Nat) k,isB (none:Option Addr) k→h≤k:=λh k hk=>by obtain ⟨o,ho⟩:=hk;cases ho
    have nil9:∀ y:World,Owns y TPg 9 none 0 0 (i7 []).flatten:=λy=>Owns.nil _ _ _
    have hpp:(i7 [p]).flatten=p.cells:=by simp [i7]
    have fin:∀ (a5:Option Addr) (c5:Nat) (w5:World) (jj5:List Value),New z3 w5→Owns w5 TPg 9 a5 (0+(q - 0)+1+(L.length - q)) c5 (i7 (([]++(L.take q).drop 0)++[p]++(L.take L.length).drop q)).flatten→(∀ k,isB a5 k→z3.heap.size≤k)→
      ∃ m',m'<l.length - i∧∃ (i':Nat) (a:Option Addr) (n c:Nat) (L':List aP) (jj:List Value),m'=l.length - i'∧i'≤l.length∧dV a0 n0 c0 lines most a5 (0+(q - 0)+1+(L.length - q)) c5 ((i:Int)+1) jj5=dV a0 n0 c0 lines most a n c i' jj∧New w w5∧Owns w5 TPg 9 a n c (i7 L').flatten∧(∀ k,isB a k→w.heap.size≤k)∧n=L'.length∧(L'.length:Int)≤most∧∀ p ∈ L',PgOk lines p:=by
     intro a5 c5 w5 jj5 hn5 ho5 hf5
     have hlen:(([]++(L.take q).drop 0)++[p]++(L.take L.length).drop q).length=0+(q - 0)+1+(L.length - q):=by
      rw [List.length_append,List.length_append,List.length_append,hl1,hl2];rfl
     refine ⟨l.length - (i+1),by omega,i+1,a5,_,c5,_,jj5,rfl,by omega,rfl,hn0z3.new hn5,ho5,λk hk=>by have:=hf5 k hk;omega,hlen.symm,by rw [hlen];omega,?_⟩
     intro y hy
     rcases List.mem_append.1 hy with hy | hy
     ·rcases List.mem_append.1 hy with hy | hy
      ·rw [List.nil_append,List.drop_zero] at hy
       exact hu64 y (List.mem_of_mem_take hy)
      ·rw [List.mem_singleton.1 hy];exact hp
     ·exact hu64 y (List.mem_of_mem_take (List.mem_of_mem_drop hy))
    constructor
    ·refine BG (Keep.refl _ z3) (nil9 z3) (nope _) hr1 hl1.symm (by omega) λa3 c3 w3 hn3 ho3 hf3=>⟨hn3,?_⟩
     rintro b4 w4 hb4 hw4
     obtain ⟨hz4,hn4⟩:=aR hb4 hw4
     have hz4:Blk w4 b4 p.cells TPg:=hz4
     clear hw4
     have hn34:=hn3.new hn4
     refine ⟨hn34,?_⟩
     refine BG hn34 (Owns.new hn4 ho3) hf3 (s:=some ⟨b4,0,none⟩) (m:=1) (ys:=[p]) (by rw [hpp];exact eV hz4 (by simp)) rfl (by omega) λa5 c5 w5 hn5 ho5 hf5=>⟨hn5,?_⟩
     refine BG hn5 ho5 hf5 (hr2.new hn5) hl2.symm (by omega) λa6 c6 w6 hn6 ho6 hf6=>⟨hn6,?_⟩
     refine xx (bY ?_)
     rw [gP]
     refine bY ?_
     rw [w64 (x:=(i:Int)+1) (by omega) (by omega)]
     exact fin a6 c6 w6 _ hn6 ho6 hf6
    ·rintro b4 w4 hb4 hw4
     obtain ⟨hz4,hn4⟩:=aR hb4 hw4
     have hz4:Blk w4 b4 p.cells TPg:=hz4
     clear hw4
     have hs4:=hn4.size
     refine ⟨hn4,?_⟩
     refine BG (Keep.refl _ w4) (nil9 w4) (nope _) (hr1.new hn4) hl1.symm (by omega) λa3 c3 w3 hn3 ho3 hf3=>⟨hn4.new hn3,?_⟩
     refine BG hn3 ho3 hf3 (s:=some ⟨b4,0,none⟩) (m:=1) (ys:=[p]) (by rw [hpp];exact eV (New.blk hn3 hz4) (by simp)) rfl (by omega) λa5 c5 w5 hn5 ho5 hf5=>⟨hn4.new hn5,?_⟩
     refine BG hn5 ho5 hf5 (hr2.new (hn4.new hn5)) hl2.symm (by omega) λa6 c6 w6 hn6 ho6 hf6=>⟨hn4.new hn6,?_⟩
     refine xx (bY ?_)
     rw [gP]
     refine bY ?_
     rw [w64 (x:=(i:Int)+1) (by omega) (by omega)]
     exact fin a6 c6 w6 _ (hn4.new hn6) ho6 λk hk=>by have:=hf6 k hk;omega
 ·refine vE (tp (bY ?_))
  refine dP (P:=prog) (fn:=f113) (R:=vI w lines most) (λ_ _=>rfl) ?_
  rw [pB]
  exact ⟨a,c,L,rfl,hown,hnu,hfr,hmost,hu64⟩
theorem jY (w:World) (c:Int):Does 119 [.int .i64 c] w λv w'=>v=.bool (decide (0≤c∧c<6))∧w'=w:=by
 refine does Tryz.func119 ?_
 rw [sn]
 refine aE (λh=>⟨?_,rfl⟩) (λh=>⟨?_,rfl⟩)
 ·have:0≤c:=h
  simp [this]
 ·have:¬ 0≤c:=h
  simp [this]
set_option maxHeartbeats 1000000 in
theorem CG {w:World} {r:aO} {W:List aP} (h:CF w r.Writes r.Writes_l W) (lines:Int):Does 146 [r.val,.int .i64 lines] w λx w'=>x=.int .i64 (Fo r.Seq W lines)∧New w w':=by
 refine does Tryz.func146 ?_
 rw [oL]
 rintro b1 w1 hb1 hw1
 obtain ⟨hz1,hn⟩:=aR hb1 hw1
 have hz1:Blk w1 b1 r.cells 210:=hz1
 clear hw1
 have hlen:=h.len
 have hfew:=h.few
 unfold Fo
 refine aE (λhp=>?_) (λhp=>aE (λhp1=>?_) (λhp1=>⟨_,hz1.cell (i:=0) rfl,aE (λhp2=>?_) (λhp2=>⟨_,hz1.cell (i:=0) rfl,aE (λhp3=>?_) (λhp3=>⟨_,_,_,hz1.cell (i:=1) rfl,aE (λhp4=>?_) (λhp4=>⟨_,_,_,hz1.cell (i:=1) rfl,aE (λhp5=>?_) (λhp5=>?_)⟩)⟩)⟩)⟩))
 ·rw [if_pos (by omega)];exact ⟨rfl,hn⟩
 ·rw [if_pos (by omega)];exact ⟨rfl,hn⟩
 ·rw [if_neg (by omega),if_pos (by omega)];exact ⟨rfl,hn⟩
 ·rw [if_neg (by omega),if_pos (by omega)];exact ⟨rfl,hn⟩
 ·rw [if_neg (by omega),if_pos (by omega)];exact ⟨rfl,hn⟩
 ·rw [if_neg (by omega),if_pos (by omega)];exact ⟨rfl,hn⟩
 rw [if_neg (by omega),if_neg (by omega)]
 refine aS mix (λm env u=>∃ (i:Nat) (jj:List Value),m=W.length - i∧i≤W.length∧env=ef lines ⟨b1,0,none⟩ i jj∧u=w1∧(W.take i).all (λp=>AM p.Line lines)=true) W.length
  ⟨0,_,by omega,by omega,rfl,rfl,rfl⟩ ?_
 rintro m env u ⟨i,jj,rfl,hi,rfl,rfl,hok⟩
 have hrd:=h.rd.new hn
 rw [jW]
 refine ⟨_,_,_,hz1.cell (i:=1) rfl,aE (λhq=>⟨_,_,_,hz1.cell (i:=1) rfl,?_⟩) (λhq=>?_)⟩
 ·have hlt:i<W.length:=by omega
  have hg:W[i]?=some W[i]:=List.getElem?_eq_getElem hlt
  refine fY (cells:=aP.cells) aP.len (by omega) hrd hg rfl hlen λb o _ hc=>⟨_,hc 0 _ rfl,?_⟩
  refine aG (CD _ _ _) ?_
  rintro x w3 ⟨rfl,rfl⟩
  refine ⟨_,rfl,ri (λhf=>?_) (λht=>?_)⟩
  ·rw [if_pos (by
    rw [List.all_eq_false]
    exact ⟨_,List.getElem_mem hlt,by rw [hf];simp⟩)]
   exact ⟨rfl,hn⟩
  ·rw [w64 (by omega) (by omega)]
   refine ⟨W.length - (i+1),by omega,i+1,_,rfl,by omega,rfl,rfl,?_⟩
   rw [List.take_add_one,hg,List.all_append,hok]
   simp [ht]
 have ht:W.take i=W:=List.take_of_length_le (by omega)
 rw [ht] at hok
 rw [if_neg (by rw [hok];simp),lr]
 clear hok hi hq ht
 refine aS mix (λm env z=>∃ (i:Nat) (jj:List Value),m=W.length - i∧i≤W.length∧env=cU ⟨b1,0,none⟩ i jj∧New u z∧∀ k,k<i→(ascP W k && sG (W.getD k noP))=true) W.length
  ⟨0,_,by omega,by omega,rfl,Keep.refl _ _,λk hk=>by omega⟩ ?_
 rintro m env z ⟨i,jj,rfl,hi,rfl,hnz,hok⟩
 have hn0z:=hn.new hnz
 rw [jX]
 refine ⟨_,_,_,(New.blk hnz hz1).cell (i:=1) rfl,aE (λhq=>⟨_,_,_,(New.blk hnz hz1).cell (i:=1) rfl,?_⟩) (λhq=>?_)⟩
 ·have hlt:i<W.length:=by omega
  have hg:W[i]?=some W[i]:=List.getElem?_eq_getElem hlt
  have hgd:=oJ (d:=noP) hg
  have hu:U64 W[i].Head:=h.u64 _ (List.getElem_mem hlt)
  have bad:(ascP W i && sG (W.getD i noP))=false→(if ((List.range W.length).all λi=>ascP W i && sG (W.getD i noP))=false then 1 else (0:Int))=1:=λe=>if_pos (rp hlt e)
  refine fY (cells:=aP.cells) aP.len (by omega) (h.rd.new hn0z) hg rfl hlen λb o _ hc=>⟨_,hc 1 _ rfl,?_⟩
  refine aG (FR z hu) ?_
  rintro x z1 ⟨y,rfl,rfl⟩
  refine ⟨_,_,rfl,?_⟩
  rintro z2 hz2
  have hn2:New z1 z2:=by rw [hz2];exact aW _
  clear hz2
  have hn02:=hn0z.new hn2
  have hz12:=New.blk (hnz.new hn2) hz1
  refine ⟨λy=>New z2 y,Keep.refl _ _,aE (λh0=>⟨_,_,_,λy hy=>(New.blk hy hz12).cell (i:=1) rfl,?_⟩) (λh0=>⟨_,_,_,λy hy=>(New.blk hy hz12).cell (i:=1) rfl,?_⟩)⟩
  ·have hg1:W[i - 1]?=some W[i - 1]:=List.getElem?_eq_getElem (by omega)
   have hgd1:=oJ (d:=noP) hg1
   refine iN (cells:=aP.cells) aP.len (by omega) (h.rd.new hn02) hg1 (by rw [w64 (by omega) (by omega)];omega) hlen λb' o' hc'=>⟨_,λy hy=>hc' y hy 0 _ rfl,_,_,_,λy hy=>(New.blk hy hz12).cell (i:=1) rfl,?_⟩
   refine iN (cells:=aP.cells) aP.len (by omega) (h.rd.new hn02) hg rfl hlen λb' o' hc'=>⟨_,λy hy=>hc' y hy 0 _ rfl,aE (λhp6=>?_) (λhp6=>⟨_,_,_,λy hy=>(New.blk hy hz12).cell (i:=1) rfl,?_⟩)⟩
   ·rw [bad (by
     have:ascP W i=false:=by unfold ascP;rw [hgd,hgd1];simp;omega
     rw [this];rfl)]
    exact ⟨rfl,hn02⟩
   have ha:ascP W i=true:=by unfold ascP;rw [hgd,hgd1];simp;omega
   refine iN (cells:=aP.cells) aP.len (by omega) (h.rd.new hn02) hg rfl hlen λb' o' hc'=>⟨_,λy hy=>hc' y hy 1 _ rfl,?_⟩
   refine aG (CE z2 W[i].Head) ?_
   rintro x z3 ⟨rfl,rfl⟩
   refine ⟨_,rfl,Keep.refl _ _,ri (λhf=>?_) (λht=>bE (λhne=>?_) (λhe=>?_))⟩
   ·rw [bad (by rw [hgd];unfold sG;rw [hf,Bool.and_false,Bool.and_false])]
    exact ⟨rfl,hn02⟩
   ·rw [bad (by
     have:rt W[i].Head=false:=by
      cases hx:rt W[i].Head with
      |true=>rw [hx] at hne;simp at hne
      |false=>rfl
     rw [hgd];unfold sG;rw [this,Bool.false_and,Bool.and_false])]
    exact ⟨rfl,hn02⟩
   ·have hx:rt W[i].Head=true:=by
     cases hx:rt W[i].Head with
     |true=>rfl
     |false=>rw [hx] at he;simp at he
    rw [w64 (by omega) (by omega)]
    refine ⟨W.length - (i+1),by omega,i+1,_,rfl,by omega,rfl,hnz.new hn2,λk hk=>?_⟩
    rcases Nat.lt_succ_iff_lt_or_eq.1 hk with hk | rfl
    ·exact hok k hk
    ·rw [hgd];unfold sG;rw [ha,hx,ht];rfl
  ·have ha:ascP W i=true:=by unfold ascP;simp;omega
   refine iN (cells:=aP.cells) aP.len (by omega) (h.rd.new hn02) hg rfl hlen λb' o' hc'=>⟨_,λy hy=>hc' y hy 1 _ rfl,?_⟩
   refine aG (CE z2 W[i].Head) ?_
   rintro x z3 ⟨rfl,rfl⟩
   refine ⟨_,rfl,Keep.refl _ _,ri (λhf=>?_) (λht=>bE (λhne=>?_) (λhe=>?_))⟩
   ·rw [bad (by rw [hgd];unfold sG;rw [hf,Bool.and_false,Bool.and_false])]
    exact ⟨rfl,hn02⟩
   ·rw [bad (by
     have:rt W[i].Head=false:=by
      cases hx:rt W[i].Head with
      |true=>rw [hx] at hne;simp at hne
      |false=>rfl
     rw [hgd];unfold sG;rw [this,Bool.false_and,Bool.and_false])]
    exact ⟨rfl,hn02⟩
   ·have hx:rt W[i].Head=true:=by
     cases hx:rt W[i].Head with
     |true=>rfl
     |false=>rw [hx] at he;simp at he
    rw [w64 (by omega) (by omega)]
    refine ⟨W.length - (i+1),by omega,i+1,_,rfl,by omega,rfl,hnz.new hn2,λk hk=>?_⟩
    rcases Nat.lt_succ_iff_lt_or_eq.1 hk with hk | rfl
    ·exact hok k hk
    ·rw [hgd];unfold sG;rw [ha,hx,ht];rfl
 ·rw [lu,if_neg (by
   rw [Bool.not_eq_false,List.all_eq_true]
   intro k hk
   exact hok k (by have:=List.mem_range.1 hk;omega))]
  exact ⟨rfl,hn0z⟩
end Go.Proofs.YtafopfaomkklpaaGreat
namespace Go.Proofs.YtafopfaomkklpaaGreat
open Go.Proofs.Tryz
open Go.Eng
abbrev TU:TypeId:=32
abbrev TNd:TypeId:=162
abbrev TCl:TypeId:=166
abbrev TPr:TypeId:=189
abbrev TPe:TypeId:=234
abbrev TSPr:TypeId:=158
abbrev TFb:TypeId:=160
abbrev cB:=aQ
structure CliR where
 Alive:Bool
 Inc:Int
 On:Bool
 Done:Option Addr
 Dl:Nat
 Dc:Nat
 Have:Option Addr
 Hl:Nat
 Hc:Nat
 Trips:Int
 Posted:Int
def CliR.cells (r:CliR):List Value:=[.bool r.Alive,.int .i64 r.Inc,.bool r.On,.slice r.Done r.Dl r.Dc,.slice r.Have r.Hl r.Hc,.int .i64 r.Trips,.int .i64 r.Posted]
theorem CliR.len (r:CliR):r.cells.length=7:=rfl
theorem CliR.single (r:CliR):∀ u ∈ r.cells,single u=true:=by
 intro u hu
 simp only [CliR.cells,List.mem_cons,List.not_mem_nil,or_false] at hu
 rcases hu with rfl | rfl | rfl | rfl | rfl | rfl | rfl<;>rfl
structure bS where
 Client:Int
 Inc:Int
 Node:Int
 Queue:Option Addr
 Ql:Nat
 Qc:Nat
def bS.cells (r:bS):List Value:=[.int .i64 r.Client,.int .i64 r.Inc,.int .i64 r.Node,.slice r.Queue r.Ql r.Qc]
theorem bS.len (r:bS):r.cells.length=4:=rfl
theorem bS.single (r:bS):∀ u ∈ r.cells,single u=true:=by
 intro u hu
 simp only [bS.cells,List.mem_cons,List.not_mem_nil,or_false] at hu
 rcases hu with rfl | rfl | rfl | rfl<;>rfl
def fabC (lines:Int) (nb nn nc cb cn cc lb ln lc:Nat):List Value:=[.int .i64 lines,.slice (some ⟨nb,0,none⟩) nn nc,.slice (some ⟨cb,0,none⟩) cn cc,.slice (some ⟨lb,0,none⟩) ln lc,.slice none 0 0]
theorem lh {α:Type} {cells:α→List Value} {sz:Nat} (hsz:∀ x,(cells x).length=sz):∀ (l:List α),((l.map cells).flatten).length=l.length * sz
 | []=>by simp
 |x::l=>by rw [List.map_cons,List.flatten_cons,List.length_append,hsz,lh hsz l,List.length_cons,Nat.succ_mul];omega
theorem tt {α:Type} {cells:α→List Value} {sz:Nat} (hsz:∀ x,(cells x).length=sz):∀ (l:List α) (i j:Nat) (r:α) (v:Value),l[i]?=some r→(cells r)[j]?=some v→((l.map cells).flatten)[i * sz+j]?=some v
 | [],i,j,r,v,h,_=>by simp at h
 |x::l,0,j,r,v,h,hv=>by
  simp only [List.getElem?_cons_zero,Option.some.injEq] at h
  subst h
  have:=dF hv
  rw [List.map_cons,List.flatten_cons,List.getElem?_append_left (by omega),Nat.zero_mul,Nat.zero_add]
  exact hv
 |x::l,i+1,j,r,v,h,hv=>by
  rw [List.getElem?_cons_succ] at h
  have hx:=hsz x
  have e:(i+1) * sz+j=(cells x).length+(i * sz+j):=by rw [hx,Nat.succ_mul];omega
  rw [List.map_cons,List.flatten_cons,e,List.getElem?_append_right (by omega),Nat.add_sub_cancel_left]
  exact tt hsz l i j r v h hv
theorem AN {α:Type} {cells:α→List Value} {sz:Nat} (hsz:∀ x,(cells x).length=sz):∀ (l:List α) (i j:Nat) (r r':α) (v:Value),l[i]?=some r→j<sz→(cells r).set j v=cells r'→((l.map cells).flatten).set (i * sz+j) v=((l.set i r').map cells).flatten
 | [],i,j,r,r',v,h,_,_=>by simp at h
 |x::l,0,j,r,r',v,h,hj,hv=>by
  simp only [List.getElem?_cons_zero,Option.some.injEq] at h
  subst h
  rw [List.map_cons,List.flatten_cons,List.set_append_left _ _ (by rw [hsz];omega),Nat.zero_mul,Nat.zero_add,hv]
  rfl
 |x::l,i+1,j,r,r',v,h,hj,hv=>by
  rw [List.getElem?_cons_succ] at h
  have hx:=hsz x
  have e:(i+1) * sz+j=(cells x).length+(i * sz+j):=by rw [hx,Nat.succ_mul];omega
  rw [List.map_cons,List.flatten_cons,e,List.set_append_right _ _ (by omega),Nat.add_sub_cancel_left,AN hsz l i j r r' v h hj hv]
  rfl
theorem Owns.blk {w:World} {e sz n cap g:Nat} {xs:List Value} (h:Owns w e sz (some ⟨g,0,none⟩) n cap xs):∃ cur,Blk w g cur e∧n * sz≤cur.length∧cur.take (n * sz)=xs:=by
 rcases h.2 with ⟨h0,_⟩ | ⟨g',cur,he,hb,hle,hc,hl,ht⟩
 ·cases h0
 ·simp only [Option.some.injEq,Addr.mk.injEq,and_true] at he
  subst he
  exact ⟨cur,hb,by rw [hl];exact Nat.mul_le_mul_right _ hle,ht⟩
theorem Owns.cell {w:World} {e sz n cap g:Nat} {xs:List Value} (h:Owns w e sz (some ⟨g,0,none⟩) n cap xs) {i:Nat} {v:Value} (hi:xs[i]?=some v):w.cell? ⟨g,i,none⟩=some v:=by
 obtain ⟨cur,hb,_,ht⟩:=Owns.blk h
 refine hb.cell ?_
 rw [←ht] at hi
 have:=dF hi
 rw [List.length_take] at this
 rw [List.getElem?_take_of_lt (by omega)] at hi
 exact hi
theorem Owns.frozen {w:World} {e sz n cap g i:Nat} {xs:List Value} (h:Owns w e sz (some ⟨g,0,none⟩) n cap xs):w.frozen? ⟨g,i,none⟩=false:=by
 obtain ⟨cur,hb,_⟩:=Owns.blk h
 exact hb.frozen
theorem Owns.row {α:Type} {cells:α→List Value} {sz:Nat} (hsz:∀ x,(cells x).length=sz) {w:World} {e n cap g:Nat} {l:List α} (h:Owns w e sz (some ⟨g,0,none⟩) n cap (l.map cells).flatten) {i j:Nat} {r:α} {v:Value} (hr:l[i]?=some r) (hv:(cells r)[j]?=some v):w.cell? ⟨g,i * sz+j,none⟩=some v:=
 Owns.cell h (tt hsz l i j r v hr hv)
theorem Owns.setRow {α:Type} {cells:α→List Value} {sz:Nat} (hsz:∀ x,(cells x).length=sz) {w:World} {e n cap g:Nat} {l:List α} (h:Owns w e sz (some ⟨g,0,none⟩) n cap (l.map cells).flatten) {i j:Nat} {r r':α} {v:Value} (hr:l[i]?=some r) (hj:j<sz) (hv:(cells r).set j v=cells r') :
  Owns (w.setCell ⟨g,i * sz+j,none⟩ v) e sz (some ⟨g,0,none⟩) n cap ((l.set i r').map cells).flatten:=by
 have hl:=h.1
 rw [lh hsz] at hl
 have hlt:=dF hr
 have h2:(i+1) * sz≤l.length * sz:=Nat.mul_le_mul_right _ hlt
 rw [Nat.succ_mul] at h2
 have h1:=Owns.setCell h (i:=i * sz+j) (by omega) v
 rw [AN hsz l i j r r' v hr hj hv] at h1
 exact h1
theorem pH {α:Type} {cells:α→List Value} {sz:Nat} {S e:TypeId} {inf:TypeInfo} {z:Value} (hcs:∀ x,(cells x).length=sz) (hsg:∀ x,∀ v ∈ cells x,single v=true)
  (ht:prog.underlying S=some (.slice e)) (hi:prog.info? e=some inf) (hz:inf.zero=some z) (hzs:z.cells.size=inf.size) (his:inf.size=sz) (h0:0<sz) (hby:inf.bytes≤1000)
  {u:World} {a:Option Addr} {n cap:Nat} {l:List α} (ho:Owns u e sz a n cap (l.map cells).flatten) {s:Option Addr} {m c:Nat} {l2:List α} (hs:Rd u s (l2.map cells).flatten) (hm:m=l2.length) (hn:n+m≤1000000) {K:Option Addr→Nat→Nat→World→Prop}
  (hk:∀ ap cap' w3,Owns w3 e sz ap (n+m) cap' ((l++l2).map cells).flatten→Keep (isB a) u w3→(∀ k,isB ap k→isB a k∨u.heap.size≤k)→K ap (n+m) cap' w3) :
  ∃ (ap:Option Addr) (ap_len ap_cap:Nat),∃ w3,(Builtin.append_ #[S,S] S #[(.slice a n cap),(.slice s m c)]).run prog u=.ok (.slice ap ap_len ap_cap) w3∧K ap ap_len ap_cap w3:=by
 subst his
 have hbb:(n+m) * inf.bytes≤1000000 * 1000:=Nat.mul_le_mul hn hby
 have hsing:∀ x ∈ (l2.map cells).flatten,single x=true:=by
  intro x hx
  obtain ⟨r,hr,hx⟩:=List.mem_flatten.1 hx
  obtain ⟨y,_,rfl⟩:=List.mem_map.1 hr
  exact hsg y x hx
 obtain ⟨ap,cap',w7,hrun,hown,hkp,hap⟩:=Owns.append (P:=prog) (t:=S) (ty:=S) ht hi hz hzs h0 ho (s:=s) (m:=m) (c:=c) (news:=(l2.map cells).flatten) (by rw [lh hcs,hm]) hs hsing (by omega) (by omega)
 have e1:(l.map cells).flatten++(l2.map cells).flatten=((l++l2).map cells).flatten:=by simp
 rw [e1] at hown
 refine ⟨ap,n+m,cap',w7,hrun,hk ap cap' w7 hown hkp λk hk=>?_⟩
 rcases hap with e | e
 ·exact .inl (e▸hk)
 ·obtain ⟨o,ho⟩:=hk
  rw [e] at ho
  simp at ho
  exact .inr (by omega)
def Ea (x:Int):List Value:=[.int .u64 x]
theorem vJ (l:List Int):(l.map Ea).flatten=us l:=by
 induction l with
 |nil=>rfl
 |cons x l ih=>rw [List.map_cons,List.flatten_cons,ih];rfl
theorem wO {u:World} {a:Option Addr} {n cap:Nat} {l:List Int} (ho:Owns u TU 1 a n cap (us l)) {s:Option Addr} {m c:Nat} {l2:List Int} (hs:Rd u s (us l2)) (hm:m=l2.length) (hn:n+m≤1000000) {K:Option Addr→Nat→Nat→World→Prop}
  (hk:∀ ap cap' w3,Owns w3 TU 1 ap (n+m) cap' (us (l++l2))→Keep (isB a) u w3→(∀ k,isB ap k→isB a k∨u.heap.size≤k)→K ap (n+m) cap' w3) :
  ∃ (ap:Option Addr) (ap_len ap_cap:Nat),∃ w3,(Builtin.append_ #[34,34] 34 #[(.slice a n cap),(.slice s m c)]).run prog u=.ok (.slice ap ap_len ap_cap) w3∧K ap ap_len ap_cap w3:=by
 obtain ⟨inf,hi,hz,hsz,hby⟩:=p7 (T:=32) (z:=.int .u64 0) (n:=1) (m:=8) (by kernel_rfl)
 refine pH (cells:=Ea) (sz:=1) (λ_=>rfl) (λx v hv=>by simp [Ea] at hv;subst hv;rfl) Tryz.underlying34 hi hz (by rw [hsz];rfl) hsz (by omega) (by omega) (l:=l) (by rw [vJ];exact ho) (l2:=l2) (by rw [vJ];exact hs) hm hn λap cap' w3 h1 h2 h3=>hk ap cap' w3 (by rw [vJ] at h1;exact h1) h2 h3
theorem noB {k:Nat}:¬ isB none k:=λh=>by obtain ⟨o,ho⟩:=h;cases ho
theorem yz {u:World} {s:Option Addr} {m c:Nat} {l:List Int} (hs:Rd u s (us l)) (hm:m=l.length) (hn:m≤1000000) {K:Option Addr→Nat→Nat→World→Prop}
  (hk:∀ ap cap' w3,Owns w3 TU 1 ap m cap' (us l)→New u w3→(∀ k,isB ap k→u.heap.size≤k)→K ap m cap' w3) :
  ∃ (ap:Option Addr) (ap_len ap_cap:Nat),∃ w3,(Builtin.append_ #[34,34] 34 #[(.slice none 0 0),(.slice s m c)]).run prog u=.ok (.slice ap ap_len ap_cap) w3∧K ap ap_len ap_cap w3:=by
 refine wO (l:=[]) (Owns.nil u TU 1) hs hm (by omega) λap cap' w3 h1 h2 h3=>?_
 rw [Nat.zero_add] at h1 ⊢
 exact hk ap cap' w3 h1 (h2.mono λk _ h=>noB h) λk hb=>(h3 k hb).resolve_left noB
def U64B (w:World) (b n:Nat):Prop:=∃ ws:List Int,Blk w b (us ws) TU∧ws.length=n∧∀ x ∈ ws,U64 x
theorem U64B.keep {M:Nat→Prop} {w w':World} (h:Keep M w w') {b n:Nat} (hb:U64B w b n) (hm:¬ M b):U64B w' b n:=by
 obtain ⟨ws,h1,h2,h3⟩:=hb
 exact ⟨ws,h.blk h1 hm,h2,h3⟩
theorem U64B.new {w w':World} (h:New w w') {b n:Nat} (hb:U64B w b n):U64B w' b n:=hb.keep h id
theorem G0 (l:List Int) (i:Nat) (x:Int):(us l).set i (.int .u64 x)=us (l.set i x):=by simp [us,List.map_set]
theorem U64B.set {w:World} {b n:Nat} (hb:U64B w b n) (b' i:Nat) {x:Int} (hx:U64 x):U64B (w.setCell ⟨b',i,none⟩ (.int .u64 x)) b n:=by
 obtain ⟨ws,h1,h2,h3⟩:=hb
 by_cases e:b=b'
 ·subst e
  refine ⟨ws.set i x,?_,by rw [List.length_set];exact h2,λy hy=>?_⟩
  ·have:=h1.setCell (i:=i) (.int .u64 x)
   rw [G0] at this
   exact this
  ·rcases List.mem_or_eq_of_mem_set hy with h | h
   ·exact h3 y h
   ·rw [h];exact hx
 ·exact ⟨ws,h1.setCell_ne e _,h2,h3⟩
theorem U64B.lt {w:World} {b n:Nat} (hb:U64B w b n):b<w.heap.size:=by
 obtain ⟨ws,h1,_⟩:=hb
 exact h1.lt
theorem U64B.get {w:World} {b n:Nat} (hb:U64B w b n) {i:Nat} (hi:i<n):∃ x,w.cell? ⟨b,i,none⟩=some (.int .u64 x)∧U64 x:=by
 obtain ⟨ws,h1,h2,h3⟩:=hb
 have hg:ws[i]?=some ws[i]:=List.getElem?_eq_getElem (by omega)
 exact ⟨ws[i],h1.cell (Fl hg),h3 _ (List.getElem_mem _)⟩
theorem U64B.frozen {w:World} {b n i:Nat} (hb:U64B w b n):w.frozen? ⟨b,i,none⟩=false:=by
 obtain ⟨ws,h1,_⟩:=hb
 exact h1.frozen
theorem U64B.ne {w:World} {b n b':Nat} {cs:List Value} {T:TypeId} (hb:U64B w b n) (h':Blk w b' cs T) (hT:TU≠T):b≠b':=by
 obtain ⟨ws,h1,_⟩:=hb
 exact h1.ne h' hT
structure Fa where
 lines:Nat
 nb:Nat
 nc:Nat
 cb:Nat
 cc:Nat
 lb:Nat
 lc:Nat
 pb:Nat→Nat
 pc:Nat→Nat
def qG (w:World) (lines:Nat) (r:cB):Prop:=∃ b,r.Words=some ⟨b,0,none⟩∧r.Words_l=lines * 8∧r.Words_c=lines * 8∧U64B w b (lines * 8)
def CH (F:Fa) (n C:Nat):List Value:=(List.range C).map λc=>.slice (some ⟨F.pb c,0,none⟩) n (F.pc c)
structure dC (w:World) (fb:Nat) (F:Fa) (N:List cB) (Cl:List CliR) (P:Nat→List bS):Prop where
 fab:Blk w fb (fabC F.lines F.nb N.length F.nc F.cb Cl.length F.cc F.lb Cl.length F.lc) TFb
 nodes:Owns w TNd 2 (some ⟨F.nb,0,none⟩) N.length F.nc (N.map aQ.cells).flatten
 nok:∀ r ∈ N,qG w F.lines r
 clients:Owns w TCl 7 (some ⟨F.cb,0,none⟩) Cl.length F.cc (Cl.map CliR.cells).flatten
 alive:∀ r ∈ Cl,r.Alive=true
 live:Owns w TSPr 1 (some ⟨F.lb,0,none⟩) Cl.length F.lc (CH F N.length Cl.length)
 pairs:∀ c,c<Cl.length→Owns w TPr 4 (some ⟨F.pb c,0,none⟩) N.length (F.pc c) ((P c).map bS.cells).flatten∧(P c).length=N.length
 inj:∀ c d,c<Cl.length→d<Cl.length→F.pb c=F.pb d→c=d
 n1:1≤N.length∧N.length≤5
 c1:1≤Cl.length∧Cl.length≤6
 ln:98≤F.lines∧F.lines≤256
def Fa.own (F:Fa) (fb:Nat) (N:List cB) (C:Nat) (k:Nat):Prop:=k=fb∨k=F.nb∨k=F.cb∨k=F.lb∨(∃ c,c<C∧k=F.pb c)∨∃ r ∈ N,isB r.Words k
def Idle (N:List cB) (Cl:List CliR) (P:Nat→List bS):Prop:=(∀ r ∈ Cl,r.On=false)∧∀ c,c<Cl.length→∀ (i:Nat) (p:bS),(P c)[i]?=some p→p.Ql=0∧p.Node=i∧p.Queue=none
theorem dC.keep {M:Nat→Prop} {w w':World} (hk:Keep M w w') {fb:Nat} {F:Fa} {N:List cB} {Cl:List CliR} {P:Nat→List bS} (h:dC w fb F N Cl P) (hm:∀ k,F.own fb N Cl.length k→¬ M k):dC w' fb F N Cl P:=by
 have one:∀ {b:Nat} {k:Nat},isB (some ⟨b,0,none⟩) k→k=b:=by
  rintro b k ⟨o,ho⟩
  simp at ho
  exact ho.1.symm
 refine ⟨hk.blk h.fab (hm _ (.inl rfl)),Owns.keep hk h.nodes λk hb=>hm k (.inr (.inl (one hb))),λr hr=>?_,Owns.keep hk h.clients λk hb=>hm k (.inr (.inr (.inl (one hb)))),h.alive,Owns.keep hk h.live λk hb=>hm k (.inr (.inr (.inr (.inl (one hb))))),λc hc=>⟨Owns.keep hk (h.pairs c hc).1 λk hb=>hm k (.inr (.inr (.inr (.inr (.inl ⟨c,hc,one hb⟩))))),(h.pairs c hc).2⟩,h.inj,h.n1,h.c1,h.ln⟩
 obtain ⟨b,h1,h2,h3,h4⟩:=h.nok r hr
 exact ⟨b,h1,h2,h3,h4.keep hk (hm b (.inr (.inr (.inr (.inr (.inr ⟨r,hr,0,h1⟩))))))⟩
theorem dC.new {w w':World} (hn:New w w') {fb:Nat} {F:Fa} {N:List cB} {Cl:List CliR} {P:Nat→List bS} (h:dC w fb F N Cl P):dC w' fb F N Cl P:=h.keep hn λ_ _=>id
end Go.Proofs.YtafopfaomkklpaaGreat
