/- A part of the proof. -/
import Derived.Test.YtafopfaomkklpaaGreatp06
set_option linter.unusedVariables false
namespace Go.Proofs.YtafopfaomkklpaaGreat
open Go.Proofs.Tryz
open Go.Eng
abbrev TPg:TypeId:=140
def eF (l:List aG):List (List Value):=l.map aG.cells
def noP:aG:=⟨0,0,0,0,0,0,0,0,0⟩
def unl (h:Int):Bool:=band .u64 h 255 == 0
def pU (h:Int):Bool:=decide (1≤bshr .u64 h 8∧bshr .u64 h 8≤281474976710654)
def qS (p:aG):Bool:=pU p.Head && unl p.Head
def ascP (l:List aG) (i:Nat):Bool:=decide (i=0) || decide ((l.getD (i - 1) noP).Line<(l.getD i noP).Line)
def Db (seq:Int) (W:List aG) (lines:Int):Int:=
 if ¬ (98≤lines∧lines≤256) then 18 else if seq<1∨1073741824≤seq∨W.length<1∨12<W.length then 1
 else if W.all (λp=>pT p.Line lines)=false then 2 else if (List.range W.length).all (λi=>ascP W i && qS (W.getD i noP))=false then 1 else 0
theorem DD {h:Int} (h0:U64 h):0≤bshr .u64 h 8∧bshr .u64 h 8<18446744073709551615:=by
 have e:bshr .u64 h 8=h / 256:=by
  show Int.fdiv h 256=_
  rw [Int.fdiv_eq_ediv_of_nonneg _ (by decide)]
 have:=h0.1
 have:=h0.2
 omega
theorem Ap (w:World) (h:Int):Does 175 [.int .u64 h] w λv w'=>v=.bool (unl h)∧w'=w:=by
 refine does Tryz.func175 ?_
 rw [pw]
 exact ⟨rfl,rfl⟩
theorem DE {a b c:Int} {w:World} (h:b=c):∃ x,Value.tuple #[.int .u64 a,.int .i64 b]=.tuple #[.int .u64 x,.int .i64 c]∧w=w:=⟨a,by rw [h],rfl⟩
theorem DF (w:World) {h:Int} (hu:U64 h):Does 174 [.int .u64 h] w λv w'=>∃ x,v=.tuple #[.int .u64 x,.int .i64 (if pU h=true then 0 else 2)]∧w'=w:=by
 refine does Tryz.func174 ?_
 rw [rT]
 have hb:=DD hu
 have hw:IntKind.u64.wrap (bshr .u64 h 8+1)=bshr .u64 h 8+1:=xJ (by omega) (by omega)
 unfold pU
 refine aD (λh1=>DE ?_) (λh1=>aD (λh2=>DE ?_) (λh2=>DE ?_))
 ·rw [if_neg (by simp;omega)]
 ·rw [hw] at h2;rw [if_neg (by simp;omega)]
 ·rw [hw] at h2;rw [if_pos (by simp;omega)]
structure Aq (w:World) (a:Option Addr) (n:Nat) (W:List aG):Prop where
 rd:Rd w a (eF W).flatten
 len:n=W.length
 few:W.length≤1000000
 u64:∀ p ∈ W,U64 p.Head
theorem Aq.new {w w':World} {a:Option Addr} {n:Nat} {W:List aG} (h:Aq w a n W) (hn:New w w'):Aq w' a n W:=⟨h.rd.new hn,h.len,h.few,h.u64⟩
abbrev TSPg:TypeId:=62
theorem cH {P:Program} {fn:Func} {R:Value→World→Prop} {Q:Exit→List Value→World→Prop} {c:Code} {env:List Value} {w:World} (h':∀ env w,Q .ret env w=retQ P fn R .ret env w) (h:W P c env (Qr P fn R Q) w):W P c env Q w:=(W_qr h').mp h
theorem wu {α:Type} {cells:α→List Value} {sz:Nat} (hsz:∀ x,(cells x).length=sz):∀ (l:List α) (n:Nat),(l.map cells).flatten.drop (n * sz)=((l.drop n).map cells).flatten
 |l,0=>by simp
 | [],n+1=>by simp
 |x::l,n+1=>by
  have e:(n+1) * sz=(cells x).length+n * sz:=by rw [hsz,Nat.succ_mul,Nat.add_comm]
  rw [List.map_cons,List.flatten_cons,List.drop_succ_cons,e,←List.drop_drop,List.drop_left]
  exact wu hsz l n
theorem tM {α:Type} {cells:α→List Value} {sz:Nat} (hsz:∀ x,(cells x).length=sz):∀ (l:List α) (n:Nat),(l.map cells).flatten.take (n * sz)=((l.take n).map cells).flatten
 |l,0=>by simp
 | [],n+1=>by simp
 |x::l,n+1=>by
  have e:(n+1) * sz=(cells x).length+n * sz:=by rw [hsz,Nat.succ_mul,Nat.add_comm]
  rw [List.map_cons,List.flatten_cons,List.take_succ_cons,List.map_cons,List.flatten_cons,e,List.take_append,List.take_of_length_le (by omega),Nat.add_sub_cancel_left,tM hsz l n]
theorem rU {α:Type} {cells:α→List Value} {sz:Nat} (hsz:∀ x,(cells x).length=sz) {u:World} {a:Option Addr} {l:List α} (h:Rd u a (l.map cells).flatten) {n cap:Nat} (hn:n=l.length) (hc:n≤cap) {lo hi:Int} {i k:Nat} (hlo:lo=i) (hhi:hi=k) (h1:i≤k) (h2:k≤n) {K:Option Addr→Nat→Nat→Prop}
  (hk:∀ a',Rd u a' (((l.take k).drop i).map cells).flatten→((l.take k).drop i).length=k - i→K a' (k - i) (cap - i)):sl3 a n cap lo hi cap sz K:=by
 subst hlo hhi hn
 refine ⟨by omega,by omega,by omega,by omega,by omega,?_⟩
 have hl:((l.take k).drop i).length=k - i:=by rw [List.length_drop,List.length_take];omega
 refine hk _ ?_ hl
 by_cases hci:(cap:Int)=i
 ·have:(l.take k).drop i=[]:=List.eq_nil_of_length_eq_zero (by omega)
  rw [this]
  exact Rd.nil _ _
 ·rw [if_neg hci]
  have ht:=h.take (k * sz)
  rw [tM hsz] at ht
  have hd:=wu hsz (l.take k) i
  rw [←hd]
  rcases ht with he | ⟨b,o,rfl,hcs⟩
  ·rw [he];exact .inl (by simp)
  ·simp only [Option.map_some,pM,Int.toNat_natCast]
   exact Rd.drop (.inr ⟨b,o,rfl,hcs⟩:Rd u (some ⟨b,o,none⟩) _) (i * sz)
theorem zw {u0 u:World} {a s:Option Addr} {n cap m c:Nat} {xs ys:List aG} (hn:New u0 u) (ho:Owns u TPg 9 a n cap (eF xs).flatten) (hf:∀ k,isB a k→u0.heap.size≤k) (hs:Rd u s (eF ys).flatten) (hm:m=ys.length) (hx:n+m≤1000000) {K:Option Addr→Nat→Nat→World→Prop}
  (hk:∀ a' cap' w',New u0 w'→Owns w' TPg 9 a' (n+m) cap' (eF (xs++ys)).flatten→(∀ k,isB a' k→u0.heap.size≤k)→K a' (n+m) cap' w') :
  ∃ (ap:Option Addr) (ap_len ap_cap:Nat),∃ w3,(Builtin.append_ #[TSPg,TSPg] TSPg #[(.slice a n cap),(.slice s m c)]).run prog u=.ok (.slice ap ap_len ap_cap) w3∧K ap ap_len ap_cap w3:=by
 obtain ⟨inf,hinf,hz,hsz,hby⟩:=nV (T:=TPg) (z:=.agg #[.int .i64 0,.int .u64 0,.int .u64 0,.int .u64 0,.int .u64 0,.int .u64 0,.int .u64 0,.int .u64 0,.int .u64 0]) (n:=9) (m:=72) (by kernel_rfl)
 rw [←hsz] at ho
 have hlr:(eF ys).flatten.length=m * inf.size:=by
  rw [hsz,hm,oF (rows:=eF ys) (sz:=9) (λr hr=>by obtain ⟨y,_,rfl⟩:=List.mem_map.1 hr;rfl)]
  simp [eF]
 have hsing:∀ x ∈ (eF ys).flatten,single x=true:=by
  intro x hx
  obtain ⟨r,hr,hx⟩:=List.mem_flatten.1 hx
  obtain ⟨y,_,rfl⟩:=List.mem_map.1 hr
  exact aG.single y x hx
 obtain ⟨ap,cap',w7,hrun,hown,hk7,hap⟩:=Owns.append (P:=prog) (t:=TSPg) (ty:=TSPg) Tryz.underlying62 hinf hz (by rw [hsz];rfl) (by omega) ho (c:=c) hlr hs hsing (by omega) (by rw [hby];omega)
 rw [hsz] at hown
 have e:(eF xs).flatten++(eF ys).flatten=(eF (xs++ys)).flatten:=by simp [eF]
 rw [e] at hown
 refine ⟨ap,n+m,cap',w7,hrun,hk ap cap' w7 (hn.trans hk7 λk hlt hb=>by have:=hf k hb;omega) hown λk hb=>?_⟩
 rcases hap with rfl | rfl
 ·exact hf k hb
 ·obtain ⟨o,ho⟩:=hb
  simp at ho
  have:=hn.size
  omega
theorem lr (x:Int):U64 (IntKind.u64.wrap x):=by
 unfold U64
 simp only [IntKind.wrap,IntKind.bits,IntKind.signed]
 simp
 omega
theorem BY (p:aG) {i:Nat} (hi:i<7) (x:Int):∃ q:aG,p.cells.set (2+i) (.int .u64 x)=q.cells∧q.Head=p.Head∧q.Line=p.Line:=by
 match i,hi with
 | 0,_=>exact ⟨{ p with Data0:=x },rfl,rfl,rfl⟩
 | 1,_=>exact ⟨{ p with Data1:=x },rfl,rfl,rfl⟩
 | 2,_=>exact ⟨{ p with Data2:=x },rfl,rfl,rfl⟩
 | 3,_=>exact ⟨{ p with Data3:=x },rfl,rfl,rfl⟩
 | 4,_=>exact ⟨{ p with Data4:=x },rfl,rfl,rfl⟩
 | 5,_=>exact ⟨{ p with Data5:=x },rfl,rfl,rfl⟩
 | 6,_=>exact ⟨{ p with Data6:=x },rfl,rfl,rfl⟩
def PgD (p:aG):Prop:=∀ i,i<7→∃ x,p.cells[2+i]?=some (.int .u64 x)∧U64 x
def PgOk (lines:Int) (p:aG):Prop:=U64 p.Head∧(96≤p.Line∧p.Line<lines)∧PgD p
theorem pgD0 (l h:Int):PgD ⟨l,h,0,0,0,0,0,0,0⟩:=by
 have u0:U64 0:=⟨by omega,by omega⟩
 intro i hi
 match i,hi with
 | 0,_=>exact ⟨0,rfl,u0⟩
 | 1,_=>exact ⟨0,rfl,u0⟩
 | 2,_=>exact ⟨0,rfl,u0⟩
 | 3,_=>exact ⟨0,rfl,u0⟩
 | 4,_=>exact ⟨0,rfl,u0⟩
 | 5,_=>exact ⟨0,rfl,u0⟩
 | 6,_=>exact ⟨0,rfl,u0⟩
theorem DG {p q:aG} {i:Nat} {x:Int} (h:PgD p) (hx:U64 x) (hq:p.cells.set (2+i) (.int .u64 x)=q.cells):PgD q:=by
 intro j hj
 rw [←hq]
 by_cases e:i=j
 ·subst e
  exact ⟨x,by rw [List.getElem?_set_self (by rw [aG.len];omega)],hx⟩
 ·rw [List.getElem?_set_ne (by omega)]
  exact h j hj
theorem Fg {x:Int} (hx:I64 x):I64 (IntKind.i64.wrap (Int.tdiv x 64)):=iZ _
set_option maxHeartbeats 1000000 in
theorem Dd (w:World) {n lines:Int} (hn:I64 n) (h1:98≤lines) (h2:lines≤256):Does 73 [.int .i64 n,.int .i64 lines] w λx w'=>∃ p:aG,x=p.val∧PgOk lines p∧New w w':=by
 refine does Tryz.func73 ?_
 rw [rS]
 rintro b1 w1 hb1 hw1
 obtain ⟨hz1,hn1⟩:=aR hb1 hw1
 have hz1:Blk w1 b1 noP.cells TPg:=hz1
 clear hw1
 rw [w64 (x:=lines - 96) (by omega) (by omega)]
 refine aC (dK w1 n (lines - 96) hn (by omega)) ?_
 rintro x w2 ⟨rfl,rfl⟩
 refine ⟨_,rfl,?_⟩
 refine aC (dK w2 _ 4 (Fg hn) (by omega)) ?_
 rintro x w3 ⟨rfl,rfl⟩
 refine ⟨_,rfl,?_⟩
 have hs1:=hn1.size
 have hl1:=hz1.lt
 have hln:96≤IntKind.i64.wrap (96+(if lines - 96<1 then 0 else n % (lines - 96)))∧IntKind.i64.wrap (96+(if lines - 96<1 then 0 else n % (lines - 96)))<lines:=by
  have hp:=jT (x:=n) (n:=lines - 96) (by omega)
  generalize (if lines - 96<1 then 0 else n % (lines - 96))=q at hp ⊢
  rw [w64 (by omega) (by omega)]
  omega
 generalize (IntKind.i64.wrap (96+_))=ln at hln ⊢
 generalize (IntKind.i64.wrap (_+1))=hd
 have hu:U64 (bshl .u64 (IntKind.u64.wrap hd) 8):=lr _
 generalize (bshl .u64 (IntKind.u64.wrap hd) 8)=hw at hu
 refine mr (vs:=aG.cells ⟨ln,hw,0,0,0,0,0,0,0⟩) rfl (aG.single _) λb2 w5 hb2 hz2 hn2=>?_
 refine aW mix (λm env u=>∃ (i:Nat) (p:aG) (jj:List Value),m=7 - i∧i≤7∧env=fG n ⟨b1,0,none⟩ ⟨b2,0,none⟩ i jj∧New w u∧Blk u b1 noP.cells TPg∧Blk u b2 p.cells TPg∧PgOk lines p) 7
  ⟨0,_,_,by omega,by omega,rfl,hn1.new hn2,New.blk hn2 hz1,hz2,hu,hln,pgD0 _ _⟩ ?_
 rintro m env u ⟨i,p,jj,rfl,hi,rfl,hnu,hu1,hu2,hph⟩
 rw [my]
 refine aD (λhq=>?_) (λhq=>?_)
 ·refine aC (dK u n 1048576 hn (by omega)) ?_
  rintro x u2 ⟨rfl,rfl⟩
  refine ⟨_,rfl,tK (by omega) (by omega) ?_⟩
  have hi7:i<7:=by omega
  refine qR (b:=b2) hu2 (o:=0+2+((i:Nat):Int).toNat * 1) (by simp [aG.cells];omega) λu3 hu3 hk3=>?_
  have e:0+2+((i:Nat):Int).toNat * 1=2+i:=by omega
  rw [e] at hu3
  obtain ⟨q,hq,hqh,hql⟩:=BY p hi7 (IntKind.u64.wrap (IntKind.u64.wrap (if (1048576:Int)<1 then 0 else n % 1048576) * IntKind.u64.wrap (IntKind.i64.wrap ((i:Int)+3))))
  rw [hq] at hu3
  rw [w64 (x:=(i:Int)+1) (by omega) (by omega)]
  refine ⟨7 - (i+1),by omega,i+1,q,_,rfl,by omega,rfl,hnu.trans hk3 λk hlt e=>by omega,hk3.blk hu1 (by omega),hu3,by rw [hqh];exact hph.1,by rw [hql];exact hph.2.1,DG hph.2.2 (lr _) hq⟩
 ·rw [oK]
  refine aG.mk_ex p ⟨aH hu2 rfl,?_⟩
  refine oG (vs:=p.cells) hu1 rfl (aG.single _) λu3 hz3 hk3=>?_
  exact aG.mk_ex p ⟨aH hz3 rfl,rfl,p,rfl,hph,hnu.trans hk3 λk hlt e=>by omega⟩
abbrev tN (w:World) (lines most:Int):Value→World→Prop:=λx w'=>∃ (a:Option Addr) (c:Nat) (L:List aG),x=.slice a L.length c∧Owns w' TPg 9 a L.length c (eF L).flatten∧New w w'∧(∀ k,isB a k→w.heap.size≤k)∧(L.length:Int)≤most∧∀ p ∈ L,PgOk lines p
set_option maxHeartbeats 4000000 in
theorem Pages_c (w:World) {a0:Option Addr} {n0 c0:Nat} {l:List Int} (hr:Rd w a0 (is l)) (hl:n0=l.length) (hfew:l.length≤1000) (hi64:∀ x ∈ l,I64 x) {lines most:Int} (h1:98≤lines) (h2:lines≤256) (h3:0≤most) (h4:most≤1000) :
  Does 113 [.slice a0 n0 c0,.int .i64 lines,.int .i64 most] w (tN w lines most):=by
 refine does Tryz.func113 ?_
 rw [qY]
 refine aW mix (λm env u=>∃ (i:Nat) (a:Option Addr) (n c:Nat) (L:List aG) (jj:List Value),m=l.length - i∧i≤l.length∧env=dG a0 n0 c0 lines most a n c i jj∧New w u∧Owns u TPg 9 a n c (eF L).flatten∧(∀ k,isB a k→w.heap.size≤k)∧n=L.length∧(L.length:Int)≤most∧∀ p ∈ L,PgOk lines p) l.length
  ⟨0,none,0,0,[],_,by omega,by omega,rfl,Keep.refl _ _,Owns.nil _ _ _,(λk hk=>by obtain ⟨o,ho⟩:=hk;cases ho),rfl,by simpa using h3,by simp⟩ ?_
 rintro m env u ⟨i,a,n,c,L,jj,rfl,hi,rfl,hnu,hown,hfr,rfl,hmost,hu64⟩
 refine cH (P:=prog) (fn:=f113) (R:=tN w lines most) (λ_ _=>rfl) ?_
 rw [lO]
 refine aD (λhq=>?_) (λhq=>?_)
 ·have hlt:i<l.length:=by omega
  have hg:l[i]?=some l[i]:=List.getElem?_eq_getElem hlt
  refine rd_i (hr.new hnu) hg rfl hl λb o hc=>⟨_,hc _ (Keep.refl _ _),?_⟩
  refine aC (Dd u (hi64 _ (List.getElem_mem hlt)) h1 h2) ?_
  rintro x u1 ⟨p,rfl,hp,hn1⟩
  refine aG.mk_ex p ⟨rfl,mr (vs:=p.cells) rfl (aG.single _) λb1 u2 hb1 hz1 hn2=>?_⟩
  have hz1:Blk u2 b1 p.cells TPg:=hz1
  have hn02:=(hnu.new hn1).new hn2
  have hown2:=Owns.new (hn1.new hn2) hown
  refine aW mix (λm env z=>∃ (q:Nat) (jj:List Value),m=L.length - q∧q≤L.length∧env=eS a0 n0 c0 lines most a L.length c i ⟨b1,0,none⟩ q jj∧New u2 z) L.length
   ⟨0,_,by omega,by omega,rfl,Keep.refl _ _⟩ ?_
  rintro m env z ⟨q,jj,rfl,hqL,rfl,hnz⟩
  refine cH (P:=prog) (fn:=f113) (R:=tN w lines most) (λ_ _=>rfl) ?_
  rw [lP]
  rintro z1 hz1'
  have hnz1:New z z1:=by rw [hz1'];exact aT _
  clear hz1'
  have hn2z:=hnz.new hnz1
  have hzz:=New.blk hn2z hz1
  have hownz:=Owns.new hn2z hown2
  have hn0z:=hn02.new hn2z
  refine ⟨λy=>New z1 y,Keep.refl _ _,aD (λhql=>?g1) (λhql=>?g2)⟩
  case' g1=>
   have hg1:L[q]?=some L[q]:=List.getElem?_eq_getElem (by omega)
   refine iL (cells:=aG.cells) aG.len (by omega) hownz.rd hg1 rfl rfl λb' o' hc'=>⟨_,λy hy=>hc' y hy 0 _ rfl,_,λy hy=>(New.blk hy hzz).cell (i:=0) rfl,?_⟩
  all_goals
   refine cH (P:=prog) (fn:=f113) (R:=tN w lines most) (λ_ _=>rfl) ?_
   rw [nY]
   refine lm (λhs=>?_) (λhs=>?_)
   ·first
    |exact absurd hs (by decide)
    |refine bF ?_
     rw [nZ]
     refine bF ?_
     rw [w64 (by omega) (by omega)]
     exact ⟨L.length - (q+1),by omega,q+1,_,rfl,by omega,rfl,hn2z⟩
   refine ph (Qr_x (ph (j8 (bF ?_))))
   refine (lQ _ _ _).mpr ?_
   refine cH (P:=prog) (fn:=f113) (R:=tN w lines most) (λ_ _=>rfl) ?_
   rw [n8]
   rintro z2 hz2
   have hnz2:New z1 z2:=by rw [hz2];exact aT _
   clear hz2
   have hzz2:=New.blk hnz2 hzz
   have hownz2:=Owns.new hnz2 hownz
   have hn0z2:=hn0z.new hnz2
   refine ⟨λy=>New z2 y,Keep.refl _ _,aD (λhql2=>?_) (λhql2=>?_)⟩
   all_goals try
    have hg1:L[q]?=some L[q]:=List.getElem?_eq_getElem (by omega)
    refine iL (cells:=aG.cells) aG.len (by omega) hownz2.rd hg1 rfl rfl λb' o' hc'=>⟨_,λy hy=>hc' y hy 0 _ rfl,_,λy hy=>(New.blk hy hzz2).cell (i:=0) rfl,bB (λhe=>?_) (λhe=>?_)⟩
   all_goals
    rw [n9]
    refine lm (λhs=>?_) (λhs=>?_)
    ·refine ph (j8 (bF ?_))
     rw [fP]
     refine bF ?_
     rw [w64 (x:=(i:Int)+1) (by omega) (by omega)]
     exact ⟨l.length - (i+1),by omega,i+1,a,L.length,c,L,_,rfl,by omega,rfl,hn0z2,hownz2,hfr,rfl,hmost,hu64⟩
    have hmm:¬ ((L.length:Int)≥most):=by first | exact of_decide_eq_false hs | cases hs
    refine bF ?_
    refine cH (P:=prog) (fn:=f113) (R:=tN w lines most) (λ_ _=>rfl) ?_
    rw [oc]
    rintro z3 hz3
    have hnz3:New z2 z3:=by rw [hz3];exact aT _
    clear hz3
    have hzz3:=New.blk hnz3 hzz2
    have hownz3:=Owns.new hnz3 hownz2
    have hn0z3:=hn0z2.new hnz3
    have hsz3:=hn0z3.size
    refine ⟨λy=>New z3 y,Keep.refl _ _,?_⟩
    refine rU (cells:=aG.cells) aG.len hownz3.rd rfl hownz3.le (i:=0) (k:=q) rfl rfl (by omega) hqL λa1 hr1 hl1=>?_
    refine aG.mk_ex p ⟨λy hy=>aH (New.blk hy hzz3) rfl,?_⟩
    refine rU (cells:=aG.cells) aG.len hownz3.rd rfl hownz3.le (i:=q) (k:=L.length) rfl rfl hqL (by omega) λa2 hr2 hl2=>?_
    have nope:∀ (h:Nat) k,isB (none:Option Addr) k→h≤k:=λh k hk=>by obtain ⟨o,ho⟩:=hk;cases ho
    have nil9:∀ y:World,Owns y TPg 9 none 0 0 (eF []).flatten:=λy=>Owns.nil _ _ _
    have hpp:(eF [p]).flatten=p.cells:=by simp [eF]
    have fin:∀ (a5:Option Addr) (c5:Nat) (w5:World) (jj5:List Value),New z3 w5→Owns w5 TPg 9 a5 (0+(q - 0)+1+(L.length - q)) c5 (eF (([]++(L.take q).drop 0)++[p]++(L.take L.length).drop q)).flatten→(∀ k,isB a5 k→z3.heap.size≤k)→
      ∃ m',m'<l.length - i∧∃ (i':Nat) (a:Option Addr) (n c:Nat) (L':List aG) (jj:List Value),m'=l.length - i'∧i'≤l.length∧dG a0 n0 c0 lines most a5 (0+(q - 0)+1+(L.length - q)) c5 ((i:Int)+1) jj5=dG a0 n0 c0 lines most a n c i' jj∧New w w5∧Owns w5 TPg 9 a n c (eF L').flatten∧(∀ k,isB a k→w.heap.size≤k)∧n=L'.length∧(L'.length:Int)≤most∧∀ p ∈ L',PgOk lines p:=by
     intro a5 c5 w5 jj5 hn5 ho5 hf5
     have hlen:(([]++(L.take q).drop 0)++[p]++(L.take L.length).drop q).length=0+(q - 0)+1+(L.length - q):=by
      rw [List.length_append,List.length_append,List.length_append,hl1,hl2];rfl
     refine ⟨l.length - (i+1),by omega,i+1,a5,_,c5,_,jj5,rfl,by omega,rfl,hn0z3.new hn5,ho5,λk hk=>by have:=hf5 k hk;omega,hlen.symm,by rw [hlen];omega,?_⟩
     intro y hy
     rcases List.mem_append.1 hy with hy | hy
     ·rcases List.mem_append.1 hy with hy | hy
      ·rw [List.nil_append,List.drop_zero] at hy
       exact hu64 y (List.mem_of_mem_take hy)
      ·rw [List.mem_singleton.1 hy];exact hp
     ·exact hu64 y (List.mem_of_mem_take (List.mem_of_mem_drop hy))
    constructor
    ·refine zw (Keep.refl _ z3) (nil9 z3) (nope _) hr1 hl1.symm (by omega) λa3 c3 w3 hn3 ho3 hf3=>⟨hn3,?_⟩
     rintro b4 w4 hb4 hw4
     obtain ⟨hz4,hn4⟩:=aR hb4 hw4
     have hz4:Blk w4 b4 p.cells TPg:=hz4
     clear hw4
     have hn34:=hn3.new hn4
     refine ⟨hn34,?_⟩
     refine zw hn34 (Owns.new hn4 ho3) hf3 (s:=some ⟨b4,0,none⟩) (m:=1) (ys:=[p]) (by rw [hpp];exact fM hz4 (by simp)) rfl (by omega) λa5 c5 w5 hn5 ho5 hf5=>⟨hn5,?_⟩
     refine zw hn5 ho5 hf5 (hr2.new hn5) hl2.symm (by omega) λa6 c6 w6 hn6 ho6 hf6=>⟨hn6,?_⟩
     refine tA (bF ?_)
     rw [fP]
     refine bF ?_
     rw [w64 (x:=(i:Int)+1) (by omega) (by omega)]
     exact fin a6 c6 w6 _ hn6 ho6 hf6
    ·rintro b4 w4 hb4 hw4
     obtain ⟨hz4,hn4⟩:=aR hb4 hw4
     have hz4:Blk w4 b4 p.cells TPg:=hz4
     clear hw4
     have hs4:=hn4.size
     refine ⟨hn4,?_⟩
     refine zw (Keep.refl _ w4) (nil9 w4) (nope _) (hr1.new hn4) hl1.symm (by omega) λa3 c3 w3 hn3 ho3 hf3=>⟨hn4.new hn3,?_⟩
     refine zw hn3 ho3 hf3 (s:=some ⟨b4,0,none⟩) (m:=1) (ys:=[p]) (by rw [hpp];exact fM (New.blk hn3 hz4) (by simp)) rfl (by omega) λa5 c5 w5 hn5 ho5 hf5=>⟨hn4.new hn5,?_⟩
     refine zw hn5 ho5 hf5 (hr2.new (hn4.new hn5)) hl2.symm (by omega) λa6 c6 w6 hn6 ho6 hf6=>⟨hn4.new hn6,?_⟩
     refine tA (bF ?_)
     rw [fP]
     refine bF ?_
     rw [w64 (x:=(i:Int)+1) (by omega) (by omega)]
     exact fin a6 c6 w6 _ (hn4.new hn6) ho6 λk hk=>by have:=hf6 k hk;omega
 ·refine ph (j8 (bF ?_))
  refine cH (P:=prog) (fn:=f113) (R:=tN w lines most) (λ_ _=>rfl) ?_
  rw [nX]
  exact ⟨a,c,L,rfl,hown,hnu,hfr,hmost,hu64⟩
theorem i2 (w:World) (c:Int):Does 119 [.int .i64 c] w λv w'=>v=.bool (decide (0≤c∧c<6))∧w'=w:=by
 refine does Tryz.func119 ?_
 rw [qH]
 refine aD (λh=>⟨?_,rfl⟩) (λh=>⟨?_,rfl⟩)
 ·have:0≤c:=h
  simp [this]
 ·have:¬ 0≤c:=h
  simp [this]
set_option maxHeartbeats 1000000 in
theorem Ar {w:World} {r:aM} {W:List aG} (h:Aq w r.Writes r.Writes_l W) (lines:Int):Does 146 [r.val,.int .i64 lines] w λx w'=>x=.int .i64 (Db r.Seq W lines)∧New w w':=by
 refine does Tryz.func146 ?_
 rw [nm]
 rintro b1 w1 hb1 hw1
 obtain ⟨hz1,hn⟩:=aR hb1 hw1
 have hz1:Blk w1 b1 r.cells 210:=hz1
 clear hw1
 have hlen:=h.len
 have hfew:=h.few
 unfold Db
 refine aD (λhp=>?_) (λhp=>aD (λhp1=>?_) (λhp1=>⟨_,hz1.cell (i:=0) rfl,aD (λhp2=>?_) (λhp2=>⟨_,hz1.cell (i:=0) rfl,aD (λhp3=>?_) (λhp3=>⟨_,_,_,hz1.cell (i:=1) rfl,aD (λhp4=>?_) (λhp4=>⟨_,_,_,hz1.cell (i:=1) rfl,aD (λhp5=>?_) (λhp5=>?_)⟩)⟩)⟩)⟩))
 ·rw [if_pos (by omega)];exact ⟨rfl,hn⟩
 ·rw [if_pos (by omega)];exact ⟨rfl,hn⟩
 ·rw [if_neg (by omega),if_pos (by omega)];exact ⟨rfl,hn⟩
 ·rw [if_neg (by omega),if_pos (by omega)];exact ⟨rfl,hn⟩
 ·rw [if_neg (by omega),if_pos (by omega)];exact ⟨rfl,hn⟩
 ·rw [if_neg (by omega),if_pos (by omega)];exact ⟨rfl,hn⟩
 rw [if_neg (by omega),if_neg (by omega)]
 refine aW mix (λm env u=>∃ (i:Nat) (jj:List Value),m=W.length - i∧i≤W.length∧env=dM lines ⟨b1,0,none⟩ i jj∧u=w1∧(W.take i).all (λp=>pT p.Line lines)=true) W.length
  ⟨0,_,by omega,by omega,rfl,rfl,rfl⟩ ?_
 rintro m env u ⟨i,jj,rfl,hi,rfl,rfl,hok⟩
 have hrd:=h.rd.new hn
 rw [i0]
 refine ⟨_,_,_,hz1.cell (i:=1) rfl,aD (λhq=>⟨_,_,_,hz1.cell (i:=1) rfl,?_⟩) (λhq=>?_)⟩
 ·have hlt:i<W.length:=by omega
  have hg:W[i]?=some W[i]:=List.getElem?_eq_getElem hlt
  refine gN (cells:=aG.cells) aG.len (by omega) hrd hg rfl hlen λb o _ hc=>⟨_,hc 0 _ rfl,?_⟩
  refine aC (wt _ _ _) ?_
  rintro x w3 ⟨rfl,rfl⟩
  refine ⟨_,rfl,nj (λhf=>?_) (λht=>?_)⟩
  ·rw [if_pos (by
    rw [List.all_eq_false]
    exact ⟨_,List.getElem_mem hlt,by rw [hf];simp⟩)]
   exact ⟨rfl,hn⟩
  ·rw [w64 (by omega) (by omega)]
   refine ⟨W.length - (i+1),by omega,i+1,_,rfl,by omega,rfl,rfl,?_⟩
   rw [List.take_add_one,hg,List.all_append,hok]
   simp [ht]
 have ht:W.take i=W:=List.take_of_length_le (by omega)
 rw [ht] at hok
 rw [if_neg (by rw [hok];simp),ko]
 clear hok hi hq ht
 refine aW mix (λm env z=>∃ (i:Nat) (jj:List Value),m=W.length - i∧i≤W.length∧env=cO ⟨b1,0,none⟩ i jj∧New u z∧∀ k,k<i→(ascP W k && qS (W.getD k noP))=true) W.length
  ⟨0,_,by omega,by omega,rfl,Keep.refl _ _,λk hk=>by omega⟩ ?_
 rintro m env z ⟨i,jj,rfl,hi,rfl,hnz,hok⟩
 have hn0z:=hn.new hnz
 rw [i1]
 refine ⟨_,_,_,(New.blk hnz hz1).cell (i:=1) rfl,aD (λhq=>⟨_,_,_,(New.blk hnz hz1).cell (i:=1) rfl,?_⟩) (λhq=>?_)⟩
 ·have hlt:i<W.length:=by omega
  have hg:W[i]?=some W[i]:=List.getElem?_eq_getElem hlt
  have hgd:=lN (d:=noP) hg
  have hu:U64 W[i].Head:=h.u64 _ (List.getElem_mem hlt)
  have bad:(ascP W i && qS (W.getD i noP))=false→(if ((List.range W.length).all λi=>ascP W i && qS (W.getD i noP))=false then 1 else (0:Int))=1:=λe=>if_pos (kf hlt e)
  refine gN (cells:=aG.cells) aG.len (by omega) (h.rd.new hn0z) hg rfl hlen λb o _ hc=>⟨_,hc 1 _ rfl,?_⟩
  refine aC (DF z hu) ?_
  rintro x z1 ⟨y,rfl,rfl⟩
  refine ⟨_,_,rfl,?_⟩
  rintro z2 hz2
  have hn2:New z1 z2:=by rw [hz2];exact aT _
  clear hz2
  have hn02:=hn0z.new hn2
  have hz12:=New.blk (hnz.new hn2) hz1
  refine ⟨λy=>New z2 y,Keep.refl _ _,aD (λh0=>⟨_,_,_,λy hy=>(New.blk hy hz12).cell (i:=1) rfl,?_⟩) (λh0=>⟨_,_,_,λy hy=>(New.blk hy hz12).cell (i:=1) rfl,?_⟩)⟩
  ·have hg1:W[i - 1]?=some W[i - 1]:=List.getElem?_eq_getElem (by omega)
   have hgd1:=lN (d:=noP) hg1
   refine iL (cells:=aG.cells) aG.len (by omega) (h.rd.new hn02) hg1 (by rw [w64 (by omega) (by omega)];omega) hlen λb' o' hc'=>⟨_,λy hy=>hc' y hy 0 _ rfl,_,_,_,λy hy=>(New.blk hy hz12).cell (i:=1) rfl,?_⟩
   refine iL (cells:=aG.cells) aG.len (by omega) (h.rd.new hn02) hg rfl hlen λb' o' hc'=>⟨_,λy hy=>hc' y hy 0 _ rfl,aD (λhp6=>?_) (λhp6=>⟨_,_,_,λy hy=>(New.blk hy hz12).cell (i:=1) rfl,?_⟩)⟩
   ·rw [bad (by
     have:ascP W i=false:=by unfold ascP;rw [hgd,hgd1];simp;omega
     rw [this];rfl)]
    exact ⟨rfl,hn02⟩
   have ha:ascP W i=true:=by unfold ascP;rw [hgd,hgd1];simp;omega
   refine iL (cells:=aG.cells) aG.len (by omega) (h.rd.new hn02) hg rfl hlen λb' o' hc'=>⟨_,λy hy=>hc' y hy 1 _ rfl,?_⟩
   refine aC (Ap z2 W[i].Head) ?_
   rintro x z3 ⟨rfl,rfl⟩
   refine ⟨_,rfl,Keep.refl _ _,nj (λhf=>?_) (λht=>bQ (λhne=>?_) (λhe=>?_))⟩
   ·rw [bad (by rw [hgd];unfold qS;rw [hf,Bool.and_false,Bool.and_false])]
    exact ⟨rfl,hn02⟩
   ·rw [bad (by
     have:pU W[i].Head=false:=by
      cases hx:pU W[i].Head with
      |true=>rw [hx] at hne;simp at hne
      |false=>rfl
     rw [hgd];unfold qS;rw [this,Bool.false_and,Bool.and_false])]
    exact ⟨rfl,hn02⟩
   ·have hx:pU W[i].Head=true:=by
     cases hx:pU W[i].Head with
     |true=>rfl
     |false=>rw [hx] at he;simp at he
    rw [w64 (by omega) (by omega)]
    refine ⟨W.length - (i+1),by omega,i+1,_,rfl,by omega,rfl,hnz.new hn2,λk hk=>?_⟩
    rcases Nat.lt_succ_iff_lt_or_eq.1 hk with hk | rfl
    ·exact hok k hk
    ·rw [hgd];unfold qS;rw [ha,hx,ht];rfl
  ·have ha:ascP W i=true:=by unfold ascP;simp;omega
   refine iL (cells:=aG.cells) aG.len (by omega) (h.rd.new hn02) hg rfl hlen λb' o' hc'=>⟨_,λy hy=>hc' y hy 1 _ rfl,?_⟩
   refine aC (Ap z2 W[i].Head) ?_
   rintro x z3 ⟨rfl,rfl⟩
   refine ⟨_,rfl,Keep.refl _ _,nj (λhf=>?_) (λht=>bQ (λhne=>?_) (λhe=>?_))⟩
   ·rw [bad (by rw [hgd];unfold qS;rw [hf,Bool.and_false,Bool.and_false])]
    exact ⟨rfl,hn02⟩
   ·rw [bad (by
     have:pU W[i].Head=false:=by
      cases hx:pU W[i].Head with
      |true=>rw [hx] at hne;simp at hne
      |false=>rfl
     rw [hgd];unfold qS;rw [this,Bool.false_and,Bool.and_false])]
    exact ⟨rfl,hn02⟩
   ·have hx:pU W[i].Head=true:=by
     cases hx:pU W[i].Head with
     |true=>rfl
     |false=>rw [hx] at he;simp at he
    rw [w64 (by omega) (by omega)]
    refine ⟨W.length - (i+1),by omega,i+1,_,rfl,by omega,rfl,hnz.new hn2,λk hk=>?_⟩
    rcases Nat.lt_succ_iff_lt_or_eq.1 hk with hk | rfl
    ·exact hok k hk
    ·rw [hgd];unfold qS;rw [ha,hx,ht];rfl
 ·rw [kq,if_neg (by
   rw [Bool.not_eq_false,List.all_eq_true]
   intro k hk
   exact hok k (by have:=List.mem_range.1 hk;omega))]
  exact ⟨rfl,hn0z⟩
end Go.Proofs.YtafopfaomkklpaaGreat
