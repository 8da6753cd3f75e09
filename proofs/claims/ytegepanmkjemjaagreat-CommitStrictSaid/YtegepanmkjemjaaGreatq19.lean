import Derived.Test.YtegepanmkjemjaaGreatq18
import Derived.Test.YtegepanmkjemjaaGreatProg
import Derived.Test.YtegepanmkjemjaaGreatq03
set_option linter.unusedVariables false
namespace Go.Proofs.YtegepanmkjemjaaGreat
open Go.Proofs.Tryz
open Go.Eng
def cw (p a v:Int):Int:=p * 4503599627370496+a * 1099511627776+v
theorem Bd {p a v:Int} (hp:0≤p∧p<4096) (ha:0≤a∧a<4096) (hv:0≤v∧v<1099511627776):bor .u64 (bor .u64 (bshl .u64 p 52) (bshl .u64 a 40)) v=cw p a v:=by
 obtain ⟨p,rfl⟩:=Int.eq_ofNat_of_zero_le hp.1
 obtain ⟨a,rfl⟩:=Int.eq_ofNat_of_zero_le ha.1
 obtain ⟨v,rfl⟩:=Int.eq_ofNat_of_zero_le hv.1
 have e1:bshl .u64 (p:Int) 52=((p * 2 ^ 52:Nat):Int):=by
  show IntKind.u64.wrap ((p:Int) * 2 ^ 52)=_
  rw [re (by omega) (by omega)];simp
 have e2:bshl .u64 (a:Int) 40=((a * 2 ^ 40:Nat):Int):=by
  show IntKind.u64.wrap ((a:Int) * 2 ^ 40)=_
  rw [re (by omega) (by omega)];simp
 rw [e1,e2,xo _ _ (by omega) (by omega),AD _ _ 52 (by omega),show p * 2 ^ 52+a * 2 ^ 40=(p * 2 ^ 12+a) * 2 ^ 40 by omega,xo _ _ (by omega) (by omega),AD _ _ 40 (by omega)]
 unfold cw
 omega
theorem oM (w:World) (x a b:Int):Does 121 [.int .i64 x,.int .i64 a,.int .i64 b] w λv w'=>v=.bool (decide (a≤x∧x≤b))∧w'=w:=by
 refine does Tryz.func121 ?_
 rw [ou]
 refine aH (λh=>⟨?_,rfl⟩) (λh=>⟨?_,rfl⟩)
 ·have:a≤x:=h
  simp [this]
 ·have:¬ a≤x:=h
  simp [this]
theorem qH (w:World) (x a b:Int):Does 123 [.int .u64 x,.int .u64 a,.int .u64 b] w λv w'=>v=.bool (decide (a≤x∧x≤b))∧w'=w:=by
 refine does Tryz.func123 ?_
 rw [mb]
 refine aH (λh=>⟨?_,rfl⟩) (λh=>⟨?_,rfl⟩)
 ·have:a≤x:=h
  simp [this]
 ·have:¬ a≤x:=h
  simp [this]
theorem wq (w:World) (x:Int):Does 133 [.int .i64 x] w λv w'=>v=.bool (decide (0≤x∧x≤5))∧w'=w:=by
 refine does Tryz.func133 ?_
 rw [p8]
 refine aE (oM _ _ _ _) ?_
 rintro v w1 ⟨rfl,rfl⟩
 exact ⟨_,rfl,rfl,rfl⟩
theorem CC (w:World):Does 90 [.int .i64 0,.bool true] w λv w'=>v=.tuple #[.int .u64 1,.int .i64 0]∧w'=w:=by
 refine does Tryz.func90 ?_
 rw [qz]
 refine aE (oM _ _ _ _) ?_
 rintro v w1 ⟨rfl,rfl⟩
 exact ⟨_,rfl,rfl,rfl⟩
theorem xV (w:World):Does 94 [.int .u64 1,.int .i64 0] w λv w'=>v=.tuple #[.int .u64 256,.int .i64 0]∧w'=w:=by
 refine does Tryz.func94 ?_
 rw [rj]
 refine aE (qH _ _ _ _) ?_
 rintro v w1 ⟨rfl,rfl⟩
 refine ⟨_,rfl,dE rfl ?_⟩
 refine aE (oM _ _ _ _) ?_
 rintro v w1 ⟨rfl,rfl⟩
 refine ⟨_,rfl,dE rfl ⟨?_,rfl⟩⟩
 rfl
def cwOf (p a v:Int):Int:=if p<4096∧a<4096∧v<1099511627776 then cw p a v else 0
theorem tt (w:World) {p a v:Int} (hp:0≤p) (ha:0≤a) (hv:0≤v):Does 91 [.int .u64 p,.int .u64 a,.int .u64 v] w λr w'=>∃ e,r=.tuple #[.int .u64 (cwOf p a v),.int .i64 e]∧w'=w:=by
 refine does Tryz.func91 ?_
 rw [pp]
 unfold cwOf
 refine aH (λh=>⟨2,?_,rfl⟩) (λh=>aH (λh2=>⟨2,?_,rfl⟩) (λh2=>aH (λh3=>⟨2,?_,rfl⟩) (λh3=>⟨0,?_,rfl⟩)))
 ·rw [if_neg (by omega)]
 ·rw [if_neg (by omega)]
 ·rw [if_neg (by omega)]
 ·rw [if_pos (by omega),Bd (by omega) (by omega) (by omega)]
theorem sx (w:World) (a b:Int):Does 122 [.int .i64 a,.int .i64 b] w λv w'=>∃ c0 c1,v=.func (.func 162) #[] #[ptr c0,ptr c1]∧Blk w' c0 [.int .i64 b] TI∧Blk w' c1 [.int .i64 a] TI∧New w w':=by
 refine does Tryz.func122 ?_
 rw [p6]
 rintro b1 w1 hb1 hw1 b2 w2 hb2 hw2
 obtain ⟨hz1,hn1⟩:=aM hb1 hw1
 obtain ⟨hz2,hn2⟩:=aM hb2 hw2
 exact ⟨b2,b1,rfl,hz2,New.blk hn2 hz1,hn1.new hn2⟩
def sy (a b i:Int):Int:=if i<0∨b≤i then -1 else a * 8+i
theorem qI (w:World) {c0 c1:Nat} {a b:Int} (h0:Blk w c0 [.int .i64 b] TI) (h1:Blk w c1 [.int .i64 a] TI) (ha:0≤a∧a≤100000) (hb:b≤100000) (i:Int):Does 162 [.int .i64 i,ptr c0,ptr c1] w λv w'=>v=.int .i64 (sy a b i)∧w'=w:=by
 refine does Tryz.func162 ?_
 rw [ptr,ptr,ox]
 unfold sy
 refine aH (λh=>⟨by rw [if_pos (by omega)],rfl⟩) (λh=>⟨b,h0.cell rfl,aH (λh2=>⟨by rw [if_pos (by omega)],rfl⟩) (λh2=>⟨a,h1.cell rfl,?_,rfl⟩)⟩)
 rw [if_neg (by omega),w64 (x:=a * 8) (by omega) (by omega),w64 (x:=a * 8+i) (by omega) (by omega)]
attribute [local irreducible] k9 mQ rb
theorem sA:k9 prog 162=true:=by kernel_rfl
theorem uI (w:World) (i:Int):Does 92 [.int .i64 i] w λv w'=>v=.int .i64 (sy 1 16 i)∧New w w':=by
 refine does Tryz.func92 ?_
 rw [nI]
 refine aE (sx _ _ _) ?_
 rintro v w1 ⟨c0,c1,rfl,hb0,hb1,hn⟩
 have hok:=sA
 refine ⟨_,rfl,?_⟩
 have hx:(#[]++#[.int .i64 i]++#[ptr c0,ptr c1]:Array Value)=#[.int .i64 i,ptr c0,ptr c1]:=by simp
 refine mJ hok hx ?_
 refine aE (qI w1 hb0 hb1 (by omega) (by omega) i) ?_
 rintro v w2 ⟨rfl,rfl⟩
 exact ⟨_,rfl,rfl,hn⟩
theorem CD (w:World) (i:Int):Does 93 [.int .i64 i] w λv w'=>v=.int .i64 (sy 3 6 i)∧New w w':=by
 refine does Tryz.func93 ?_
 rw [ri]
 refine aE (sx _ _ _) ?_
 rintro v w1 ⟨c0,c1,rfl,hb0,hb1,hn⟩
 have hok:=sA
 refine ⟨_,rfl,?_⟩
 have hx:(#[]++#[.int .i64 i]++#[ptr c0,ptr c1]:Array Value)=#[.int .i64 i,ptr c0,ptr c1]:=by simp
 refine mJ hok hx ?_
 refine aE (qI w1 hb0 hb1 (by omega) (by omega) i) ?_
 rintro v w2 ⟨rfl,rfl⟩
 exact ⟨_,rfl,rfl,hn⟩
theorem vu (w:World) {i:Int} (h0:96≤i) (h1:i<256):Does 95 [.int .i64 i] w λv w'=>v=.int .i64 (i * 8)∧w'=w:=by
 refine does Tryz.func95 ?_
 rw [rk]
 refine aH (λh=>by omega) (λh=>aH (λh=>by omega) (λh=>⟨?_,rfl⟩))
 rw [w64 (by omega) (by omega)]
theorem Be (w:World) {i:Int} (h0:1≤i) (h1:i≤256):Does 89 [.int .i64 i] w λv w'=>v=.int .i64 (i * 8)∧w'=w:=by
 refine does Tryz.func89 ?_
 rw [qy]
 refine aH (λh=>by omega) (λh=>aH (λh=>by omega) (λh=>⟨?_,rfl⟩))
 rw [w64 (by omega) (by omega)]
def tu:Nat→Int→Int→Int
 | 0,_,s=>s
 |n+1,i,s=>tu n (i+1) (bor .u64 s (bshl .u64 7 (7 * i)))
def iv (n:Nat):Int:=tu n 0 549755813888
theorem IV_c (w:World) {n:Nat} (h0:1≤n) (h1:n≤5):Does 87 [.int .i64 n] w λv w'=>v=.tuple #[.int .u64 (iv n),.int .i64 0]∧w'=w:=by
 refine does Tryz.func87 ?_
 rw [lL]
 refine aH (λh=>by omega) (λh=>aH (λh=>by omega) (λh=>?_))
 refine aQ mix (λm env u=>∃ (i:Nat) (s:Int) (jj:List Value),m=n - i∧i≤n∧env=dF s n i jj∧u=w∧tu (n - i) i s=iv n) n ⟨0,_,_,rfl,by omega,rfl,rfl,rfl⟩ ?_
 rintro m env u ⟨i,s,jj,rfl,hi,rfl,rfl,hv⟩
 rw [iO]
 refine aH (λhp=>?_) (λhp=>?_)
 ·rw [w64 (by omega) (by omega),re (by omega) (by omega),w64 (by omega) (by omega)]
  refine ⟨by omega,n - (i+1),by omega,i+1,_,_,rfl,by omega,rfl,rfl,?_⟩
  rw [show n - i=n - (i+1)+1 by omega,tu] at hv
  exact hv
 ·rw [jO]
  have:i=n:=by omega
  subst this
  rw [Nat.sub_self,tu] at hv
  rw [hv]
  exact ⟨rfl,rfl⟩
theorem CE {n:Nat} (h1:n≤5):0≤iv n∧iv n<1099511627776:=by
 rcases n with _ | _ | _ | _ | _ | _ | n
 all_goals first | decide | omega
end Go.Proofs.YtegepanmkjemjaaGreat
namespace Go.Proofs.YtegepanmkjemjaaGreat
open Go.Proofs.Tryz
open Go.Eng IntKind
variable (w:World) (R:Value→World→Prop)
theorem oN (p0 p1:Int):fnW prog f11 [.int .i64 p0,.int .i64 p1] R w=((bif (decide ((p1:Int)<1)) then (R (.int .i64 0) w) else (IntKind.i64=IntKind.i64∧p1≠0∧IntKind.i64=IntKind.i64∧p1≠0∧R (.int .i64 (Int.tmod (i64.wrap ((Int.tmod p0 p1)+p1)) p1)) w))):=by kernel_rfl
end Go.Proofs.YtegepanmkjemjaaGreat
namespace Go.Proofs.YtegepanmkjemjaaGreat
open Go.Eng
theorem nt (w:World) (x n:Int) (hx:-9223372036854775808≤x∧x<9223372036854775808) (hn:n<4611686018427387904):Does 11 [.int .i64 x,.int .i64 n] w λv w'=>v=.int .i64 (if n<1 then 0 else x % n)∧w'=w:=by
 refine does Tryz.func11 ?_
 rw [oN]
 refine aH (λh=>⟨by rw [if_pos h],rfl⟩) (λh=>⟨rfl,by omega,rfl,by omega,?_,rfl⟩)
 rw [if_neg h]
 have h1:0<n:=by omega
 have key:∃ t k,Int.tmod x n=t∧-n<t∧t<n∧t+n * k=x:=by
  rcases Int.le_total 0 x with hx0 | hx0
  ·refine ⟨x % n,x / n,Int.tmod_eq_emod_of_nonneg hx0,?_,Int.emod_lt_of_pos x h1,Int.emod_add_mul_ediv x n⟩
   have:=Int.emod_nonneg x (Int.ne_of_gt h1)
   omega
  ·refine ⟨-((-x) % n),-((-x) / n),?_,?_,?_,?_⟩
   ·rw [←Int.tmod_eq_emod_of_nonneg (by omega),Int.neg_tmod,Int.neg_neg]
   ·have:=Int.emod_lt_of_pos (-x) h1
    omega
   ·have:=Int.emod_nonneg (-x) (Int.ne_of_gt h1)
    omega
   ·have:=Int.emod_add_mul_ediv (-x) n
    rw [Int.mul_neg]
    omega
 obtain ⟨t,k,ht,h2,h3,hk⟩:=key
 rw [ht,w64 (by omega) (by omega)]
 congr 1
 rw [Int.tmod_eq_emod_of_nonneg (by omega),Int.add_emod_right,←hk,Int.add_mul_emod_self_left]
end Go.Proofs.YtegepanmkjemjaaGreat
namespace Go.Proofs.YtegepanmkjemjaaGreat
open Go.Eng
def fmt0 (lines n:Nat):List Int:=(((List.replicate (lines * 8) 0).set 0 1).set 1 1).set 8 (cw 1 1 (iv n))
def mu:Nat→Nat→List Int→List Int
 | 0,_,ws=>ws
 |k+1,c,ws=>mu k (c+1) (ws.set (24+c) 1)
def mv:Nat→Nat→List Int→List Int
 | 0,_,ws=>ws
 |k+1,l,ws=>mv k (l+1) (ws.set (l * 8) 256)
def fmt (lines n:Nat):List Int:=mv (lines - 96) 96 (mu 6 0 (fmt0 lines n))
theorem CF (n:Nat) (x:Int):List.replicate n (Value.int .u64 x)=us (List.replicate n x):=by simp [us]
theorem CG {n:Nat} (h:n≤5):0≤cw 1 1 (iv n)∧cw 1 1 (iv n)<18446744073709551616:=by
 have:=CE h
 unfold cw
 omega
def mw (ws:List Int):Prop:=∀ x ∈ ws,0≤x∧x<18446744073709551616
theorem mw.set {ws:List Int} (h:mw ws) {x:Int} (hx:0≤x∧x<18446744073709551616) (i:Nat):mw (ws.set i x):=λy hy=>by
 rcases List.mem_or_eq_of_mem_set hy with h1 | rfl
 ·exact h y h1
 ·exact hx
abbrev TU64:TypeId:=43
theorem qJ {u w0:World} {b len:Nat} {ws:List Int} {i x:Int} {K:Addr→World→Prop} (hz:Blk u b (us ws) TU64) (hn:New w0 u) (hb:w0.heap.size≤b) (h0:0≤i) (h1:i<ws.length) (hlen:len=ws.length)
  (hk:∀ ad u',Blk u' b (us (ws.set i.toNat x)) TU64→New w0 u'→K ad u'):idxS (some ⟨b,0,none⟩) len i 1 λad=>(∃ u',u.cell? ad=some u')∧u.frozen? ad=false∧∀ w',w'=u.setCell ad (.int .u64 x)→K ad w':=by
 refine aZ h0 (by omega) ?_
 have e:0+i.toNat * 1=i.toNat:=by omega
 rw [e]
 have hc:∃ y,ws[i.toNat]?=some y:=⟨_,List.getElem?_eq_getElem (by omega)⟩
 obtain ⟨y,hy⟩:=hc
 refine ⟨⟨_,hz.cell (sR hy)⟩,hz.frozen,?_⟩
 rintro w' rfl
 refine hk _ _ ?_ (Keep.setCell hn (.inr hb) _)
 have:=hz.setCell (i:=i.toNat) (.int .u64 x)
 rwa [show (us ws).set i.toNat (.int .u64 x)=us (ws.set i.toNat x) by simp [us,List.map_set]] at this
set_option maxHeartbeats 1000000 in
theorem zn {w:World} {b bw:Nat} {s:aP} (h:bL w b bw s) {lines n:Nat} (hl:s.words.length=lines * 8) (h98:98≤lines) (h256:lines≤256) (hd:s.down=false) (h1:1≤n) (h5:n≤5) :
  Does 71 [ptr b,.int .i64 n] w λv w'=>v=.int .i64 0∧bL w' b bw ⟨fmt lines n,false⟩∧Keep (λk=>k=bw) w w':=by
 have hdiv:s.words.length / 8=lines:=by omega
 have hiv:=CE h5
 refine does Tryz.func71 ?_
 rw [ptr,pY]
 refine aE (IV_c _ h1 h5) ?_
 rintro v w1 ⟨rfl,rfl⟩
 refine ⟨_,_,rfl,dE rfl ?_⟩
 refine aE (oB h) ?_
 rintro v w1 ⟨rfl,rfl⟩
 refine ⟨_,rfl,aH (λhc=>by omega) λ_=>?_⟩
 refine aE (Up_c h) ?_
 rintro v w1 ⟨rfl,rfl⟩
 refine ⟨_,rfl,dE (by simp [hd]) ?_⟩
 refine aE (oB h) ?_
 rintro v w1 ⟨rfl,rfl⟩
 refine ⟨_,rfl,?_⟩
 rw [hdiv]
 refine aE (Be _ (by omega) (by omega)) ?_
 rintro v w1 ⟨rfl,rfl⟩
 refine ⟨_,rfl,by omega,by omega,by omega,by omega,?_⟩
 have e8:Int.toNat ((lines:Int) * 8)=lines * 8:=by omega
 rw [e8,vq,CF]
 rintro b1 w2 hb1 hw2
 obtain ⟨hz2,hn2⟩:=aM hb1 hw2
 replace hz2:Blk w2 b1 (us (List.replicate (lines * 8) 0)) TU64:=hz2
 clear hw2
 have hbl:w1.heap.size≤b1:=by omega
 refine aE (CC _) ?_
 rintro v w3 ⟨rfl,rfl⟩
 refine ⟨_,_,rfl,?_⟩
 refine qJ (len:=lines * 8) (i:=0) (x:=1) hz2 hn2 hbl (by omega) (by simp;omega) (by simp) ?_
 intro ad w4 hz4 hn4
 refine qJ hz4 hn4 hbl (by omega) (by simp;omega) (by simp) ?_
 intro ad w5 hz5 hn5
 refine aE (uI _ _) ?_
 rintro v w6 ⟨rfl,hn6⟩
 refine ⟨_,rfl,?_⟩
 refine aE (tt _ (by omega) (by omega) hiv.1) ?_
 rintro v w7 ⟨e,rfl,rfl⟩
 refine ⟨_,_,rfl,?_⟩
 have hcw:cwOf 1 1 (iv n)=cw 1 1 (iv n):=by unfold cwOf;rw [if_pos (by omega)]
 rw [hcw]
 refine qJ (New.blk hn6 hz5) (hn5.new hn6) hbl (by decide) (by simp [sy];omega) (by simp) ?_
 intro ad w8 hz8 hn8
 have hf0:(((List.replicate (lines * 8) 0).set (Int.toNat 0) 1).set (Int.toNat 1) 1).set (sy 1 16 0).toNat (cw 1 1 (iv n))=fmt0 lines n:=rfl
 rw [hf0] at hz8
 have hlen0:(fmt0 lines n).length=lines * 8:=by simp [fmt0]
 have hw0:mw (fmt0 lines n):=((mw.set (mw.set (λx hx=>by simp at hx;omega) (by omega) _) (by omega) _).set (CG h5) _)
 clear hf0 hz2 hz4 hz5 hn2 hn4 hn5 hn6
 refine aQ mix (λm env u=>∃ (c:Nat) (ws:List Int) (jj:List Value),m=6 - c∧c≤6∧env=eU ⟨b,0,none⟩ (some ⟨b1,0,none⟩) (lines * 8) (lines * 8) c jj∧Blk u b1 (us ws) TU64∧New w1 u∧ws.length=lines * 8∧mw ws∧mu (6 - c) c ws=mu 6 0 (fmt0 lines n)) 6
  ⟨0,_,_,rfl,by omega,rfl,hz8,hn8,hlen0,hw0,rfl⟩ ?_
 rintro m env u ⟨c,ws,jj,rfl,hc,rfl,hz,hn,hlen,hw,hds⟩
 rw [kJ]
 refine aH (λhp=>?_) (λhp=>?_)
 ·refine aE (CD _ _) ?_
  rintro v u1 ⟨rfl,hnu⟩
  have hreg:sy 3 6 (c:Int)=24+c:=by unfold sy;rw [if_neg (by omega)];omega
  refine ⟨_,rfl,?_⟩
  rw [hreg]
  refine qJ (New.blk hnu hz) (hn.new hnu) hbl (by omega) (by omega) (by omega) ?_
  intro ad u2 hz2 hn2
  rw [w64 (by omega) (by omega)]
  refine ⟨6 - (c+1),by omega,c+1,_,_,rfl,by omega,rfl,hz2,hn2,by simpa using hlen,hw.set (by omega) _,?_⟩
  rw [show 6 - c=6 - (c+1)+1 by omega,mu] at hds
  rw [show Int.toNat (24+(c:Int))=24+c by omega]
  exact hds
 ·have hc6:c=6:=by omega
  subst hc6
  rw [l6]
  rw [Nat.sub_self,mu] at hds
  have hf:mv (lines - 96) 96 ws=fmt lines n:=by rw [fmt,←hds]
  clear hds
  refine aQ mix (λm env u=>∃ (c:Nat) (ws:List Int) (jj:List Value),m=lines - c∧96≤c∧c≤lines∧env=eV ⟨b,0,none⟩ (some ⟨b1,0,none⟩) (lines * 8) (lines * 8) c jj∧Blk u b1 (us ws) TU64∧New w1 u∧ws.length=lines * 8∧mw ws∧mv (lines - c) c ws=fmt lines n) (lines - 96)
   ⟨96,_,_,rfl,by omega,by omega,rfl,hz,hn,hlen,hw,hf⟩ ?_
  clear hf hz hn hlen hw hz8 hn8 hp hc
  rintro m env u ⟨c,ws,jj,rfl,hc,hcl,rfl,hz,hn,hlen,hw,hds⟩
  rw [kK]
  refine aE (oB (h.new hn)) ?_
  rintro v u1 ⟨rfl,rfl⟩
  refine ⟨_,rfl,?_⟩
  rw [hdiv]
  refine aH (λhp=>?_) (λhp=>?_)
  ·refine aE (vu _ (by omega) (by omega)) ?_
   rintro v u2 ⟨rfl,rfl⟩
   refine ⟨_,rfl,?_⟩
   refine aE (xV _) ?_
   rintro v u2 ⟨rfl,rfl⟩
   refine ⟨_,_,rfl,?_⟩
   refine qJ hz hn hbl (by omega) (by omega) (by omega) ?_
   intro ad u2 hz2 hn2
   rw [w64 (by omega) (by omega)]
   refine ⟨lines - (c+1),by omega,c+1,_,_,rfl,by omega,by omega,rfl,hz2,hn2,by simpa using hlen,hw.set (by omega) _,?_⟩
   rw [show lines - c=lines - (c+1)+1 by omega,mv] at hds
   rw [show Int.toNat ((c:Int) * 8)=c * 8 by omega]
   exact hds
  ·have hc6:c=lines:=by omega
   subst hc6
   rw [l7]
   rw [Nat.sub_self,mv] at hds
   rw [←hlen]
   refine aE (xx (h.new hn) 0 (eJ hz (by rw [List.drop_zero];exact List.take_of_length_le (Nat.le_refl _))) hw (λh=>by cases h)) ?_
   rintro v u3 ⟨rfl,hnode,hk⟩
   have hchk:s.chk 0 ws.length=0:=by
    unfold aP.chk
    rw [if_neg (by omega),if_neg (by simp [hd])]
   rw [hchk] at hnode ⊢
   rw [if_pos rfl] at hnode
   refine ⟨_,rfl,rfl,?_,(Keep.of_new hn).trans hk (λ_ _ h=>h)⟩
   have:s.write (Int.toNat 0) ws=⟨fmt c n,false⟩:=by
    unfold aP.write
    rw [←hds]
    simp [hd,hl,hlen]
   rw [←this]
   exact hnode
theorem tv:∀ (k c:Nat) (ws:List Int),(mu k c ws).length=ws.length
 | 0,_,_=>rfl
 |k+1,c,ws=>by rw [mu,tv];simp
theorem tz:∀ (k c:Nat) (ws:List Int),(mv k c ws).length=ws.length
 | 0,_,_=>rfl
 |k+1,c,ws=>by rw [mv,tz];simp
theorem sB (lines n:Nat):(fmt lines n).length=lines * 8:=by rw [fmt,tz,tv];simp [fmt0]
def Fab.fmt (F:Fab):Fab:={ F with nodes:=F.nodes.map λ_=>⟨Go.Proofs.YtegepanmkjemjaaGreat.fmt F.lines F.nodes.length,false⟩ }
def vv (F:Fab):Prop:=98≤F.lines∧F.lines≤256∧1≤F.nodes.length∧F.nodes.length≤5∧∀ n ∈ F.nodes,n.words.length=F.lines * 8∧n.down=false
theorem iE (X:FabX):X.pure.nodes.length=X.nodes.length:=by simp [FabX.pure]
theorem uJ {A:Nat→Prop} {χ:Nat→Tag} {w:World} {fb:Nat} {X:FabX} (h:aW A χ w fb X) (hf:vv X.pure) :
  Does 49 [ptr fb] w λv w'=>v=.int .i64 0∧cR A χ w fb X.pure.fmt w' λ_=>True:=by
 obtain ⟨f1,f2,f3,f4,f5⟩:=hf
 rw [iE] at f3 f4
 refine does Tryz.func49 ?_
 rw [ptr,nH]
 refine aE (sv h) ?_
 rintro v w1 ⟨rfl,rfl⟩
 refine ⟨_,rfl,?_⟩
 let NN:Nat:=X.nodes.length
 refine aQ mix (λm env u=>∃ (i:Nat) (A':Nat→Prop) (χ':Nat→Tag) (X':FabX) (jj:List Value),m=NN - i∧i≤NN∧env=eg ⟨fb,0,none⟩ NN i jj∧Next A A' χ χ' w1 u∧aW A' χ' u fb X'∧X'.nodes.length=NN∧X'.lines=X.lines∧(∀ x ∈ X'.nodes,x.n.words.length=X.lines * 8∧x.n.down=false)∧
   X'.pure={ X.pure with nodes:=List.replicate i ⟨fmt X.lines NN,false⟩++X.pure.nodes.drop i }) NN
  ⟨0,A,χ,X,_,rfl,by omega,rfl,h.refl (Keep.refl _ _),h,rfl,rfl,λx hx=>f5 x.n (List.mem_map.2 ⟨x,hx,rfl⟩),by simp⟩ ?_
 rintro m env u ⟨i,A',χ',X',jj,rfl,hi,rfl,hnx,hF,hXn,hXl,hXw,hXp⟩
 rw [jN]
 refine aH (λhp=>?_) (λhp=>?_)
 ·have hlt:i<X'.nodes.length:=by omega
  obtain ⟨x,hx⟩:∃ x,X'.nodes[i]?=some x:=⟨_,List.getElem?_eq_getElem hlt⟩
  refine aE (ms hF hx) ?_
  rintro v u1 ⟨rfl,rfl⟩
  refine ⟨_,rfl,?_⟩
  refine aE (sv hF) ?_
  rintro v u1 ⟨rfl,rfl⟩
  refine ⟨_,rfl,?_⟩
  obtain ⟨hw1,hw2⟩:=hXw x (List.mem_of_getElem? hx)
  rw [hXn]
  refine aE (zn (hF.node i x hx).node hw1 f1 f2 hw2 (by show 1≤NN;omega) (by show NN≤5;omega)) ?_
  rintro v u2 ⟨rfl,hnode,hk⟩
  refine ⟨_,rfl,dE rfl ?_⟩
  obtain ⟨A2,hnx2,hF2⟩:=hF.setNode hx (hk.mono λk _ e=>.inr e) hnode
  rw [w64 (by omega) (by omega)]
  refine ⟨NN - (i+1),by omega,i+1,A2,χ',_,_,rfl,by omega,rfl,hnx.trans hnx2,hF2,by simpa using hXn,hXl,?_,?_⟩
  ·intro y hy
   rcases List.mem_or_eq_of_mem_set hy with hy | rfl
   ·exact hXw y hy
   ·refine ⟨?_,rfl⟩
    have:=hnode.len
    show (fmt X.lines NN).length=_
    rw [sB]
  ·have hlen:X.pure.nodes.length=NN:=iE X
   have e1:X'.pure.nodes=List.replicate i ⟨fmt X.lines NN,false⟩++X.pure.nodes.drop i:=by rw [hXp]
   have e2:X'.nodes.map iX.n=List.replicate i ⟨fmt X.lines NN,false⟩++X.pure.nodes.drop i:=e1
   have e3:({ X' with nodes:=X'.nodes.set i { x with n:=⟨fmt X.lines NN,false⟩ } }:FabX).pure={ X'.pure with nodes:=(X'.nodes.map iX.n).set i ⟨fmt X.lines NN,false⟩ }:=by
    simp [FabX.pure,List.map_set]
   rw [e3,e2,hXp]
   congr 1
   rw [List.set_append_right _ _ (by simp)]
   simp only [List.length_replicate,Nat.sub_self]
   rw [List.replicate_succ',List.append_assoc]
   congr 1
   rw [List.drop_eq_getElem_cons (by omega)]
   rfl
 ·have hiN:i=NN:=by omega
  subst hiN
  rw [kI]
  refine ⟨rfl,A',χ',X',hnx,hF,?_,trivial⟩
  rw [hXp]
  unfold Fab.fmt
  have hlen:X.pure.nodes.length=NN:=iE X
  congr 1
  rw [List.drop_of_length_le (by omega),List.append_nil,hlen,←hlen]
  rw [List.map_const']
  rfl
theorem wt {n c lines:Nat} (hn:1≤n∧n≤5) (hl:98≤lines∧lines≤256):vv (Fab.init n c lines):=by
 refine ⟨hl.1,hl.2,by simp [Fab.init];omega,by simp [Fab.init];omega,?_⟩
 intro x hx
 simp [Fab.init] at hx
 rw [hx.2]
 simp [mO,Fab.init]
 omega
def Fab.fresh (n c lines:Nat):Fab:=⟨lines,List.replicate n ⟨Go.Proofs.YtegepanmkjemjaaGreat.fmt lines n,false⟩,(List.range c).map (oL n),[]⟩
theorem zo (n c lines:Nat):(Fab.init n c lines).fmt=Fab.fresh n c lines:=by simp [Fab.fmt,Fab.init,Fab.fresh]
theorem xW {w:World} {n c lines:Nat} (hn:1≤n∧n≤5) (hc:1≤c∧c≤6) (hl:98≤lines∧lines≤256):Does 31 [.int .i64 n,.int .i64 c,.int .i64 lines] w λv w'=>
  ∃ fb A χ X,v=.tuple #[ptr fb,.bool true]∧aW A χ w' fb X∧New w w'∧(∀ k,A k→w.heap.size≤k)∧X.pure=Fab.fresh n c lines:=by
 refine does Tryz.func31 ?_
 rw [om]
 refine aE (CB hn hc ⟨by omega,hl.2⟩) ?_
 rintro v w1 ⟨fb,A,χ,X,rfl,hF,hn1,hA,hX⟩
 refine ⟨_,_,rfl,dE rfl (dE rfl ?_)⟩
 refine aE (uJ hF (by rw [hX];exact wt hn hl)) ?_
 rintro v w2 ⟨rfl,A',χ',X',hnx,hF',hX',_⟩
 refine ⟨_,rfl,dE rfl ⟨fb,A',χ',X',rfl,hF',?_,?_,?_⟩⟩
 ·refine hn1.trans hnx.keep (λk hk hA'=>?_)
  have:=hA k (hF.avoid k hA')
  omega
 ·intro k hk
  by_cases hlt:k<w1.heap.size
  ·rcases (hnx.iff k).1 hk with hc | hc
   ·exact hA k (hF.avoid k (hnx.grow k hlt hc))
   ·exact hA k hc.2.1
  ·have:=hn1.size;omega
 ·rw [hX',hX,zo]
theorem vx {A:Nat→Prop} {χ:Nat→Tag} {w:World} {fb:Nat} {X:FabX} (h:aW A χ w fb X) {i:Nat} {x:iX} (hx:X.nodes[i]?=some x) {at_:Nat} (hat:at_<x.n.words.length) (hd:x.n.down=false) :
  Does 19 [ptr fb,.int .i64 i,.int .i64 at_] w λv w'=>v=.tuple #[.int .u64 (x.n.get at_),.bool true]∧New w w':=by
 refine does Tryz.func19 ?_
 rw [ptr,pn]
 refine aE (ms h hx) ?_
 rintro v u1 ⟨rfl,rfl⟩
 refine ⟨_,rfl,dE rfl ?_⟩
 refine aE (vp (h.node i x hx).node at_ 1) ?_
 have hchk:x.n.chk at_ 1=0:=by
  unfold aP.chk
  rw [if_neg (by omega),if_neg (by simp [hd])]
 rintro v u2 (⟨hc,_⟩ | ⟨_,a,cap,rfl,hn,ho,_⟩)
 ·exact absurd hchk hc
 have hr:=ho.rd
 have hg:x.n.read at_ 1=[x.n.get at_]:=by
  unfold aP.read
  have hs:x.n.words[at_]?=some (x.n.get at_):=aP.get_some hat
  simp only [Int.toNat_natCast]
  rw [List.drop_eq_getElem_cons hat]
  have:x.n.words[at_]=x.n.get at_:=by
   rw [List.getElem?_eq_getElem hat] at hs
   exact Option.some.inj hs
  rw [this]
  rfl
 rw [hg] at hr
 rcases hr with hr | ⟨b,o,he,hcell⟩
 ·cases hr
 simp at he
 subst he
 refine ⟨_,_,_,_,rfl,dE rfl (dE rfl (aZ (by omega) (by decide) ?_))⟩
 have:=hcell 0 _ rfl
 refine ⟨_,this,rfl,hn⟩
end Go.Proofs.YtegepanmkjemjaaGreat
