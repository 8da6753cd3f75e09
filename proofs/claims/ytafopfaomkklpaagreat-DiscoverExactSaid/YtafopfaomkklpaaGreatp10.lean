/- A part of the proof. -/
import Derived.Test.YtafopfaomkklpaaGreatp05
import Derived.Test.YtafopfaomkklpaaGreatp09
set_option linter.unusedVariables false
namespace Go.Proofs.YtafopfaomkklpaaGreat
open Go.Eng
def key1 (number:Int):Int:=2 * number+1
def atN (l:List Int) (n:Int):Int:=if 0≤n∧n<l.length then l.getD n.toNat 0 else 0
def mu (b:List Int) (m:aC):Bool:=decide (atN b m.Node=m.Boot)
def j2 (k:List Int) (key:Int) (m:aC):Bool:=decide (atN k m.Node=key)
def jE (v:Vw) (b k:List Int):Int:=if v.mem.all (mu b)=true then (if v.mem.all (j2 k (key1 v.number))=true then 1 else 2) else 3
def oQ (v:Vw) (k:List Int):Bool:=k.any λx=>x == key1 v.number
theorem Ec (w:World) (x a b:Int):Does 142 [.int .i64 x,.int .i64 a,.int .i64 b] w λv w'=>v=.bool (decide (a≤x∧x≤b))∧w'=w:=by
 refine does Tryz.func142 ?_
 rw [tI]
 refine aE (λh=>⟨?_,rfl⟩) (λh=>⟨?_,rfl⟩)
 ·have:a≤x:=h
  simp [this]
 ·have:¬ a≤x:=h
  simp [this]
theorem H9 (w:World) {n:Int} (h0:0≤n) (h1:n<16):Does 101 [.int .i64 n,.bool true] w λv w'=>v=.tuple #[.int .u64 (key1 n),.int .i64 0]∧w'=w:=by
 refine does Tryz.func101 ?_
 rw [zB]
 refine aG (Ec w n 0 15) ?_
 rintro v w1 ⟨rfl,rfl⟩
 refine ⟨_,rfl,dM (by simp;omega) (cG rfl ⟨?_,rfl⟩)⟩
 rw [yt (x:=n) (by omega) (by omega),yt (x:=n * 2) (by omega) (by omega),yt (by omega) (by omega)]
 unfold key1
 rw [Int.mul_comm]
theorem G1 (w:World) {n:Int} (h0:0≤n) (h1:n<16):Does 105 [.int .i64 n,.bool true] w λv w'=>v=.tuple #[.int .u64 (key1 n),.int .i64 0]∧w'=w:=by
 refine does Tryz.func105 ?_
 rw [ur]
 refine aE (λh=>absurd h (by omega)) (λ_=>aE (λh=>absurd h (by omega)) (λ_=>cG rfl ⟨?_,rfl⟩))
 rw [w64 (x:=2 * n) (by omega) (by omega),yt (x:=2 * n) (by omega) (by omega),yt (by omega) (by omega)]
 rfl
theorem rd_u {u:World} {a:Option Addr} {l:List Int} (h:Rd u a (us l)) {i:Nat} {x:Int} (hx:l[i]?=some x) {z:Int} (hz:z=i) {n:Nat} (hn:n=l.length) {K:Addr→Prop}
  (hk:∀ b o,(∀ y,New u y→y.cell? ⟨b,o,none⟩=some (.int .u64 x))→K ⟨b,o,none⟩):idxS a n z 1 K:=by
 subst hz hn
 have hlt:=dF hx
 have hxx:(us l)[i]?=some (.int .u64 x):=by simp [us,hx]
 rcases h with he | ⟨b,o,rfl,hc⟩
 ·rw [he] at hxx;cases hxx
 ·refine bG (by omega) (by omega) ?_
  have:=hk b (o+i) λy hy=>(Rd.new hy (.inr ⟨b,o,rfl,hc⟩)).cell hxx
  simpa using this
theorem tJ {l:List Int} {n:Int} (h0:0≤n) (h1:n<l.length):∃ x,l[n.toNat]?=some x∧atN l n=x:=by
 have hlt:n.toNat<l.length:=by omega
 refine ⟨l[n.toNat],List.getElem?_eq_getElem hlt,?_⟩
 unfold atN
 rw [if_pos ⟨h0,h1⟩,oJ (List.getElem?_eq_getElem hlt)]
theorem iE {l:List Int} {n:Int} (h:¬ (0≤n∧n<l.length)):atN l n=0:=by unfold atN;rw [if_neg h]
theorem tK {w2:World} {b1:Nat} {bt:Int} (hc:w2.cell? ⟨b1,0+1,none⟩=some (.int .i64 bt)) {bx kx key:Int} {A B1 B2 B3:Int→Prop} (hA:bx≠bt→A bt) (h2:bx=bt→kx≠key→B2 bt) (h3:bx=bt→kx=key→B3 bt) :
  ∃ Boot,w2.cell? ⟨b1,0+1,none⟩=some (.int .i64 Boot)∧(bif (bx != Boot) then A Boot else (bif ((0:Int) != 0) then B1 Boot else (bif (kx != key) then B2 Boot else B3 Boot))):=
 ⟨bt,hc,bE hA λh=>dM rfl (bE (h2 h) (h3 h))⟩
set_option maxHeartbeats 1000000 in
theorem Ed {M:Nat→Prop} {w:World} {r:aF} {v:Vw} (h:eX M w r v) (hn:0≤v.number∧v.number<16) {a1 a2:Option Addr} {n1 c1 n2 c2:Nat} {b k:List Int} (hb:Rd w a1 (is b)) (hbl:n1=b.length) (hk:Rd w a2 (us k)) (hkl:n2=k.length) (hbs:b.length≤1000000) (hks:k.length≤1000000) :
  Does 50 [r.val,.slice a1 n1 c1,.slice a2 n2 c2] w λx w'=>x=.tuple #[.int .i64 (jE v b k),.bool (oQ v k)]∧New w w':=by
 subst hbl hkl
 refine does Tryz.func50 ?_
 rw [tH]
 rintro b1 w1 hb1 hw1
 obtain ⟨hz,hn1⟩:=aR hb1 hw1
 have hz:Blk w1 b1 r.cells TVw:=hz
 clear hw1
 have hnum:=h.num
 have hlen:=h.len
 have hsm:=h.small
 refine ⟨_,hz.cell (i:=0) rfl,?_⟩
 rw [hnum]
 refine aG (H9 w1 hn.1 hn.2) ?_
 rintro x w2 ⟨rfl,rfl⟩
 refine ⟨_,_,rfl,?_⟩
 refine aS mix (λm env u=>∃ (i:Nat) (oo:Bool) (jj:List Value),m=k.length - i∧i≤k.length∧env=ep a1 b.length c1 a2 k.length c2 ⟨b1,0,none⟩ oo (key1 v.number) 0 a2 k.length c2 k.length i jj∧u=w2∧oo=(k.take i).any λx=>x == key1 v.number) k.length
  ⟨0,false,_,by omega,by omega,rfl,rfl,rfl⟩ ?_
 rintro m env u ⟨i,oo,jj,rfl,hi,rfl,rfl,hoo⟩
 rw [nH]
 refine aE (λhq=>?_) (λhq=>?_)
 ·have hlt:i<k.length:=by omega
  have hg:k[i]?=some k[i]:=List.getElem?_eq_getElem hlt
  have hany:((k.take (i+1)).any λx=>x == key1 v.number)=(((k.take i).any λx=>x == key1 v.number) || k[i] == key1 v.number):=by
   rw [List.take_add_one,hg,List.any_append]
   simp
  refine rd_u (hk.new hn1) hg rfl rfl λbb o hc=>⟨_,hc _ (Keep.refl _ _),?_⟩
  rw [w64 (by omega) (by omega)]
  refine iL (λht=>?_) (λhf=>cG rfl ?_)
  ·exact ⟨k.length - (i+1),by omega,i+1,_,_,rfl,by omega,rfl,rfl,by rw [hany,←hoo,ht];rfl⟩
  ·exact ⟨k.length - (i+1),by omega,i+1,_,_,rfl,by omega,rfl,rfl,by rw [hany,←hoo,hf];rfl⟩
 have htk:k.take i=k:=List.take_of_length_le (by omega)
 rw [htk] at hoo
 subst hoo
 rw [qe]
 refine ⟨_,_,_,hz.cell (i:=1) rfl,?_⟩
 clear hq hi htk
 refine aS mix (λm env z=>∃ (i:Nat) (jj:List Value),m=v.mem.length - i∧i≤v.mem.length∧env=aJ a1 b.length c1 a2 k.length c2 (if (v.mem.take i).all (j2 k (key1 v.number))=true then 1 else 2) (k.any λx=>x == key1 v.number) (key1 v.number) 0 r.Members r.Members_l r.Members_c r.Members_l i jj∧New u z∧(v.mem.take i).all (mu b)=true) v.mem.length
  ⟨0,_,by omega,by omega,rfl,Keep.refl _ _,rfl⟩ ?_
 rintro m env z ⟨i,jj,rfl,hi,rfl,hnz,hok⟩
 have hnz0:=hn1.new hnz
 rw [nI]
 refine aE (λhq=>?_) (λhq=>?_)
 ·have hlt:i<v.mem.length:=by omega
  have hg:v.mem[i]?=some v.mem[i]:=List.getElem?_eq_getElem hlt
  refine fY (cells:=aC.cells) aC.len (by omega) (h.rd.new hnz0) hg rfl hlen λbb o hc _=>aC.mk_ex v.mem[i] ⟨hc,?_⟩
  refine kE (vs:=v.mem[i].cells) rfl (aC.single _) λb2 z2 hb2 hz2 hn2=>?_
  have hn02:=hnz0.new hn2
  have hopen:(v.mem.take (i+1)).all (j2 k (key1 v.number))=((v.mem.take i).all (j2 k (key1 v.number)) && j2 k (key1 v.number) v.mem[i]):=by
   rw [List.take_add_one,hg,List.all_append];simp
  have hhere:(v.mem.take (i+1)).all (mu b)=mu b v.mem[i]:=by
   rw [List.take_add_one,hg,List.all_append,hok];simp
  have stop:∀ bx,bx=atN b v.mem[i].Node→bx≠v.mem[i].Boot→(Value.tuple #[.int .i64 3,.bool (k.any λx=>x == key1 v.number)]=.tuple #[.int .i64 (jE v b k),.bool (oQ v k)]∧New w z2):=by
   rintro bx rfl hne
   refine ⟨?_,hn02⟩
   have:¬ v.mem.all (mu b)=true:=λe=>by
    have:=List.all_eq_true.1 e _ (List.getElem_mem hlt)
    exact hne (of_decide_eq_true this)
   unfold jE
   rw [if_neg this]
   rfl
  have go:∀ (bx kx s:Int) (jj:List Value),bx=atN b v.mem[i].Node→kx=atN k v.mem[i].Node→bx=v.mem[i].Boot→s=(if kx=key1 v.number then (if (v.mem.take i).all (j2 k (key1 v.number))=true then 1 else 2) else 2)→
    ∃ m',m'<v.mem.length - i∧∃ (i':Nat) (jj':List Value),m'=v.mem.length - i'∧i'≤v.mem.length∧aJ a1 b.length c1 a2 k.length c2 s (k.any λx=>x == key1 v.number) (key1 v.number) 0 r.Members r.Members_l r.Members_c r.Members_l (IntKind.i64.wrap ((i:Int)+1)) jj=aJ a1 b.length c1 a2 k.length c2 (if (v.mem.take i').all (j2 k (key1 v.number))=true then 1 else 2) (k.any λx=>x == key1 v.number) (key1 v.number) 0 r.Members r.Members_l r.Members_c r.Members_l i' jj'∧New u z2∧(v.mem.take i').all (mu b)=true:=by
   rintro bx kx s jj rfl rfl hbt hs
   rw [w64 (by omega) (by omega)]
   refine ⟨v.mem.length - (i+1),by omega,i+1,jj,rfl,by omega,?_,hnz.new hn2,?_⟩
   ·have:s=(if (v.mem.take (i+1)).all (j2 k (key1 v.number))=true then 1 else 2):=by
     rw [hs,hopen]
     by_cases hkey:atN k v.mem[i].Node=key1 v.number
     ·have:j2 k (key1 v.number) v.mem[i]=true:=decide_eq_true hkey
      rw [if_pos hkey,this,Bool.and_true]
     ·have:j2 k (key1 v.number) v.mem[i]=false:=decide_eq_false hkey
      rw [if_neg hkey,this,Bool.and_false]
      rfl
    rw [this]
    rfl
   ·rw [hhere]
    exact decide_eq_true hbt
  have hcN:=hz2.cell (i:=0) (v:=.int .i64 v.mem[i].Node) rfl
  refine ⟨_,hcN,aE (λhN0=>⟨_,hcN,aE (λhN1=>⟨_,hcN,?_⟩) (λhN1=>?_)⟩) (λhN0=>?_)⟩
  ·obtain ⟨x,hx,hax⟩:=tJ (l:=b) hN0 hN1
   refine rd_i (hb.new hn02) hx (by have:0≤v.mem[i].Node:=hN0;omega) rfl λbb1 o1 hcx=>⟨_,hcx _ (Keep.refl _ _),?_⟩
   have hbx:=hax.symm
   have hc0:=hz2.cell (i:=0) (v:=.int .i64 v.mem[i].Node) rfl
   refine ⟨_,hc0,aE (λhK0=>⟨_,hc0,aE (λhK1=>⟨_,hc0,?_⟩) (λhK1=>?_)⟩) (λhK0=>?_)⟩
   ·obtain ⟨y,hy,hay⟩:=tJ (l:=k) hK0 hK1
    refine rd_u (hk.new hn02) hy (by have:0≤v.mem[i].Node:=hK0;omega) rfl λbb2 o2 hcy=>⟨_,hcy _ (Keep.refl _ _),?_⟩
    exact tK (hz2.cell (i:=1) rfl) (λhne=>stop _ hbx hne) (λh1 h2=>go _ _ 2 _ hbx hay.symm h1 (by rw [if_neg h2])) (λh1 h2=>go _ _ _ _ hbx hay.symm h1 (by rw [if_pos h2]))
   ·have hky:=(iE (l:=k) (n:=v.mem[i].Node) (λe=>hK1 e.2)).symm
    exact tK (hz2.cell (i:=1) rfl) (λhne=>stop _ hbx hne) (λh1 h2=>go _ _ 2 _ hbx hky h1 (by rw [if_neg h2])) (λh1 h2=>go _ _ _ _ hbx hky h1 (by rw [if_pos h2]))
   ·have hky:=(iE (l:=k) (n:=v.mem[i].Node) (λe=>hK0 e.1)).symm
    exact tK (hz2.cell (i:=1) rfl) (λhne=>stop _ hbx hne) (λh1 h2=>go _ _ 2 _ hbx hky h1 (by rw [if_neg h2])) (λh1 h2=>go _ _ _ _ hbx hky h1 (by rw [if_pos h2]))
  ·have hbx:=(iE (l:=b) (n:=v.mem[i].Node) (λe=>hN1 e.2)).symm
   have hc0:=hz2.cell (i:=0) (v:=.int .i64 v.mem[i].Node) rfl
   refine ⟨_,hc0,aE (λhK0=>⟨_,hc0,aE (λhK1=>⟨_,hc0,?_⟩) (λhK1=>?_)⟩) (λhK0=>?_)⟩
   ·obtain ⟨y,hy,hay⟩:=tJ (l:=k) hK0 hK1
    refine rd_u (hk.new hn02) hy (by have:0≤v.mem[i].Node:=hK0;omega) rfl λbb2 o2 hcy=>⟨_,hcy _ (Keep.refl _ _),?_⟩
    exact tK (hz2.cell (i:=1) rfl) (λhne=>stop _ hbx hne) (λh1 h2=>go _ _ 2 _ hbx hay.symm h1 (by rw [if_neg h2])) (λh1 h2=>go _ _ _ _ hbx hay.symm h1 (by rw [if_pos h2]))
   ·have hky:=(iE (l:=k) (n:=v.mem[i].Node) (λe=>hK1 e.2)).symm
    exact tK (hz2.cell (i:=1) rfl) (λhne=>stop _ hbx hne) (λh1 h2=>go _ _ 2 _ hbx hky h1 (by rw [if_neg h2])) (λh1 h2=>go _ _ _ _ hbx hky h1 (by rw [if_pos h2]))
   ·have hky:=(iE (l:=k) (n:=v.mem[i].Node) (λe=>hK0 e.1)).symm
    exact tK (hz2.cell (i:=1) rfl) (λhne=>stop _ hbx hne) (λh1 h2=>go _ _ 2 _ hbx hky h1 (by rw [if_neg h2])) (λh1 h2=>go _ _ _ _ hbx hky h1 (by rw [if_pos h2]))
  ·have hbx:=(iE (l:=b) (n:=v.mem[i].Node) (λe=>hN0 e.1)).symm
   have hc0:=hz2.cell (i:=0) (v:=.int .i64 v.mem[i].Node) rfl
   refine ⟨_,hc0,aE (λhK0=>⟨_,hc0,aE (λhK1=>⟨_,hc0,?_⟩) (λhK1=>?_)⟩) (λhK0=>?_)⟩
   ·obtain ⟨y,hy,hay⟩:=tJ (l:=k) hK0 hK1
    refine rd_u (hk.new hn02) hy (by have:0≤v.mem[i].Node:=hK0;omega) rfl λbb2 o2 hcy=>⟨_,hcy _ (Keep.refl _ _),?_⟩
    exact tK (hz2.cell (i:=1) rfl) (λhne=>stop _ hbx hne) (λh1 h2=>go _ _ 2 _ hbx hay.symm h1 (by rw [if_neg h2])) (λh1 h2=>go _ _ _ _ hbx hay.symm h1 (by rw [if_pos h2]))
   ·have hky:=(iE (l:=k) (n:=v.mem[i].Node) (λe=>hK1 e.2)).symm
    exact tK (hz2.cell (i:=1) rfl) (λhne=>stop _ hbx hne) (λh1 h2=>go _ _ 2 _ hbx hky h1 (by rw [if_neg h2])) (λh1 h2=>go _ _ _ _ hbx hky h1 (by rw [if_pos h2]))
   ·have hky:=(iE (l:=k) (n:=v.mem[i].Node) (λe=>hK0 e.1)).symm
    exact tK (hz2.cell (i:=1) rfl) (λhne=>stop _ hbx hne) (λh1 h2=>go _ _ 2 _ hbx hky h1 (by rw [if_neg h2])) (λh1 h2=>go _ _ _ _ hbx hky h1 (by rw [if_pos h2]))
 ·rw [qf]
  have htk:v.mem.take i=v.mem:=List.take_of_length_le (by omega)
  rw [htk] at hok
  refine ⟨?_,hnz0⟩
  rw [htk]
  unfold jE
  rw [if_pos hok]
  rfl
theorem vN (x y:Int):(x == y)=decide (x=y):=by rw [Bool.eq_iff_iff];simp
set_option maxHeartbeats 1000000 in
theorem CI {M:Nat→Prop} {w:World} {r:aF} {v:Vw} (h:eX M w r v) (hn:0≤v.number∧v.number<16) (hbt:∀ m ∈ v.mem,1≤m.Boot) {a1 a2:Option Addr} {n1 c1 n2 c2:Nat} {b k:List Int} (hb:Rd w a1 (is b)) (hbl:n1=b.length) (hk:Rd w a2 (us k)) (hkl:n2=k.length) (hbs:b.length≤1000000) (hks:k.length≤1000000) :
  Does 56 [r.val,.slice a1 n1 c1,.slice a2 n2 c2] w λx w'=>x=.tuple #[.int .i64 (jE v b k),.bool (oQ v k)]∧New w w':=by
 subst hbl hkl
 refine does Tryz.func56 ?_
 rw [sr]
 rintro b1 w1 hb1 hw1
 obtain ⟨hz,hn1⟩:=aR hb1 hw1
 have hz:Blk w1 b1 r.cells TVw:=hz
 clear hw1
 have hnum:=h.num
 have hlen:=h.len
 have hsm:=h.small
 refine ⟨_,hz.cell (i:=0) rfl,?_⟩
 rw [hnum]
 refine aG (G1 w1 hn.1 hn.2) ?_
 rintro x w2 ⟨rfl,rfl⟩
 refine ⟨_,_,rfl,?_⟩
 refine aS mix (λm env u=>∃ (i:Nat) (oo:Bool) (jj:List Value),m=k.length - i∧i≤k.length∧env=et a1 b.length c1 a2 k.length c2 ⟨b1,0,none⟩ (key1 v.number) oo true true i jj∧u=w2∧oo=(k.take i).any λx=>x == key1 v.number) k.length
  ⟨0,false,_,by omega,by omega,rfl,rfl,rfl⟩ ?_
 rintro m env u ⟨i,oo,jj,rfl,hi,rfl,rfl,hoo⟩
 rw [mr]
 refine aE (λhq=>?_) (λhq=>?_)
 ·have hlt:i<k.length:=by omega
  have hg:k[i]?=some k[i]:=List.getElem?_eq_getElem hlt
  have hany:((k.take (i+1)).any λx=>x == key1 v.number)=(((k.take i).any λx=>x == key1 v.number) || k[i] == key1 v.number):=by
   rw [List.take_add_one,hg,List.any_append]
   simp
  rw [w64 (by omega) (by omega)]
  refine iL (λht=>?_) (λhf=>rd_u (hk.new hn1) hg rfl rfl λbb o hc=>⟨_,hc _ (Keep.refl _ _),?_⟩)
  ·exact ⟨k.length - (i+1),by omega,i+1,_,_,rfl,by omega,rfl,rfl,by rw [hany,←hoo,ht];rfl⟩
  ·exact ⟨k.length - (i+1),by omega,i+1,_,_,rfl,by omega,rfl,rfl,by rw [hany,←hoo,hf];rfl⟩
 have htk:k.take i=k:=List.take_of_length_le (by omega)
 rw [htk] at hoo
 subst hoo
 rw [oO]
 clear hq hi htk
 have hkey0:¬ (0=key1 v.number):=by unfold key1;omega
 refine aS mix (λm env z=>∃ (i:Nat) (jj:List Value),m=v.mem.length - i∧i≤v.mem.length∧env=aV a1 b.length c1 a2 k.length c2 ⟨b1,0,none⟩ (key1 v.number) (k.any λx=>x == key1 v.number) ((v.mem.take i).all (j2 k (key1 v.number))) ((v.mem.take i).all (mu b)) i jj∧New u z) v.mem.length
  ⟨0,_,by omega,by omega,rfl,Keep.refl _ _⟩ ?_
 rintro m env z ⟨i,jj,rfl,hi,rfl,hnz⟩
 have hnz0:=hn1.new hnz
 rw [mt]
 refine ⟨_,_,_,(New.blk hnz hz).cell (i:=1) rfl,aE (λhq=>?_) (λhq=>?_)⟩
 ·have hlt:i<v.mem.length:=by omega
  have hg:v.mem[i]?=some v.mem[i]:=List.getElem?_eq_getElem hlt
  refine ⟨_,_,_,(New.blk hnz hz).cell (i:=1) rfl,?_⟩
  refine fY (cells:=aC.cells) aC.len (by omega) (h.rd.new hnz0) hg rfl hlen λbb o hc _=>aC.mk_ex v.mem[i] ⟨hc,?_⟩
  refine kE (vs:=v.mem[i].cells) rfl (aC.single _) λb2 z2 hb2 hz2 hn2=>?_
  rintro z3 hz3'
  have hn3:New z2 z3:=by rw [hz3'];exact aW _
  clear hz3'
  have hz3:=New.blk hn3 hz2
  have hn03:=(hnz0.new hn2).new hn3
  have hbm:=hbt _ (List.getElem_mem hlt)
  refine ⟨λy=>New z3 y,Keep.refl _ _,?_⟩
  have hopen:(v.mem.take (i+1)).all (j2 k (key1 v.number))=((v.mem.take i).all (j2 k (key1 v.number)) && j2 k (key1 v.number) v.mem[i]):=by
   rw [List.take_add_one,hg,List.all_append];simp
  have hhere:(v.mem.take (i+1)).all (mu b)=((v.mem.take i).all (mu b) && mu b v.mem[i]):=by
   rw [List.take_add_one,hg,List.all_append];simp
  have go:∀ (ov hv:Bool) (jj:List Value),ov=((v.mem.take i).all (j2 k (key1 v.number)) && j2 k (key1 v.number) v.mem[i])→hv=((v.mem.take i).all (mu b) && mu b v.mem[i])→
    ∃ m',m'<v.mem.length - i∧∃ (i':Nat) (jj':List Value),m'=v.mem.length - i'∧i'≤v.mem.length∧aV a1 b.length c1 a2 k.length c2 ⟨b1,0,none⟩ (key1 v.number) (k.any λx=>x == key1 v.number) ov hv (IntKind.i64.wrap ((i:Int)+1)) jj=aV a1 b.length c1 a2 k.length c2 ⟨b1,0,none⟩ (key1 v.number) (k.any λx=>x == key1 v.number) ((v.mem.take i').all (j2 k (key1 v.number))) ((v.mem.take i').all (mu b)) i' jj'∧New u z3:=by
   rintro ov hv jj ho hh
   rw [w64 (by omega) (by omega)]
   refine ⟨v.mem.length - (i+1),by omega,i+1,jj,rfl,by omega,?_,(hnz.new hn2).new hn3⟩
   rw [hopen,hhere,ho,hh]
   rfl
  have hcS:∀ y,New z3 y→y.cell? ⟨b2,0,none⟩=some (.int .i64 v.mem[i].Node):=λy hy=>(New.blk hy hz3).cell (i:=0) rfl
  refine iL (λhs12=>?_) (λhs12=>?_)
  ·refine ⟨_,hcS,aE (λhN0=>⟨_,hcS,aE (λhN1=>⟨_,hcS,?_⟩) (λhN1=>?_)⟩) (λhN0=>?_)⟩
   ·obtain ⟨x,hx,hax⟩:=tJ (l:=b) hN0 hN1
    refine rd_i (hb.new hn03) hx (by have:0≤v.mem[i].Node:=hN0;omega) rfl λbb1 o1 hcx=>⟨_,λy hy=>hcx y hy,_,λy hy=>(New.blk hy hz3).cell (i:=1) rfl,?_⟩
    have hhv:(x == v.mem[i].Boot)=((v.mem.take i).all (mu b) && mu b v.mem[i]):=by rw [hs12,Bool.true_and];unfold mu;rw [hax];exact vN _ _
    refine iL (λhs11=>?_) (λhs11=>go false _ _ (by rw [hs11];rfl) hhv)
    ·have hcK:=hz3.cell (i:=0) (v:=.int .i64 v.mem[i].Node) rfl
     refine ⟨_,hcK,aE (λhK0=>⟨_,hcK,aE (λhK1=>⟨_,hcK,?_⟩) (λhK1=>?_)⟩) (λhK0=>?_)⟩
     ·obtain ⟨y,hy,hay⟩:=tJ (l:=k) hK0 hK1
      refine rd_u (hk.new hn03) hy (by have:0≤v.mem[i].Node:=hK0;omega) rfl λbb2 o2 hcy=>⟨_,hcy _ (Keep.refl _ _),?_⟩
      exact go _ _ _ (by rw [hs11];unfold j2;rw [hay,Bool.true_and];exact vN _ _) hhv
     ·exact go false _ _ (by rw [hs11];unfold j2;rw [iE (λe=>hK1 e.2),decide_eq_false hkey0];rfl) hhv
     ·exact go false _ _ (by rw [hs11];unfold j2;rw [iE (λe=>hK0 e.1),decide_eq_false hkey0];rfl) hhv
   ·have hhv:false=((v.mem.take i).all (mu b) && mu b v.mem[i]):=by rw [hs12,Bool.true_and];unfold mu;rw [iE (λe=>hN1 e.2)];exact (decide_eq_false (by omega)).symm
    refine iL (λhs11=>?_) (λhs11=>go false false _ (by rw [hs11];rfl) hhv)
    ·have hcK:=hz3.cell (i:=0) (v:=.int .i64 v.mem[i].Node) rfl
     refine ⟨_,hcK,aE (λhK0=>⟨_,hcK,aE (λhK1=>⟨_,hcK,?_⟩) (λhK1=>?_)⟩) (λhK0=>?_)⟩
     ·obtain ⟨y,hy,hay⟩:=tJ (l:=k) hK0 hK1
      refine rd_u (hk.new hn03) hy (by have:0≤v.mem[i].Node:=hK0;omega) rfl λbb2 o2 hcy=>⟨_,hcy _ (Keep.refl _ _),?_⟩
      exact go _ false _ (by rw [hs11];unfold j2;rw [hay,Bool.true_and];exact vN _ _) hhv
     ·exact go false false _ (by rw [hs11];unfold j2;rw [iE (λe=>hK1 e.2),decide_eq_false hkey0];rfl) hhv
     ·exact go false false _ (by rw [hs11];unfold j2;rw [iE (λe=>hK0 e.1),decide_eq_false hkey0];rfl) hhv
   ·have hhv:false=((v.mem.take i).all (mu b) && mu b v.mem[i]):=by rw [hs12,Bool.true_and];unfold mu;rw [iE (λe=>hN0 e.1)];exact (decide_eq_false (by omega)).symm
    refine iL (λhs11=>?_) (λhs11=>go false false _ (by rw [hs11];rfl) hhv)
    ·have hcK:=hz3.cell (i:=0) (v:=.int .i64 v.mem[i].Node) rfl
     refine ⟨_,hcK,aE (λhK0=>⟨_,hcK,aE (λhK1=>⟨_,hcK,?_⟩) (λhK1=>?_)⟩) (λhK0=>?_)⟩
     ·obtain ⟨y,hy,hay⟩:=tJ (l:=k) hK0 hK1
      refine rd_u (hk.new hn03) hy (by have:0≤v.mem[i].Node:=hK0;omega) rfl λbb2 o2 hcy=>⟨_,hcy _ (Keep.refl _ _),?_⟩
      exact go _ false _ (by rw [hs11];unfold j2;rw [hay,Bool.true_and];exact vN _ _) hhv
     ·exact go false false _ (by rw [hs11];unfold j2;rw [iE (λe=>hK1 e.2),decide_eq_false hkey0];rfl) hhv
     ·exact go false false _ (by rw [hs11];unfold j2;rw [iE (λe=>hK0 e.1),decide_eq_false hkey0];rfl) hhv
  ·have hhv:false=((v.mem.take i).all (mu b) && mu b v.mem[i]):=by rw [hs12];rfl
   refine iL (λhs11=>?_) (λhs11=>go false false _ (by rw [hs11];rfl) hhv)
   ·have hcK:=hz3.cell (i:=0) (v:=.int .i64 v.mem[i].Node) rfl
    refine ⟨_,hcK,aE (λhK0=>⟨_,hcK,aE (λhK1=>⟨_,hcK,?_⟩) (λhK1=>?_)⟩) (λhK0=>?_)⟩
    ·obtain ⟨y,hy,hay⟩:=tJ (l:=k) hK0 hK1
     refine rd_u (hk.new hn03) hy (by have:0≤v.mem[i].Node:=hK0;omega) rfl λbb2 o2 hcy=>⟨_,hcy _ (Keep.refl _ _),?_⟩
     exact go _ false _ (by rw [hs11];unfold j2;rw [hay,Bool.true_and];exact vN _ _) hhv
    ·exact go false false _ (by rw [hs11];unfold j2;rw [iE (λe=>hK1 e.2),decide_eq_false hkey0];rfl) hhv
    ·exact go false false _ (by rw [hs11];unfold j2;rw [iE (λe=>hK0 e.1),decide_eq_false hkey0];rfl) hhv
 ·rw [oP]
  have htk:v.mem.take i=v.mem:=List.take_of_length_le (by omega)
  rw [htk]
  unfold jE
  refine iL (λh1=>iL (λh2=>⟨?_,hnz0⟩) (λh2=>cG h1 ⟨?_,hnz0⟩)) (λh1=>dM h1 ⟨?_,hnz0⟩)
  ·rw [if_pos h1,if_pos h2];rfl
  ·rw [if_pos h1,if_neg (by rw [h2];simp)];rfl
  ·rw [if_neg (by rw [h1];simp)];rfl
end Go.Proofs.YtafopfaomkklpaaGreat
