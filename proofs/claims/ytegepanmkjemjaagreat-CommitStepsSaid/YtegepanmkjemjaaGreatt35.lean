import Derived.Test.YtegepanmkjemjaaGreatt34
import Derived.Test.YtegepanmkjemjaaGreatProg
import Derived.Test.YtegepanmkjemjaaGreatt03
import Derived.Test.YtegepanmkjemjaaGreatt21
set_option linter.unusedVariables false
namespace Go.Proofs.YtegepanmkjemjaaGreat
open Go.Proofs.Tryz
open Go.Eng
def pgAt (B:List Int) (i:Nat):aD:=⟨IntKind.i64.wrap (B.getD (2+9 * i) 0),B.getD (3+9 * i) 0,B.getD (4+9 * i) 0,B.getD (5+9 * i) 0,B.getD (6+9 * i) 0,B.getD (7+9 * i) 0,B.getD (8+9 * i) 0,B.getD (9+9 * i) 0,B.getD (10+9 * i) 0⟩
def pgsM (B:List Int):List aD:=(List.range (B.getD 1 0).toNat).map (pgAt B)
def jK (B:List Int):Prop:=B.length<3∨1073741824≤B.getD 0 0∨B.getD 1 0<1∨12<B.getD 1 0∨(B.length:Int)<3+9 * B.getD 1 0
instance (B:List Int):Decidable (jK B):=by unfold jK;infer_instance
def sS (B:List Int) (lines:Int):Prop:=valM (IntKind.i64.wrap (B.getD 0 0)) lines (pgsM B)=0∧vv (IntKind.i64.wrap (B.getD 0 0)) (pgsM B)=B.take (3+9 * (B.getD 1 0).toNat)
instance (B:List Int) (lines:Int):Decidable (sS B lines):=by unfold sS;infer_instance
def ie (B:List Int) (lines:Int):Int×Int×List aD:=
 if lines<98∨256<lines then (18,0,[])
 else if jK B then (14,0,[])
 else if ¬ ∀ i,i<(B.getD 1 0).toNat→B.getD (2+9 * i) 0<256 then (14,0,[])
 else if sS B lines then (0,IntKind.i64.wrap (B.getD 0 0),pgsM B) else (14,0,[])
def pgC (p:aD) (k:Nat):List Value:=[.int .i64 p.Line,.int .u64 p.Head]++us ((pgD p).take k++List.replicate (7 - k) 0)
theorem Gq {p:aD} {k:Nat} {d:Int} (hk:k<7) (hd:(pgD p)[k]?=some d):(pgC p k).set (2+k) (.int .u64 d)=pgC p (k+1):=by
 have:k=0∨k=1∨k=2∨k=3∨k=4∨k=5∨k=6:=by omega
 rcases this with rfl | rfl | rfl | rfl | rfl | rfl | rfl<;>(simp [pgD] at hd;subst hd;rfl)
theorem IR (p:aD):pgC p 7=p.cells:=rfl
theorem Hy {B:List Int} {i k:Nat} (hk:k<7):(pgD (pgAt B i))[k]?=some (B.getD (4+9 * i+k) 0):=by
 have:k=0∨k=1∨k=2∨k=3∨k=4∨k=5∨k=6:=by omega
 rcases this with rfl | rfl | rfl | rfl | rfl | rfl | rfl<;>simp only [pgD,pgAt,List.getElem?_cons_zero,List.getElem?_cons_succ]<;>congr 2<;>omega
structure uk (lo:Nat) (w:World) (r:aE) (x:Int×List aD):Prop where
 seq:r.Seq=x.1
 rd:Rd w r.Writes (dF x.2).flatten
 len:r.Writes_l=x.2.length
 low:∀ k,isB r.Writes k→lo≤k
set_option maxHeartbeats 1000000 in
theorem EC {w:World} {a:Option Addr} {c:Nat} {B:List Int} (hr:Rd w a (us B)) (hc:B.length≤c) (hf:B.length≤1000) (lines:Int) :
  Does 84 [.slice a B.length c,.int .i64 lines] w λv w'=>(∃ r:aE,v=.tuple #[r.val,.int .i64 (ie B lines).1]∧uk w.heap.size w' r (ie B lines).2)∧New w w':=by
 refine does Tryz.func84 ?_
 rw [rE]
 rintro b1 w1 hb1 hw1
 obtain ⟨hz1,hn1⟩:=aO hb1 hw1
 have hz1:Blk w1 b1 (aE.cells ⟨0,none,0,0⟩) 141:=hz1
 clear hw1
 generalize hR:(λ(v:Value) (w':World)=>(∃ r:aE,v=.tuple #[r.val,.int .i64 (ie B lines).1]∧uk w.heap.size w' r (ie B lines).2)∧New w w')=R
 have hRm:∀ (r:aE) (x:Int) (u:World),x=(ie B lines).1→uk w.heap.size u r (ie B lines).2→New w u→R (.tuple #[r.val,.int .i64 x]) u:=λr x u h1 h2 h3=>by rw [←hR];exact ⟨⟨r,by rw [h1],h2⟩,h3⟩
 have herr:∀ (u:World) (x:Int),New w1 u→ie B lines=(x,0,[])→wrAt u ⟨b1,0,none⟩ 0 [.int .i64 0,.slice none 0 0]∧∀ u1,u1=puts u ⟨b1,0,none⟩ 0 [.int .i64 0,.slice none 0 0]→aE.ex λf=>aF u1 ⟨b1,0,none⟩ 0 f.cells∧u1=u1∧R (.tuple #[f.val,.int .i64 x]) u1:=by
  intro u x hu hx
  refine g8 (vs:=aE.cells ⟨0,none,0,0⟩) (New.blk hu hz1) rfl (aE.single _) λu1 hz hk=>?_
  refine aE.mk_ex ⟨0,none,0,0⟩ ⟨aK hz rfl,rfl,?_⟩
  have hs:=hn1.size
  exact hRm _ _ _ (by rw [hx]) (by rw [hx];exact ⟨rfl,.inl rfl,rfl,λk hk=>(lu hk).elim⟩) ((hn1.new hu).trans hk λk hlt e=>by omega)
 have hx0:∀ i,i<B.length→∃ x,B[i]?=some x∧B.getD i 0=x:=λi hi=>⟨B[i],List.getElem?_eq_getElem hi,by rw [List.getD_eq_getElem?_getD,List.getElem?_eq_getElem hi];rfl⟩
 have h1:∀ (b:Bool) (jj:List Value),b=decide (lines<98∨256<lines)→Go.Eng.W prog (sub (aB f84) [1,0,1]) (fE a B.length c lines ⟨b1,0,none⟩ b jj) (seqQ (λenv w=>Go.Eng.W prog (sub (aB f84) [1,1]) env (retQ prog f84 R) w) (retQ prog f84 R)) w1:=by
  intro b jj hb
  refine gx (P:=prog) (fn:=f84) (R:=R) (λ_ _=>rfl) ?_
  rw [om]
  refine jP (λh=>herr _ _ (Keep.refl _ _) ?_) (λh=>bI ?_)
  ·rw [hb,decide_eq_true_eq] at h
   unfold ie
   rw [if_pos h]
  have h18:¬ (lines<98∨256<lines):=by rw [hb] at h;simpa using h
  rw [mn,lF]
  refine gx (P:=prog) (fn:=f84) (R:=R) (λ_ _=>rfl) ?_
  rw [oq]
  have h7:¬ jK B→∀ jj,Go.Eng.W prog (sub (aB f84) [1,1,1]) (fH a B.length c lines ⟨b1,0,none⟩ jj) (retQ prog f84 R) w1:=by
   intro hsh jj
   have hsh':=hsh
   unfold jK at hsh'
   have hl3:3≤B.length:=by omega
   obtain ⟨b0,o0,rfl⟩:∃ b o,a=some ⟨b,o,none⟩:=by
    rcases hr with he | ⟨b,o,e,_⟩
    ·have:=congrArg List.length he
     rw [kj] at this
     have:B.length=0:=this
     omega
    ·exact ⟨b,o,e⟩
   obtain ⟨x0,hB0,hg0⟩:=hx0 0 (by omega)
   obtain ⟨x1,hB1,hg1⟩:=hx0 1 (by omega)
   obtain ⟨n,hn,hn12⟩:∃ n:Nat,x1=n∧1≤n∧n≤12:=⟨x1.toNat,by omega,by omega,by omega⟩
   have hn3:3+9 * n≤B.length:=by rw [hg1,hn] at hsh';omega
   have hnM:(B.getD 1 0).toNat=n:=by rw [hg1,hn];omega
   have hlM:(pgsM B).length=n:=by rw [pgsM,List.length_map,List.length_range,hnM]
   have hgM:∀ i,i<n→(pgsM B)[i]?=some (pgAt B i):=λi hi=>by
    rw [pgsM,List.getElem?_map,List.getElem?_range (by omega)]
    rfl
   refine gx (P:=prog) (fn:=f84) (R:=R) (λ_ _=>rfl) ?_
   rw [ou]
   refine rd_u (hr.new hn1) hB0 rfl rfl λb o hcl=>⟨_,hcl _ (Keep.refl _ _),?_⟩
   refine ii (vs:=aE.cells ⟨IntKind.i64.wrap x0,none,0,0⟩) rfl (aE.single _) λb2 w3 hb2 hz3 hn3'=>?_
   have hb2lt:=hz3.lt
   have hs1:=hn1.size
   have hs3:=hn3'.size
   have hb12:b1≠b2:=λe=>by have:=hz1.lt;omega
   refine aR mix (λm env u=>∃ (i:Nat) (ap:Option Addr) (cp:Nat) (jj:List Value),m=n - i∧i≤n∧env=fI (some ⟨b0,o0,none⟩) B.length c lines ⟨b1,0,none⟩ ⟨b2,0,none⟩ i jj∧New w1 u∧Blk u b2 (aE.cells ⟨IntKind.i64.wrap x0,ap,i,cp⟩) 141∧Owns u TPg 9 ap i cp (dF ((pgsM B).take i)).flatten∧(∀ k,isB ap k→w3.heap.size≤k)∧w3.heap.size≤u.heap.size∧∀ k,k<i→B.getD (2+9 * k) 0<256) n
    ⟨0,none,0,_,rfl,by omega,rfl,hn3',hz3,Owns.nil _ _ _,(λk hk=>(lu hk).elim),Nat.le_refl _,λk hk=>by omega⟩ ?_
   rintro m env u ⟨i,ap,cp,jj,rfl,hi,rfl,hnu,hzu,hown,hfr,hsu,hlow⟩
   refine gx (P:=prog) (fn:=f84) (R:=R) (λ_ _=>rfl) ?_
   rw [mo]
   have hru:=hr.new (hn1.new hnu)
   refine rd_u hru hB1 rfl rfl λb o hcl=>⟨_,hcl _ (Keep.refl _ _),?_⟩
   rw [w64 (x:=x1) (by omega) (by omega)]
   refine aI (λhlt=>?_) (λhge=>?_)
   ·have hlt:i<n:=by omega
    rw [w64 (x:=(9:Int) * i) (by omega) (by omega),w64 (x:=(2:Int)+9 * i) (by omega) (by omega)]
    refine nF (by omega) (by omega) (by omega) (by omega) (by omega) λxa hxa=>?_
    have e1:Int.toNat (B.length:Int) - Int.toNat (2+9 * (i:Int))=(B.drop (2+9 * i)).length:=by rw [List.length_drop];omega
    have hxa:xa=some ⟨b0,o0+(2+9 * i),none⟩:=by
     rcases hxa with h | ⟨h,_⟩
     ·rw [h];congr 2;omega
     ·omega
    have hrx:∀ y,New u y→Rd y xa (us (B.drop (2+9 * i))):=λy hy=>by
     have:=(hru.new hy).drop (2+9 * i)
     rw [hxa]
     have e:(us B).drop (2+9 * i)=us (B.drop (2+9 * i)):=by simp [us]
     rw [←e]
     exact this
    have hget:∀ q,2+9 * i+q<B.length→(B.drop (2+9 * i))[q]?=some (B.getD (2+9 * i+q) 0):=λq hq=>by
     obtain ⟨x,g1,g2⟩:=hx0 _ hq
     rw [List.getElem?_drop,g1,g2]
    have hw0:(B.drop (2+9 * i))[0]?=some (B.getD (2+9 * i) 0):=hget 0 (by omega)
    have hw1:(B.drop (2+9 * i))[1]?=some (B.getD (3+9 * i) 0):=by rw [hget 1 (by omega)];congr 2;omega
    rw [e1]
    refine rd_u (hrx u (Keep.refl _ _)) hw0 rfl rfl λb o hcl=>⟨_,hcl _ (Keep.refl _ _),?_⟩
    refine aI (λh256=>herr _ _ hnu ?_) (λh256=>?_)
    ·unfold ie
     rw [if_neg h18,if_neg hsh,if_pos]
     intro hh
     have:=hh i (by omega)
     omega
    have h256:B.getD (2+9 * i) 0<256:=by omega
    rintro u1 hu1
    have hn4:New u u1:=by rw [hu1];exact aW _
    clear hu1
    refine ⟨λy=>New u1 y,Keep.refl _ _,?_⟩
    refine rd_u (hrx u1 hn4) hw0 rfl rfl λb o hcl=>⟨_,λy hy=>hcl y hy,?_⟩
    refine rd_u (hrx u1 hn4) hw1 rfl rfl λb o hcl=>⟨_,λy hy=>hcl y hy,?_⟩
    rintro b3 u2 hb3 hu2
    obtain ⟨hz5,hn5⟩:=aO hb3 hu2
    clear hu2
    refine ⟨hn5,?_⟩
    refine g8 (vs:=pgC (pgAt B i) 0) hz5 rfl ?_ λu3 hz6 hk6=>?_
    ·intro v hv
     simp [pgC,us] at hv
     rcases hv with rfl | rfl | ⟨_,rfl⟩<;>rfl
    have hs4:=hn4.size
    have hs5:=hn5.size
    have hn6:New u u3:=(hn4.new hn5).trans hk6 λk hlt e=>by omega
    have hb3lt:=hz6.lt
    refine aR mix (λm env z=>∃ (k:Nat) (jj:List Value),m=7 - k∧k≤7∧env=fK (some ⟨b0,o0,none⟩) B.length c lines ⟨b1,0,none⟩ ⟨b2,0,none⟩ i xa (B.drop (2+9 * i)).length (Int.toNat (c:Int) - Int.toNat (2+9 * (i:Int))) ⟨b3,0,none⟩ k jj∧New u z∧Blk z b3 (pgC (pgAt B i) k) 55) 7 ⟨0,_,rfl,by omega,rfl,hn6,hz6⟩ ?_
    rintro m env z ⟨k,jj5,rfl,hk7,rfl,hnz,hzz⟩
    refine gx (P:=prog) (fn:=f84) (R:=R) (λ_ _=>rfl) ?_
    rw [mr]
    refine aI (λhlt7=>?_) (λhge7=>?_)
    ·have hlt7:k<7:=by omega
     rw [w64 (x:=(2:Int)+k) (by omega) (by omega),w64 (x:=(k:Int)+1) (by omega) (by omega)]
     refine rd_u (hrx z hnz) (hget (2+k) (by omega)) (by omega) rfl λb o hcl=>⟨_,hcl _ (Keep.refl _ _),?_⟩
     refine eG (by omega) (by omega) ?_
     have e2:0+2+(k:Int).toNat * 1=2+k:=by omega
     rw [e2]
     refine mb hzz (o:=2+k) (by simp [pgC,us,pgD];omega) λz2 hz2 hk2=>?_
     have hd:(pgD (pgAt B i))[k]?=some (B.getD (2+9 * i+(2+k)) 0):=by rw [Hy hlt7];congr 2;omega
     rw [Gq hlt7 hd] at hz2
     refine bI ⟨7 - (k+1),by omega,k+1,_,rfl,by omega,rfl,hnz.trans hk2 λj hlt e=>by have e:j=b3:=e;omega,hz2⟩
    ·have hk7:k=7:=by omega
     subst hk7
     refine uG (oB (bI ?_))
     refine gx (P:=prog) (fn:=f84) (R:=R) (λ_ _=>rfl) ?_
     rw [nq]
     have hz2z:=New.blk hnz hzu
     refine ⟨_,_,_,hz2z.cell (i:=1) rfl,?_⟩
     rw [IR] at hzz
     refine aD.mk_ex (pgAt B i) ⟨aK hzz rfl,?_⟩
     have hsz:=hnz.size
     refine zr (hown.new hnz) (by omega) λb7 ap7 cap7 z3 hb7 ho7 hk7 hap7=>?_
     have hnb2:¬ isB ap b2:=λh=>by have:=hfr b2 h;omega
     have hz3z:=hk7.blk hz2z hnb2
     have hfr7:∀ k,isB ap7 k→w3.heap.size≤k:=λk hk=>by
      rcases hap7 k hk with h | h
      ·exact hfr k h
      ·omega
     refine mb hz3z (o:=1) (by show 1<2;decide) λz4 hz4 hk4=>?_
     have hs7:=hk7.size
     have hs8:=hk4.size
     refine qe (bI ?_)
     refine gx (P:=prog) (fn:=f84) (R:=R) (λ_ _=>rfl) ?_
     rw [nr]
     rw [w64 (x:=(i:Int)+1) (by omega) (by omega)]
     refine Qr_n (bI ⟨n - (i+1),by omega,i+1,ap7,cap7,_,rfl,by omega,rfl,?_,hz4,?_,hfr7,by omega,λk hk=>?_⟩)
     ·exact ((hnu.new hnz).trans hk7 λk hlt hk=>by have:=hfr k hk;omega).trans hk4 λk hlt e=>by have e:k=b2:=e;omega
     ·have e:(pgsM B).take (i+1)=(pgsM B).take i++[pgAt B i]:=by rw [List.take_add_one,hgM i hlt];rfl
      rw [e]
      exact Owns.keep hk4 ho7 λj hj e=>by have:=hfr7 j hj;have e:j=b2:=e;omega
     ·by_cases e:k=i
      ·rw [e];exact h256
      ·exact hlow k (by omega)
   ·have hin:i=n:=by omega
    subst hin
    refine uG (oB (bI ?_))
    have hpar:ie B lines=if sS B lines then (0,IntKind.i64.wrap x0,pgsM B) else (14,0,[]):=by
     unfold ie
     rw [if_neg h18,if_neg hsh,if_neg (λh=>h (by rw [hnM];exact hlow)),hg0]
    have hsealM:sS B lines↔valM (IntKind.i64.wrap x0) lines (pgsM B)=0∧vv (IntKind.i64.wrap x0) (pgsM B)=B.take (3+9 * i):=by
     unfold sS
     rw [hg0,hnM]
    have htk:(pgsM B).take i=pgsM B:=List.take_of_length_le (by omega)
    rw [htk] at hown
    have h10:∀ (z:World) (jj:List Value) (Q:Exit→List Value→World→Prop),(∀ env z,Q .ret env z=retQ prog f84 R .ret env z)→New u z→sS B lines→Go.Eng.W prog (sub (aB f84) [1,1,1,1,1,1]) (eR ⟨b1,0,none⟩ ⟨b2,0,none⟩ jj) Q z:=by
     intro z jj Q hQ hz hseal
     refine gx (P:=prog) (fn:=f84) (R:=R) hQ ?_
     rw [np]
     refine aE.mk_ex ⟨IntKind.i64.wrap x0,ap,i,cp⟩ ⟨aK (New.blk hz hzu) rfl,?_⟩
     refine g8 (vs:=aE.cells ⟨IntKind.i64.wrap x0,ap,i,cp⟩) (New.blk (hnu.new hz) hz1) rfl (aE.single _) λz1 hzz hkz=>?_
     refine aE.mk_ex ⟨IntKind.i64.wrap x0,ap,i,cp⟩ ⟨aK hzz rfl,rfl,?_⟩
     rw [if_pos hseal] at hpar
     refine hRm _ _ _ (by rw [hpar]) (by rw [hpar];exact ⟨rfl,(Owns.keep hkz (hown.new hz) λj hj e=>by have:=hfr j hj;have e:j=b1:=e;omega).rd,hlM.symm,λj hj=>by have:=hfr j hj;omega⟩) ((hn1.new (hnu.new hz)).trans hkz λk hlt e=>by have e:k=b1:=e;omega)
    have h9:∀ (z:World) (b:Bool) (jj:List Value) (Q:Exit→List Value→World→Prop),(∀ env z,Q .ret env z=retQ prog f84 R .ret env z)→New u z→b=!decide (sS B lines)→(sS B lines→∀ jj,Q .normal (eR ⟨b1,0,none⟩ ⟨b2,0,none⟩ jj) z)→Go.Eng.W prog (sub (aB f84) [1,1,1,1,1,0,1]) (fJ ⟨b1,0,none⟩ ⟨b2,0,none⟩ b jj) Q z:=by
     intro z b jj Q hQ hz hb hq
     refine gx (P:=prog) (fn:=f84) (R:=R) hQ ?_
     rw [ox]
     refine jP (λh=>herr _ _ (hnu.new hz) ?_) (λh=>hq (by rw [hb] at h;simpa using h) _)
     rw [hpar,if_neg (by rw [hb] at h;simpa using h)]
    rw [mq,lG]
    refine gx (P:=prog) (fn:=f84) (R:=R) (λ_ _=>rfl) ?_
    rw [ow]
    rintro u1 hu1
    have hn4:New u u1:=by rw [hu1];exact aW _
    clear hu1
    refine ⟨λy=>New u1 y,Keep.refl _ _,?_⟩
    refine aE.mk_ex ⟨IntKind.i64.wrap x0,ap,i,cp⟩ ⟨λy hy=>aK (New.blk (hn4.new hy) hzu) rfl,?_⟩
    refine aG (Ao (r:=⟨IntKind.i64.wrap x0,ap,i,cp⟩) (W:=pgsM B) (hown.rd.new hn4) hlM.symm lines) ?_
    rintro v u2 ⟨rfl,hn5⟩
    refine ⟨_,rfl,hn5,bY (λhne=>?_) (λhv=>?_)⟩
    ·have hns:¬ sS B lines:=λh=>hne (hsealM.1 h).1
     exact bI (h9 _ _ _ _ (λ_ _=>rfl) (hn4.new hn5) (by rw [decide_eq_false hns];rfl) (λh=>absurd h hns))
    refine aE.mk_ex ⟨IntKind.i64.wrap x0,ap,i,cp⟩ ⟨λy hy=>aK (New.blk (hn4.new hy) hzu) rfl,_,_,_,λy hy=>(New.blk (hn4.new hy) hzu).cell (i:=1) rfl,?_⟩
    rw [w64 (x:=(9:Int) * i) (by omega) (by omega),w64 (x:=(3:Int)+9 * i) (by omega) (by omega)]
    refine nF (by omega) (by omega) (by omega) (by omega) (by omega) λxa hxa=>?_
    have hxa:xa=some ⟨b0,o0,none⟩:=by
     rcases hxa with h | ⟨h,_⟩
     ·rw [h];congr 2
     ·omega
    refine aG (Gp (r:=⟨IntKind.i64.wrap x0,ap,i,cp⟩) (W:=pgsM B) (hown.rd.new (hn4.new hn5)) hlM.symm) ?_
    rintro v u3 ⟨⟨a3,n3,c3,rfl,hn3e,hr3⟩,hn6⟩
    refine ⟨_,_,_,rfl,hn5.new hn6,?_⟩
    have hr4:Rd u3 xa (us (B.take (3+9 * i))):=by
     rw [hxa]
     have:=(hru.new ((hn4.new hn5).new hn6)).take (3+9 * i)
     have e:(us B).take (3+9 * i)=us (B.take (3+9 * i)):=by simp [us]
     rw [←e]
     exact this
    have hbl:(vv (IntKind.i64.wrap x0) (pgsM B)).length≤1000:=by
     unfold vv
     split
     ·rw [Bp,List.length_append,vx];simp;omega
     ·simp
    refine aG (Es hr3 hr4 hn3e (by rw [List.length_take];omega) (by rw [hn3e];exact Nat.le_trans hbl (by omega))) ?_
    rintro v u4 ⟨rfl,hn7⟩
    refine ⟨_,rfl,(hn5.new hn6).new hn7,?_⟩
    have es:sS B lines↔vv (IntKind.i64.wrap x0) (pgsM B)=B.take (3+9 * i):=by
     rw [hsealM]
     exact ⟨λh=>h.2,λh=>⟨hv,h⟩⟩
    refine bI (h9 _ _ _ _ (λ_ _=>rfl) (((hn4.new hn5).new hn6).new hn7) (by congr 1;exact decide_eq_decide.2 es.symm) (λh2 jj=>?_))
    exact bI (h10 _ _ _ (λ_ _=>rfl) (((hn4.new hn5).new hn6).new hn7) h2)
  have h6:∀ (b:Bool) (jj:List Value) (Q:Exit→List Value→World→Prop),(∀ env z,Q .ret env z=retQ prog f84 R .ret env z)→b=decide (jK B)→(¬ jK B→∀ jj,Q .normal (fH a B.length c lines ⟨b1,0,none⟩ jj) w1)→Go.Eng.W prog (sub (aB f84) [1,1,0,1]) (fG a B.length c lines ⟨b1,0,none⟩ b jj) Q w1:=by
   intro b jj Q hQ hb hq
   refine gx (P:=prog) (fn:=f84) (R:=R) hQ ?_
   rw [ot]
   refine jP (λh=>herr _ _ (Keep.refl _ _) ?_) (λh=>hq (by rw [hb] at h;simpa using h) _)
   rw [hb,decide_eq_true_eq] at h
   unfold ie
   rw [if_neg h18,if_pos h]
  have hr1:=hr.new hn1
  have hsT:jK B→true=decide (jK B):=λh=>(decide_eq_true h).symm
  refine aI (λhl3=>?_) (λhl3=>?_)
  ·have hs:jK B:=.inl (by omega)
   rw [iB]
   refine ig rfl ?_
   rw [fY]
   refine ig rfl ?_
   rw [et]
   refine ig rfl ?_
   exact bI (h6 _ _ _ (λ_ _=>rfl) (hsT hs) (λh=>absurd hs h))
  obtain ⟨x0,hB0,hg0⟩:=hx0 0 (by omega)
  obtain ⟨x1,hB1,hg1⟩:=hx0 1 (by omega)
  refine rd_u hr1 hB0 rfl rfl λb o hcl=>⟨_,hcl _ (Keep.refl _ _),?_⟩
  rw [iB]
  refine aI (λhge=>?_) (λhge=>?_)
  ·have hs:jK B:=.inr (.inl (by rw [hg0];omega))
   rw [fY]
   refine ig rfl ?_
   rw [et]
   refine ig rfl ?_
   exact bI (h6 _ _ _ (λ_ _=>rfl) (hsT hs) (λh=>absurd hs h))
  refine rd_u hr1 hB1 rfl rfl λb o hcl=>⟨_,hcl _ (Keep.refl _ _),?_⟩
  rw [fY]
  refine aI (λhlt1=>?_) (λhlt1=>?_)
  ·have hs:jK B:=.inr (.inr (.inl (by rw [hg1];omega)))
   rw [et]
   refine ig rfl ?_
   exact bI (h6 _ _ _ (λ_ _=>rfl) (hsT hs) (λh=>absurd hs h))
  refine rd_u hr1 hB1 rfl rfl λb o hcl=>⟨_,hcl _ (Keep.refl _ _),?_⟩
  rw [et]
  refine aI (λhgt=>?_) (λhgt=>?_)
  ·have hs:jK B:=.inr (.inr (.inr (.inl (by rw [hg1];omega))))
   exact bI (h6 _ _ _ (λ_ _=>rfl) (hsT hs) (λh=>absurd hs h))
  refine rd_u hr1 hB1 rfl rfl λb o hcl=>⟨_,hcl _ (Keep.refl _ _),?_⟩
  rw [w64 (x:=x1) (by omega) (by omega),w64 (x:=9 * x1) (by omega) (by omega),w64 (x:=3+9 * x1) (by omega) (by omega)]
  have e:decide (((B.length:Nat):Int)<3+9 * x1)=decide (jK B):=by
   rw [decide_eq_decide]
   unfold jK
   rw [hg0,hg1]
   omega
  refine bI (h6 _ _ _ (λ_ _=>rfl) e (λh2 jj=>?_))
  exact bI (h7 h2 _)
 refine aI (λh=>h1 _ _ ?_) (λh=>h1 _ _ ?_)
 ·rw [eq_comm,decide_eq_true_eq];exact .inl h
 ·rw [decide_eq_decide]
  exact ⟨λh2=>.inr h2,λh2=>h2.elim (λh3=>absurd h3 h) id⟩
end Go.Proofs.YtegepanmkjemjaaGreat
namespace Go.Proofs.YtegepanmkjemjaaGreat
open Go.Proofs.Tryz
open Go.Eng IntKind
variable (w:World) (R:Value→World→Prop)
theorem sT (p0:Int):fnW prog f24 [.int .i64 p0] R w=((bif (decide ((p0:Int)<1)) then (R (.tuple #[.int .u64 0,.int .i64 2]) w) else ((bif (decide ((p0:Int)≥1073741824)) then (R (.tuple #[.int .u64 0,.int .i64 2]) w) else (R (.tuple #[.int .u64 (bor .u64 (bshl .u64 (u64.wrap p0) 2) 2),.int .i64 0]) w))))):=by kernel_rfl
theorem qR (p0:Int):fnW prog f27 [.int .i64 p0] R w=(Calls prog 42 #[.int .i64 p0] w λe w1=>∃ a,e=.returned (.bool a)∧(bif (!a) then (R (.int .i64 (-1)) w1) else (R (.int .i64 (i64.wrap ((i64.wrap (6+(i64.wrap (p0 * 15)))) * 8))) w1))):=by kernel_rfl
end Go.Proofs.YtegepanmkjemjaaGreat
namespace Go.Proofs.YtegepanmkjemjaaGreat
open Go.Eng
def ln (L:List Int) (lines:Int):Bool×Int×List aD:=((ie (L.drop 8) lines).1 == 0,(ie (L.drop 8) lines).2)
theorem uk.new {lo:Nat} {w w':World} {r:aE} {x:Int×List aD} (h:uk lo w r x) (hn:New w w'):uk lo w' r x:=⟨h.seq,h.rd.new hn,h.len,h.low⟩
theorem Ap {w:World} {a:Option Addr} {c:Nat} {L:List Int} (hr:Rd w a (us L)) (hl:L.length=120) (hc:120≤c) (lines:Int) :
  Does 66 [.slice a 120 c,.int .i64 lines] w λv w'=>(∃ r:aE,v=.tuple #[r.val,.bool (ln L lines).1]∧uk w.heap.size w' r (ln L lines).2)∧New w w':=by
 refine does Tryz.func66 ?_
 rw [rD]
 rintro b1 w1 hb1 hw1
 obtain ⟨hz1,hn1⟩:=aO hb1 hw1
 have hz1:Blk w1 b1 (aE.cells ⟨0,none,0,0⟩) 141:=hz1
 clear hw1
 refine bY (λh=>absurd rfl h) (λ_=>?_)
 obtain ⟨b0,o0,rfl⟩:∃ b o,a=some ⟨b,o,none⟩:=by
  rcases hr with he | ⟨b,o,e,_⟩
  ·have:=congrArg List.length he
   rw [kj,hl] at this
   cases this
  ·exact ⟨b,o,e⟩
 refine nF (by omega) (by omega) (by omega) (by omega) hc λxa hxa=>?_
 have hxa:xa=some ⟨b0,o0+8,none⟩:=by
  rcases hxa with h | ⟨h,_⟩
  ·rw [h];congr 2
  ·omega
 have e1:Int.toNat ((120:Nat):Int) - Int.toNat 8=(L.drop 8).length:=by rw [List.length_drop,hl];rfl
 have hrx:Rd w1 xa (us (L.drop 8)):=by
  have:=(hr.new hn1).drop 8
  rw [hxa]
  have e:(us L).drop 8=us (L.drop 8):=by simp [us]
  rw [←e]
  exact this
 rw [e1]
 refine aG (EC hrx (by rw [List.length_drop,hl];omega) (by rw [List.length_drop,hl];omega) lines) ?_
 rintro v w2 ⟨⟨r,rfl,hrec⟩,hn2⟩
 refine aE.mk_ex r ⟨_,rfl,?_⟩
 refine ii (vs:=r.cells) rfl (aE.single _) λb2 w3 hb2 hz2 hn3=>?_
 refine Ha (cells:=aE.cells) (ex:=aE.ex) (r:=r) (λK r h=>aE.mk_ex r h) aE.single (New.blk (hn2.new hn3) hz1) rfl hz2 λw4 hk4=>?_
 have hs:=hn1.size
 have hs2:=hn2.size
 refine ⟨⟨r,rfl,hrec.seq,?_,hrec.len,λk hk=>by have:=hrec.low k hk;omega⟩,((hn1.new hn2).new hn3).trans hk4 λk hlt e=>by have e:k=b1:=e;omega⟩
 have h3:=hrec.rd.new hn3
 rcases h3 with h | ⟨b,o,e,h⟩
 ·exact .inl h
 ·refine Rd.keep hk4 (.inr ⟨b,o,e,h⟩) (.inr ?_)
  have:=hrec.low b ⟨o,e⟩
  have hb1':=hz1.lt
  rw [e]
  show ¬ (b=b1)
  omega
def ED (seq:Int):Int:=if seq<1∨1073741824≤seq then 0 else bor .u64 (bshl .u64 (IntKind.u64.wrap seq) 2) 2
def cD (L:List Int) (lines:Int):Bool×Int×List aD:=
 if (ln L lines).1=true∧L.getD 0 0=ED (ln L lines).2.1 then ln L lines else (false,0,[])
theorem Gr (w:World) (seq:Int):Does 24 [.int .i64 seq] w λv w'=>(∃ e,v=.tuple #[.int .u64 (ED seq),.int .i64 e])∧w'=w:=by
 refine does Tryz.func24 ?_
 rw [sT]
 unfold ED
 refine aI (λh1=>⟨⟨_,by rw [if_pos (.inl h1)]⟩,rfl⟩) (λh1=>aI (λh2=>⟨⟨_,by rw [if_pos (.inr h2)]⟩,rfl⟩) (λh2=>⟨⟨_,by rw [if_neg (λe=>e.elim h1 h2)]⟩,rfl⟩))
theorem yD {w:World} {a:Option Addr} {c:Nat} {L:List Int} (hr:Rd w a (us L)) (hl:L.length=120) (hc:120≤c) (lines:Int) :
  Does 68 [.slice a 120 c,.int .i64 lines] w λv w'=>(∃ r:aE,v=.tuple #[r.val,.bool (cD L lines).1]∧uk w.heap.size w' r (cD L lines).2)∧New w w':=by
 refine does Tryz.func68 ?_
 rw [oR]
 rintro b1 w1 hb1 hw1
 obtain ⟨hz1,hn1⟩:=aO hb1 hw1
 have hz1:Blk w1 b1 (aE.cells ⟨0,none,0,0⟩) 141:=hz1
 clear hw1
 have hs:=hn1.size
 generalize hR:(λ(v:Value) (w':World)=>(∃ r:aE,v=.tuple #[r.val,.bool (cD L lines).1]∧uk w.heap.size w' r (cD L lines).2)∧New w w')=R
 have herr:∀ (u:World),New w1 u→cD L lines=(false,0,[])→wrAt u ⟨b1,0,none⟩ 0 [.int .i64 0,.slice none 0 0]∧∀ u1,u1=puts u ⟨b1,0,none⟩ 0 [.int .i64 0,.slice none 0 0]→aE.ex λf=>aF u1 ⟨b1,0,none⟩ 0 f.cells∧u1=u1∧R (.tuple #[f.val,.bool false]) u1:=by
  intro u hu hx
  refine g8 (vs:=aE.cells ⟨0,none,0,0⟩) (New.blk hu hz1) rfl (aE.single _) λu1 hz hk=>?_
  refine aE.mk_ex ⟨0,none,0,0⟩ ⟨aK hz rfl,rfl,?_⟩
  rw [←hR,hx]
  exact ⟨⟨_,rfl,rfl,.inl rfl,rfl,λk hk=>(lu hk).elim⟩,(hn1.new hu).trans hk λk hlt e=>by have e:k=b1:=e;omega⟩
 refine aG (Ap (hr.new hn1) hl hc lines) ?_
 rintro v w2 ⟨⟨r,rfl,hrec⟩,hn2⟩
 refine aE.mk_ex r ⟨_,rfl,?_⟩
 refine ii (vs:=r.cells) rfl (aE.single _) λb2 w3 hb2 hz2 hn3=>?_
 subst hR
 refine jP (λh=>herr _ (hn2.new hn3) ?_) (λh=>?_)
 ·unfold cD
  rw [if_neg]
  intro hh
  rw [hh.1] at h
  cases h
 have hw:(ln L lines).1=true:=by simpa using h
 refine ⟨_,hz2.cell (i:=0) rfl,?_⟩
 refine aG (Gr w3 _) ?_
 rintro v w4 ⟨⟨e,rfl⟩,hw4⟩
 obtain rfl:w3=w4:=hw4.symm
 refine ⟨_,_,rfl,?_⟩
 have h0:L[0]?=some (L.getD 0 0):=by rw [List.getD_eq_getElem?_getD,List.getElem?_eq_getElem (by omega)];rfl
 refine rd_u (hr.new (hn1.new (hn2.new hn3))) h0 rfl hl.symm λb o hcl=>⟨_,hcl _ (Keep.refl _ _),?_⟩
 rw [hrec.seq]
 refine bY (λhne=>herr _ (hn2.new hn3) ?_) (λheq=>?_)
 ·unfold cD
  rw [if_neg]
  exact λhh=>hne hh.2
 have hcm:cD L lines=ln L lines:=by unfold cD;rw [if_pos ⟨hw,heq⟩]
 refine Ha (cells:=aE.cells) (ex:=aE.ex) (r:=r) (λK r h=>aE.mk_ex r h) aE.single (New.blk (hn2.new hn3) hz1) rfl hz2 λw5 hk5=>?_
 rw [hcm,hw]
 have hs2:=hn2.size
 refine ⟨⟨r,rfl,hrec.seq,?_,hrec.len,λk hk=>by have:=hrec.low k hk;omega⟩,((hn1.new hn2).new hn3).trans hk5 λk hlt e=>by have e:k=b1:=e;omega⟩
 have h3:=hrec.rd.new hn3
 rcases h3 with h | ⟨b,o,e,h⟩
 ·exact .inl h
 ·refine Rd.keep hk5 (.inr ⟨b,o,e,h⟩) (.inr ?_)
  have:=hrec.low b ⟨o,e⟩
  have hb1':=hz1.lt
  rw [e]
  show ¬ (b=b1)
  omega
theorem Aq {w:World} {lo lo':Nat} {r r':aE} {x x':Int×List aD} (h:uk lo w r x) (h':uk lo' w r' x') (hf:x.2.length≤1000000) :
  Does 67 [r.val,r'.val] w λv w'=>(∃ b,v=.bool b∧(b=true↔x=x'))∧New w w':=by
 refine does Tryz.func67 ?_
 rw [ol]
 rintro b1 w1 hb1 hw1
 obtain ⟨hz1,hn1⟩:=aO hb1 hw1
 have hz1:Blk w1 b1 r.cells 141:=hz1
 clear hw1
 rintro b2 w2 hb2 hw2
 obtain ⟨hz2,hn2⟩:=aO hb2 hw2
 have hz2:Blk w2 b2 r'.cells 141:=hz2
 clear hw2
 have hz1':=New.blk hn2 hz1
 refine ⟨_,hz1'.cell (i:=0) rfl,_,hz2.cell (i:=0) rfl,bG (λhe=>?_) (λhe=>?_)⟩
 ·refine ⟨_,_,_,hz1'.cell (i:=1) rfl,_,_,_,hz2.cell (i:=1) rfl,?_⟩
  refine aG (Eu (h.rd.new (hn1.new hn2)) (h'.rd.new (hn1.new hn2)) h.len h'.len (by rw [h.len];exact hf)) ?_
  rintro v w3 ⟨⟨b,rfl,hb⟩,hn3⟩
  refine ⟨_,rfl,⟨b,rfl,?_⟩,(hn1.new hn2).new hn3⟩
  rw [hb]
  have e1:x.1=x'.1:=by rw [←h.seq,←h'.seq];exact he
  exact ⟨λe2=>Prod.ext e1 e2,λe2=>by rw [e2]⟩
 ·refine ⟨⟨false,rfl,λe=>(by cases e),λe=>?_⟩,hn1.new hn2⟩
  exact absurd (by rw [h.seq,h'.seq,e]) he
end Go.Proofs.YtegepanmkjemjaaGreat
namespace Go.Proofs.YtegepanmkjemjaaGreat
open Go.Eng
theorem CW (w:World) {c:Nat} (hc:c<6):Does 27 [.int .i64 c] w λv w'=>v=.int .i64 ((48+120 * c:Nat):Int)∧w'=w:=by
 refine does Tryz.func27 ?_
 rw [qR]
 refine aG (yy w c) ?_
 rintro v u ⟨rfl,rfl⟩
 refine ⟨_,rfl,eC (by simp;omega) ⟨?_,rfl⟩⟩
 rw [w64 (x:=(c:Int) * 15) (by omega) (by omega),w64 (x:=6+(c:Int) * 15) (by omega) (by omega),w64 (x:=(6+(c:Int) * 15) * 8) (by omega) (by omega)]
 congr 1
 omega
def lM (x:aP) (c:Nat):List Int:=x.read ((48+120 * c:Nat):Int) 120
theorem Hz {A:Nat→Prop} {χ:Nat→Tag} {w:World} {fb:Nat} {X:FabX} (h:aZ A χ w fb X) {i:Nat} {x:ep} (hx:X.nodes[i]?=some x) (hd:x.n.down=false) (hw:768≤x.n.words.length) {c:Nat} (hc:c<6) :
  Does 65 [ptr fb,.int .i64 i,.int .i64 c] w λv w'=>(∃ a cap,v=.slice a 120 cap∧120≤cap∧Rd w' a (us (lM x.n c))∧(lM x.n c).length=120)∧New w w':=by
 refine does Tryz.func65 ?_
 rw [ptr,sO]
 refine aG (nQ h hx) ?_
 rintro v u1 ⟨rfl,hu1⟩
 obtain rfl:w=u1:=hu1.symm
 refine ⟨_,rfl,eC rfl ?_⟩
 refine aG (CW w hc) ?_
 rintro v u2 ⟨rfl,hu2⟩
 obtain rfl:w=u2:=hu2.symm
 refine ⟨_,rfl,?_⟩
 have hchk:x.n.chk ((48+120 * c:Nat):Int) 120=0:=by
  unfold aP.chk
  rw [if_neg (by omega),if_neg (by simp [hd])]
 refine aG (xP (h.node i x hx).node ((48+120 * c:Nat):Int) 120) ?_
 rintro v u3 (⟨hc,_⟩ | ⟨_,a,cap,rfl,hn3,ho,ha⟩)
 ·exact absurd hchk hc
 have hlen:(x.n.read ((48+120 * c:Nat):Int) 120).length=120:=aP.read_len hchk
 exact ⟨_,_,_,_,rfl,eC rfl ⟨⟨some a,cap,rfl,ho.le,ho.rd,hlen⟩,hn3⟩⟩
end Go.Proofs.YtegepanmkjemjaaGreat
namespace Go.Proofs.YtegepanmkjemjaaGreat
open Go.Eng
def CX (p:aD):Bool:=(bshr .u64 p.Head 8 == 1) && (pgD p == [0,0,0,0,0,0,0])
def rG (p q:aD):Bool:=(p.Head == 512) && (pgD p == pgD q)
def pgLk (p:aD):Bool:=!(band .u64 p.Head 255 == 0)
def ul (x:aP) (q:aD):aD:=x.page q.Line.toNat
def pgOk (c i:Nat) (p q:aD):Bool:=(CX p || rG p q) && ((!CX p || (p.Head == 256 || p.Head == 257+(c:Int))) && (!pgLk p || decide (i=0)))
def iu (W:List aD) (x:aP):Nat:=(W.filter λq=>rG (ul x q) q).length
def jd (W:List aD) (x:aP):Nat:=(W.filter λq=>pgLk (ul x q)).length
def wy (c:Nat) (x:aP):Int:=x.get (32+c)
structure OrdP (c:Nat) (lines seq:Int) (W:List aD) (ns:List aP):Prop where
 up:∀ x ∈ ns,x.down=false
 page:∀ (i:Nat) (x:aP),ns[i]?=some x→∀ q ∈ W,pgOk c i (ul x q) q=true
 whole:(∃ x ∈ ns,0<jd W x)→∀ x ∈ ns,ln (lM x c) lines=(true,seq,W)
 comm:(∃ x ∈ ns,0<iu W x)→∀ x ∈ ns,cD (lM x c) lines=(true,seq,W)
 clock:∀ x ∈ ns,wy c x=0∨wy c x=seq
 last:∀ (i:Nat) (x x0:aP),ns[i]?=some x→ns[0]?=some x0→0<i→(0<iu W x0∨wy c x≠0)→iu W x=W.length
 first:∀ x0,ns[0]?=some x0→0<iu W x0→wy c x0≠0
end Go.Proofs.YtegepanmkjemjaaGreat
