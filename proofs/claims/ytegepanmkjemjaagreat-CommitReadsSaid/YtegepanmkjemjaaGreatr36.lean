import Derived.Test.YtegepanmkjemjaaGreatr35
set_option linter.unusedVariables false
namespace Go.Proofs.YtegepanmkjemjaaGreat
open Go.Proofs.Tryz
open Go.Eng C12
attribute [local irreducible] drive alone
theorem q8 (r:Nat):(rC r).length=(aT r).length:=by simp [rC]
theorem wX (r i:Nat) (h:i<(aT r).length):(rC r).take (i+1)=(rC r).take i++[⟨(((aT r)[i]:Nat):Int),256⟩]:=by
 rw [List.take_succ_eq_append_getElem (by rw [q8];exact h)]
 simp [rC]
set_option maxRecDepth 20000 in
set_option maxHeartbeats 4000000 in
theorem rE (hrun:vj) (w:World) {x0 x1 x2:Int} {seen:Bool} (h0:I64 x0) (h1:I64 x1) (h2:I64 x2) :
  Does 6 [.int .i64 x0,.int .i64 x1,.int .i64 x2,.bool seen] w λv u=>v=.bool true∧New w u:=by
 refine does Tryz.func6 ?_
 rw [ka]
 refine aF (nv _ _ _ h0 (by omega)) ?_
 rintro v u1 ⟨rfl,hu1⟩
 obtain rfl:w=u1:=hu1.symm
 rw [if_neg (by omega)]
 refine ⟨_,rfl,?_⟩
 obtain ⟨n,hn,hn3⟩:∃ n:Nat,x0 % 3+1=n∧1≤n∧n≤3:=⟨(x0 % 3+1).toNat,by omega,by omega⟩
 rw [w64 (x:=x0 % 3+1) (by omega) (by omega),hn]
 refine aF (BE (n:=n) (by omega) (x:=2) ⟨by omega,by omega⟩) ?_
 rintro v w2 ⟨fb,p,A,χ,X,rv,rfl,hm⟩
 have hm:Made _ w2 n 100 fb p A χ X rv:=hm
 have hrvl:rv.Members_l=n:=hm.view.len.trans (ll n)
 refine ⟨_,_,rfl,?_⟩
 rw [gx,fT]
 refine pf (P:=prog) (fn:=f6) (R:=(λv z=>v=.bool true∧New w z)) (λ_ _=>rfl) ?_
 rw [ir]
 refine dE rfl ?_
 refine aF (BK _) ?_
 rintro v w3 ⟨rfl,hn3'⟩
 refine ⟨_,rfl,je ?_⟩
 refine pf (P:=prog) (fn:=f6) (R:=(λv z=>v=.bool true∧New w z)) (λ_ _=>rfl) ?_
 rw [it]
 refine dE rfl (je ?_)
 refine pf (P:=prog) (fn:=f6) (R:=(λv z=>v=.bool true∧New w z)) (λ_ _=>rfl) ?_
 rw [iu]
 obtain ⟨y,hy,hy14⟩:∃ y:Nat,(x2 % 14).toNat=y∧y<14:=⟨_,rfl,by omega⟩
 obtain ⟨r,hr,hr14⟩:∃ y:Nat,(x1 % 14).toNat=y∧y<14:=⟨_,rfl,by omega⟩
 refine aF (sL h2) ?_
 rw [hy]
 rintro v w4 ⟨ca,cc,rfl,hrc,hn4⟩
 refine ⟨_,_,_,rfl,?_⟩
 have hf0:Fine (Fab.fresh n 6 100):=Fine.fresh (by omega) (by omega) (by omega)
 obtain ⟨x,hx,hxm⟩:=CA hm.pure (i:=0) (by simp [Fab.fresh];omega)
 have hlong:x.n.words.length=800:=AC hm.pure hf0 hx
 have hup:x.n.down=false:=by rw [←hxm,wV (by omega)]
 have hu:∀ i,U64 (x.n.get i):=λi=>(hm.fab.node 0 x hx).node.wf_get i
 obtain ⟨hl1,hl3⟩:=mO y hy14
 obtain ⟨hr1,hr3⟩:=mO r hr14
 have hn24:=hn3'.new hn4
 have hcnt:=wT (hm.fab.new hn24) (New.blk hn24 hm.box) hx hup (L:=aT y) (λl hl=>by have:=wR hl;omega) (by omega) hrc (cc:=cc) 0 1
 refine aF hcnt ?_
 rintro v w5 ⟨wa,wc,rfl,hn5,hown,hfr⟩
 refine aB.mk_ex (vN 0 1 100 rv wa (aT y).length wc) ⟨true,rfl,?_⟩
 refine gP (vs:=(qh 0 1 100 rv none 0 0 wa (aT y).length wc).cells) rfl (aB.single _) λb1 w6 hb1 hz6 hn6=>?_
 refine dE rfl ?_
 have hW:cws 0 x.n (aT y)=sN n y:=by unfold sN;rw [hxm]
 have hWu0:∀ q ∈ sN n y,PgU q:=by rw [←hW];exact C9 hu 0 _
 rw [hW] at hown
 have hsz4:=hn24.size
 have hsz5:=hn5.size
 refine aF (sL h1) ?_
 rw [hr]
 rintro v w7 ⟨cr,ccr,rfl,hrr,hn7⟩
 refine ⟨_,_,_,rfl,?_⟩
 have hn27:New w2 w7:=((hn24.new hn5).new hn6).new hn7
 have hz7:=New.blk hn7 hz6
 have hlt7:=hz7.lt
 refine aR mix (λq env z=>∃ (i:Nat) (ra:Option Addr) (rl rc:Nat) (m:Bool) (jj:List Value),q=(aT r).length - i∧i≤(aT r).length∧env=cD x2 seen (some ⟨p,0,none⟩) ⟨b1,0,none⟩ ra rl rc m cr (aT r).length ccr (aT r).length i jj∧New w7 z∧Owns z 71 2 ra rl rc (mE ((rC r).take i)).flatten∧rl=i∧(∀ k,isB ra k→w7.heap.size≤k)∧m=(((aT r).take i).any λl=>(aT y).contains l)) (aT r).length
  ⟨0,none,0,0,false,_,rfl,by omega,rfl,Keep.refl _ _,Owns.nil _ _ _,rfl,(λk hk=>(lf hk).elim),rfl⟩ ?_
 rintro q env z ⟨i,ra,rl,rc,m,jj,rfl,hi,rfl,hz,hro,hrl,hrf,hmm⟩
 refine pf (P:=prog) (fn:=f6) (R:=(λv z=>v=.bool true∧New w z)) (λ_ _=>rfl) ?_
 rw [gy]
 have hs7:=hz.size
 refine aH (λhlt=>?_) (λhge=>?_)
 ·have hlt:i<(aT r).length:=by omega
  have hg:(ns (aT r))[i]?=some (((aT r)[i]:Nat):Int):=by simp [ns,hlt]
  have htk:=wX r i hlt
  have htk2:(aT r).take (i+1)=(aT r).take i++[(aT r)[i]]:=List.take_succ_eq_append_getElem hlt
  generalize (aT r)[i]=l at hg htk htk2
  refine rd_i ((hrr.new hz)) hg rfl (by simp [ns]) λb o hc=>⟨_,hc z (Keep.refl _ _),?_⟩
  refine BO hro (x:=⟨(l:Int),256⟩) (by omega) ?_
  intro b3 ap cap u3 hb3 ho3 hk3 hap
  have hfr3:∀ k,isB ap k→w7.heap.size≤k:=λk hk=>by
   rcases hap k hk with h | h
   ·exact hrf k h
   ·omega
  have hn73:New w7 u3:=iL hz hk3 hrf
  refine aF (sL h2) ?_
  rw [hy]
  rintro v u4 ⟨c2,cc2,rfl,hr2,hn4'⟩
  refine ⟨_,_,_,rfl,?_⟩
  refine aR mix (λq env z=>∃ (k:Nat) (m2:Bool) (jj:List Value),q=(aT y).length - k∧k≤(aT y).length∧env=bP x2 seen (some ⟨p,0,none⟩) ⟨b1,0,none⟩ ap (rl+1) cap m2 l cr (aT r).length ccr (aT r).length i c2 (aT y).length cc2 (aT y).length k jj∧New u4 z∧m2=(m || ((aT y).take k).any λq=>q == l)) (aT y).length
   ⟨0,m,_,rfl,by omega,rfl,Keep.refl _ _,by simp⟩ ?_
  rintro q env z2 ⟨k,m2,jj2,rfl,hk,rfl,hz2,hm2⟩
  refine pf (P:=prog) (fn:=f6) (R:=(λv z=>v=.bool true∧New w z)) (λ_ _=>rfl) ?_
  rw [gC]
  refine aH (λhlt2=>?_) (λhge2=>?_)
  ·have hlt2:k<(aT y).length:=by omega
   have hg2:(ns (aT y))[k]?=some (((aT y)[k]:Nat):Int):=by simp [ns,hlt2]
   have htk3:(aT y).take (k+1)=(aT y).take k++[(aT y)[k]]:=List.take_succ_eq_append_getElem hlt2
   generalize (aT y)[k]=l2 at hg2 htk3
   refine rd_i ((hr2.new hz2)) hg2 rfl (by simp [ns]) λb o hc=>⟨_,hc z2 (Keep.refl _ _),?_⟩
   rw [w64 (x:=(k:Int)+1) (by omega) (by omega)]
   refine rf (λhb=>?_) (λhb=>?_)
   ·refine je ⟨(aT y).length - (k+1),by omega,k+1,true,_,rfl,by omega,rfl,hz2,?_⟩
    rw [htk3,List.any_append]
    rw [hb] at hm2
    cases m
    ·simp at hm2 ⊢
     exact .inl hm2
    ·rfl
   ·refine je ⟨(aT y).length - (k+1),by omega,k+1,((l:Int) == (l2:Int)),_,rfl,by omega,rfl,hz2,?_⟩
    rw [htk3,List.any_append]
    rw [hb] at hm2
    have hm2':=hm2.symm
    rw [Bool.or_eq_false_iff] at hm2'
    rw [hm2'.1,hm2'.2]
    have e:((l:Int) == (l2:Int))=(l2 == l):=by
     by_cases h:l2=l
     ·subst h;simp
     ·have h2:¬ (l:Int)=(l2:Int):=λe=>h (by omega)
      have e1:((l:Int) == (l2:Int))=false:=beq_eq_false_iff_ne.2 h2
      have e2:(l2 == l)=false:=beq_eq_false_iff_ne.2 h
      rw [e1,e2]
    rw [e]
    simp
  ·have hke:k=(aT y).length:=by omega
   refine An (vq (yU (je ?_)))
   refine pf (P:=prog) (fn:=f6) (R:=(λv z=>v=.bool true∧New w z)) (λ_ _=>rfl) ?_
   rw [hH]
   rw [w64 (x:=(i:Int)+1) (by omega) (by omega)]
   refine Qr_n (je ⟨(aT r).length - (i+1),by omega,i+1,ap,rl+1,cap,m2,_,rfl,by omega,rfl,(hn73.new hn4').new hz2,?_,by omega,hfr3,?_⟩)
   ·rw [htk]
    exact ho3.new (hn4'.new hz2)
   ·rw [hm2,htk2,List.any_append,hmm,hke,List.take_length]
    congr 1
    rw [Bool.eq_iff_iff]
    simp
 ·have hie:i=(aT r).length:=by omega
  refine An (vq (je ?_))
  rw [hie,List.take_of_length_le (by rw [q8];exact Nat.le_refl _)] at hro
  rw [hie,List.take_length] at hmm
  have hn2z:New w2 z:=hn27.new hz
  refine yK hm hrvl hn3 hr14 hy14 hrun hn2z (New.blk hz hz7) (by omega) (hown.new ((hn6.new hn7).new hz)) (λk hk=>⟨by have:=hfr k hk;omega,λe=>by have:=hown.lt hk;omega⟩) hWu0 hro (by rw [q8];omega) (λk hk=>⟨by have:=hrf k hk;have:=hn27.size;omega,λe=>by have:=hrf k hk;omega⟩) hmm ?_ _
  exact λ_ _=>rfl
end Go.Proofs.YtegepanmkjemjaaGreat
