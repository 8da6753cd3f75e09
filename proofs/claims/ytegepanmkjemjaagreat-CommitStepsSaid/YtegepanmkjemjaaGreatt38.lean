import Derived.Test.YtegepanmkjemjaaGreatt37
import Derived.Test.YtegepanmkjemjaaGreatt34
set_option linter.unusedVariables false
namespace Go.Proofs.YtegepanmkjemjaaGreat
open Go.Proofs.Tryz
open Go.Eng
def frL (W:List aD) (ns:List aP) (i:Nat):List Int:=(ns.take i).map (λx=>(iu W x:Int))++List.replicate (5 - i) 0
def lkL (W:List aD) (ns:List aP) (i:Nat):Nat:=((ns.take i).map (jd W)).sum
theorem Gu {W:List aD} {ns:List aP} {i:Nat} (hi:i≤ns.length) (h5:ns.length≤5):(frL W ns i).length=5:=by
 simp [frL]
 omega
theorem E8 {W:List aD} {ns:List aP} {i j:Nat} {x:aP} (hi:i≤ns.length) (hj:j<i) (hx:ns[j]?=some x):(frL W ns i)[j]?=some (iu W x:Int):=by
 unfold frL
 rw [List.getElem?_append_left (by simp;omega),List.getElem?_map,List.getElem?_take]
 simp [hj,hx]
theorem EI {W:List aD} {ns:List aP} {i:Nat} (hi:i≤ns.length) (h5:i<5):(frL W ns i)[i]?=some 0:=by
 unfold frL
 rw [List.getElem?_append_right (by simp;omega)]
 have:i - ((ns.take i).map (λx=>(iu W x:Int))).length=0:=by simp;omega
 rw [this,List.getElem?_replicate]
 simp
 omega
theorem EJ {W:List aD} {ns:List aP} {i:Nat} {x:aP} (hx:ns[i]?=some x) (h5:i<5):(frL W ns i).set i (iu W x:Int)=frL W ns (i+1):=by
 have hlt:=aU hx
 unfold frL
 rw [List.take_add_one,hx]
 have h1:5 - i=(5 - (i+1))+1:=by omega
 rw [h1,List.replicate_succ]
 have h2:((ns.take i).map (λx=>(iu W x:Int))).length=i:=by simp;omega
 rw [List.set_append_right _ _ (by omega),h2,Nat.sub_self]
 simp
theorem EK {W:List aD} {ns:List aP} {i:Nat} {x:aP} (hx:ns[i]?=some x):lkL W ns (i+1)=lkL W ns i+jd W x:=by
 unfold lkL
 rw [List.take_add_one,hx]
 simp
theorem HD {W:List aD} {ns:List aP}:∀ {i:Nat},lkL W ns i≤i * W.length:=by
 intro i
 unfold lkL
 induction i with
 |zero=>simp
 |succ i ih=>
  rw [List.take_add_one]
  simp only [List.map_append,List.sum_append]
  have:(ns[i]?.toList.map (jd W)).sum≤W.length:=by
   cases ns[i]? with
   |none=>simp
   |some x=>simp [jd,List.length_filter_le]
  rw [Nat.add_mul]
  omega
theorem Gv {W:List aD} {ns:List aP}:∀ {i:Nat},0<lkL W ns i→∃ x ∈ ns,0<jd W x:=by
 intro i h
 unfold lkL at h
 induction i with
 |zero=>simp at h
 |succ i ih=>
  rw [List.take_add_one] at h
  simp only [List.map_append,List.sum_append] at h
  by_cases h0:0<((ns.take i).map (jd W)).sum
  ·exact ih h0
  ·cases hx:ns[i]? with
   |none=>
    rw [hx] at h
    simp only [Option.toList,List.map_nil,List.sum_nil,Nat.add_zero] at h
    exact absurd h h0
   |some x=>
    rw [hx] at h
    simp only [Option.toList,List.map_cons,List.map_nil,List.sum_cons,List.sum_nil] at h
    exact ⟨x,List.mem_of_getElem? hx,by omega⟩
theorem sU {P:aP→Prop} {ns:List aP} {i:Nat} {x:aP} (hx:ns[i]?=some x):(∀ y ∈ ns.take (i+1),P y)↔(∀ y ∈ ns.take i,P y)∧P x:=by
 rw [List.take_add_one,hx]
 simp only [Option.toList,List.mem_append,List.mem_singleton]
 exact ⟨λh=>⟨λy hy=>h y (.inl hy),h x (.inr rfl)⟩,λh y hy=>hy.elim (h.1 y) λe=>e▸h.2⟩
structure Gw (c:Nat) (job:aM) (W:List aD) (w:World) (X:FabX):Prop where
 rd:Rd w job.Writes (dF W).flatten
 len:job.Writes_l=W.length
 cl:job.Client=c
 c6:c<6
 seq:job.Seq=3
 n4:X.nodes.length≤4
 words:∀ x ∈ X.nodes,768≤x.n.words.length
 lines:∀ x ∈ X.nodes,∀ q ∈ W,96≤q.Line∧q.Line<256∧q.Line.toNat * 8+8≤x.n.words.length
 few:W.length≤100
 ord:OrdP c job.Lines 3 W (X.nodes.map ep.n)
theorem wA {X:FabX} {i:Nat} {x:ep} (h:X.nodes[i]?=some x):(X.nodes.map ep.n)[i]?=some x.n:=by simp [h]
set_option maxHeartbeats 2000000 in
theorem CZ {u:World} {s0:Addr} {b1 b3:Nat} {n:Int} {s8:Bool} {iz ck:Int} {i:Nat} {job:aM} {F:List Int} {f0 fi:Int} {R:Value→World→Prop}
  (hj:Blk u b1 job.cells 34) (hf:Blk u b3 (is F) 142) (hF0:F[0]?=some f0) (hFi:F[i]?=some fi) (hiz:iz=i) (hi:iz=0∨iz=1∨iz=2∨iz=3) (hck:ck=0∨ck=3) (hseq:job.Seq=3)
  (h1:0<fi→s8=true) (h2:0<iz→(0<f0∨ck≠0)→¬ fi<job.Writes_l) (h3:iz=0→0<f0→ck≠0)
  {Q:Exit→List Value→World→Prop} (hQ:∀ env z,Q .ret env z=retQ prog f47 R .ret env z)
  (hnext:∀ (z':World) (jj:List Value),New u z'→Q .normal (fN s0 ⟨b1,0,none⟩ n s8 ⟨b3,0,none⟩ iz jj) z') (jj:List Value) :
  Go.Eng.W prog (sub (aB f47) [1,1,1,1,1,1,1,1,0,1,0,0,1,0,0,1]) (cI s0 ⟨b1,0,none⟩ n s8 ⟨b3,0,none⟩ iz ck true jj) Q u:=by
 have hc0:(is F)[0]?=some (.int .i64 f0):=by simp [is,hF0]
 have hci:(is F)[i]?=some (.int .i64 fi):=by simp [is,hFi]
 have h13:∀ (z':World) (jj:List Value),New u z'→Go.Eng.W prog (sub (aB f47) [1,1,1,1,1,1,1,1,0,1,0,0,1,0,0,1,1,1]) (aL s0 ⟨b1,0,none⟩ n s8 ⟨b3,0,none⟩ iz false jj) Q z':=by
  intro z' jj hz
  refine gx (P:=prog) (fn:=f47) (R:=R) (λ_ _=>by first | rfl | exact hQ _ _) ?_
  rw [lS]
  exact eC rfl (hnext _ _ hz)
 have h12:∀ (jj:List Value),Go.Eng.W prog (sub (aB f47) [1,1,1,1,1,1,1,1,0,1,0,0,1,0,0,1,1]) (aX s0 ⟨b1,0,none⟩ n s8 ⟨b3,0,none⟩ iz ck jj) Q u:=by
  intro jj
  rw [j4]
  refine gx (P:=prog) (fn:=f47) (R:=R) (λ_ _=>by first | rfl | exact hQ _ _) ?_
  have hcell:∀ (w1:World),New u w1→(∀ y,New w1 y→y.cell? ⟨b3,0+Int.toNat 0 * 1,none⟩=some (.int .i64 f0))∧(∀ y,New w1 y→y.cell? ⟨b3,0+Int.toNat iz * 1,none⟩=some (.int .i64 fi))∧(∀ y,New w1 y→y.cell? ⟨b1,0+6,none⟩=some (.slice job.Writes job.Writes_l job.Writes_c)):=by
   intro w1 hn
   have hoi:0+Int.toNat iz * 1=i:=by rw [hiz];simp
   exact ⟨λy hy=>(New.blk hy (New.blk hn hf)).cell hc0,λy hy=>by rw [hoi];exact (New.blk hy (New.blk hn hf)).cell hci,λy hy=>(New.blk hy (New.blk hn hj)).cell rfl⟩
  rcases hi with rfl | hi
  ·rcases hck with rfl | rfl
   ·rw [k5]
    rintro w1 hw1
    have hn1:New u w1:=by rw [hw1];exact aW _
    obtain ⟨g0,gi,gw⟩:=hcell w1 hn1
    refine ⟨λy=>New w1 y,Keep.refl _ _,eG (by omega) (by omega) ⟨f0,g0,aI (λhp=>absurd rfl (h3 rfl hp)) (λhp=>bI (h13 _ _ hn1))⟩⟩
   ·rw [k6]
    rintro w1 hw1
    have hn1:New u w1:=by rw [hw1];exact aW _
    obtain ⟨g0,gi,gw⟩:=hcell w1 hn1
    refine ⟨λy=>New w1 y,Keep.refl _ _,eG (by omega) (by omega) ⟨f0,g0,aI (λhp=>bI (h13 _ _ hn1)) (λhp=>bI (h13 _ _ hn1))⟩⟩
  ·have hp0:0<iz:=by omega
   have hno:=h2 hp0
   clear h3 hf hj
   rcases hck with rfl | rfl
   ·rcases hi with rfl | rfl | rfl
    all_goals
     first | rw [k7] | rw [k9] | rw [lf]
     rintro w1 hw1
     have hn1:New u w1:=by rw [hw1];exact aW _
     obtain ⟨g0,gi,gw⟩:=hcell w1 hn1
     exact ⟨λy=>New w1 y,Keep.refl _ _,eG (by omega) (by omega) ⟨f0,g0,aI (λhp=>eG (by omega) (by omega) ⟨fi,gi,_,_,_,gw,aI (λhq=>absurd hq (hno (.inl hp))) (λ_=>bI (h13 _ _ hn1))⟩) (λ_=>bI (h13 _ _ hn1))⟩⟩
   ·rcases hi with rfl | rfl | rfl
    all_goals
     first | rw [k8] | rw [ld] | rw [lg]
     rintro w1 hw1
     have hn1:New u w1:=by rw [hw1];exact aW _
     obtain ⟨g0,gi,gw⟩:=hcell w1 hn1
     have hno3:=hno (.inr (by omega))
     exact ⟨λy=>New w1 y,Keep.refl _ _,eG (by omega) (by omega) ⟨f0,g0,aI
      (λ_=>eG (by omega) (by omega) ⟨fi,gi,_,_,_,gw,aI (λhq=>absurd hq hno3) (λ_=>eG (by omega) (by omega) ⟨fi,gi,_,_,_,gw,aI (λhq=>absurd hq hno3) (λ_=>bI (h13 _ _ hn1))⟩)⟩)
      (λ_=>eG (by omega) (by omega) ⟨fi,gi,_,_,_,gw,aI (λhq=>absurd hq hno3) (λ_=>bI (h13 _ _ hn1))⟩)⟩⟩
 have hoi:0+Int.toNat iz * 1=i:=by rw [hiz];simp
 rw [kJ,j1]
 refine gx (P:=prog) (fn:=f47) (R:=R) (λ_ _=>by first | rfl | exact hQ _ _) ?_
 rw [mB]
 have h11:∀ (jj:List Value),seqQ (λenv w=>Go.Eng.W prog (sub (aB f47) [1,1,1,1,1,1,1,1,0,1,0,0,1,0,0,1,0,1]) env (seqQ (λenv w=>Go.Eng.W prog (sub (aB f47) [1,1,1,1,1,1,1,1,0,1,0,0,1,0,0,1,1]) env Q w) Q) w) (seqQ (λenv w=>Go.Eng.W prog (sub (aB f47) [1,1,1,1,1,1,1,1,0,1,0,0,1,0,0,1,1]) env Q w) Q) .normal (cV s0 ⟨b1,0,none⟩ n s8 ⟨b3,0,none⟩ iz ck false jj) u:=by
  intro jj
  refine bI ?_
  refine gx (P:=prog) (fn:=f47) (R:=R) (λ_ _=>by first | rfl | exact hQ _ _) ?_
  rw [lR]
  exact eC rfl (bI (h12 _))
 have h10:∀ (jj:List Value),opsW prog (rops (sub (aB f47) [1,1,1,1,1,1,1,1,0,1,0,0,1,0,0,1,0,0])) ((rops (sub (aB f47) [1,1,1,1,1,1,1,1,0,1,0,0,1,0,0,1,0,0])).drop 13) (bJ s0 ⟨b1,0,none⟩ n s8 ⟨b3,0,none⟩ iz ck false jj) ((Qr prog f47 R (seqQ (λenv w=>Go.Eng.W prog (sub (aB f47) [1,1,1,1,1,1,1,1,0,1,0,0,1,0,0,1,0,1]) env (seqQ (λenv w=>Go.Eng.W prog (sub (aB f47) [1,1,1,1,1,1,1,1,0,1,0,0,1,0,0,1,1]) env Q w) Q) w) (seqQ (λenv w=>Go.Eng.W prog (sub (aB f47) [1,1,1,1,1,1,1,1,0,1,0,0,1,0,0,1,1]) env Q w) Q))) .normal) u:=by
  intro jj
  rw [lQ]
  refine eC rfl (eG (by omega) (by omega) ⟨fi,by rw [hoi];exact hf.cell hci,aI (λhp=>?_) (λ_=>h11 _)⟩)
  have e:(!s8)=false:=by rw [h1 hp];rfl
  rw [e]
  exact h11 _
 refine eC rfl (bY (λhne=>⟨job.Seq,hj.cell (i:=1) rfl,?_⟩) (λ_=>h10 _))
 have e:(ck != IntKind.u64.wrap job.Seq)=false:=by
  rw [hseq,hck.resolve_left hne]
  rfl
 rw [e]
 exact h10 _
theorem Bq {A:Nat→Prop} {χ:Nat→Tag} {w z:World} {fb:Nat} {X:FabX} (h:aZ A χ w fb X) (hnz:New w z) {b1 b3:Nat} {s8:Bool} {c:Nat} {job:aM} {W:List aD} {R:Value→World→Prop} (hI:Gw c job W w X)
  (hj:Blk z b1 job.cells 34) (hf:Blk z b3 (is (frL W (X.nodes.map ep.n) X.nodes.length)) 142) (h8:s8=true↔∀ x ∈ X.nodes.map ep.n,cD (lM x c) job.Lines=(true,3,W)) (hR:∀ u,New z u→R (.bool true) u) (jj:List Value) :
  Go.Eng.W prog (sub (aB f47) [1,1,1,1,1,1,1,1]) (ez ⟨fb,0,none⟩ ⟨b1,0,none⟩ X.nodes.length s8 ⟨b3,0,none⟩ jj) (retQ prog f47 R) z:=by
 refine gx (P:=prog) (fn:=f47) (R:=R) (λ_ _=>rfl) ?_
 rw [mz]
 have hn4:=hI.n4
 have hns:(X.nodes.map ep.n).length=X.nodes.length:=by simp
 refine aR mix (λm env z'=>∃ (i:Nat) (jj:List Value),m=X.nodes.length - i∧i≤X.nodes.length∧env=cH ⟨fb,0,none⟩ ⟨b1,0,none⟩ X.nodes.length s8 ⟨b3,0,none⟩ i jj∧New z z') X.nodes.length
  ⟨0,_,rfl,by omega,rfl,Keep.refl _ _⟩ ?_
 rintro m env z' ⟨i,jj,rfl,hile,rfl,hzz⟩
 refine gx (P:=prog) (fn:=f47) (R:=R) (λ_ _=>rfl) ?_
 rw [kI]
 have hj':=New.blk hzz hj
 have hf':=New.blk hzz hf
 refine aI (λhp=>?_) (λhp=>?_)
 ·have hlt:i<X.nodes.length:=by omega
  obtain ⟨x,hx⟩:∃ x,X.nodes[i]?=some x:=⟨_,List.getElem?_eq_getElem hlt⟩
  obtain ⟨x0,hx0⟩:∃ x,X.nodes[0]?=some x:=⟨_,List.getElem?_eq_getElem (by omega)⟩
  have hxm:=List.mem_of_getElem? hx
  have hup:=hI.ord.up x.n (List.mem_map_of_mem hxm)
  have hwd:=hI.words x hxm
  have hc6:=hI.c6
  refine ⟨job.Client,hj'.cell (i:=0) rfl,?_⟩
  rw [hI.cl]
  refine aG (F9 _ hI.c6) ?_
  rintro v u1 ⟨rfl,hu1⟩
  obtain rfl:z'=u1:=hu1.symm
  refine ⟨_,rfl,?_⟩
  refine aG (G4 (h.new (hnz.new hzz)) hx (at_:=32+c) (by omega) hup) ?_
  rintro v u2 ⟨rfl,hn2⟩
  refine ⟨_,_,rfl,?_⟩
  have hj2:=New.blk hn2 hj'
  have hf2:=New.blk hn2 hf'
  have hck:=hI.ord.clock x.n (List.mem_map_of_mem hxm)
  have hfx:=E8 (W:=W) (i:=X.nodes.length) (by omega) hlt (wA hx)
  have hf0:=E8 (W:=W) (i:=X.nodes.length) (by omega) (by omega) (wA hx0)
  have hfx':(is (frL W (X.nodes.map ep.n) X.nodes.length))[i]?=some (.int .i64 (iu W x.n:Int)):=by simp [is,hfx]
  have hf0':(is (frL W (X.nodes.map ep.n) X.nodes.length))[0]?=some (.int .i64 (iu W x0.n:Int)):=by simp [is,hf0]
  have hck':x.n.get (32+c)=wy c x.n:=rfl
  rw [hck']
  refine CZ (R:=R) hj2 hf2 hf0 hfx rfl (by omega) hck hI.seq (λhp=>h8.2 (hI.ord.comm ⟨x.n,List.mem_map_of_mem hxm,by omega⟩)) (λhp hor=>?_) (λhp hor=>?_) ?_ (λz3 jj3 hn3=>?_) _
  ·have:=hI.ord.last i x.n x0.n (wA hx) (wA hx0) (by omega) (hor.imp (λe=>by omega) id)
   rw [this,hI.len]
   omega
  ·have hi0:i=0:=by omega
   subst hi0
   rw [hx0] at hx
   cases hx
   exact hI.ord.first x.n (wA hx0) (by omega)
  ·exact λ_ _=>rfl
  ·refine qe (bI ?_)
   rw [lT]
   refine bI ?_
   rw [w64 (x:=(i:Int)+1) (by omega) (by omega)]
   exact ⟨X.nodes.length - (i+1),by omega,i+1,_,rfl,by omega,rfl,(hzz.new hn2).new hn3⟩
 ·have hin:i=X.nodes.length:=by omega
  subst hin
  refine uG (oB (bI ?_))
  rw [mC]
  exact hR _ hzz
end Go.Proofs.YtegepanmkjemjaaGreat
namespace Go.Proofs.YtegepanmkjemjaaGreat
open Go.Proofs.Tryz
open Go.Eng
theorem C1 (B:List Int) (lines:Int):(ie B lines).2.2.length≤12:=by
 unfold ie
 split
 ·simp
 split
 ·simp
 rename_i h1 h2
 split
 ·simp
 split
 ·have hs:¬ 12<B.getD 1 0:=λe=>h2 (.inr (.inr (.inr (.inl e))))
  simp only [pgsM,List.length_map,List.length_range]
  omega
 ·simp
theorem yE (L:List Int) (lines:Int):(ln L lines).2.2.length≤12:=C1 _ _
theorem xm (L:List Int) (lines:Int):(cD L lines).2.2.length≤12:=by
 unfold cD
 split
 ·exact yE _ _
 ·simp
set_option maxHeartbeats 4000000 in
theorem C3 {A:Nat→Prop} {χ:Nat→Tag} {w:World} {fb:Nat} {X:FabX} (h:aZ A χ w fb X) {c:Nat} {job:aM} {W:List aD} (hI:Gw c job W w X) :
  Does 47 [ptr fb,job.val] w λv w'=>v=.bool true∧New w w':=by
 refine does Tryz.func47 ?_
 rw [ptr,pm]
 generalize hRR:(λ(v:Value) (w':World)=>v=.bool true∧New w w')=R
 have hn4:=hI.n4
 have hns:(X.nodes.map ep.n).length=X.nodes.length:=by simp
 rintro b1 w1 hb1 hw1
 obtain ⟨hz1,hn1⟩:=aO hb1 hw1
 have hz1:Blk w1 b1 job.cells 34:=hz1
 clear hw1
 refine ⟨_,hz1.cell (i:=1) rfl,_,_,_,hz1.cell (i:=6) rfl,?_⟩
 refine ii (vs:=[.int .i64 job.Seq,.slice job.Writes job.Writes_l job.Writes_c]) rfl (by intro v hv;simp at hv;rcases hv with rfl | rfl<;>rfl) λb2 w2 hb2 hz2 hn2=>?_
 have hz2':Blk w2 b2 (aE.cells ⟨job.Seq,job.Writes,job.Writes_l,job.Writes_c⟩) 141:=hz2
 have hn02:=hn1.new hn2
 refine aG (uS (h.new hn02)) ?_
 rintro v w3 ⟨rfl,hw3⟩
 obtain rfl:w2=w3:=hw3.symm
 refine ⟨_,rfl,?_⟩
 rintro b3 w4 hb3 hw4
 obtain ⟨hz3,hn3⟩:=aO hb3 hw4
 have hz3:Blk w4 b3 (is [0,0,0,0,0]) 142:=hz3
 clear hw4
 have hn04:=hn02.new hn3
 have hs1:=hn1.size
 have hs2:=hn2.size
 have hlt1:=hz1.lt
 have hlt2:=hz2.lt
 have hb3w:w.heap.size≤b3:=by omega
 have hz14:=New.blk hn3 (New.blk hn2 hz1)
 have hz24:=New.blk hn3 hz2'
 have hrec:∀ (z:World),New w z→uk 0 z ⟨job.Seq,job.Writes,job.Writes_l,job.Writes_c⟩ ((3:Int),W):=λz hz=>⟨hI.seq,hI.rd.new hz,hI.len,λ_ _=>Nat.zero_le _⟩
 refine aR mix (λm env z=>∃ (i:Nat) (b7 b8:Bool) (F:List Int) (lk:Nat) (jj:List Value),m=X.nodes.length - i∧i≤X.nodes.length∧F=frL W (X.nodes.map ep.n) i∧lk=lkL W (X.nodes.map ep.n) i∧env=cE ⟨fb,0,none⟩ ⟨b1,0,none⟩ ⟨b2,0,none⟩ X.nodes.length b7 b8 ⟨b3,0,none⟩ lk i jj∧Keep (λb=>b=b3) w4 z∧Blk z b3 (is F) 142∧
   (b7=true↔∀ x ∈ (X.nodes.map ep.n).take i,ln (lM x c) job.Lines=(true,3,W))∧(b8=true↔∀ x ∈ (X.nodes.map ep.n).take i,cD (lM x c) job.Lines=(true,3,W))) X.nodes.length
  ⟨0,true,true,_,0,_,rfl,by omega,rfl,by simp [lkL],rfl,Keep.refl _ _,hz3,by simp,by simp⟩ ?_
 rintro m env z ⟨i,b7,b8,F,lk,jj,rfl,hile,hF,hlk,rfl,hkz,hf,h7,h8⟩
 have hnz:New w z:=Keep.newOf hn04 hkz hb3w
 have hj:=hkz.blk hz14 (λe=>by omega)
 have hr:=hkz.blk hz24 (λe=>by omega)
 have hFl:F.length=5:=by rw [hF];exact Gu (by omega) (by omega)
 have hbody:i<X.nodes.length→∀ (QX:Exit→List Value→World→Prop),(∀ (b7' b8':Bool) (jj:List Value) (z':World),Keep (λb=>b=b3) z z'→Blk z' b3 (is (frL W (X.nodes.map ep.n) (i+1))) 142→(b7'=true↔∀ y ∈ (X.nodes.map ep.n).take (i+1),ln (lM y c) job.Lines=(true,3,W))→(b8'=true↔∀ y ∈ (X.nodes.map ep.n).take (i+1),cD (lM y c) job.Lines=(true,3,W))→
   QX .normal (cE ⟨fb,0,none⟩ ⟨b1,0,none⟩ ⟨b2,0,none⟩ X.nodes.length b7' b8' ⟨b3,0,none⟩ ((lkL W (X.nodes.map ep.n) (i+1):Nat):Int) ((i+1:Nat):Int) jj) z')→
   Go.Eng.W prog (sub (aB f47) [1,1,1,1,1,1,0,1,0,0]) (cE ⟨fb,0,none⟩ ⟨b1,0,none⟩ ⟨b2,0,none⟩ X.nodes.length b7 b8 ⟨b3,0,none⟩ lk i jj) (Qr prog f47 R QX) z:=by
  intro hlt QX hQX
  rw [gA]
  refine aI (λ_=>?_) (λhp=>absurd (by omega) hp)
  obtain ⟨x,hx⟩:∃ x,X.nodes[i]?=some x:=⟨_,List.getElem?_eq_getElem hlt⟩
  have hxm:=List.mem_of_getElem? hx
  have hnx:=wA hx
  have hup:=hI.ord.up x.n (List.mem_map_of_mem hxm)
  have hwd:=hI.words x hxm
  have hc6:=hI.c6
  refine ⟨job.Client,hj.cell (i:=0) rfl,?_⟩
  rw [hI.cl]
  refine aG (Hz (h.new hnz) hx hup hwd hI.c6) ?_
  rintro v u1 ⟨⟨la,lc,rfl,hlc,hlr,hll⟩,hn5⟩
  refine ⟨_,_,_,rfl,eC rfl ⟨job.Lines,(New.blk hn5 hj).cell (i:=2) rfl,?_⟩⟩
  refine aG (Ap hlr hll hlc job.Lines) ?_
  rintro v u2 ⟨⟨ra,rfl,hra⟩,hn6⟩
  refine aE.mk_ex ra ⟨_,rfl,?_⟩
  refine ii (vs:=ra.cells) rfl (aE.single _) λb4 u3 hb4 hz4 hn7=>?_
  have hnz3:New z u3:=(hn5.new hn6).new hn7
  have hj3:=New.blk hnz3 hj
  have hr3:=New.blk hnz3 hr
  have hf3:=New.blk hnz3 hf
  have hlr3:=hlr.new (hn6.new hn7)
  have hra3:=hra.new hn7
  have hgo:∀ (b7':Bool) (jj:List Value) (u4:World) (Q:Exit→List Value→World→Prop),(b7'=true↔∀ y ∈ (X.nodes.map ep.n).take (i+1),ln (lM y c) job.Lines=(true,3,W))→New u3 u4→(∀ env z,Q .ret env z=retQ prog f47 R .ret env z)→
    (∀ (b8':Bool) (jj:List Value) (z':World),Keep (λb=>b=b3) z z'→Blk z' b3 (is (frL W (X.nodes.map ep.n) (i+1))) 142→(b8'=true↔∀ y ∈ (X.nodes.map ep.n).take (i+1),cD (lM y c) job.Lines=(true,3,W))→Q .normal (cW ⟨fb,0,none⟩ ⟨b1,0,none⟩ ⟨b2,0,none⟩ X.nodes.length b7' b8' ⟨b3,0,none⟩ ((lkL W (X.nodes.map ep.n) (i+1):Nat):Int) i jj) z')→
    Go.Eng.W prog (sub (aB f47) [1,1,1,1,1,1,0,1,0,0,1,0,0,1,1,1,1]) (cF ⟨fb,0,none⟩ ⟨b1,0,none⟩ ⟨b2,0,none⟩ X.nodes.length b7' b8 ⟨b3,0,none⟩ lk i la 120 lc jj) Q u4:=by
   intro b7' jj u4 Q h7' hn8 hQ hnext
   refine gx (P:=prog) (fn:=f47) (R:=R) (λ_ _=>by first | rfl | exact hQ _ _) ?_
   rw [mv]
   refine ⟨job.Lines,(New.blk hn8 hj3).cell (i:=2) rfl,?_⟩
   refine aG (yD (hlr3.new hn8) hll hlc job.Lines) ?_
   rintro v u5 ⟨⟨rb,rfl,hrb⟩,hn9⟩
   refine aE.mk_ex rb ⟨_,rfl,?_⟩
   refine ii (vs:=rb.cells) rfl (aE.single _) λb5 u6 hb5 hz5 hn10=>?_
   have hn36:New u3 u6:=(hn8.new hn9).new hn10
   have hr6:=New.blk hn36 hr3
   have hnz6:New z u6:=hnz3.new hn36
   have hrb6:=hrb.new hn10
   have h57:∀ (b8':Bool) (jj:List Value) (u7:World),New u6 u7→(b8'=true↔∀ y ∈ (X.nodes.map ep.n).take (i+1),cD (lM y c) job.Lines=(true,3,W))→Go.Eng.W prog (sub (aB f47) [1,1,1,1,1,1,0,1,0,0,1,0,0,1,1,1,1,1,1]) (cG ⟨fb,0,none⟩ ⟨b1,0,none⟩ ⟨b2,0,none⟩ X.nodes.length b7' b8' ⟨b3,0,none⟩ lk i jj) (Qr prog f47 R Q) u7:=by
    intro b8' jj u7 hn11 h8'
    have hnz7:=hnz6.new hn11
    have hle:=HD (W:=W) (ns:=X.nodes.map ep.n) (i:=i)
    have hfw:=hI.few
    have hmul:i * W.length≤4 * W.length:=Nat.mul_le_mul_right _ (by omega)
    refine CY h (hnz.new hnz7) hx hup (New.blk hnz7 hj) (New.blk hnz7 hf) hb3w hFl (by omega) (by rw [hF];exact EI (by omega) (by omega)) (by omega) (by omega) hI.rd hI.len hI.cl hI.c6 (hI.lines x hxm) (hI.ord.page i x.n hnx) (λz' jj' hk hb=>?_) jj
    ·have e1:F.set i (iu W x.n:Int)=frL W (X.nodes.map ep.n) (i+1):=by rw [hF];exact EJ hnx (by omega)
     have e2:=EK (W:=W) hnx
     rw [e1] at hb
     rw [hlk,←e2]
     exact hnext _ _ _ ((Keep.of_new hnz7).trans hk λ_ _ h=>h) hb h8'
   rw [kH]
   refine gx (P:=prog) (fn:=f47) (R:=R) (λ_ _=>by first | rfl | exact hQ _ _) ?_
   rw [my]
   have hsucc:=sU (P:=λy=>cD (lM y c) job.Lines=(true,3,W)) hnx
   refine jP (λe8=>jP (λeb=>?_) (λeb=>?_)) (λe8=>?_)
   ·refine aE.mk_ex rb ⟨aK (vs:=rb.cells) hz5 rfl,aE.mk_ex _ ⟨aK hr6 rfl,?_⟩⟩
    refine aG (Aq hrb6 (hrec u6 (hnz.new hnz6)) (by have:=xm (lM x.n c) job.Lines;omega)) ?_
    rintro v u7 ⟨⟨b,rfl,hb⟩,hn11⟩
    refine ⟨_,rfl,bI (h57 _ _ _ hn11 ?_)⟩
    rw [hb,hsucc]
    refine ⟨λe=>⟨h8.1 e8,Prod.ext eb e⟩,λe=>by rw [e.2]⟩
   ·refine bI (h57 _ _ _ (Keep.refl _ _) ?_)
    rw [hsucc]
    refine ⟨λe=>(by cases e),λe=>?_⟩
    rw [e.2] at eb
    cases eb
   ·refine bI (h57 _ _ _ (Keep.refl _ _) ?_)
    rw [hsucc]
    refine ⟨λe=>(by cases e),λe=>?_⟩
    rw [h8.2 e.1] at e8
    cases e8
  rw [kF]
  refine gx (P:=prog) (fn:=f47) (R:=R) (λ_ _=>rfl) ?_
  rw [mt]
  have hsucc:=sU (P:=λy=>ln (lM y c) job.Lines=(true,3,W)) hnx
  have hs:∀ (b7':Bool) (jj:List Value) (u4:World),New u3 u4→(b7'=true↔∀ y ∈ (X.nodes.map ep.n).take (i+1),ln (lM y c) job.Lines=(true,3,W))→Go.Eng.W prog (sub (aB f47) [1,1,1,1,1,1,0,1,0,0,1,0,0,1,1,1,1]) (cF ⟨fb,0,none⟩ ⟨b1,0,none⟩ ⟨b2,0,none⟩ X.nodes.length b7' b8 ⟨b3,0,none⟩ lk i la 120 lc jj)
    (aJ 1 (seqQ (λenv w=>Go.Eng.W prog (sub (aB f47) [1,1,1,1,1,1,0,1,0,0,1,1]) env (Qr prog f47 R QX) w) (Qr prog f47 R QX))) u4:=by
   intro b7' jj u4 hn8 h7'
   refine hgo b7' jj u4 _ h7' hn8 (λ_ _=>rfl) (λb8' jj z' hk hb h8'=>qe (bI ?_))
   rw [lV]
   rw [w64 (x:=(i:Int)+1) (by omega) (by omega)]
   exact hQX b7' b8' _ z' hk hb h7' h8'
  refine jP (λe7=>jP (λea=>?_) (λea=>?_)) (λe7=>?_)
  ·refine aE.mk_ex ra ⟨aK (vs:=ra.cells) hz4 rfl,aE.mk_ex _ ⟨aK hr3 rfl,?_⟩⟩
   refine aG (Aq hra3 (hrec u3 (hnz.new hnz3)) (by have:=yE (lM x.n c) job.Lines;omega)) ?_
   rintro v u4 ⟨⟨b,rfl,hb⟩,hn8⟩
   refine ⟨_,rfl,bI (hs _ _ _ hn8 ?_)⟩
   rw [hb,hsucc]
   exact ⟨λe=>⟨h7.1 e7,Prod.ext ea e⟩,λe=>by rw [e.2]⟩
  ·refine bI (hs _ _ _ (Keep.refl _ _) ?_)
   rw [hsucc]
   refine ⟨λe=>(by cases e),λe=>?_⟩
   rw [e.2] at ea
   cases ea
  ·refine bI (hs _ _ _ (Keep.refl _ _) ?_)
   rw [hsucc]
   refine ⟨λe=>(by cases e),λe=>?_⟩
   rw [h7.2 e.1] at e7
   cases e7
 refine gx (P:=prog) (fn:=f47) (R:=R) (λ_ _=>rfl) ?_
 by_cases hlt:i<X.nodes.length
 ·refine hbody hlt _ λb7' b8' jj z' hk hb h7' h8'=>bI ?_
  exact ⟨X.nodes.length - (i+1),by omega,i+1,b7',b8',_,_,_,rfl,by omega,rfl,rfl,rfl,hkz.trans hk λ_ _ h=>h,hb,h7',h8'⟩
 have hin:i=X.nodes.length:=by omega
 subst hin
 rw [List.take_of_length_le (by omega)] at h7 h8
 rw [gA]
 refine aI (λhp=>absurd hp (by omega)) (λ_=>?_)
 refine uG (oB (bI ?_))
 rw [kG,j0]
 refine gx (P:=prog) (fn:=f47) (R:=R) (λ_ _=>rfl) ?_
 rw [mu]
 have h6:∀ (jj:List Value),Go.Eng.W prog (sub (aB f47) [1,1,1,1,1,1,1,1]) (ez ⟨fb,0,none⟩ ⟨b1,0,none⟩ X.nodes.length b8 ⟨b3,0,none⟩ jj) (retQ prog f47 R) z:=λjj=>by
  refine Bq h hnz hI hj (by rw [←hF];exact hf) h8 (λu hu=>?_) jj
  rw [←hRR]
  exact ⟨rfl,hnz.new hu⟩
 have h4:∀ (jj:List Value),seqQ (λenv w=>Go.Eng.W prog (sub (aB f47) [1,1,1,1,1,1,1,0,1]) env (seqQ (λenv w=>Go.Eng.W prog (sub (aB f47) [1,1,1,1,1,1,1,1]) env (retQ prog f47 R) w) (retQ prog f47 R)) w) (seqQ (λenv w=>Go.Eng.W prog (sub (aB f47) [1,1,1,1,1,1,1,1]) env (retQ prog f47 R) w) (retQ prog f47 R)) .normal (ey ⟨fb,0,none⟩ ⟨b1,0,none⟩ X.nodes.length b8 ⟨b3,0,none⟩ false jj) z:=by
  intro jj
  refine bI ?_
  refine gx (P:=prog) (fn:=f47) (R:=R) (λ_ _=>rfl) ?_
  rw [mw]
  exact eC rfl (bI (h6 _))
 refine aI (λhp=>?_) (λ_=>h4 _)
 have e7:b7=true:=h7.2 (hI.ord.whole (Gv (i:=X.nodes.length) (by omega)))
 have e:(!b7)=false:=by rw [e7];rfl
 rw [e]
 exact h4 _
end Go.Proofs.YtegepanmkjemjaaGreat
namespace Go.Proofs.YtegepanmkjemjaaGreat
open Go.Eng C12
section
variable {cv:Conv}
def vZ (i:Nat) (s:Fab×Tk cv):Fab×Tk cv:=(s.1.setN i qz,s.2)
def stO (c i j:Nat) (s:Fab×Tk cv):Option (Fab×Tk cv):=if j=i then none else iR c j s
theorem xn {c i j:Nat} {s s':Fab×Tk cv} (h:stO c i j s=some s'):j≠i∧iR c j s=some s':=by
 unfold stO at h
 split at h
 ·cases h
 ·rename_i hj
  exact ⟨hj,h⟩
theorem HE {c i j:Nat} {s s':Fab×Tk cv} (hj:j≠i) (h:iR c j s=some s'):stO c i j s=some s':=by
 unfold stO
 rw [if_neg hj,h]
theorem Br (F:Fab) (i:Nat) (f:aP→aP):(F.setN i f).nodes=F.nodes.modify i f:=by
 unfold Fab.setN
 cases h:F.nodes[i]? with
 |none=>
  have hl:F.nodes.length≤i:=List.getElem?_eq_none_iff.1 h
  rw [List.modify_eq_self hl]
 |some n=>
  simp only
  apply List.ext_getElem?
  intro j
  rw [List.getElem?_set,List.getElem?_modify]
  by_cases hij:i=j
  ·subst hij
   have hl:i<F.nodes.length:=(List.getElem?_eq_some_iff.1 h).1
   rw [if_pos rfl,if_pos hl,h]
   simp
  ·rw [if_neg hij]
   simp [hij]
theorem C4 (F:Fab) (i:Nat) (f:aP→aP):F.setN i f={ F with nodes:=F.nodes.modify i f }:=by
 have h1:=Br F i f
 unfold Fab.setN at h1 ⊢
 split
 ·rename_i h
  rw [h] at h1
  simp only at h1
  rw [←h1]
 ·rename_i n h
  rw [h] at h1
  simp only at h1
  rw [←h1]
def qT (ns:List aP) (F:Fab):Fab:={ F with nodes:=ns }
theorem C5 (ns:List aP) (F:Fab) (c:Int):(qT ns F).take c=((F.take c).1,qT ns (F.take c).2)∧(F.take c).2.nodes=F.nodes:=by
 have hc:(qT ns F).cl c=F.cl c:=rfl
 unfold Fab.take
 rw [hc]
 cases F.cl c with
 |none=>exact ⟨rfl,rfl⟩
 |some C=>
  simp only
  split
  ·exact ⟨rfl,rfl⟩
  ·cases C.batch with
   |none=>exact ⟨rfl,rfl⟩
   |some ds=>
    simp only
    split
    ·exact ⟨rfl,rfl⟩
    ·exact ⟨rfl,rfl⟩
theorem C6 {ns:List aP} {F:Fab} (h:ns.length=F.nodes.length) (c:Int) (vs:List Verb):(qT ns F).post c vs=((F.post c vs).1,qT ns (F.post c vs).2)∧(F.post c vs).2.nodes=F.nodes:=by
 have hc:(qT ns F).cl c=F.cl c:=rfl
 have hn:(qT ns F).nodes.length=F.nodes.length:=h
 have hl:(qT ns F).lines=F.lines:=rfl
 unfold Fab.post
 rw [hc,hn,hl]
 cases F.cl c with
 |none=>exact ⟨rfl,rfl⟩
 |some C=>
  simp only
  split
  ·exact ⟨rfl,rfl⟩
  ·split
   ·exact ⟨rfl,rfl⟩
   ·split
    ·exact ⟨rfl,rfl⟩
    ·split
     ·exact ⟨rfl,rfl⟩
     ·split
      ·exact ⟨rfl,rfl⟩
      ·exact ⟨rfl,rfl⟩
theorem C7 {ns:List aP} {F:Fab} (h:ns.length=F.nodes.length) (t:Tk cv):turn (qT ns F) t=(qT ns (turn F t).1,(turn F t).2)∧(turn F t).1.nodes=F.nodes:=by
 have ha:(qT ns F).alive t.client=F.alive t.client:=rfl
 have hw:(qT ns F).waiting t.client=F.waiting t.client:=rfl
 obtain ⟨h1,h2⟩:=C5 ns F t.client
 unfold turn
 rw [ha,hw,h1]
 split
 ·exact ⟨rfl,rfl⟩
 ·unfold tB
  simp only
  obtain ⟨h3,h4⟩:=C6 (ns:=ns) (F:=(F.take t.client).2) (by rw [h2];exact h) (t.fed (F.take t.client).1).client (cv.next (t.fed (F.take t.client).1).job (t.fed (F.take t.client).1).got).1
  rw [h3]
  split
  ·exact ⟨rfl,h2⟩
  ·split
   ·exact ⟨rfl,h2⟩
   ·simp only
    split
    ·exact ⟨rfl,h4.trans h2⟩
    ·exact ⟨rfl,h4.trans h2⟩
theorem sV (F:Fab) (i:Nat):F.setN i qz=qT (F.nodes.modify i qz) F:=C4 F i qz
theorem C8 (F:Fab) (i:Nat) (t:Tk cv):turn (F.setN i qz) t=((turn F t).1.setN i qz,(turn F t).2):=by
 rw [sV]
 obtain ⟨h1,h2⟩:=C7 (ns:=F.nodes.modify i qz) (F:=F) (by simp) t
 rw [h1,sV,h2]
theorem Bs {c i j:Nat} (hj:j≠i) (F:Fab):stepL c j (F.setN i qz)=(stepL c j F).map λF'=>F'.setN i qz:=by
 rw [sV]
 unfold stepL
 have hc:(qT (F.nodes.modify i qz) F).clients=F.clients:=rfl
 have hn:(qT (F.nodes.modify i qz) F).nodes[j]?=F.nodes[j]?:=by
  show (F.nodes.modify i qz)[j]?=_
  rw [List.getElem?_modify]
  simp [Ne.symm hj]
 rw [hc,hn]
 cases F.clients[c]? with
 |none=>rfl
 |some C=>
  simp only
  cases C.lanes[j]? with
  |none=>rfl
  |some l=>
   cases hnd:F.nodes[j]? with
   |none=>rfl
   |some n=>
    simp only
    split
    ·rfl
    ·simp only [Option.map_some]
     rw [sV]
     congr 1
     unfold qT
     congr 1
     simp only
     apply List.ext_getElem?
     intro q
     rw [List.getElem?_set,List.getElem?_modify,List.getElem?_modify,List.getElem?_set]
     by_cases hq:j=q
     ·subst hq
      simp [Ne.symm hj]
     ·simp [hq]
theorem Bt {c i j:Nat} (hj:j≠i) (s:Fab×Tk cv):iR c j (vZ i s)=(iR c j s).map (vZ i):=by
 obtain ⟨F,t⟩:=s
 unfold iR vZ
 simp only
 rw [Bs hj]
 cases stepL c j F with
 |none=>rfl
 |some F'=>
  simp only [Option.map_some]
  rw [C8]
def yF (s:Fab×Tk cv):Fab×Tk cv:=turn s.1 s.2
variable {c i:Nat} {chk:Fab×Tk cv→Prop}
theorem OkP.fail {s:Fab×Tk cv} (h:OkP c s):OkP c (vZ i s):=by
 obtain ⟨F,t⟩:=s
 refine ⟨h.fine.setN' i λ_=>rfl,?_,h.cl⟩
 have hs:=h.solo
 show Solo c (F.setN i qz)
 rw [C4]
 exact ⟨hs.orph,hs.idle,hs.apart,λC hC=>by simpa using hs.lanes C hC⟩
end
end Go.Proofs.YtegepanmkjemjaaGreat
