/- A part of the proof. -/
import Derived.Test.YtafopfaomkklpaaGreatp10
set_option linter.unusedVariables false
namespace Go.Proofs.YtafopfaomkklpaaGreat
open Go.Eng
theorem Owns.noB {w:World} {e sz n cap b:Nat} {a:Option Addr} {xs cs:List Value} {T:TypeId} (h:Owns w e sz a n cap xs) (hb:Blk w b cs T) (hT:e≠T):¬ isB a b:=by
 rintro ⟨o,ho⟩
 rcases h.2 with ⟨h0,_⟩ | ⟨g,cur,he,hg,_⟩
 ·rw [h0] at ho;cases ho
 ·rw [he] at ho
  simp only [Option.some.injEq,Addr.mk.injEq] at ho
  have:=ho.1
  subst this
  exact hT (hg.uniq hb).2
theorem lX {b k:Nat} (h:isB (some ⟨b,0,none⟩) k):k=b:=by
 obtain ⟨o,ho⟩:=h
 simp at ho
 exact ho.1.symm
theorem pX {w:World} {e sz n cap:Nat} {a:Option Addr} {xs:List Value} (h:Owns w e sz a n cap xs) (hn:0<n):∃ g,a=some ⟨g,0,none⟩:=by
 rcases h.2 with ⟨_,h0,_⟩ | ⟨g,cur,he,_⟩
 ·omega
 ·exact ⟨g,he⟩
theorem AC (w:World) {lines:Nat} (h1:98≤lines) (h2:lines≤256):Does 70 [.int .i64 lines] w λv w'=>∃ r:bS,v=r.val∧pi w' lines r∧(∀ k,isB r.Words k→w.heap.size≤k)∧New w w':=by
 refine does Tryz.func70 ?_
 rw [pW]
 have hL:IntKind.i64.wrap ((lines:Int) * 8)=((lines * 8:Nat):Int):=by rw [w64 (by omega) (by omega)];omega
 rw [hL,show ((lines * 8:Nat):Int).toNat=lines * 8 from Int.toNat_natCast _]
 rintro b1 w1 hb1 hw1
 obtain ⟨hz1,hn1⟩:=aR hb1 hw1
 have hz1:Blk w1 b1 (aO.cells ⟨none,0,0,false⟩) TNd:=hz1
 clear hw1
 refine ⟨by omega,by omega,by omega,by omega,?_⟩
 rintro b w2 hb hw2
 obtain ⟨hz,hn⟩:=aR hb hw2
 have hz:U64B w2 b (lines * 8):=⟨List.replicate (lines * 8) 0,by rw [←Ax];exact hz,by simp,λx hx=>by rw [List.eq_of_mem_replicate hx];exact u0⟩
 clear hw2
 have hs:=hn1.size
 refine oG (vs:=aO.cells ⟨some ⟨b,0,none⟩,lines * 8,lines * 8,true⟩) (New.blk hn hz1) rfl (aO.single _) λw3 hz3 hk3=>?_
 refine aO.mk_ex ⟨some ⟨b,0,none⟩,lines * 8,lines * 8,true⟩ ⟨aH hz3 rfl,rfl,_,rfl,⟨b,rfl,rfl,rfl,hz.keep hk3 (hz.ne (New.blk hn hz1) (by decide))⟩,λk hk=>?_,(hn1.new hn).trans hk3 λk hlt e=>by omega⟩
 rw [lX hk]
 omega
theorem tB {w:World} {e sz n cap:Nat} {a:Option Addr} {xs:List Value} (h:Owns w e sz a n cap xs):a=none∨∃ g cur,a=some ⟨g,0,none⟩∧Blk w g cur e:=by
 rcases h.2 with ⟨h0,_⟩ | ⟨g,cur,he,hg,_⟩
 ·exact .inl h0
 ·exact .inr ⟨g,cur,he,hg⟩
theorem Owns.tr {w w':World} {e sz n cap:Nat} {a:Option Addr} {xs:List Value} (h:∀ b cs,Blk w b cs e→Blk w' b cs e) (ho:Owns w e sz a n cap xs):Owns w' e sz a n cap xs:=by
 refine ⟨ho.1,?_⟩
 rcases ho.2 with h0 | ⟨g,cur,he,hg,r⟩
 ·exact .inl h0
 ·exact .inr ⟨g,cur,he,h _ _ hg,r⟩
theorem U64B.tr {w w':World} {b n:Nat} (h:∀ b cs,Blk w b cs TU→Blk w' b cs TU) (hb:U64B w b n):U64B w' b n:=by
 obtain ⟨ws,h1,h2,h3⟩:=hb
 exact ⟨ws,h _ _ h1,h2,h3⟩
def slcs (x:Option Addr×Nat×Nat):List Value:=[.slice x.1 x.2.1 x.2.2]
theorem xQ (x:Option Addr×Nat×Nat):∀ v ∈ slcs x,single v=true:=by
 intro v hv
 simp [slcs] at hv
 subst hv
 rfl
def DJ (n:Nat) (B:List (Nat×Nat)):List (Option Addr×Nat×Nat):=B.map λp=>(some ⟨p.1,0,none⟩,n,p.2)
def Cc (c:Nat) (i:Nat):bJ:=⟨c,1,i,none,0,0⟩
def pY (c n:Nat):List bJ:=(List.range n).map (Cc c)
def cli0:CliR:=⟨true,1,false,none,0,0,none,0,0,0,0⟩
def vp (n:Nat) (B:List (Nat×Nat)):List Value:=B.map λp=>.slice (some ⟨p.1,0,none⟩) n p.2
theorem wB (n:Nat) (B:List (Nat×Nat)):((DJ n B).map slcs).flatten=vp n B:=by
 induction B with
 |nil=>rfl
 |cons x l ih=>
  show slcs _++((DJ n l).map slcs).flatten=_
  rw [ih]
  rfl
def Cd (lines:Int) (na:Option Addr) (nn nc:Nat) (ca:Option Addr) (cn cc:Nat) (la:Option Addr) (ln lc:Nat):List Value:=[.int .i64 lines,.slice na nn nc,.slice ca cn cc,.slice la ln lc,.slice none 0 0]
theorem zy (c n:Nat):(pY c n).length=n:=by simp [pY]
theorem xR (c n:Nat):pY c (n+1)=pY c n++[Cc c n]:=by simp [pY,List.range_succ]
set_option maxHeartbeats 1000000 in
theorem DK {w:World} {fb:Nat} {lines:Int} {na:Option Addr} {n nc:Nat} {ca:Option Addr} {C cc:Nat} {lb lc:Nat} {Cl:List CliR} {xs:List Value} (hn:1≤n∧n≤5) {c:Nat} (hc:c<C) (hfab:Blk w fb (Cd lines na n nc ca C cc (some ⟨lb,0,none⟩) C lc) TFb)
  (hcl:Owns w TCl 7 ca C cc (Cl.map CliR.cells).flatten) (hinc:∀ r ∈ Cl,r.Inc=1) (hlv:Owns w TSPr 1 (some ⟨lb,0,none⟩) C lc xs) :
  Does 71 [.pointer (some ⟨fb,0,none⟩),.int .i64 c] w λv w'=>v=.tuple #[]∧∃ pb pc,Owns w' TPr 4 (some ⟨pb,0,none⟩) n pc ((pY c n).map bJ.cells).flatten∧w.heap.size≤pb∧Keep (λk=>k=lb) w w'∧Owns w' TSPr 1 (some ⟨lb,0,none⟩) C lc (xs.set c (.slice (some ⟨pb,0,none⟩) n pc)):=by
 refine does Tryz.func71 ?_
 rw [mC]
 obtain ⟨inf,hi,hz,hsz,hby⟩:=nV (T:=TPr) (z:=.agg #[.int .i64 0,.int .i64 0,.int .i64 0,.slice none 0 0]) (n:=4) (m:=48) (by kernel_rfl)
 have hCl:Cl.length=C:=by have:=hcl.1;rw [j9 CliR.len] at this;omega
 refine aW mix (λm env u=>∃ (i:Nat) (a:Option Addr) (cap:Nat) (jj:List Value),m=n - i∧i≤n∧env=dJ ⟨fb,0,none⟩ c a i cap i jj∧New w u∧Owns u TPr 4 a i cap ((pY c i).map bJ.cells).flatten∧∀ k,isB a k→w.heap.size≤k) n
  ⟨0,none,0,_,by omega,by omega,rfl,Keep.refl _ _,Owns.nil _ _ _,λk hk=>absurd hk noB⟩ ?_
 rintro m env u ⟨i,a,cap,jj,rfl,hi',rfl,hnu,hown,hfr⟩
 rw [iT]
 have hfu:=New.blk hnu hfab
 refine ⟨_,_,_,hfu.cell (i:=1) rfl,aD (λhp=>?_) (λhp=>?_)⟩
 ·have hlt:i<n:=by omega
  obtain ⟨cb,rfl⟩:=pX hcl (by omega)
  have hg:Cl[c]?=some Cl[c]:=List.getElem?_eq_getElem (by omega)
  have hclu:=Owns.new hnu hcl
  have e7:0+(c:Int).toNat * 7+1=c * 7+1:=by omega
  refine ⟨_,_,_,hfu.cell (i:=2) rfl,bI (by omega) (by omega) ⟨Cl[c].Inc,?_,?_⟩⟩
  ·rw [show (⟨cb,0+(c:Int).toNat * 7,none⟩:Addr).off+1=c * 7+1 by show 0+(c:Int).toNat * 7+1=_;omega]
   exact Owns.row CliR.len hclu hg (j:=1) rfl
  rintro b1 u1 hb1 hu1
  obtain ⟨hz1,hn1⟩:=aR hb1 hu1
  have hz1:Blk u1 b1 (bJ.cells ⟨c,Cl[c].Inc,i,none,0,0⟩) TPr:=hz1
  rw [hinc _ (List.getElem_mem _)] at hz1
  clear hu1
  refine lR (cells:=bJ.cells) bJ.len bJ.single Tryz.underlying158 hi hz (by rw [hsz];rfl) hsz (by omega) (by omega) (Owns.new hn1 hown) (s:=some ⟨b1,0,none⟩) (m:=1) (c:=1) (l2:=[Cc c i]) (fM hz1 (by simp [Cc])) rfl (by omega) λap cap' u2 ho2 hk2 hap=>?_
  have s1:=hn1.size
  have s0:=hnu.size
  rw [w64 (x:=(i:Int)+1) (by omega) (by omega)]
  refine ⟨n - (i+1),by omega,i+1,ap,cap',_,rfl,by omega,rfl,(hnu.new hn1).trans hk2 λk hlt e=>by have:=hfr k e;omega,?_,λk hk=>?_⟩
  ·rw [xR];exact ho2
  ·rcases hap k hk with e | e
   ·exact hfr k e
   ·omega
 ·have hin:i=n:=by omega
  subst hin
  rw [jX]
  obtain ⟨pb,rfl⟩:=pX hown (by omega)
  have hlu:=Owns.new hnu hlv
  have hxl:xs.length=C:=by have:=hlv.1;omega
  have hg:xs[c]?=some xs[c]:=List.getElem?_eq_getElem (by omega)
  have e1:0+(c:Int).toNat * 1=c:=by omega
  refine ⟨_,_,_,hfu.cell (i:=3) rfl,bI (by omega) (by omega) ⟨⟨_,by rw [e1];exact Owns.cell hlu hg⟩,by rw [e1];exact Owns.frozen hlu,?_⟩⟩
  rintro u2 hu2
  rw [e1] at hu2
  have hk2:Keep (λk=>k=lb) u u2:=by rw [hu2];exact aZ _ _ _ _
  obtain ⟨cur,hbl,_⟩:=Owns.blk hlu
  have hne:=Owns.noB hown hbl (by decide)
  refine ⟨rfl,pb,cap,Owns.keep hk2 hown λk hk e=>hne (by rw [←e];exact hk),hfr pb ⟨0,rfl⟩,(Keep.of_new hnu).trans hk2 λ_ _ h=>h,?_⟩
  rw [hu2]
  exact Owns.setCell hlu (by omega) _
structure Bld (w0 u:World) (fb lines:Nat) (N:List bS) (nb nc:Nat) (ca:Option Addr) (cc:Nat) (la:Option Addr) (lc:Nat) (B:List (Nat×Nat)):Prop where
 fab:Blk u fb (Cd lines (some ⟨nb,0,none⟩) N.length nc ca B.length cc la B.length lc) TFb
 nodes:Owns u TNd 2 (some ⟨nb,0,none⟩) N.length nc (N.map aO.cells).flatten
 nok:∀ r ∈ N,pi u lines r
 clients:Owns u TCl 7 ca B.length cc ((List.replicate B.length cli0).map CliR.cells).flatten
 live:Owns u TSPr 1 la B.length lc (vp N.length B)
 pairs:∀ (c:Nat) (p:Nat×Nat),B[c]?=some p→Owns u TPr 4 (some ⟨p.1,0,none⟩) N.length p.2 ((pY c N.length).map bJ.cells).flatten
 inj:∀ (c d:Nat) (p q:Nat×Nat),B[c]?=some p→B[d]?=some q→p.1=q.1→c=d
 new:New w0 u
 old:w0.heap.size≤fb∧w0.heap.size≤nb∧(∀ k,isB ca k→w0.heap.size≤k)∧(∀ k,isB la k→w0.heap.size≤k)∧(∀ p ∈ B,w0.heap.size≤p.1)∧∀ r ∈ N,∀ k,isB r.Words k→w0.heap.size≤k
set_option maxHeartbeats 4000000 in
theorem Fi (w:World) {n C lines:Nat} (hn:1≤n∧n≤5) (hC:1≤C∧C≤6) (hl:98≤lines∧lines≤256):Does 23 [.int .i64 n,.int .i64 C,.int .i64 lines] w λv w'=>∃ fb N nb nc ca cc la lc B,v=.pointer (some ⟨fb,0,none⟩)∧N.length=n∧B.length=C∧Bld w w' fb lines N nb nc ca cc la lc B:=by
 refine does Tryz.func23 ?_
 rw [sP]
 rintro fb w1 hb1 hw1
 obtain ⟨hz1,hn1⟩:=aR hb1 hw1
 have hz1:Blk w1 fb (Cd lines none 0 0 none 0 0 none 0 0) TFb:=hz1
 clear hw1
 have hfb:w.heap.size≤fb:=by omega
 obtain ⟨infN,hiN,hzN,hszN,hbyN⟩:=nV (T:=TNd) (z:=.agg #[.slice none 0 0,.bool false]) (n:=2) (m:=32) (by kernel_rfl)
 obtain ⟨infC,hiC,hzC,hszC,hbyC⟩:=nV (T:=TCl) (z:=.agg #[.bool false,.int .i64 0,.bool false,.slice none 0 0,.slice none 0 0,.int .i64 0,.int .i64 0]) (n:=7) (m:=88) (by kernel_rfl)
 obtain ⟨infL,hiL,hzL,hszL,hbyL⟩:=nV (T:=TSPr) (z:=.slice none 0 0) (n:=1) (m:=24) (by kernel_rfl)
 refine aW mix (λm env u=>∃ (i:Nat) (N:List bS) (a:Option Addr) (cap:Nat) (jj:List Value),m=n - i∧i≤n∧env=gA n C lines ⟨fb,0,none⟩ i jj∧New w u∧N.length=i∧Blk u fb (Cd lines a i cap none 0 0 none 0 0) TFb∧Owns u TNd 2 a i cap (N.map aO.cells).flatten∧(∀ k,isB a k→w.heap.size≤k)∧(∀ r ∈ N,pi u lines r)∧∀ r ∈ N,∀ k,isB r.Words k→w.heap.size≤k) n
  ⟨0,[],none,0,_,by omega,by omega,rfl,hn1,rfl,hz1,Owns.nil _ _ _,(λk hk=>absurd hk noB),by simp,by simp⟩ ?_
 clear hz1
 rintro m env u ⟨i,N,a,cap,jj,rfl,hi,rfl,hnu,hNl,hfab,hown,hfr,hnok,hnfr⟩
 rw [ny]
 have hsn:=hnu.size
 refine aD (λhp=>?_) (λhp=>?_)
 ·rintro u1 hu1
  have hn1':New u u1:=by rw [hu1];exact aT _
  clear hu1
  have hfab1:=New.blk hn1' hfab
  refine ⟨λy=>New u1 y,Keep.refl _ _,_,_,_,λy hy=>(New.blk hy hfab1).cell (i:=1) rfl,?_⟩
  refine aC (AC u1 hl.1 hl.2) ?_
  rintro v u2 ⟨r,rfl,hr,hrf,hn2⟩
  refine aO.mk_ex r ⟨rfl,hn2,?_⟩
  rintro b1 u3 hb1 hu3
  obtain ⟨hz3,hn3⟩:=aR hb1 hu3
  have hz3:Blk u3 b1 r.cells TNd:=hz3
  clear hu3
  have hn03:=(hnu.new hn1').new (hn2.new hn3)
  refine ⟨hn2.new hn3,?_⟩
  have hfab3:=New.blk (hn2.new hn3) hfab1
  have hown3:=Owns.new (hn1'.new (hn2.new hn3)) hown
  refine lR (cells:=aO.cells) aO.len aO.single Tryz.underlying155 hiN hzN (by rw [hszN];rfl) hszN (by omega) (by omega) hown3 (s:=some ⟨b1,0,none⟩) (m:=1) (c:=1) (l2:=[r]) (fM hz3 (by simp)) rfl (by omega) λap cap' u4 ho4 hk4 hap=>?_
  have hfn:=Owns.noB hown3 hfab3 (by decide)
  have hfab4:=hk4.blk hfab3 hfn
  refine ⟨⟨_,hfab4.cell (i:=1) rfl⟩,hfab4.frozen,?_⟩
  rintro u5 hu5
  have hfab5:=hfab4.setCell (i:=1) (.slice ap (i+1) cap')
  have hk5:Keep (λk=>k=fb) u4 u5:=by rw [hu5];exact aZ _ _ _ _
  have hu5':u5=u4.setCell ⟨fb,1,none⟩ (.slice ap (i+1) cap'):=hu5
  rw [←hu5'] at hfab5
  clear hu5 hu5'
  have hn04:New w u4:=hn03.trans hk4 λk hlt e=>by have:=hfr k e;omega
  have hn05:New w u5:=hn04.trans hk5 λk hlt e=>by omega
  have s3:=hn03.size
  have hap':∀ k,isB ap k→w.heap.size≤k:=λk hk=>by
   rcases hap k hk with e | e
   ·exact hfr k e
   ·omega
  have kp:∀ {b m:Nat},U64B u3 b m→U64B u5 b m:=λh=>by
   have h4:=h.keep hk4 λe=>by
    obtain ⟨ws,hb,_⟩:=h
    exact Owns.noB hown3 hb (by decide) e
   exact h4.keep hk5 λe=>(h4.ne hfab4 (by decide)) e
  have nk:∀ {q:bS},pi u3 lines q→pi u5 lines q:=λh=>by
   obtain ⟨b,q1,q2,q3,q4⟩:=h
   exact ⟨b,q1,q2,q3,kp q4⟩
  have nn:∀ {q:bS} {x y:World},New x y→pi x lines q→pi y lines q:=λhx h=>by
   obtain ⟨b,q1,q2,q3,q4⟩:=h
   exact ⟨b,q1,q2,q3,q4.new hx⟩
  rw [w64 (x:=(i:Int)+1) (by omega) (by omega)]
  refine ⟨n - (i+1),by omega,i+1,N++[r],ap,cap',_,rfl,by omega,rfl,hn05,by simp [hNl],hfab5,Owns.keep hk5 ho4 λk hk e=>Owns.noB ho4 hfab4 (by decide) (by rw [←e];exact hk),hap',λq hq=>?_,λq hq=>?_⟩
  ·rcases List.mem_append.1 hq with hq | hq
   ·exact nk (nn (hn1'.new (hn2.new hn3)) (hnok q hq))
   ·rw [List.mem_singleton.1 hq];exact nk (nn hn3 hr)
  ·have s1:=hn1'.size
   rcases List.mem_append.1 hq with hq | hq
   ·exact hnfr q hq
   ·rw [List.mem_singleton.1 hq];exact λk hk=>by have:=hrf k hk;omega
 have hin:i=n:=by omega
 subst hin
 rw [px]
 obtain ⟨nb,rfl⟩:=pX hown (by omega)
 subst hNl
 have hnbf:=hfr nb ⟨0,rfl⟩
 refine aW mix (λm env z=>∃ (j:Nat) (ca:Option Addr) (cc:Nat) (la:Option Addr) (lc:Nat) (B:List (Nat×Nat)) (jj:List Value),m=C - j∧j≤C∧env=gB C ⟨fb,0,none⟩ j jj∧B.length=j∧Bld w z fb lines N nb cap ca cc la lc B) C
  ⟨0,none,0,none,0,[],_,by omega,by omega,rfl,rfl,⟨hfab,hown,hnok,Owns.nil _ _ _,Owns.nil _ _ _,(λc p h=>by simp at h),(λc d p q h=>by simp at h),hnu,⟨hfb,hnbf,(λk hk=>absurd hk noB),(λk hk=>absurd hk noB),by simp,hnfr⟩⟩⟩ ?_
 clear hp hnok hown hfab hnu hsn hfr
 rintro m env z ⟨j,ca,cc,la,lc,B,jj,rfl,hj,rfl,hBl,hB⟩
 subst hBl
 obtain ⟨o1,o2,o3,o4,o5,o6⟩:=hB.old
 have hsz:=hB.new.size
 rw [nz]
 refine aD (λhp=>⟨_,_,_,hB.fab.cell (i:=2) rfl,?_⟩) (λhp=>?_)
 ·have hlt:B.length<C:=by omega
  rintro b1 z1 hb1 hz1'
  obtain ⟨hc1,hn1'⟩:=aR hb1 hz1'
  have hc1:Blk z1 b1 cli0.cells TCl:=hc1
  clear hz1'
  have hfab1:=New.blk hn1' hB.fab
  have hcl1:=Owns.new hn1' hB.clients
  have hln1:=Owns.new hn1' hB.live
  have hnd1:=Owns.new hn1' hB.nodes
  refine lR (cells:=CliR.cells) CliR.len CliR.single Tryz.underlying156 hiC hzC (by rw [hszC];rfl) hszC (by omega) (by omega) hcl1 (s:=some ⟨b1,0,none⟩) (m:=1) (c:=1) (l2:=[cli0]) (fM hc1 (by simp)) rfl (by omega) λap cap' z2 ho2 hk2 hap=>?_
  have hfab2:=hk2.blk hfab1 (Owns.noB hcl1 hfab1 (by decide))
  refine ⟨⟨_,hfab2.cell (i:=2) rfl⟩,hfab2.frozen,?_⟩
  rintro z3 hz3
  have hfab3:=hfab2.setCell (i:=2) (.slice ap (B.length+1) cap')
  have hk3:Keep (λk=>k=fb) z2 z3:=by rw [hz3];exact aZ _ _ _ _
  have hz3':z3=z2.setCell ⟨fb,2,none⟩ (.slice ap (B.length+1) cap'):=hz3
  rw [←hz3'] at hfab3
  clear hz3 hz3'
  refine ⟨_,_,_,hfab3.cell (i:=3) rfl,?_⟩
  rintro b2 z4 hb2 hz4
  obtain ⟨hc4,hn4⟩:=aR hb2 hz4
  have hc4:Blk z4 b2 [.slice none 0 0] TSPr:=hc4
  clear hz4
  have hfab4:=New.blk hn4 hfab3
  have hln4:Owns z4 TSPr 1 la B.length lc (vp N.length B):=by
   have a2:=Owns.keep hk2 hln1 λk hk e=>by
    rcases tB hln1 with h0 | ⟨g,cur,rfl,hg⟩
    ·rw [h0] at hk;exact noB hk
    ·rw [lX hk] at e;exact Owns.noB hcl1 hg (by decide) e
   have a3:=Owns.keep hk3 a2 λk hk e=>Owns.noB a2 hfab2 (by decide) (by rw [←e];exact hk)
   exact Owns.new hn4 a3
  have ho4:Owns z4 TCl 7 ap (B.length+1) cap' _:=Owns.new hn4 (Owns.keep hk3 ho2 λk hk e=>Owns.noB ho2 hfab2 (by decide) (by rw [←e];exact hk))
  refine lR (cells:=slcs) (sz:=1) (S:=157) (e:=TSPr) (λ_=>rfl) xQ Tryz.underlying157 hiL hzL (by rw [hszL];rfl) hszL (by omega) (by omega) (l:=DJ N.length B) (by rw [wB];exact hln4) (s:=some ⟨b2,0,none⟩) (m:=1) (c:=1) (l2:=[(none,0,0)]) (fM hc4 (by simp [slcs])) rfl (by omega) λap1 cap1 z5 ho5 hk5 hap1=>?_
  rw [List.map_append,List.flatten_append,wB] at ho5
  have ho5:Owns z5 TSPr 1 ap1 (B.length+1) cap1 (vp N.length B++[.slice none 0 0]):=ho5
  obtain ⟨lb,rfl⟩:=pX ho5 (by omega)
  have hfab5:=hk5.blk hfab4 (Owns.noB hln4 hfab4 (by decide))
  refine ⟨⟨_,hfab5.cell (i:=3) rfl⟩,hfab5.frozen,?_⟩
  rintro z6 hz6
  have hfab6:=hfab5.setCell (i:=3) (.slice (some ⟨lb,0,none⟩) (B.length+1) cap1)
  have hk6:Keep (λk=>k=fb) z5 z6:=by rw [hz6];exact aZ _ _ _ _
  have hz6':z6=z5.setCell ⟨fb,3,none⟩ (.slice (some ⟨lb,0,none⟩) (B.length+1) cap1):=hz6
  rw [←hz6'] at hfab6
  clear hz6 hz6'
  have ho6:=Owns.keep hk6 ho5 λk hk e=>Owns.noB ho5 hfab5 (by decide) (by rw [←e];exact hk)
  have hcl6:Owns z6 TCl 7 ap (B.length+1) cap' ((List.replicate B.length cli0++[cli0]).map CliR.cells).flatten:=by
   have a5:=Owns.keep hk5 ho4 λk hk e=>by
    rcases tB ho4 with h0 | ⟨g,cur,rfl,hg⟩
    ·rw [h0] at hk;exact noB hk
    ·rw [lX hk] at e;exact Owns.noB hln4 hg (by decide) e
   exact Owns.keep hk6 a5 λk hk e=>Owns.noB a5 hfab5 (by decide) (by rw [←e];exact hk)
  refine aC (DK (n:=N.length) hn (c:=B.length) (C:=B.length+1) (by omega) (na:=some ⟨nb,0,none⟩) (nc:=cap) (ca:=ap) (cc:=cap') (lb:=lb) (lc:=cap1) (lines:=lines) hfab6 hcl6 (λr hr=>by
   rcases List.mem_append.1 hr with hr | hr
   ·rw [List.eq_of_mem_replicate hr];rfl
   ·rw [List.mem_singleton.1 hr];rfl) ho6) ?_
  rintro v z7 ⟨rfl,pb,pc,hpp,hpb,hk7,hlv7⟩
  have hset:(vp N.length B++[Value.slice none 0 0]).set B.length (.slice (some ⟨pb,0,none⟩) N.length pc)=vp N.length (B++[(pb,pc)]):=by
   unfold vp
   rw [List.map_append,List.set_append_right _ _ (by simp),List.length_map,Nat.sub_self]
   rfl
  rw [hset] at hlv7
  have tr:∀ {T:TypeId},T≠TCl→T≠TFb→T≠TSPr→∀ (b:Nat) (cs:List Value),Blk z b cs T→Blk z7 b cs T:=by
   intro T t1 t2 t3 b cs h
   have a1:=New.blk hn1' h
   have a2:=hk2.blk a1 (Owns.noB hcl1 a1 (λe=>t1 e.symm))
   have a3:=hk3.blk a2 (λe=>a2.ne hfab2 t2 e)
   have a4:=New.blk hn4 a3
   have a5:=hk5.blk a4 (Owns.noB hln4 a4 (λe=>t3 e.symm))
   have a6:=hk6.blk a5 (λe=>a5.ne hfab5 t2 e)
   exact hk7.blk a6 (λe=>Owns.noB ho6 a6 (λe=>t3 e.symm) ⟨0,by rw [e]⟩)
  have s1:=hn1'.size
  have hap':∀ k,isB ap k→w.heap.size≤k:=λk hk=>by
   rcases hap k hk with e | e
   ·exact o3 k e
   ·omega
  have n2:New w z2:=(hB.new.new hn1').trans hk2 λk hlt e=>by have:=o3 k e;omega
  have n3:New w z3:=n2.trans hk3 λk hlt e=>by omega
  have n4:=n3.new hn4
  have s4:=n4.size
  have hap1':∀ k,isB (some ⟨lb,0,none⟩) k→w.heap.size≤k:=λk hk=>by
   rcases hap1 k hk with e | e
   ·exact o4 k e
   ·omega
  have n5:New w z5:=n4.trans hk5 λk hlt e=>by have:=o4 k e;omega
  have n6:New w z6:=n5.trans hk6 λk hlt e=>by omega
  have n7:New w z7:=n6.trans hk7 λk hlt e=>by have:=hap1' lb ⟨0,rfl⟩;omega
  have s6:=n6.size
  have s36:z3.heap.size≤z6.heap.size:=by have:=hn4.size;have:=hk5.size;have:=hk6.size;omega
  have szz:z.heap.size≤z6.heap.size:=by have:=hk2.size;have:=hk3.size;omega
  rw [w64 (x:=(B.length:Int)+1) (by omega) (by omega)]
  refine ⟨rfl,C - (B.length+1),by omega,B.length+1,ap,cap',some ⟨lb,0,none⟩,cap1,B++[(pb,pc)],_,rfl,by omega,rfl,by simp,?_⟩
  have hBl1:(B++[(pb,pc)]).length=B.length+1:=by simp
  have pbl:∀ (c:Nat) (p:Nat×Nat),B[c]?=some p→p.1<z.heap.size:=λc p h=>by
   obtain ⟨g,cur,he,hg⟩:=(tB (hB.pairs c p h)).resolve_left (by simp)
   simp only [Option.some.injEq,Addr.mk.injEq] at he
   rw [he.1]
   exact hg.lt
  have hget:∀ (c:Nat) (p:Nat×Nat),(B++[(pb,pc)])[c]?=some p→B[c]?=some p∨(c=B.length∧p=(pb,pc)):=λc p h=>by
   by_cases hc:c<B.length
   ·rw [List.getElem?_append_left hc] at h;exact .inl h
   ·rw [List.getElem?_append_right (by omega)] at h
    have:=cN h
    simp at this
    have e:c - B.length=0:=by omega
    rw [e] at h
    simp at h
    exact .inr ⟨by omega,h.symm⟩
  refine ⟨?_,Owns.tr (tr (by decide) (by decide) (by decide)) hB.nodes,λr hr=>?_,?_,by rw [hBl1];exact hlv7,λc p h=>?_,λc d p q h1 h2 e=>?_,n7,⟨o1,o2,hap',hap1',λp hp'=>?_,o6⟩⟩
  ·rw [hBl1]
   exact hk7.blk hfab6 (λe=>Owns.noB ho6 hfab6 (by decide) ⟨0,by rw [e]⟩)
  ·obtain ⟨b,q1,q2,q3,q4⟩:=hB.nok r hr
   exact ⟨b,q1,q2,q3,U64B.tr (tr (by decide) (by decide) (by decide)) q4⟩
  ·rw [hBl1,List.replicate_succ']
   exact Owns.keep hk7 hcl6 λk hk e=>by
    rcases tB hcl6 with h0 | ⟨g,cur,rfl,hg⟩
    ·rw [h0] at hk;exact noB hk
    ·rw [lX hk] at e;exact Owns.noB ho6 hg (by decide) ⟨0,by rw [e]⟩
  ·rcases hget c p h with h | ⟨rfl,rfl⟩
   ·exact Owns.tr (tr (by decide) (by decide) (by decide)) (hB.pairs c p h)
   ·exact hpp
  ·rcases hget c p h1 with h1 | ⟨rfl,rfl⟩<;>rcases hget d q h2 with h2 | ⟨rfl,rfl⟩
   ·exact hB.inj c d p q h1 h2 e
   ·have:=pbl c p h1;simp only at e;omega
   ·have:=pbl d q h2;simp only at e;omega
   ·rfl
  ·rcases List.mem_append.1 hp' with hp' | hp'
   ·exact o5 p hp'
   ·rw [List.mem_singleton.1 hp'];simp only;omega
 ·rw [py]
  exact ⟨fb,N,nb,cap,ca,cc,la,lc,B,rfl,rfl,by omega,hB⟩
theorem Ce {n:Nat} {B:List (Nat×Nat)} {F:Fa} (h1:∀ c,F.pb c=(B.getD c (0,0)).1) (h2:∀ c,F.pc c=(B.getD c (0,0)).2):vp n B=Au F n B.length:=by
 apply List.ext_getElem?
 intro c
 unfold vp Au
 rw [List.getElem?_map,List.getElem?_map]
 by_cases hc:c<B.length
 ·rw [List.getElem?_eq_getElem hc,List.getElem?_range hc]
  show some _=some _
  dsimp only
  rw [h1,h2,List.getD_eq_getElem?_getD,List.getElem?_eq_getElem hc]
  rfl
 ·rw [List.getElem?_eq_none (by omega),List.getElem?_eq_none (by simp;omega)]
  rfl
theorem Bld.fabAt {w0 u:World} {fb lines:Nat} {N:List bS} {nb nc:Nat} {ca:Option Addr} {cc:Nat} {la:Option Addr} {lc:Nat} {B:List (Nat×Nat)} (h:Bld w0 u fb lines N nb nc ca cc la lc B) (hn:1≤N.length∧N.length≤5) (hC:1≤B.length∧B.length≤6) (hl:98≤lines∧lines≤256) :
  ∃ F Cl P,cY u fb F N Cl P∧F.lines=lines∧Cl.length=B.length∧Idle N Cl P∧∀ k,F.own fb N Cl.length k→w0.heap.size≤k:=by
 obtain ⟨cb,rfl⟩:=pX h.clients (by omega)
 obtain ⟨lb,rfl⟩:=pX h.live (by omega)
 obtain ⟨o1,o2,o3,o4,o5,o6⟩:=h.old
 have hrl:(List.replicate B.length cli0).length=B.length:=by simp
 have hget:∀ c,c<B.length→B[c]?=some (B.getD c (0,0)):=λc hc=>by rw [List.getD_eq_getElem?_getD,List.getElem?_eq_getElem hc];rfl
 refine ⟨⟨lines,nb,nc,cb,cc,lb,lc,λc=>(B.getD c (0,0)).1,λc=>(B.getD c (0,0)).2⟩,List.replicate B.length cli0,λc=>pY c N.length,⟨by rw [hrl];exact h.fab,h.nodes,h.nok,by rw [hrl];exact h.clients,λr hr=>by rw [List.eq_of_mem_replicate hr];rfl,?_,λc hc=>?_,λc d hc hd e=>?_,hn,by rw [hrl];exact hC,hl⟩,rfl,hrl,⟨λr hr=>by rw [List.eq_of_mem_replicate hr];rfl,λc hc i p hp=>?_⟩,λk hk=>?_⟩
 ·rw [hrl,←Ce (B:=B) (λ_=>rfl) (λ_=>rfl)]
  exact h.live
 ·rw [hrl] at hc
  exact ⟨h.pairs c _ (hget c hc),zy c _⟩
 ·rw [hrl] at hc hd
  exact h.inj c d _ _ (hget c hc) (hget d hd) e
 ·have hi:=cN hp
  simp only [pY,List.length_map,List.length_range] at hi
  simp only [pY,List.getElem?_map,List.getElem?_range hi,Option.map_some,Option.some.injEq] at hp
  subst hp
  exact ⟨rfl,rfl,rfl⟩
 ·rcases hk with rfl | rfl | rfl | rfl | ⟨c,hc,rfl⟩ | ⟨r,hr,hb⟩
  ·exact o1
  ·exact o2
  ·exact o3 _ ⟨0,rfl⟩
  ·exact o4 _ ⟨0,rfl⟩
  ·rw [hrl] at hc
   exact o5 _ (List.mem_of_getElem? (hget c hc))
  ·exact o6 r hr k hb
theorem cY.reNode {w w':World} {fb:Nat} {F:Fa} {N N':List bS} {Cl:List CliR} {P:Nat→List bJ} (h:cY w fb F N Cl P) (hk:Keep (λk=>k=F.nb) w w') (hl:N'.length=N.length) (hn:Owns w' TNd 2 (some ⟨F.nb,0,none⟩) N'.length F.nc (N'.map aO.cells).flatten) (hok:∀ r ∈ N',pi w' F.lines r):cY w' fb F N' Cl P:=by
 obtain ⟨cur,hb,_⟩:=Owns.blk h.nodes
 have tr:∀ {T:TypeId},T≠TNd→∀ (b:Nat) (cs:List Value),Blk w b cs T→Blk w' b cs T:=λht b cs h=>hk.blk h λe=>h.ne hb ht e
 refine ⟨by rw [hl];exact tr (by decide) _ _ h.fab,hn,hok,Owns.tr (tr (by decide)) h.clients,h.alive,by rw [hl];exact Owns.tr (tr (by decide)) h.live,λc hc=>?_,h.inj,by rw [hl];exact h.n1,h.c1,h.ln⟩
 rw [hl]
 exact ⟨Owns.tr (tr (by decide)) (h.pairs c hc).1,(h.pairs c hc).2⟩
set_option maxHeartbeats 1000000 in
theorem Cf {w:World} {fb:Nat} {F:Fa} {N:List bS} {Cl:List CliR} {P:Nat→List bJ} (h:cY w fb F N Cl P):Does 24 [.pointer (some ⟨fb,0,none⟩)] w λv w'=>v=.tuple #[]∧∃ N',N'.length=N.length∧cY w' fb F N' Cl P∧Keep (λk=>k=F.nb) w w'∧∀ r ∈ N',∀ k,isB r.Words k→(∃ q ∈ N,isB q.Words k)∨w.heap.size≤k:=by
 refine does Tryz.func24 ?_
 rw [lW]
 have hl:=h.ln
 have hn5:=h.n1
 refine aW mix (λm env u=>∃ (i:Nat) (N':List bS) (jj:List Value),m=N.length - i∧i≤N.length∧env=dD ⟨fb,0,none⟩ i jj∧N'.length=N.length∧cY u fb F N' Cl P∧Keep (λk=>k=F.nb) w u∧∀ r ∈ N',∀ k,isB r.Words k→(∃ q ∈ N,isB q.Words k)∨w.heap.size≤k) N.length
  ⟨0,N,_,by omega,by omega,rfl,rfl,h,Keep.refl _ _,λr hr k hk=>.inl ⟨r,hr,hk⟩⟩ ?_
 rintro m env u ⟨i,N',jj,rfl,hi,rfl,hNl,hf,hk,hw⟩
 rw [iM]
 refine ⟨_,_,_,hf.fab.cell (i:=1) rfl,aD (λhp=>?_) (λhp=>⟨rfl,N',hNl,hf,hk,hw⟩)⟩
 have hlt:i<N'.length:=by omega
 rintro u1 hu1
 have hn1:New u u1:=by rw [hu1];exact aT _
 clear hu1
 have hf1:=hf.new hn1
 refine ⟨λy=>New u1 y,Keep.refl _ _,_,_,_,λy hy=>(New.blk hy hf1.fab).cell (i:=1) rfl,_,_,_,λy hy=>(New.blk hy hf1.fab).cell (i:=1) rfl,_,λy hy=>(New.blk hy hf1.fab).cell (i:=0) rfl,?_⟩
 refine aC (wA u1 _ hl.1 hl.2) ?_
 rintro v u2 ⟨b,rfl,hb,hbf,hn2⟩
 have hf2:=hf1.new hn2
 have hg:N'[i]?=some N'[i]:=List.getElem?_eq_getElem hlt
 have e2:0+(i:Int).toNat * 2=i * 2+0:=by omega
 refine ⟨_,_,_,rfl,hn2,bI (by omega) (by omega) ⟨⟨_,by rw [e2];exact Owns.row aO.len hf2.nodes hg (j:=0) rfl⟩,by rw [e2];exact Owns.frozen hf2.nodes,?_⟩⟩
 rintro u3 hu3
 rw [e2] at hu3
 have hk3:Keep (λk=>k=F.nb) u2 u3:=by rw [hu3];exact aZ _ _ _ _
 have hnd:=Owns.setRow aO.len hf2.nodes hg (j:=0) (r':=⟨some ⟨b,0,none⟩,F.lines * 8,F.lines * 8,N'[i].Up⟩) (v:=.slice (some ⟨b,0,none⟩) (F.lines * 8) (F.lines * 8)) (by omega) rfl
 rw [←hu3] at hnd
 obtain ⟨cur,hbl,_⟩:=Owns.blk hf2.nodes
 have hsu:=hk.size
 have hs1:=hn1.size
 rw [w64 (x:=(i:Int)+1) (by omega) (by omega)]
 refine ⟨N.length - (i+1),by omega,i+1,N'.set i ⟨some ⟨b,0,none⟩,F.lines * 8,F.lines * 8,N'[i].Up⟩,_,rfl,by omega,rfl,by rw [List.length_set];exact hNl,hf2.reNode hk3 (by rw [List.length_set]) (by rw [List.length_set];exact hnd) (λr hr=>?_),((hk.new hn1).new hn2).trans hk3 λ_ _ h=>h,λr hr k hb'=>?_⟩
 ·rcases List.mem_or_eq_of_mem_set hr with hr | rfl
  ·obtain ⟨b',q1,q2,q3,q4⟩:=hf2.nok r hr
   exact ⟨b',q1,q2,q3,q4.keep hk3 (q4.ne hbl (by decide))⟩
  ·exact ⟨b,rfl,rfl,rfl,hb.keep hk3 (hb.ne hbl (by decide))⟩
 ·rcases List.mem_or_eq_of_mem_set hr with hr | rfl
  ·exact hw r hr k hb'
  ·rw [lX hb'];exact .inr (by omega)
end Go.Proofs.YtafopfaomkklpaaGreat
