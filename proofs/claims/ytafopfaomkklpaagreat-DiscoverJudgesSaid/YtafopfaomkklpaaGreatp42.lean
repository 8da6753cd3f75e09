/- This claim proves that the law DiscoverJudges returns true for every input: replies are judged as the reference judges them. -/
import Derived.Test.YtafopfaomkklpaaGreatp34
import Derived.Test.YtafopfaomkklpaaGreatp41
import Derived.Test.YtafopfaomkklpaaGreatp20
import Derived.Test.YtafopfaomkklpaaGreatp15
import Derived.Test.YtafopfaomkklpaaGreatp05
import Derived.Test.YtafopfaomkklpaaGreatp02
set_option linter.unusedVariables false
namespace Go.Proofs.YtafopfaomkklpaaGreat
open Go.Proofs.Tryz
open Go.Eng
theorem tT (ws:List Int):∀ (k c:Nat) (acc l:List Int),iT ws k c acc=some l→l.length=acc.length
 | 0,c,acc,l,h=>by unfold iT at h;cases h;rfl
 |k+1,c,acc,l,h=>by
  unfold iT at h
  split at h
  ·cases h
  ·have:=tT ws k (c+1) _ l h
   rw [this,List.length_set]
theorem pP (L:Ctl):∀ (ms:List aB) (acc l:List Int),eW L ms acc=some l→l.length=acc.length
 | [],acc,l,h=>by unfold eW at h;cases h;rfl
 |m::ms,acc,l,h=>by
  unfold eW at h
  split at h
  ·exact pP L ms acc l h
  ·split at h
   ·exact pP L ms acc l h
   ·split at h
    ·cases h
    ·rename_i e
     rw [pP L ms _ l h,tT _ _ _ _ _ e]
theorem AT (n:Int) (ds:List Done):(qz n ds).boots.length≤ds.length∧(qz n ds).keys.length≤ds.length∧(qz n ds).doors.length≤6:=by
 have bad:∀ L:Ctl,L.length=ds.length→(badF L).boots.length≤ds.length∧(badF L).keys.length≤ds.length∧(badF L).doors.length≤6:=λL h=>by
  simp [badF,h]
 have err:∀ c,(Fnd.err c).boots.length≤ds.length∧(Fnd.err c).keys.length≤ds.length∧(Fnd.err c).doors.length≤6:=λc=>by simp [Fnd.err]
 unfold qz
 cases ha:nT n ds with
 |none=>exact err 6
 |some p=>
  obtain ⟨L,k⟩:=p
  have hL:L.length=ds.length:=by
   unfold nT at ha
   split at ha
   ·cases ha
   ·split at ha
    ·simp only [Option.some.injEq,Prod.mk.injEq] at ha
     rw [←ha.1,List.length_map]
    ·cases ha
  show (ite _ _ _:Fnd).boots.length≤_∧(ite _ _ _:Fnd).keys.length≤_∧(ite _ _ _:Fnd).doors.length≤6
  by_cases h1:k<jT n
  ·rw [if_pos h1];exact err 9
  rw [if_neg h1]
  by_cases h2:L.any dS=true
  ·rw [if_pos h2];exact err 14
  rw [if_neg h2]
  unfold uy
  by_cases h3:(kw (eS L) L).2=false
  ·rw [if_pos h3];simp [hL]
  rw [if_neg h3]
  unfold zA
  split
  ·exact bad L hL
  ·split
   ·exact bad L hL
   ·rename_i e
    have:=pP L _ _ _ e
    simp at this
    simp [hL,this]
def pQ (w:World) (x:Value) (w':World):Prop:=x=.bool true∧New w w'
structure Rep (u:World) (a:Option Addr) (n:Nat) (raw:List aY) (ds:List Done):Prop where
 len:n=raw.length
 rd:Rd u a (ke raw).flatten
 ds:Ds u raw ds
 few:raw.length≤8
theorem Rep.new {u z:World} {a:Option Addr} {n:Nat} {raw:List aY} {ds:List Done} (h:Rep u a n raw ds) (hn:New u z):Rep z a n raw ds:=⟨h.len,h.rd.new hn,h.ds.new hn,h.few⟩
set_option maxHeartbeats 1000000 in
theorem dj4 {w u:World} (hnu:New w u) (nodes:Int) {a:Option Addr} {n c:Nat} {raw:List aY} {ds:List Done} (h:Rep u a n raw ds) (jj:List Value) :
  W prog (sub (aA f4) [1,1,1,1]) (dE nodes a n c jj) (retQ prog f4 (pQ w)) u:=by
 refine ep (P:=prog) (fn:=f4) (R:=pQ w) (λ_ _=>rfl) ?_
 rw [jF]
 have hfew:=h.few
 have hdl:=h.ds.1
 rw [h.len]
 refine aH (Go.Mx.Gv u) ?_
 rintro x w1 ⟨rfl,hn1⟩
 have h1:=h.new hn1
 refine ⟨_,rfl,cP rfl ?_⟩
 refine aH (EF h1.rd h1.ds (by omega) nodes) ?_
 rintro x w2 ⟨r,rfl,hr,hn2⟩
 have h2:=h1.new hn2
 refine aC.mk_ex r ⟨rfl,?_⟩
 refine aH (C4 h2.rd h2.ds (by omega) nodes) ?_
 rintro x w3 ⟨q,rfl,hq,hn3⟩
 refine aD.mk_ex q ⟨rfl,?_⟩
 have hlen:=AT nodes ds
 refine aH (FW (hr.1.new hn3) hq.1 (by omega) (by omega) (by omega)) ?_
 rintro x w4 ⟨rfl,hn4⟩
 exact ⟨_,rfl,rfl,hnu.new (hn1.new (hn2.new (hn3.new hn4)))⟩
def AllD (u:World) (Av:Nat→Prop) (raw:List aY):Prop:=∀ d ∈ raw,∃ x,nE u d x∧(x.words=[]∨∀ k,isB d.Words k→¬ Av k)
theorem AllD.ds {u:World} {Av:Nat→Prop}:∀ {raw:List aY},AllD u Av raw→∃ ds,Ds u raw ds
 | [],_=>⟨[],rfl,λi v x h=>by simp at h⟩
 |d::raw,h=>by
  obtain ⟨ds,h1,h2⟩:=AllD.ds (raw:=raw) λd' hd=>h d' (List.mem_cons_of_mem _ hd)
  obtain ⟨x,hx,_⟩:=h d (List.mem_cons_self ..)
  refine ⟨x::ds,by simp [h1],λi v y hv hy=>?_⟩
  cases i with
  |zero=>
   simp at hv hy
   subst hv hy
   exact hx
  |succ i=>exact h2 i v y (by simpa using hv) (by simpa using hy)
theorem nE.keep {u z:World} {M:Nat→Prop} {d:aY} {x:Done} (h:nE u d x) (hk:Keep M u z) (ho:x.words=[]∨∀ k,k<u.heap.size→isB d.Words k→¬ M k):nE z d x:=by
 refine ⟨h.code,h.len,?_,h.wf⟩
 rcases ho with e | ho
 ·rw [e];exact .inl rfl
 ·exact lD hk h.rd ho
theorem AllD.keep {u z:World} {M Av:Nat→Prop} {raw:List aY} (h:AllD u Av raw) (hk:Keep M u z) (hM:∀ k,k<u.heap.size→M k→Av k):AllD z Av raw:=λd hd=>by
 obtain ⟨x,hx,ho⟩:=h d hd
 exact ⟨x,hx.keep hk (ho.imp id λho k hlt hb hm=>ho k hb (hM k hlt hm)),ho⟩
theorem DnAt.all {u:World} {Av:Nat→Prop} {d:aY} (h:DnAt u Av d):∃ x,nE u d x∧(x.words=[]∨∀ k,isB d.Words k→¬ Av k):=by
 obtain ⟨⟨xs,h1,h2,h3⟩,h4,_⟩:=h
 exact ⟨⟨d.Code,xs⟩,⟨rfl,h2,h1,h3.1⟩,.inr h4⟩
theorem nE.old {w:World} {d:aY} {x:Done} (h:nE w d x) {db:Nat} (hdb:w.heap.size≤db):x.words=[]∨∀ k,isB d.Words k→¬ k=db:=by
 by_cases e:x.words=[]
 ·exact .inl e
 ·refine .inr λk hk e'=>?_
  have hr:=h.rd
  have hne:us x.words≠[]:=λe2=>e (by simpa [us] using e2)
  rcases hr with e2 | ⟨b,o,hbo,hc⟩
  ·exact hne e2
  ·obtain ⟨o',ho'⟩:=hk
   rw [hbo] at ho'
   simp at ho'
   have hlt:=Rd.lt (a:=⟨b,o,none⟩) (w:=w) (by rw [←hbo];exact h.rd) hne
   have:b<w.heap.size:=hlt
   omega
abbrev DJQ (w:World):Exit→List Value→World→Prop:=seqQ (λenv w'=>W prog (sub (aA f4) [1,1,1,1]) env (retQ prog f4 (pQ w)) w') (retQ prog f4 (pQ w))
set_option maxHeartbeats 2000000 in
theorem dj2 {w u:World} (hnu:New w u) (nodes:Int) {a:Option Addr} {n c:Nat} {raw:List aY} {ds:List Done} (h:Rep w a n raw ds) {da:Option Addr} {db m mc:Nat} {dn:List aY} (hda:da=some ⟨db,0,none⟩∨dn=[]) (hdb:w.heap.size≤db) (hb:dn≠[]→Blk u db (ke dn).flatten 53) (hm:dn.length=m) (hm8:m≤8) (hd:AllD u (λk=>k=db) dn) (jj:List Value) :
  bS prog (.loop (sub (aA f4) [1,1,1,0,1,0,1,1,1,1,0,1,0,0])) (bV nodes a n c da m mc 0 jj) (aI 2 (seqQ (λenv w'=>W prog (sub (aA f4) [1,1,1,0,1,0,1,1,1,1,1]) env (Qr prog f4 (pQ w) (DJQ w)) w') (Qr prog f4 (pQ w) (DJQ w)))) u:=by
 refine aS mix (λq env z=>∃ (i:Nat) (dn':List aY) (jj:List Value),q=raw.length - i∧i≤raw.length∧env=bV nodes a n c da m mc i jj∧New w z∧(da=some ⟨db,0,none⟩∨dn'=[])∧(dn'≠[]→Blk z db (ke dn').flatten 53)∧dn'.length=m∧AllD z (λk=>k=db) dn') raw.length
  ⟨0,dn,_,by omega,by omega,rfl,hnu,hda,hb,hm,hd⟩ ?_
 clear hnu hda hb hm hd
 rintro q env z ⟨i,dn',jj,rfl,hi,rfl,hnz,hda,hb,hm,hd⟩
 have hnl:=h.len
 have hfew:=h.few
 have hz:=h.new hnz
 have fin:∀ jj,W prog (sub (aA f4) [1,1,1,0,1,0,1,1,1,1,1]) (ew nodes da m mc jj) (Qr prog f4 (pQ w) (DJQ w)) z:=by
  intro jj
  rw [jH]
  refine cD ?_
  obtain ⟨ds',hds'⟩:=hd.ds
  refine dj4 hnz nodes (raw:=dn') (ds:=ds') ⟨hm.symm,?_,hds',by omega⟩ _
  by_cases e:dn'=[]
  ·rw [e];exact .inl rfl
  ·rcases hda with e2 | e2
   ·rw [e2]
    exact fF (hb e) (by rw [List.drop_zero];exact List.take_of_length_le (Nat.le_refl _))
   ·exact absurd e2 e
 refine ep (P:=prog) (fn:=f4) (R:=pQ w) (λ_ _=>rfl) ?_
 rw [iZ]
 refine aE (λhq=>?_) (λhq=>?_)
 ·refine ep (P:=prog) (fn:=f4) (R:=pQ w) (λ_ _=>rfl) ?_
  rw [fM]
  refine aE (λhq2=>?_) (λhq2=>?_)
  ·refine cD ?_
   rw [jG,w64 (x:=(i:Int)+1) (by omega) (by omega)]
   have hg:raw[i]?=some raw[i]:=List.getElem?_eq_getElem (by omega)
   have hrm:=List.getElem_mem (l:=raw) (n:=i) (by omega)
   obtain ⟨x,hx⟩:∃ x,ds[i]?=some x:=⟨_,List.getElem?_eq_getElem (by have:=h.ds.1;omega)⟩
   have hdx:=h.ds.2 i _ _ hg hx
   generalize raw[i]=d at hg hrm hdx
   have hne:dn'≠[]:=λe=>by rw [e] at hm;simp at hm;omega
   have hda':=hda.resolve_right hne
   have hbz:=hb hne
   refine fG (cells:=aY.cells) aY.len (by omega) hz.rd hg rfl hz.len λb o hcc hcell=>⟨_,hcell 0 _ rfl,bD (λhc=>?_) (λhc=>?_)⟩
   ·refine fG (cells:=aY.cells) aY.len (by omega) hz.rd hg rfl hz.len λb o hcc hcell=>aY.mk_ex d ⟨hcc,?_⟩
    rw [hda']
    refine bE (by omega) (by omega) ⟨eQ hbz (by rw [aY.len,show (ke dn').flatten.length=dn'.length * 2 from pj aY.len dn'];omega) (aY.single d),?_⟩
    rintro z1 hz1
    have hk1:Keep (λk=>k=db) z z1:=by rw [hz1];exact dO _ _ _ _ _
    have hb1:=hbz.puts (o:=i * 2) (i:=0) (vs:=d.cells)
    rw [Nat.add_zero,zM (by omega)] at hb1
    have hz1':z1=puts z ⟨db,i * 2,none⟩ 0 d.cells:=by rw [hz1,show 0+(i:Int).toNat * 2=i * 2 by omega]
    rw [←hz1'] at hb1
    refine cD ⟨raw.length - (i+1),by omega,i+1,dn'.set i d,_,rfl,by omega,rfl,hnz.trans hk1 λk hlt e=>by omega,.inl rfl,λ_=>hb1,by rw [List.length_set];exact hm,λd' hd'=>?_⟩
    rcases List.mem_or_eq_of_mem_set hd' with e | rfl
    ·exact (hd.keep hk1 λk _ e=>e) d' e
    ·exact ⟨x,(hdx.new hnz).keep hk1 ((hdx.old hdb).imp id λho k _ hb=>ho k hb),hdx.old hdb⟩
   ·exact cD ⟨raw.length - (i+1),by omega,i+1,dn',_,rfl,by omega,rfl,hnz,hda,hb,hm,hd⟩
  ·exact sg (Qr_x (sg (qZ (cD (fin _)))))
 ·refine ep (P:=prog) (fn:=f4) (R:=pQ w) (λ_ _=>rfl) ?_
  rw [fM]
  exact eM rfl (sg (Qr_x (sg (qZ (cD (fin _))))))
abbrev DJN (w:World):Exit→List Value→World→Prop:=seqQ (λenv w'=>W prog (sub (aA f4) [1,1]) env (retQ prog f4 (pQ w)) w') (retQ prog f4 (pQ w))
theorem Fw {w:World} {Av:Nat→Prop} {a:Option Addr} {n:Nat} (hr:Rd w a (rD (rdB n)).flatten) (ho:∀ k,isB a k→¬ Av k):Bat w Av a (rdB n):=by
 refine ⟨hr,ho,λv hv=>?_⟩
 obtain ⟨i,_,rfl⟩:=List.mem_map.1 hv
 exact ⟨⟨⟨[],.inl rfl,rfl,by simp⟩,(show U64 0 by unfold U64;omega),Nat.zero_le _⟩,λk hk=>absurd hk noB⟩
set_option maxHeartbeats 2000000 in
theorem dj3 {w:World} {nodes:Int} (hno:I64 nodes) {a a2:Option Addr} {n c n2 c2:Nat} {raw:List aY} {ds:List Done} (hrep:Rep w a n raw ds) {pk:List sP} (hn2:n2=pk.length) (hp:Rd w a2 (zH pk).flatten) (hpk:∀ p ∈ pk,qH p) (hn16:n2≤16) (near:Bool) (jj:List Value) :
  W prog (sub (aA f4) [1,1,1]) (et nodes a n c a2 n2 c2 near jj) (Qr prog f4 (pQ w) (retQ prog f4 (pQ w))) w:=by
 rw [Fz (λ_ _=>rfl),iY]
 refine ep (P:=prog) (fn:=f4) (R:=pQ w) (λ_ _=>rfl) ?_
 rw [jE]
 refine iS (λ_=>?_) (λ_=>cD (dj4 (Keep.refl _ _) nodes hrep _))
 refine aH (fO w nodes 5 hno (by omega)) ?_
 rintro v w1 ⟨rfl,rfl⟩
 have hpi:=qq (x:=nodes) (n:=5) (by omega)
 refine ⟨_,rfl,?_⟩
 generalize (if (5:Int)<1 then 0 else nodes % 5)=nd at hpi ⊢
 rw [w64 (x:=nd+1) (by omega) (by omega)]
 obtain ⟨nn,hnn⟩:=Int.eq_ofNat_of_zero_le (a:=nd+1) (by omega)
 rw [hnn]
 have hnb:1≤nn∧nn≤5:=by omega
 clear hnn hpi
 subst hn2
 refine aH (BL (n:=nn) (C:=1) (lines:=98) hnb (by omega) (by omega) hp (by omega) hpk) ?_
 rintro v w2 ⟨fb,F,N,Cl,P,rfl,hprep,hFl,hNl,hCl⟩
 refine ⟨_,rfl,?_⟩
 refine aH (yH w2 hnb) ?_
 rintro v w3 ⟨da,dcap,r,rfl,hbr,hbf,hn3⟩
 refine ⟨_,_,_,aD.mk_ex r ⟨_,rfl,mg (vs:=aD.cells r) rfl (aD.single _) λb1 w5 hb1 hz5 hn5=>?_⟩⟩
 have hn25:=hn3.new hn5
 have hf5:=hprep.fab.new hn25
 have hn05:=hprep.new.new hn25
 have hs5:=hn05.size
 have hbat:Bat w5 (F.own fb N Cl.length) da (rdB nn):=Fw (hbr.new hn5) λk hk ho=>by
  have:=(hbf k hk).1
  have:=hprep.fab.lt ho
  omega
 refine aH (F6 hf5 (c:=0) (by omega) hprep.idle (wx nn).symm hbat (by rw [wx];omega)) ?_
 rintro v w6 ⟨hk6,hcase⟩
 have hn06:New w1 w6:=hn05.trans hk6 λk hlt e=>by have:=hprep.old k e;omega
 rcases hcase with rfl | ⟨db,cap,dn,rfl,hbd,hdl,hdb,hdn⟩
 ·exact ⟨_,_,_,rfl,dj2 hn06 nn hrep (db:=w1.heap.size) (dn:=[]) (.inr rfl) (Nat.le_refl _) (λe=>absurd rfl e) rfl (by simp) (λd hd=>by cases hd) _⟩
 ·rw [wx] at hdl ⊢
  exact ⟨_,_,_,rfl,dj2 hn06 nn hrep (db:=db) (dn:=dn) (.inl rfl) (by omega) (λ_=>hbd) hdl (by omega) (λd hd=>(hdn d hd).all) _⟩
set_option maxHeartbeats 2000000 in
theorem t8 (w:World) {nodes:Int} (hno:I64 nodes) {a a2:Option Addr} {n c n2 c2:Nat} {raw:List aY} {ds:List Done} (hn:n=raw.length) (hr:Rd w a (ke raw).flatten) (hd:Ds w raw ds) {pk:List sP} (hn2:n2=pk.length) (hp:Rd w a2 (zH pk).flatten) (hpk:∀ p ∈ pk,qH p) (near:Bool) :
  Does 4 [.int .i64 nodes,.slice a n c,.slice a2 n2 c2,.bool near] w (pQ w):=by
 refine does Tryz.func4 ?_
 rw [lq]
 have one:∀ (b:Bool),(b=false→n≤8∧n2≤16)→∀ jj,W prog (sub (aA f4) [1,0,1]) (dC nodes a n c a2 n2 c2 near b jj) (DJN w) w:=by
  intro b hbn jj
  refine ep (P:=prog) (fn:=f4) (R:=pQ w) (λ_ _=>rfl) ?_
  rw [jC]
  refine iS (λ_=>⟨rfl,Keep.refl _ _⟩) (λhbf=>cD ?_)
  obtain ⟨hn8,hn16⟩:=hbn hbf
  have hrep:Rep w a n raw ds:=⟨hn,hr,hd,by omega⟩
  refine ep (P:=prog) (fn:=f4) (R:=pQ w) (λ_ _=>rfl) ?_
  rw [jD]
  refine aS mix (λq env u=>∃ (i:Nat) (jj:List Value),q=raw.length - i∧i≤raw.length∧env=dD nodes a n c a2 n2 c2 near i jj∧u=w) raw.length
   ⟨0,_,by omega,by omega,rfl,rfl⟩ ?_
  rintro q env u ⟨i,jj,rfl,hi,rfl,rfl⟩
  refine ep (P:=prog) (fn:=f4) (R:=pQ u) (λ_ _=>rfl) ?_
  rw [iX]
  refine aE (λhq=>?_) (λhq=>?_)
  ·have hg:raw[i]?=some raw[i]:=List.getElem?_eq_getElem (by omega)
   generalize raw[i]=d at hg
   rw [w64 (x:=(i:Int)+1) (by omega) (by omega)]
   refine fG (cells:=aY.cells) aY.len (by omega) hr hg rfl hn λb o hcc hcell=>⟨_,_,_,hcell 1 _ rfl,aE (λ_=>⟨rfl,Keep.refl _ _⟩) (λ_=>cD ⟨raw.length - (i+1),by omega,i+1,_,rfl,by omega,rfl,rfl⟩)⟩
  ·refine sg (qZ (cD ?_))
   exact dj3 hno hrep hn2 hp hpk hn16 near _
 exact aE (λ_=>one true (λe=>(nomatch e)) _) (λh1=>one (decide ((n2:Int)>16)) (λe=>⟨by omega,by have:=of_decide_eq_false e;omega⟩) _)
end Go.Proofs.YtafopfaomkklpaaGreat
namespace Go.Proofs.YtafopfaomkklpaaGreat
open Go.Proofs.Tryz
open Go.ChangeShapes Go.WideShapes Go.ChangeAt Go.RowKit Go.Eng
section
variable {H:Type} {enc:TypeId×Value→H} {W:World} {held:Bool}
theorem cUo:prog.cellsOf 32=1:=by kernel_rfl
theorem GX {cs:List Value} (h:cs.length=6):∃ a b c d e f,cs=[a,b,c,d,e,f]:=by
 match cs,h with
 | [a,b,c,d,e,f],_=>exact ⟨a,b,c,d,e,f,rfl⟩
theorem zi {fuel:Nat} {cs:List Value} {x:DataW H×List MemPlace} (hf:DataW.trod enc prog W 0 (λ_=>true) held fuel 34 cs=some x):∃ a cap xs,cs=[.slice a (List.length xs) cap]∧Rd W a (us xs)∧∀ x ∈ xs,U64 x:=by
 obtain ⟨a,cap,rows,h1,_,h3,h4⟩:=vC Tryz.underlying34 cUo (by omega) hf
 obtain ⟨xs,g1,g2,g3⟩:=zv Tryz.underlying32 rows λr hr=>(h4 r hr).2
 exact ⟨a,cap,xs,by rw [h1,g1],by rw [←g2];exact h3,g3⟩
set_option maxRecDepth 100000 in
theorem CG {fuel:Nat} {cs:List Value} {x:DataW H×List MemPlace} (h:DataW.trod enc prog W 0 (λ_=>true) held fuel 53 cs=some x):∃ d:aY,cs=d.cells∧∃ y,nE W d y:=by
 obtain ⟨xs,n,_,_,hl,hlen,hfs⟩:=DataW.trod_struct Tryz.underlying53 h
 have hc:prog.cellsOf 53=2:=by kernel_rfl
 have he:prog.cellsOf 28=1:=by kernel_rfl
 have hs:prog.cellsOf 34=1:=by kernel_rfl
 obtain ⟨a,b,rfl⟩:=len2 (hl.trans hc)
 obtain ⟨_,g0⟩:=fld hfs hlen 0 28 0 1 rfl he
 obtain ⟨_,g1⟩:=fld hfs hlen 1 34 1 1 rfl hs
 obtain ⟨n0,e0,_,w0⟩:=DataW.trod_int Tryz.underlying28 g0
 obtain ⟨ad,cap,ws,e1,hrd,hu⟩:=zi g1
 simp at e0 e1
 exact ⟨⟨n0,ad,ws.length,cap⟩,by rw [e0,e1];rfl,⟨n0,ws⟩,rfl,rfl,hrd,hu⟩
set_option maxRecDepth 100000 in
theorem CH {fuel:Nat} {cs:List Value} {x:DataW H×List MemPlace} (h:DataW.trod enc prog W 0 (λ_=>true) held fuel 75 cs=some x):∃ p:sP,cs=aT.cells p∧qH p:=by
 obtain ⟨xs,n,_,_,hl,hlen,hfs⟩:=DataW.trod_struct Tryz.underlying75 h
 have hc:prog.cellsOf 75=6:=by kernel_rfl
 obtain ⟨c0,c1,c2,c3,c4,c5,rfl⟩:=GX (hl.trans hc)
 obtain ⟨_,g0⟩:=fld hfs hlen 0 TIo 0 1 rfl cI
 obtain ⟨_,g1⟩:=fld hfs hlen 1 TIo 1 1 rfl cI
 obtain ⟨_,g2⟩:=fld hfs hlen 2 TIo 2 1 rfl cI
 obtain ⟨_,g3⟩:=fld hfs hlen 3 TIo 3 1 rfl cI
 obtain ⟨_,g4⟩:=fld hfs hlen 4 TIo 4 1 rfl cI
 obtain ⟨_,g5⟩:=fld hfs hlen 5 32 5 1 rfl cUo
 obtain ⟨n0,e0,_,w0⟩:=DataW.trod_int Tryz.underlying3 g0
 obtain ⟨n1,e1,_,w1⟩:=DataW.trod_int Tryz.underlying3 g1
 obtain ⟨n2,e2,_,w2⟩:=DataW.trod_int Tryz.underlying3 g2
 obtain ⟨n3,e3,_,w3⟩:=DataW.trod_int Tryz.underlying3 g3
 obtain ⟨n4,e4,_,w4⟩:=DataW.trod_int Tryz.underlying3 g4
 obtain ⟨n5,e5,_,w5⟩:=DataW.trod_int Tryz.underlying32 g5
 simp at e0 e1 e2 e3 e4 e5
 exact ⟨⟨n0,n1,n2,n3,n4,n5⟩,by rw [e0,e1,e2,e3,e4,e5];rfl,⟨vB w0,vB w1,vB w2,vB w3,vB w4,D2 w5⟩⟩
set_option maxRecDepth 100000 in
theorem AU {r:Reach} {base:Nat} {v:Value} {d:DataW H} {p:List MemPlace} (hv:Value.okWide prog W r base 46 v) (h:DataW.Trod enc prog W 0 (λ_=>true) held 46 v d p) :
  ∃ (a:Option Addr) (c:Nat) (raw:List aY) (ds:List Done),v=.slice a raw.length c∧Rd W a (ke raw).flatten∧Ds W raw ds:=by
 have hm:prog.cellsOf 53=2:=by kernel_rfl
 obtain ⟨ad,cap,rows,rfl,hrd,hrows⟩:=xk Tryz.underlying46 hm (by omega) hv h
 obtain ⟨ms,rfl,hu⟩:=yr (cells:=aY.cells) (Ok:=λd=>∃ y,nE W d y) λr hr=>by
  obtain ⟨_,fuel,x,hx⟩:=hrows r hr
  exact CG hx
 rw [List.length_map]
 obtain ⟨ds,hds⟩:=AllD.ds (u:=W) (Av:=λ_=>False) (raw:=ms) λd hd=>by
  obtain ⟨y,hy⟩:=hu d hd
  exact ⟨y,hy,.inr λk _ e=>e⟩
 exact ⟨ad,cap,ms,ds,rfl,hrd,hds⟩
set_option maxRecDepth 100000 in
theorem AV {r:Reach} {base:Nat} {v:Value} {d:DataW H} {p:List MemPlace} (hv:Value.okWide prog W r base 22 v) (h:DataW.Trod enc prog W 0 (λ_=>true) held 22 v d p) :
  ∃ (a:Option Addr) (c:Nat) (l:List sP),v=.slice a l.length c∧Rd W a (zH l).flatten∧∀ p ∈ l,qH p:=by
 have hm:prog.cellsOf 75=6:=by kernel_rfl
 obtain ⟨ad,cap,rows,rfl,hrd,hrows⟩:=xk Tryz.underlying22 hm (by omega) hv h
 obtain ⟨ms,rfl,hu⟩:=yr (cells:=aT.cells) (Ok:=qH) λr hr=>by
  obtain ⟨_,fuel,x,hx⟩:=hrows r hr
  exact CH hx
 rw [List.length_map]
 exact ⟨ad,cap,ms,rfl,hrd,hu⟩
end
end Go.Proofs.YtafopfaomkklpaaGreat
namespace Go.Proofs.YtafopfaomkklpaaGreat
open Go.Proofs.Tryz
open Go.ChangeShapes Go.WideShapes Go.ChangeAt Go.RowKit Go.Eng
set_option maxRecDepth 100000 in
theorem DW (os:Os) (started:os.Started) (H:Type) (enc:TypeId×Value→H) :
  ReturnsInHanded {} Tryz.checked os 4 .any (Rows.discoverJudgesSpec.pre6 enc prog f4 Rows.discoverJudgesRow.domain false) (Rows.discoverJudgesSpec.post enc prog f4 false true false false):=by
 refine returnsInHanded_of_change (C:=Tryz.checked) Gy started (by kernel_rfl) Tryz.func4
  (ChangeSpec.witness6 (enc:=enc) (C:=Tryz.checked) false ⟨#[],#[.int .i64 0,.slice none 0 0,.slice none 0 0,.bool false],[]⟩ 8 (by kernel_rfl) (by kernel_rfl) (by kernel_rfl) (by kernel_rfl)) ?_
 intro W base args ds gs before hval0 hW hcnd _
 have hval:∀ (j:Nat) t v,f4.params[j]?=some t→args[j]?=some v→Value.okWide prog W .any base t v:=hval0
 have hW':=hW
 obtain ⟨p,q,hA0,hV,rfl,hfz,hnd⟩:=hW
 have hA:DataW.TrodAll enc prog W 0 (λ_=>true) true f4.params.toList args.toList ds p:=hA0
 rw [Tryz.params4] at hA hval
 obtain ⟨v0,v1,v2,v3,d0,d1,d2,d3,p0,p1,p2,p3,rfl,rfl,rfl,h0,h1,h2,h3⟩:=trodAll_four hA
 obtain ⟨rfl,rfl⟩:=trodVars_none hV
 obtain ⟨a0,rfl,_,_,w0⟩:=open_int Tryz.underlying3 (hval 0 _ v0 rfl rfl) h0
 obtain ⟨a1,c1,raw,ds1,rfl,hr1,hd1⟩:=AU (hval 1 _ v1 rfl rfl) h1
 obtain ⟨a2,c2,pk,rfl,hr2,hp2⟩:=AV (hval 2 _ v2 rfl rfl) h2
 obtain ⟨b3,rfl,_⟩:=open_bool Tryz.underlying4 (hval 3 _ v3 rfl rfl) h3
 refine (t8 W (vB w0) rfl hr1 hd1 rfl hr2 hp2 b3).mono λe W' ⟨x,he,hx,hg⟩=>?_
 subst he hx
 refine ⟨_,rfl,CQ hW' hg (by rw [Tryz.params4];decide +kernel) rfl rfl (tb:=4) (by kernel_rfl) Tryz.underlying4⟩
theorem dj_1:Rows.discoverJudgesRow.wf (OpenSpec.ofChange Rows.discoverJudgesSpec)=true:=by kernel_rfl
theorem dj_2:mapsRowed prog=true:=by kernel_rfl
theorem dj_3:f4.params.all (prog.readableRec ·)=true:=by kernel_rfl
theorem dj_4:namedTie prog Rows.discoverJudgesRow.named Rows.discoverJudgesSpec.vars=true:=by kernel_rfl
theorem dj_5:(Rows.discoverJudgesRow.inPlace == prog.inPlace 4)=true:=by kernel_rfl
theorem dj_6:(Rows.discoverJudgesRow.unfollowed == prog.unfollowed 4)=true:=by kernel_rfl
theorem dj_7:(Rows.discoverJudgesRow.recurses == prog.recurses 4)=true:=by kernel_rfl
theorem dj_8:(Rows.discoverJudgesRow.named == prog.varsNamed 4)=true:=by kernel_rfl
theorem DX:joinedFacts prog 4 f4 Rows.discoverJudgesSpec Rows.discoverJudgesRow=true:=by
 unfold joinedFacts
 rw [dj_1,laid,dj_2,dj_3,dj_4,dj_5,dj_6,dj_7,dj_8]
 kernel_rfl
theorem Gw:Rows.discoverJudgesRow.holds Tryz.pinned (OpenSpec.ofChange Rows.discoverJudgesSpec):=
 OpenClaim.holds_of_wide 4 f4 rfl rfl rfl rfl rfl rfl rfl ⟨rfl,rfl,rfl,rfl,rfl⟩ rfl rfl rfl rfl rfl (by kernel_rfl) Tryz.func4 DX
  (of_decide_eq_true (by kernel_rfl)) (by unfold Func.isWrapper;first | (rw [if_pos (by decide +kernel)];kernel_rfl) | (rw [if_neg (by decide +kernel)];exact ⟨rfl,rfl⟩))
  (λos started H enc _=>DW os started H enc)
theorem discoverJudges_holds:Rows.DiscoverJudgesSaid:=Gw
#print axioms discoverJudges_holds
end Go.Proofs.YtafopfaomkklpaaGreat
