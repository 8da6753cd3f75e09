/- This claim proves that the law DiscoverExact returns true for every input: the batch and the outcome of discovery are those of the reference. -/
import Derived.Test.YtafopfaomkklpaaGreatp39
import Derived.Test.YtafopfaomkklpaaGreatp40
import Derived.Test.YtafopfaomkklpaaGreatp38
import Derived.Test.YtafopfaomkklpaaGreatp02
set_option linter.unusedVariables false
namespace Go.Proofs.YtafopfaomkklpaaGreat
open Go.Proofs.Tryz
open Go.Eng
noncomputable abbrev fDE:Func:=f3
abbrev TSDn:TypeId:=46
theorem de10 {w u:World} (hnu:New w u) {raw:Int} {sb:Nat} {p:aB} (hz:Blk u sb p.cells TOut) (hs:w.heap.size≤sb) (jj:List Value) :
  W prog (sub (aA fDE) [1,1,1,1,1,1,1,1,1,1,1,1]) (eD raw ⟨sb,0,none⟩ jj) (retQ prog fDE (oB w)) u:=by
 refine dP (P:=prog) (fn:=fDE) (R:=oB w) (λ_ _=>rfl) ?_
 rw [jR]
 by_cases hr:raw<1∨5<raw
 ·refine aG (DW u hr) ?_
  rintro x w1 ⟨hn1,r,rfl,hc⟩
  refine ⟨_,_,_,aB.mk_ex r ⟨true,rfl,qL (New.blk hn1 hz) (by rfl) (aB.single r) λw2 hz2 hk2=>?_⟩⟩
  have hn2:New w w2:=(hnu.new hn1).trans hk2 λk hlt e=>by omega
  have fin:oB w (.bool (r.Code == 1)) w2:=⟨by rw [hc];rfl,hn2⟩
  exact aE (λ_=>cG rfl (dM rfl ⟨r.Code,hz2.cell (i:=0) rfl,fin⟩)) (λh1=>cG (by rw [decide_eq_true (by omega)];rfl) (dM rfl ⟨r.Code,hz2.cell (i:=0) rfl,fin⟩))
 ·obtain ⟨n,rfl⟩:=Int.eq_ofNat_of_zero_le (a:=raw) (by omega)
  refine aG (DV (w:=u) (n:=n) (by omega) (ga:=none) (gn:=0) (gc:=0) (Nat.le_refl _) (xa:=none) (xl:=0) (xc:=0) (raw:=[]) (ds:=[]) (λe=>absurd rfl e)) ?_
  rintro x w1 ⟨hn1,hcase⟩
  rcases hcase with ⟨_,a,cap,r,rfl,_⟩ | ⟨e,_⟩
  ·refine ⟨_,_,_,aB.mk_ex r ⟨false,rfl,qL (New.blk hn1 hz) (by rfl) (aB.single r) λw2 hz2 hk2=>?_⟩⟩
   have hn2:New w w2:=(hnu.new hn1).trans hk2 λk hlt e=>by omega
   exact aE (λe=>absurd e (by omega)) (λh1=>cG (by rw [decide_eq_false (by omega)];rfl) (cG rfl ⟨rfl,hn2⟩))
  ·exact absurd rfl e
theorem de8 {w u:World} (hnu:New w u) {raw:Int} {ab bb:Nat} {p:aB} {q:FoR} (hza:Blk u ab p.cells TOut) (hzb:Blk u bb q.cells TFo) (hs:w.heap.size≤ab) {f:Fnd} (hp:lN u p f) (hq:lN u (BL q) f) (hb:f.boots.length≤1000000) (hk:f.keys.length≤1000000) (hd:f.doors.length≤1000000) (jj:List Value) :
  W prog (sub (aA fDE) [1,1,1,1,1,1,1,1,1,1,1]) (eQ raw true none 0 0 ⟨ab,0,none⟩ ⟨bb,0,none⟩ jj) (retQ prog fDE (oB w)) u:=by
 rw [jB,jc]
 refine dP (P:=prog) (fn:=fDE) (R:=oB w) (λ_ _=>rfl) ?_
 rw [kC]
 refine dM rfl (dM rfl (aB.mk_ex p ⟨aK hza rfl,aD.mk_ex q ⟨aK hzb rfl,?_⟩⟩))
 refine aG (Hj hp hq hb hk hd) ?_
 rintro x w1 ⟨rfl,hn1⟩
 refine ⟨_,rfl,bY ?_⟩
 refine dP (P:=prog) (fn:=fDE) (R:=oB w) (λ_ _=>rfl) ?_
 rw [kD]
 exact dM rfl (bY (de10 (hnu.new hn1) (New.blk hn1 hza) hs _))
theorem de7 {w u:World} (hnu:New w u) {nn:Nat} (hnn:1≤nn∧nn≤5) {raw:Int} {ga:Option Addr} {gn gc:Nat} (hg0:gn≠0) (hgc:gn≤gc) {xa:Option Addr} {xl xc:Nat} {rw_:List aY} {ds:List Done} (hg:Got u ga gn xa xl xc rw_ ds) (h8:rw_.length≤8) (jj:List Value) :
  W prog (sub (aA fDE) [1,1,1,1,1,1,1,1,1]) (dK nn raw ga gn gc jj) (retQ prog fDE (oB w)) u:=by
 refine dP (P:=prog) (fn:=fDE) (R:=oB w) (λ_ _=>rfl) ?_
 rw [kB]
 have hs:=hnu.size
 refine aG (DV hnn hgc λ_=>hg) ?_
 rintro x w1 ⟨hn1,hcase⟩
 have hs1:=hn1.size
 rcases hcase with ⟨e,_⟩ | ⟨_,r,rfl,hr⟩
 ·exact absurd e hg0
 refine ⟨_,_,_,aB.mk_ex r ⟨_,rfl,kE (vs:=r.cells) rfl (aB.single _) λb1 w3 hb1 hz3 hn3=>?_⟩⟩
 refine aG (AA hnn hg0 (hg.new (hn1.new hn3))) ?_
 rintro x w4 ⟨hn4,q,rfl,hq⟩
 refine ⟨_,_,_,aD.mk_ex q ⟨_,rfl,kE (vs:=q.cells) rfl (aD.single _) λb2 w6 hb2 hz6 hn6=>?_⟩⟩
 have hn46:=hn4.new hn6
 have hdl:=hg.ds.1
 obtain ⟨f,hf1,hf2,hl1,hl2,hl3⟩:∃ f,lN w6 r f∧lN w6 (BL q) f∧f.boots.length≤1000000∧f.keys.length≤1000000∧f.doors.length≤1000000:=by
  rcases hr with ⟨h1,h2,h3⟩ | ⟨h1,h3⟩<;>rcases hq with ⟨g1,g2,g3⟩ | ⟨g1,g3⟩
  ·have hl:=Co nn ds
   exact ⟨_,h3.new (hn3.new hn46),g3.new hn6,by omega,by omega,by omega⟩
  ·exact absurd ⟨h1,h2⟩ g1
  ·exact absurd ⟨g1,g2⟩ h1
  ·exact ⟨_,h3.new (hn3.new hn46),g3.new hn6,by simp [Fnd.err],by simp [Fnd.err],by simp [Fnd.err]⟩
 rw [D5 (λ_ _=>rfl)]
 exact de8 (hnu.new ((hn1.new hn3).new hn46)) (New.blk hn46 hz3) hz6 (by omega) hf1 hf2 hl1 hl2 hl3 _
def Fe (p:Option Addr×Nat×Nat):List Value:=[.slice p.1 p.2.1 p.2.2]
set_option maxHeartbeats 1000000 in
theorem de6 {w u0 u:World} (hnu:New w u0) (hn0:New u0 u) {nn:Nat} (hnn:1≤nn∧nn≤5) {raw:Int} {gb:Nat} (hgb:u0.heap.size≤gb) {xa:Option Addr} {xc:Nat} {dn:List aY} {ds:List Done} (hz:Blk u gb [.slice xa dn.length xc] TSDn) (hrd:Rd u0 xa (gS dn).flatten) (hds:Ds u0 dn ds) (h8:dn.length≤8) (more:Bool) (jj:List Value) :
  W prog (sub (aA fDE) [1,1,1,1,1,1,1,1]) (dJ nn raw more (some ⟨gb,0,none⟩) 1 1 jj) (retQ prog fDE (oB w)) u:=by
 rw [jA]
 refine dP (P:=prog) (fn:=fDE) (R:=oB w) (λ_ _=>rfl) ?_
 rw [kA]
 refine iL (λ_=>?_) (λ_=>?_)
 ·refine bG (by omega) (by omega) ⟨xa,dn.length,xc,hz.cell (i:=0) rfl,?_⟩
  rintro b1 w1 hb1 hw1
  obtain ⟨hz1,hn1⟩:=aR hb1 hw1
  have hz1:Blk w1 b1 ([(xa,dn.length,xc)].map Fe).flatten TSDn:=hz1
  clear hw1
  obtain ⟨inf,hi,hzz,hsz,hby⟩:=p7 (T:=TSDn) (z:=.slice none 0 0) (n:=1) (m:=24) (by kernel_rfl)
  have ho:Owns w1 TSDn 1 (some ⟨gb,0,none⟩) 1 1 ([(xa,dn.length,xc)].map Fe).flatten:=⟨rfl,.inr ⟨gb,_,rfl,New.blk hn1 hz,Nat.le_refl _,by decide,rfl,rfl⟩⟩
  refine pH (cells:=Fe) (sz:=1) (λ_=>rfl) (λx v hv=>by simp [Fe] at hv;subst hv;rfl) Tryz.underlying49 hi hzz (by rw [hsz];rfl) hsz (by omega) (by omega) (l:=[(xa,dn.length,xc)]) ho (l2:=[(xa,dn.length,xc)]) (m:=1) (eV hz1 rfl) rfl (by omega) λap cap' w3 h1 h2 h3=>?_
  have hn03:New u0 w3:=(hn0.new hn1).trans h2 λk hlt e=>by
   obtain ⟨o,ho⟩:=e
   simp only [Option.some.injEq,Addr.mk.injEq] at ho
   omega
  obtain ⟨g,cur,rfl,_⟩:=rq h1 (by omega)
  exact bY (de7 (hnu.new hn03) hnn (by omega) (Owns.le h1) (xa:=xa) (xl:=dn.length) (xc:=xc) ⟨⟨g,0,rfl,Owns.cell h1 (i:=0) rfl⟩,by omega,rfl,hrd.new hn03,hds.new hn03,by omega⟩ h8 _)
 ·exact bY (de7 (hnu.new hn0) hnn (by omega) (Nat.le_refl _) (xa:=xa) (xl:=dn.length) (xc:=xc) ⟨⟨gb,0,rfl,hz.cell (i:=0) rfl⟩,by omega,rfl,hrd.new hn0,hds.new hn0,by omega⟩ h8 _)
set_option maxHeartbeats 1000000 in
theorem de5 {w w1 u:World} (hnw:New w w1) {nn:Nat} (hnn:1≤nn∧nn≤5) {raw:Int} {a3:Option Addr} {n3 c3:Nat} {al:List AlR} (hn3:n3=al.length) (hl3:Rd w a3 (zp al).flatten) (hok3:∀ x ∈ al,AlOk x) (h6:n3≤6) (more:Bool) {fb:Nat} {F:Fa} {N:List cB} {Cl:List CliR} {P:Nat→List bS} (hprep:Prep w w1 fb F N Cl P) (hCl:Cl.length=1) (hn1:New w1 u) {da:Option Addr} {dcap:Nat} (hbr:Rd u da (kQ (rdB nn)).flatten) (hbf:∀ k,isB da k→w1.heap.size≤k) (jj:List Value) :
  W prog (sub (aA fDE) [1,1,1,1,1,1,1]) (eP nn raw a3 n3 c3 more (some ⟨fb,0,none⟩) da nn dcap jj) (retQ prog fDE (oB w)) u:=by
 refine dP (P:=prog) (fn:=fDE) (R:=oB w) (λ_ _=>rfl) ?_
 rw [kz]
 have hf:=hprep.fab.new hn1
 have hnu:=hnw.new hn1
 have hbat:Bat u (F.own fb N Cl.length) da (rdB nn):=GO hbr λk hk ho=>by
  have:=hbf k hk
  have:=hprep.fab.lt ho
  omega
 refine aG (Hv hf (c:=0) (by omega) hprep.idle (uB nn).symm hbat (by rw [uB];omega)) ?_
 rintro v w6 ⟨hk6,hcase⟩
 have hn06:New w w6:=hnu.trans hk6 λk hlt e=>by have:=hprep.old k e;omega
 have fin:∀ {pa:Option Addr} {m pc:Nat} {dn:List aY},m=dn.length→m≤8→Rd w6 pa (gS dn).flatten→DnsB 100000 w6 (λ_=>False) dn→∀ jj1:Option Addr→Nat→Nat→Nat→List Value,Calls prog 12 #[(.slice pa m pc),(.int .i64 0),(.slice a3 n3 c3)] w6 λe w2=>∃ (rA:Option Addr) (rl rc:Nat),e=.returned (.slice rA rl rc)∧∀ b1 w3,b1=w2.heap.size→w3=w2.alloc (.cells #[(.slice rA rl rc)] TSDn)→W prog (sub (aA fDE) [1,1,1,1,1,1,1,1]) (dJ nn raw more (some ⟨b1,0,none⟩) 1 1 (jj1 rA rl rc b1)) (Qr prog fDE (oB w) (retQ prog fDE (oB w))) w3:=by
  intro pa m pc dn hm h8 hr hd jj1
  refine aG (DX hm h8 hr hd hn3 (hl3.new hn06) hok3 h6 0) ?_
  rintro x w2 ⟨oa,cap,dn',rfl,h8',hr',hd',hn2⟩
  refine ⟨_,_,_,rfl,?_⟩
  rintro b1 w3 hb1 hw3
  obtain ⟨hz3,hn3'⟩:=aR hb1 hw3
  have hz3:Blk w3 b1 [.slice oa dn'.length cap] TSDn:=hz3
  clear hw3
  obtain ⟨ds,hds⟩:=hd'.ds
  rw [D5 (λ_ _=>rfl)]
  exact de6 (hn06.new hn2) hn3' hnn (by omega) hz3 hr' hds h8' more _
 rcases hcase with rfl | ⟨db,cap,dn,rfl,hbd,hdl,hdb,hdn⟩
 ·exact ⟨_,_,_,rfl,fin (dn:=[]) rfl (by simp) (.inl rfl) (λd hd=>by cases hd) (λ_ _ _ _=>_)⟩
 ·rw [uB] at hdl ⊢
  exact ⟨_,_,_,rfl,fin hdl.symm (by omega) (eV hbd (by rw [List.drop_zero];exact List.take_of_length_le (Nat.le_refl _))) (λd hd=>(hdn d hd).b.to (Nat.le_refl _) λk _ e=>e.elim) (λ_ _ _ _=>_)⟩
set_option maxHeartbeats 1000000 in
theorem de2 {w:World} {nodes raw:Int} (hno:I64 nodes) {a2:Option Addr} {n2 c2:Nat} {pk:List tR} (hn2:n2=pk.length) (hp:Rd w a2 (AX pk).flatten) (hpk:∀ p ∈ pk,rM p) (hn16:n2≤16) {a3:Option Addr} {n3 c3:Nat} {al:List AlR} (hn3:n3=al.length) (hl3:Rd w a3 (zp al).flatten) (hok3:∀ x ∈ al,AlOk x) (h6:n3≤6) (more:Bool) (jj:List Value) :
  W prog (sub (aA fDE) [1,1]) (eO nodes raw a2 n2 c2 a3 n3 c3 more jj) (retQ prog fDE (oB w)) w:=by
 refine dP (P:=prog) (fn:=fDE) (R:=oB w) (λ_ _=>rfl) ?_
 rw [kv]
 refine aG (eW w nodes 5 hno (by omega)) ?_
 rintro v w1 ⟨rfl,rfl⟩
 have hpi:=oK (x:=nodes) (n:=5) (by omega)
 refine ⟨_,rfl,?_⟩
 generalize (if (5:Int)<1 then 0 else nodes % 5)=nd at hpi ⊢
 rw [w64 (x:=nd+1) (by omega) (by omega)]
 obtain ⟨nn,hnn⟩:=Int.eq_ofNat_of_zero_le (a:=nd+1) (by omega)
 rw [hnn]
 have hnb:1≤nn∧nn≤5:=by omega
 clear hnn hpi
 subst hn2
 refine aG (C5 (n:=nn) (C:=1) (lines:=98) hnb (by omega) (by omega) hp (by omega) hpk) ?_
 rintro v w2 ⟨fb,F,N,Cl,P,rfl,hprep,hFl,hNl,hCl⟩
 refine ⟨_,rfl,?_⟩
 refine aG (DV (w:=w2) (n:=nn) hnb (ga:=none) (gn:=0) (gc:=0) (Nat.le_refl _) (xa:=none) (xl:=0) (xc:=0) (raw:=[]) (ds:=[]) (λe=>absurd rfl e)) ?_
 rintro x w3 ⟨hn3',hcase⟩
 rcases hcase with ⟨_,na,ncap,r,rfl,hnr,hnf⟩ | ⟨e,_⟩
 case inr=>exact absurd rfl e
 refine ⟨_,_,_,aB.mk_ex r ⟨_,rfl,kE (vs:=r.cells) rfl (aB.single _) λb1 w5 hb1 hz5 hn5=>?_⟩⟩
 refine aG (zP w5 hnb) ?_
 rintro v w6 ⟨da,dcap,q,rfl,hbr,hbf,hn6⟩
 refine ⟨_,_,_,aD.mk_ex q ⟨_,rfl,kE (vs:=q.cells) rfl (aD.single _) λb2 w8 hb2 hz8 hn8=>?_⟩⟩
 have hn25:=hn3'.new hn5
 have hn28:=hn25.new (hn6.new hn8)
 have hs25:=hn25.size
 rw [D5 (λ_ _=>rfl),jy,ja]
 refine dP (P:=prog) (fn:=fDE) (R:=oB w1) (λ_ _=>rfl) ?_
 rw [kw]
 refine dM rfl (dM rfl ?_)
 refine aG (Cr (uB nn).symm (by omega) (hnr.new (hn5.new (hn6.new hn8))) (hbr.new hn8) By) ?_
 rintro x w9 ⟨rfl,hn9⟩
 refine ⟨_,rfl,dM rfl ?_⟩
 refine aG (Go.Mx.HT w9) ?_
 rintro x w10 ⟨rfl,hn10⟩
 refine ⟨_,rfl,bY ?_⟩
 refine dP (P:=prog) (fn:=fDE) (R:=oB w1) (λ_ _=>rfl) ?_
 rw [ky]
 refine dM rfl (bY ?_)
 have hn910:=hn9.new hn10
 exact de5 hprep.new hnb hn3 hl3 hok3 h6 more hprep hCl (hn28.new hn910) (hbr.new (hn8.new hn910)) (λk hk=>by have:=(hbf k hk).1;omega) _
theorem wA (w:World) {nodes raw:Int} (hno:I64 nodes) (hra:I64 raw) {a2 a3:Option Addr} {n2 c2 n3 c3:Nat} {pk:List tR} (hn2:n2=pk.length) (hp:Rd w a2 (AX pk).flatten) (hpk:∀ p ∈ pk,rM p) {al:List AlR} (hn3:n3=al.length) (hl3:Rd w a3 (zp al).flatten) (hok3:∀ x ∈ al,AlOk x) (more:Bool) :
  Does 3 [.int .i64 nodes,.int .i64 raw,.slice a2 n2 c2,.slice a3 n3 c3,.bool more] w (oB w):=by
 refine does Tryz.func3 ?_
 rw [mL]
 have one:∀ (b:Bool),(b=false→n2≤16∧n3≤6)→∀ jj,W prog (sub (aA fDE) [1,0,1]) (dI nodes raw a2 n2 c2 a3 n3 c3 more b jj) (seqQ (λenv w'=>W prog (sub (aA fDE) [1,1]) env (retQ prog fDE (oB w)) w') (retQ prog fDE (oB w))) w:=by
  intro b hbn jj
  refine dP (P:=prog) (fn:=fDE) (R:=oB w) (λ_ _=>rfl) ?_
  rw [ku]
  exact iL (λ_=>⟨rfl,Keep.refl _ _⟩) (λhbf=>bY (de2 hno hn2 hp hpk (hbn hbf).1 hn3 hl3 hok3 (hbn hbf).2 more _))
 exact aE (λ_=>one true (λe=>(nomatch e)) _) (λh1=>one (decide ((n3:Int)>6)) (λe=>⟨by omega,by have:=of_decide_eq_false e;omega⟩) _)
end Go.Proofs.YtafopfaomkklpaaGreat
namespace Go.Proofs.YtafopfaomkklpaaGreat
open Go.Proofs.Tryz
open Go.ChangeShapes Go.WideShapes Go.ChangeAt Go.RowKit Go.Eng
section
variable {H:Type} {enc:TypeId×Value→H} {W:World} {held:Bool}
theorem zq {P:Program} {w:World} {base:Nat} {spare:Nat→Bool} {held:Bool} {t t' t'' t3 t4:TypeId} {args:Array Value} {ds:List (DataW H)} {ps:List MemPlace} (h:DataW.TrodAll enc P w base spare held [t,t',t'',t3,t4] args.toList ds ps) :
  ∃ v v' v'' v3 v4 d d' d'' d3 d4 p p' p'' p3 p4,args=#[v,v',v'',v3,v4]∧ds=[d,d',d'',d3,d4]∧ps=p++p'++p''++p3++p4∧DataW.Trod enc P w base spare held t v d p∧DataW.Trod enc P w base spare held t' v' d' p'∧DataW.Trod enc P w base spare held t'' v'' d'' p''∧DataW.Trod enc P w base spare held t3 v3 d3 p3∧DataW.Trod enc P w base spare held t4 v4 d4 p4:=by
 obtain ⟨v,vs,d,ds',p,q,hargs,rfl,rfl,hd,hrest⟩:=trodAll_cons h
 obtain ⟨v',vs',d',ds'',p',q',rfl,rfl,rfl,hd',hrest'⟩:=trodAll_cons hrest
 obtain ⟨v'',vs'',d'',dsa,p'',q'',rfl,rfl,rfl,hd'',hrest''⟩:=trodAll_cons hrest'
 obtain ⟨v3,vs3,d3,ds3,p3,q3,rfl,rfl,rfl,hd3,hrest3⟩:=trodAll_cons hrest''
 obtain ⟨v4,vs4,d4,ds4,p4,q4,rfl,rfl,rfl,hd4,hrest4⟩:=trodAll_cons hrest3
 obtain ⟨rfl,rfl,rfl⟩:=trodAll_nil hrest4
 exact ⟨v,v',v'',v3,v4,d,d',d'',d3,d4,p,p',p'',p3,p4,by cases args;simp_all,rfl,by simp,hd,hd',hd'',hd3,hd4⟩
theorem Ix {cs:List Value} (h:cs.length=4):∃ a b c d,cs=[a,b,c,d]:=by
 match cs,h with
 | [a,b,c,d],_=>exact ⟨a,b,c,d,rfl⟩
set_option maxRecDepth 100000 in
theorem Cs {fuel:Nat} {cs:List Value} {x:DataW H×List MemPlace} (h:DataW.trod enc prog W 0 (λ_=>true) held fuel 101 cs=some x):∃ p:AlR,cs=aZ.cells p∧AlOk p:=by
 obtain ⟨xs,n,_,_,hl,hlen,hfs⟩:=DataW.trod_struct Tryz.underlying101 h
 have hc:prog.cellsOf 101=4:=by kernel_rfl
 obtain ⟨c0,c1,c2,c3,rfl⟩:=Ix (hl.trans hc)
 obtain ⟨_,g0⟩:=fld hfs hlen 0 TIo 0 1 rfl cI
 obtain ⟨_,g1⟩:=fld hfs hlen 1 TIo 1 1 rfl cI
 obtain ⟨_,g2⟩:=fld hfs hlen 2 TIo 2 1 rfl cI
 obtain ⟨_,g3⟩:=fld hfs hlen 3 32 3 1 rfl cUo
 obtain ⟨n0,e0,_,w0⟩:=DataW.trod_int Tryz.underlying3 g0
 obtain ⟨n1,e1,_,w1⟩:=DataW.trod_int Tryz.underlying3 g1
 obtain ⟨n2,e2,_,w2⟩:=DataW.trod_int Tryz.underlying3 g2
 obtain ⟨n3,e3,_,w3⟩:=DataW.trod_int Tryz.underlying32 g3
 simp at e0 e1 e2 e3
 exact ⟨⟨n0,n1,n2,n3⟩,by rw [e0,e1,e2,e3];rfl,⟨sE w0,sE w1,sE w2,Fm w3⟩⟩
set_option maxRecDepth 100000 in
theorem AB {r:Reach} {base:Nat} {v:Value} {d:DataW H} {p:List MemPlace} (hv:Value.okWide prog W r base 23 v) (h:DataW.Trod enc prog W 0 (λ_=>true) held 23 v d p) :
  ∃ (a:Option Addr) (c:Nat) (l:List AlR),v=.slice a l.length c∧Rd W a (zp l).flatten∧∀ p ∈ l,AlOk p:=by
 have hm:prog.cellsOf 101=4:=by kernel_rfl
 obtain ⟨ad,cap,rows,rfl,hrd,hrows⟩:=yx Tryz.underlying23 hm (by omega) hv h
 obtain ⟨ms,rfl,hu⟩:=zy (cells:=aZ.cells) (Ok:=AlOk) λr hr=>by
  obtain ⟨_,fuel,x,hx⟩:=hrows r hr
  exact Cs hx
 rw [List.length_map]
 exact ⟨ad,cap,ms,rfl,hrd,hu⟩
end
end Go.Proofs.YtafopfaomkklpaaGreat
namespace Go.Proofs.YtafopfaomkklpaaGreat
open Go.Proofs.Tryz
open Go.ChangeShapes Go.WideShapes Go.ChangeAt Go.RowKit Go.Eng
set_option maxRecDepth 100000 in
theorem Ff (os:Os) (started:os.Started) (H:Type) (enc:TypeId×Value→H) :
  ReturnsInHanded {} Tryz.checked os 3 .any (Rows.discoverExactSpec.pre6 enc prog f3 Rows.discoverExactRow.domain false) (Rows.discoverExactSpec.post enc prog f3 false true false false):=by
 refine returnsInHanded_of_change (C:=Tryz.checked) HZ started (by kernel_rfl) Tryz.func3
  (ChangeSpec.witness6 (enc:=enc) (C:=Tryz.checked) false ⟨#[],#[.int .i64 0,.int .i64 0,.slice none 0 0,.slice none 0 0,.bool false],[]⟩ 8 (by kernel_rfl) (by kernel_rfl) (by kernel_rfl) (by kernel_rfl)) ?_
 intro W base args ds gs before hval0 hW hcnd _
 have hval:∀ (j:Nat) t v,f3.params[j]?=some t→args[j]?=some v→Value.okWide prog W .any base t v:=hval0
 have hW':=hW
 obtain ⟨p,q,hA0,hV,rfl,hfz,hnd⟩:=hW
 have hA:DataW.TrodAll enc prog W 0 (λ_=>true) true f3.params.toList args.toList ds p:=hA0
 rw [Tryz.params3] at hA hval
 obtain ⟨v0,v1,v2,v3,v4,d0,d1,d2,d3,d4,p0,p1,p2,p3,p4,rfl,rfl,rfl,h0,h1,h2,h3,h4⟩:=zq hA
 obtain ⟨rfl,rfl⟩:=trodVars_none hV
 obtain ⟨a0,rfl,_,_,w0⟩:=open_int Tryz.underlying3 (hval 0 _ v0 rfl rfl) h0
 obtain ⟨a1,rfl,_,_,w1⟩:=open_int Tryz.underlying3 (hval 1 _ v1 rfl rfl) h1
 obtain ⟨a2,c2,pk,rfl,hr2,hp2⟩:=Cp (hval 2 _ v2 rfl rfl) h2
 obtain ⟨a3,c3,al,rfl,hr3,hp3⟩:=AB (hval 3 _ v3 rfl rfl) h3
 obtain ⟨b4,rfl,_⟩:=open_bool Tryz.underlying4 (hval 4 _ v4 rfl rfl) h4
 refine (wA W (sE w0) (sE w1) rfl hr2 hp2 rfl hr3 hp3 b4).mono λe W' ⟨x,he,hx,hg⟩=>?_
 subst he hx
 refine ⟨_,rfl,D7 hW' hg (by rw [Tryz.params3];decide +kernel) rfl rfl (tb:=4) (by kernel_rfl) Tryz.underlying4⟩
theorem de_1:Rows.discoverExactRow.wf (OpenSpec.ofChange Rows.discoverExactSpec)=true:=by kernel_rfl
theorem de_2:mapsRowed prog=true:=by kernel_rfl
theorem de_3:f3.params.all (prog.readableRec ·)=true:=by kernel_rfl
theorem de_4:namedTie prog Rows.discoverExactRow.named Rows.discoverExactSpec.vars=true:=by kernel_rfl
theorem de_5:(Rows.discoverExactRow.inPlace == prog.inPlace 3)=true:=by kernel_rfl
theorem de_6:(Rows.discoverExactRow.unfollowed == prog.unfollowed 3)=true:=by kernel_rfl
theorem de_7:(Rows.discoverExactRow.recurses == prog.recurses 3)=true:=by kernel_rfl
theorem de_8:(Rows.discoverExactRow.named == prog.varsNamed 3)=true:=by kernel_rfl
theorem Fg:joinedFacts prog 3 f3 Rows.discoverExactSpec Rows.discoverExactRow=true:=by
 unfold joinedFacts
 rw [de_1,laid,de_2,de_3,de_4,de_5,de_6,de_7,de_8]
 kernel_rfl
theorem HX:Rows.discoverExactRow.holds Tryz.pinned (OpenSpec.ofChange Rows.discoverExactSpec):=
 OpenClaim.holds_of_wide 3 f3 rfl rfl rfl rfl rfl rfl rfl ⟨rfl,rfl,rfl,rfl,rfl⟩ rfl rfl rfl rfl rfl (by kernel_rfl) Tryz.func3 Fg
  (of_decide_eq_true (by kernel_rfl)) (by unfold Func.isWrapper;first | (rw [if_pos (by decide +kernel)];kernel_rfl) | (rw [if_neg (by decide +kernel)];exact ⟨rfl,rfl⟩))
  (λos started H enc _=>Ff os started H enc)
theorem discoverExact_holds:Rows.DiscoverExactSaid:=HX
#print axioms discoverExact_holds
end Go.Proofs.YtafopfaomkklpaaGreat
