/- FetchExact: for every input the law bodegalaw16.FetchExact returns true and leaves its arguments as they were; no condition. -/
import Derived.Test.YtafopfaomkklpaaGreatp28
import Derived.Test.YtafopfaomkklpaaGreatp29
import Derived.Test.YtafopfaomkklpaaGreatp30
import Derived.Test.YtafopfaomkklpaaGreatp09
import Derived.Test.YtafopfaomkklpaaGreatp37
import Derived.Test.YtafopfaomkklpaaGreatp38
import Derived.Test.YtafopfaomkklpaaGreatp06
import Derived.Test.YtafopfaomkklpaaGreatp02
set_option linter.unusedVariables false
namespace Go.Proofs.YtafopfaomkklpaaGreat
open Go.Proofs.Tryz
open Go.Eng
theorem Ep:Go.Mx.tO prog 8 TPg=some [false,false,false,false,false,false,false,false,false]:=by kernel_rfl
theorem E8:isAgg? prog TPg=true:=by kernel_rfl
theorem CZ:Program.eqGuardType prog (Program.depth prog) TPg=false:=by kernel_rfl
theorem Ad (r:aG) {K:Bool→Prop} (hk:K true):BM prog TPg r.val r.val K:=by
 refine ⟨true,λw=>?_,hk⟩
 have hc:Go.Mx.re [false,false,false,false,false,false,false,false,false] r.cells r.cells:=⟨rfl,rfl,rfl,rfl,rfl,rfl,rfl,rfl,rfl,trivial⟩
 have he:Go.Mx.eqvL r.cells r.cells=true:=by simp [aG.cells,Go.Mx.eqvL,Go.Mx.eqv1]
 have hq:=Go.Mx.xP 8 TPg _ Ep 10000 (by omega) r.cells r.cells hc w
 unfold Go.Mx.tP at hq
 rw [if_pos E8,he] at hq
 have hq':(Op.equalIn 10000 TPg (.agg r.cells.toArray) (.agg r.cells.toArray)).run prog w=.ok true w:=hq
 exact ⟨λop x y=>run_eqGuard_agg w op TPg x y _ _ CZ,by rw [aG.val,run_eql_struct,hq'];rfl,by rw [aG.val,run_neq_struct,hq'];rfl⟩
theorem uo {w:World} {a b:Option Addr} {n m c d:Nat} {l:List aG} (hn:n=l.length) (hm:m=l.length) (h1:Rd w a (eF l).flatten) (h2:Rd w b (eF l).flatten) (hl:l.length≤1000000):Does 20 [.slice a n c,.slice b m d] w λx w'=>x=.bool true∧New w w':=by
 subst hn hm
 refine does Tryz.func20 ?_
 rw [oU]
 refine bQ (λh=>absurd rfl h) (λ_=>?_)
 refine aW mix (λm env u=>∃ (i:Nat) (jj:List Value),m=l.length - i∧i≤l.length∧env=ei a l.length c b l.length d i jj∧New w u) l.length
  ⟨0,_,by omega,by omega,rfl,Keep.refl _ _⟩ ?_
 rintro m env u ⟨i,jj,rfl,hi,rfl,hn⟩
 rw [jY]
 refine aD (λhp=>?_) (λhp=>?_)
 ·have hg:l[i]?=some l[i]:=List.getElem?_eq_getElem (by omega)
  generalize l[i]=p at hg
  rintro u1 hu1
  have hn1:New u u1:=by rw [hu1];exact aT _
  clear hu1
  have hn01:=hn.new hn1
  refine ⟨λy=>New u1 y,Keep.refl _ _,?_⟩
  refine iL (cells:=aG.cells) aG.len (by omega) (h1.new hn01) hg rfl rfl λb o hc=>aG.mk_ex p ⟨λy hy=>eb (hc y hy),?_⟩
  refine iL (cells:=aG.cells) aG.len (by omega) (h2.new hn01) hg rfl rfl λb' o' hc'=>aG.mk_ex p ⟨λy hy=>eb (hc' y hy),Ad _ (eE rfl ?_)⟩
  rw [w64 (by omega) (by omega)]
  exact ⟨l.length - (i+1),by omega,i+1,_,rfl,by omega,rfl,hn01⟩
 ·rw [lH]
  exact ⟨rfl,hn⟩
theorem Blk.get {w:World} {b i:Nat} {cs:List Value} {T:TypeId} {v:Value} (h:Blk w b cs T) (hc:w.cell? ⟨b,i,none⟩=some v):cs[i]?=some v:=by
 unfold World.cell? at hc
 simp only [show w.heap[(⟨b,i,none⟩:Addr).block]?=_ from h] at hc
 simpa using hc
theorem BI {u:World} {a:Option Addr} {xs:List Int} (h:Rd u a (us xs)) {b:Nat} {o:aI} (hb:Blk u b o.cells TFO):us xs=[]∨¬ isB a b:=by
 cases xs with
 |nil=>exact .inl rfl
 |cons x xs=>
  refine .inr ?_
  rintro ⟨q,rfl⟩
  have hc:=Blk.get hb (Rd.cell h (j:=0) (u:=.int .u64 x) rfl)
  have hlt:=cN hc
  have hlt:q+0<2:=hlt
  match q,hlt,hc with
  | 0,_,hc=>cases hc
  | 1,_,hc=>cases hc
theorem Got.put {u z:World} {ga:Option Addr} {gn:Nat} {xa:Option Addr} {xl xc:Nat} {raw:List aV} {ds:List Done} (h:Got u ga gn xa xl xc raw ds) {b:Nat} {o:aI} (hb:Blk u b o.cells TFO) (hk:Keep (λk=>k=b) u z) (h1:¬ isB ga b) (h2:¬ isB xa b):Got z ga gn xa xl xc raw ds:=by
 obtain ⟨gb,go,e,hc⟩:=h.one
 refine ⟨⟨gb,go,e,nT hk hc λe2=>h1 ⟨go,by rw [e,show gb=b from e2]⟩⟩,h.pos,h.len,jd hk h.rd λk _ hi e2=>h2 (e2▸hi),⟨h.ds.1,λi v x hv hx=>?_⟩,h.few⟩
 have hd:=h.ds.2 i v x hv hx
 refine ⟨hd.code,hd.len,?_,hd.wf⟩
 rcases BI hd.rd hb with e2 | e2
 ·rw [e2];exact .inl rfl
 ·exact jd hk hd.rd λk _ hi e3=>e2 (e3▸hi)
noncomputable abbrev fFE:Func:=f5
def qA (w:World) (x:Value) (w':World):Prop:=x=.bool true∧New w w'
abbrev TSDf:TypeId:=46
set_option maxHeartbeats 4000000 in
theorem fe10 {w w0 u:World} (hw0:New w w0) (h0u:New w0 u) {jb ob:Nat} {r:aN} {j:FJob} {o:aI} (h1:Blk u jb r.cells TFJ) (h2:Blk u ob o.cells TFO) (hob:w0.heap.size≤ob) (hj:jP w0 r j) {ga:Option Addr} {gn gc:Nat} (hg0:gn≠0) (hgc:gn≤gc) {xa:Option Addr} {xl xc:Nat} {raw:List aV} {ds:List Done} (hg:Got u ga gn xa xl xc raw ds) (h8:raw.length≤2000) (hcap:∀ d ∈ raw,d.Wl≤d.Wc) (hga:¬ isB ga ob) (hxa:¬ isB xa ob) (jj:List Value) :
  W prog (sub (aA fFE) [1,1,1,1,1,1,1,1,1,1]) (bU ⟨jb,0,none⟩ ⟨ob,0,none⟩ ga gn gc jj) (retQ prog fFE (qA w)) u:=by
 refine cH (P:=prog) (fn:=fFE) (R:=qA w) (λ_ _=>rfl) ?_
 rw [j2]
 have hs0:=h0u.size
 have hsw:=hw0.size
 have hjo:jb≠ob:=h1.ne h2 (by decide)
 refine aN.mk_ex r ⟨aH h1 rfl,?_⟩
 refine aC (AO (hj.new h0u) hgc (λ_=>hg) hcap) ?_
 rintro x w1 ⟨hn1,hcase⟩
 rcases hcase with ⟨ha,_⟩ | ⟨hna,o',rfl,ho'⟩
 ·exact absurd ha.2.2 hg0
 refine ⟨_,_,_,aI.mk_ex o' ⟨true,rfl,oG (New.blk hn1 h2) rfl (aI.single _) λw2 y2 hk2=>?_⟩⟩
 have y1:=hk2.blk (New.blk hn1 h1) hjo
 have hn02:New w0 w2:=(h0u.new hn1).trans hk2 λk hlt e=>by omega
 have hg2:=(hg.new hn1).put (New.blk hn1 h2) hk2 hga hxa
 refine ⟨_,y1.cell (i:=0) rfl,aF.mk_ex r.View ⟨aH y1 rfl,_,_,_,y1.cell (i:=3) rfl,?_⟩⟩
 refine aC (vF (hj.new hn02) (λ_=>hg2)) ?_
 rintro x w3 ⟨hn3,hcase⟩
 rcases hcase with ⟨ha,_⟩ | ⟨_,pa,pc,rfl,hp⟩
 ·exact absurd ha.2.2 hg0
 have y3:=New.blk hn3 y2
 have hlen:=ho'.len
 have hfew:(fZ j gn ds).2.length≤1000000:=by
  have hz:(gR j.lines ds).length≤2000:=by
   unfold gR
   rw [List.length_map,List.length_zip]
   have:=hg.ds.1
   omega
  unfold fZ
  repeat' split
  all_goals first | (show ([]:List aG).length≤1000000;simp) | exact Nat.le_trans hz (by omega)
 have hpo:Rd w3 o'.Pages (eF (fZ j gn ds).2).flatten:=by
  have hr:=ho'.rd
  by_cases e:isB o'.Pages ob
  ·
   by_cases e2:(fZ j gn ds).2=[]
   ·rw [e2];exact .inl rfl
   ·exfalso
    obtain ⟨q,hq⟩:=e
    obtain ⟨p,ps,hps⟩:=List.exists_cons_of_ne_nil e2
    rw [hps,hq] at hr
    have hc:=Blk.get (New.blk hn1 h2) (Rd.cell hr (j:=2) (u:=.int .u64 p.Data0) rfl)
    have:q+2<2:=cN hc
    omega
  ·exact (jd hk2 hr λk _ hi e3=>e (e3▸hi)).new hn3
 refine ⟨_,_,_,_,_,_,_,_,rfl,?_⟩
 rw [j3]
 refine cM rfl ?_
 rw [j4]
 refine cM rfl ?_
 rw [j5]
 refine cM rfl ⟨_,y3.cell (i:=0) rfl,?_⟩
 rw [j6]
 refine cM (by rw [ho'.code];simp) ⟨_,_,_,y3.cell (i:=1) rfl,?_⟩
 refine aC (uo hlen rfl hpo hp hfew) ?_
 rintro x w4 ⟨rfl,hn4⟩
 refine ⟨_,rfl,?_⟩
 rw [j7]
 exact ⟨rfl,hw0.new ((hn02.new hn3).new hn4)⟩
def gcel (p:Option Addr×Nat×Nat):List Value:=[.slice p.1 p.2.1 p.2.2]
set_option maxHeartbeats 1000000 in
theorem fe9 {w w0 u0 u:World} (hw0:New w w0) (h00:New w0 u0) (h0u:New u0 u) {jb ob:Nat} {r:aN} {j:FJob} {o:aI} (h1:Blk u0 jb r.cells TFJ) (h2:Blk u0 ob o.cells TFO) (hob:w0.heap.size≤ob) (hj:jP w0 r j) {gb:Nat} (hgb:u0.heap.size≤gb) {xa:Option Addr} {xc:Nat} {dn:List aV} {ds:List Done} (hz:Blk u gb [.slice xa dn.length xc] TSDf) (hrd:Rd u0 xa (gI dn).flatten) (hds:Ds u0 dn ds) (h8:dn.length≤2000) (hcap:∀ d ∈ dn,d.Wl≤d.Wc) (hxa:¬ isB xa ob) (more:Bool) (jj:List Value) :
  W prog (sub (aA fFE) [1,1,1,1,1,1,1,1,1]) (dR more ⟨jb,0,none⟩ ⟨ob,0,none⟩ (some ⟨gb,0,none⟩) 1 1 jj) (retQ prog fFE (qA w)) u:=by
 rw [jx]
 refine cH (P:=prog) (fn:=fFE) (R:=qA w) (λ_ _=>rfl) ?_
 rw [kN]
 have hol:=h2.lt
 refine lm (λ_=>?_) (λ_=>?_)
 ·rintro b1 w1 hb1 hw1
  obtain ⟨hz1,hn1⟩:=aR hb1 hw1
  have hz1:Blk w1 b1 ([((none:Option Addr),0,0)].map gcel).flatten TSDf:=hz1
  clear hw1
  obtain ⟨inf,hi,hzz,hsz,hby⟩:=nV (T:=TSDf) (z:=.slice none 0 0) (n:=1) (m:=24) (by kernel_rfl)
  have ho:Owns w1 TSDf 1 (some ⟨gb,0,none⟩) 1 1 ([(xa,dn.length,xc)].map gcel).flatten:=⟨rfl,.inr ⟨gb,_,rfl,New.blk hn1 hz,Nat.le_refl _,by decide,rfl,rfl⟩⟩
  refine lR (cells:=gcel) (sz:=1) (λ_=>rfl) (λx v hv=>by simp [gcel] at hv;subst hv;rfl) Tryz.underlying49 hi hzz (by rw [hsz];rfl) hsz (by omega) (by omega) (l:=[(xa,dn.length,xc)]) ho (l2:=[((none:Option Addr),0,0)]) (m:=1) (fM hz1 rfl) rfl (by omega) λap cap' w3 h1' h2' h3'=>?_
  have hn03:New u0 w3:=(h0u.new hn1).trans h2' λk hlt e=>by
   obtain ⟨o,ho⟩:=e
   simp only [Option.some.injEq,Addr.mk.injEq] at ho
   omega
  have hapf:∀ k,isB ap k→u0.heap.size≤k:=λk hk=>by
   rcases h3' k hk with e | e
   ·obtain ⟨o,ho⟩:=e
    simp only [Option.some.injEq,Addr.mk.injEq] at ho
    omega
   ·have:=hn1.size;have:=h0u.size;omega
  obtain ⟨g,cur,rfl,_⟩:=nW h1' (by omega)
  exact bF (fe10 hw0 (h00.new hn03) (New.blk hn03 h1) (New.blk hn03 h2) hob hj (by omega) (Owns.le h1') (xa:=xa) (xl:=dn.length) (xc:=xc) ⟨⟨g,0,rfl,Owns.cell h1' (i:=0) rfl⟩,by omega,rfl,hrd.new hn03,hds.new hn03,by omega⟩ h8 hcap (λe=>by have:=hapf _ e;omega) hxa _)
 ·refine bF (fe10 hw0 (h00.new h0u) (New.blk h0u h1) (New.blk h0u h2) hob hj (by omega) (Nat.le_refl _) (xa:=xa) (xl:=dn.length) (xc:=xc) ⟨⟨gb,0,rfl,hz.cell (i:=0) rfl⟩,by omega,rfl,hrd.new h0u,hds.new h0u,by omega⟩ h8 hcap (λe=>?_) hxa _)
  obtain ⟨q,hq⟩:=e
  simp only [Option.some.injEq,Addr.mk.injEq] at hq
  omega
theorem E9 {u:World} {Av:Nat→Prop} {a:Option Addr} {num:Int} {m:aB} {lines:List Int} (hr:Rd u a (je (fB num m lines)).flatten) (ho:∀ k,isB a k→¬ Av k):Bat u Av a (fB num m lines):=by
 refine ⟨hr,ho,λv hv=>?_⟩
 obtain ⟨l,_,rfl⟩:=List.mem_map.1 hv
 exact ⟨⟨⟨[],.inl rfl,rfl,by simp⟩,(show U64 0 by unfold U64;omega),Nat.zero_le _⟩,λk hk=>absurd hk noB⟩
structure FeIn (w w0 u:World) (nn:Nat) (rb jb ob:Nat) (p:aX) (r:aN) (j:FJob) (o:aI) (a2:Option Addr) (n2:Nat) (pk:List pA) (a3:Option Addr) (n3:Nat) (al:List AlR):Prop where
 hw0:New w w0
 hu:New w0 u
 hnn:1≤nn∧nn≤5
 hrb:Blk u rb p.cells 58
 pt:I64 p.Total
 hjb:Blk u jb r.cells TFJ
 hob:Blk u ob o.cells TFO
 obl:w0.heap.size≤ob
 hj:jP w0 r j
 hn2:n2=pk.length
 p2:Rd w a2 (wE pk).flatten
 k2:∀ p ∈ pk,pj p
 l2:n2≤12
 hn3:n3=al.length
 p3:Rd w a3 (wJ al).flatten
 k3:∀ x ∈ al,AlOk x
 l3:n3≤5
theorem FeIn.new {w w0 u u':World} {nn rb jb ob:Nat} {p:aX} {r:aN} {j:FJob} {o:aI} {a2:Option Addr} {n2:Nat} {pk:List pA} {a3:Option Addr} {n3:Nat} {al:List AlR} (h:FeIn w w0 u nn rb jb ob p r j o a2 n2 pk a3 n3 al) (hn:New u u'):FeIn w w0 u' nn rb jb ob p r j o a2 n2 pk a3 n3 al:=
 ⟨h.hw0,h.hu.new hn,h.hnn,New.blk hn h.hrb,h.pt,New.blk hn h.hjb,New.blk hn h.hob,h.obl,h.hj,h.hn2,h.p2,h.k2,h.l2,h.hn3,h.p3,h.k3,h.l3⟩
set_option maxHeartbeats 1000000 in
theorem fe8 {w w0 u:World} {nn rb jb ob:Nat} {p:aX} {r:aN} {j:FJob} {o:aI} {a2:Option Addr} {n2 c2:Nat} {pk:List pA} {a3:Option Addr} {n3 c3:Nat} {al:List AlR} (h:FeIn w w0 u nn rb jb ob p r j o a2 n2 pk a3 n3 al) (more:Bool)
  {ba:Option Addr} {bn bc:Nat} {l:List aU} (hbn:bn=l.length) (hbat:Rd u ba (je l).flatten) (hblt:∀ k,isB ba k→k<u.heap.size) (hvl:∃ num m lines,l=fB num m lines) (hl8:l.length≤1024) (jj:List Value) :
  W prog (sub (aA fFE) [1,1,1,1,1,1,1]) (eK nn a2 n2 c2 a3 n3 c3 more ⟨rb,0,none⟩ ⟨jb,0,none⟩ ⟨ob,0,none⟩ ba bn bc jj) (retQ prog fFE (qA w)) u:=by
 refine cH (P:=prog) (fn:=fFE) (R:=qA w) (λ_ _=>rfl) ?_
 rw [kM]
 refine ⟨_,h.hrb.cell (i:=0) rfl,?_⟩
 refine aC (Lines_c u h.pt) ?_
 rintro v u1 ⟨ln,rfl,h98,h104,rfl⟩
 refine ⟨_,rfl,?_⟩
 obtain ⟨ln,rfl⟩:=Int.eq_ofNat_of_zero_le (a:=ln) (by omega)
 have hwu:=h.hw0.new h.hu
 have hn2:=h.hn2
 have hl2:=h.l2
 subst hn2
 refine aC (AD (n:=nn) (C:=1) (lines:=ln) h.hnn (by omega) (by omega) (h.p2.new hwu) (by omega) h.k2) ?_
 rintro v w2 ⟨fb,F,N,Cl,P,rfl,hprep,hFl,hNl,hCl⟩
 refine ⟨_,rfl,?_⟩
 have hn:=hprep.new
 have hbat2:Bat w2 (F.own fb N Cl.length) ba l:=by
  obtain ⟨num,m,lines,rfl⟩:=hvl
  refine E9 (hbat.new hn) λk hk ho=>?_
  have:=hblt k hk
  have:=hprep.old k ho
  omega
 refine aC (EI hprep.fab (c:=0) (by omega) hprep.idle hbn hbat2 (by omega)) ?_
 rintro v w6 ⟨hk6,hcase⟩
 have hn6:New u1 w6:=hn.trans hk6 λk hlt e=>by have:=hprep.old k e;omega
 have h6:=h.new hn6
 have fin:∀ {pa:Option Addr} {m pc:Nat} {dn:List aV},m=dn.length→m≤2000→Rd w6 pa (gI dn).flatten→DnsB 100000 w6 (λ_=>False) dn→∀ jj1:Option Addr→Nat→Nat→Nat→List Value,Calls prog 12 #[(.slice pa m pc),(.int .i64 0),(.slice a3 n3 c3)] w6 λe w2=>∃ (rA:Option Addr) (rl rc:Nat),e=.returned (.slice rA rl rc)∧∀ b1 w3,b1=w2.heap.size→w3=w2.alloc (.cells #[(.slice rA rl rc)] TSDf)→W prog (sub (aA fFE) [1,1,1,1,1,1,1,1,1]) (dR more ⟨jb,0,none⟩ ⟨ob,0,none⟩ (some ⟨b1,0,none⟩) 1 1 (jj1 rA rl rc b1)) (Qr prog fFE (qA w) (retQ prog fFE (qA w))) w3:=by
  intro pa m pc dn hm h8 hr hd jj1
  refine aC (AQ hm h8 hr hd h.hn3 (h.p3.new (hwu.new hn6)) h.k3 (by have:=h.l3;omega) 0) ?_
  rintro x w2 ⟨oa,cap,dn',rfl,h8',hr',hd',hn2,hfo⟩
  refine ⟨_,_,_,rfl,?_⟩
  rintro b1 w3 hb1 hw3
  obtain ⟨hz3,hn3'⟩:=aR hb1 hw3
  have hz3:Blk w3 b1 [.slice oa dn'.length cap] TSDf:=hz3
  clear hw3
  obtain ⟨ds,hds⟩:=hd'.ds
  rw [xG (λ_ _=>rfl)]
  have h62:=h6.new hn2
  have hol:=h6.hob.lt
  exact fe9 h.hw0 h62.hu hn3' h62.hjb h62.hob h.obl h.hj (by omega) hz3 hr' hds h8' (λd hd=>by
   obtain ⟨⟨xs,_,_,_,_,h7⟩,_⟩:=hd' d hd
   exact h7) (λe=>by have:=hfo _ e;omega) more _
 rcases hcase with rfl | ⟨db,cap,dn,rfl,hbd,hdl,hdb,hdn⟩
 ·exact ⟨_,_,_,rfl,fin (dn:=[]) rfl (by simp) (.inl rfl) (λd hd=>by cases hd) (λ_ _ _ _=>_)⟩
 ·exact ⟨_,_,_,rfl,fin hdl.symm (by omega) (fM hbd (by rw [List.drop_zero];exact List.take_of_length_le (Nat.le_refl _))) (λd hd=>(hdn d hd).b.to (Nat.le_refl _) λk _ e=>e.elim) (λ_ _ _ _=>_)⟩
set_option maxHeartbeats 1000000 in
theorem fe3 {w w0 u:World} {nn rb jb ob:Nat} {p:aX} {r:aN} {j:FJob} {o:aI} {a2:Option Addr} {n2 c2:Nat} {pk:List pA} {a3:Option Addr} {n3 c3:Nat} {al:List AlR} (h:FeIn w w0 u nn rb jb ob p r j o a2 n2 pk a3 n3 al) (more:Bool)
  {na ba:Option Addr} {n nc bc:Nat} {l:List aU} (hn:n=l.length) (hna:Rd u na (je l).flatten) (hba:Rd u ba (je l).flatten) (hblt:∀ k,isB ba k→k<u.heap.size) (hvl:∃ num m lines,l=fB num m lines) (hl8:l.length≤1024) (over:Bool) {c:Int} {ps:List aG} (ho:FOut u o c ps) {pa:Option Addr} {pl pc:Nat} (hpl:pl=ps.length) (hps:Rd u pa (eF ps).flatten) (hfew:ps.length≤1000000) (jj:List Value) :
  W prog (sub (aA fFE) [1,1,1,1,1,1]) (bX nn a2 n2 c2 a3 n3 c3 more ⟨rb,0,none⟩ ⟨jb,0,none⟩ na n nc ⟨ob,0,none⟩ over ba n bc c pa pl pc over jj) (retQ prog fFE (qA w)) u:=by
 rw [jw,iU]
 refine cH (P:=prog) (fn:=fFE) (R:=qA w) (λ_ _=>rfl) ?_
 rw [kH]
 refine eE (by cases over<;>rfl) ?_
 have hk:∀ v ∈ l,v.Kind=1:=by
  obtain ⟨num,m,lines,rfl⟩:=hvl
  exact AL
 refine aC (zB hn (by omega) hna hba hk) ?_
 rintro x w1 ⟨rfl,hn1⟩
 refine ⟨_,rfl,?_⟩
 have y2:=New.blk hn1 h.hob
 rw [kI]
 refine eE rfl ⟨_,y2.cell (i:=0) rfl,?_⟩
 rw [kJ]
 refine eE (by rw [ho.code];simp) ⟨_,_,_,y2.cell (i:=1) rfl,?_⟩
 refine aC (uo ho.len hpl (ho.rd.new hn1) (hps.new hn1) hfew) ?_
 rintro x w2 ⟨rfl,hn2⟩
 refine ⟨_,rfl,?_⟩
 rw [kK]
 refine eE rfl ?_
 refine aC (Go.Mx.E7 w2) ?_
 rintro x w3 ⟨rfl,hn3⟩
 refine ⟨_,rfl,bF ?_⟩
 refine cH (P:=prog) (fn:=fFE) (R:=qA w) (λ_ _=>rfl) ?_
 rw [kL]
 refine eE rfl (bF ?_)
 have hn03:=(hn1.new hn2).new hn3
 have hs:=hn03.size
 exact fe8 (h.new hn03) more hn (hba.new hn03) (λk hk=>by have:=hblt k hk;omega) hvl hl8 _
set_option maxHeartbeats 1000000 in
theorem fe2 {w u:World} (hwu:New w u) {nodes:Int} (hno:I64 nodes) {rb:Nat} {p:aX} {ls:List Int} (hrb:Blk u rb p.cells 58) (hp:FRaw w p ls) {a2:Option Addr} {n2 c2:Nat} {pk:List pA} (hn2:n2=pk.length) (hp2:Rd w a2 (wE pk).flatten) (hpk:∀ p ∈ pk,pj p) (hl2:n2≤12) {a3:Option Addr} {n3 c3:Nat} {al:List AlR} (hn3:n3=al.length) (hl3:Rd w a3 (wJ al).flatten) (hok3:∀ x ∈ al,AlOk x) (h5:n3≤5) (more:Bool) (jj:List Value) :
  W prog (sub (aA fFE) [1,1]) (cW nodes a2 n2 c2 a3 n3 c3 more ⟨rb,0,none⟩ jj) (retQ prog fFE (qA w)) u:=by
 refine cH (P:=prog) (fn:=fFE) (R:=qA w) (λ_ _=>rfl) ?_
 rw [kG]
 refine aC (dK u nodes 5 hno (by omega)) ?_
 rintro v u1 ⟨rfl,rfl⟩
 have hpi:=jT (x:=nodes) (n:=5) (by omega)
 refine ⟨_,rfl,?_⟩
 generalize (if (5:Int)<1 then 0 else nodes % 5)=nd at hpi ⊢
 rw [w64 (x:=nd+1) (by omega) (by omega)]
 obtain ⟨nn,hnn⟩:=Int.eq_ofNat_of_zero_le (a:=nd+1) (by omega)
 rw [hnn]
 have hnb:1≤nn∧nn≤5:=by omega
 clear hnn hpi
 refine aX.mk_ex p ⟨aH hrb rfl,?_⟩
 refine aC (Fr u1 (n0:=nn) (by omega) (by omega) (hp.new hwu)) ?_
 rintro x w2 ⟨r,j,rfl,hj,hn12⟩
 refine aN.mk_ex r ⟨rfl,mr (vs:=r.cells) rfl (aN.single _) λjb w4 hjb hzj hn4=>?_⟩
 have hj4:=hj.new hn4
 have hzj:Blk w4 jb r.cells TFJ:=hzj
 refine aN.mk_ex r ⟨aH hzj rfl,?_⟩
 refine aC (AO hj4 (ga:=none) (gn:=0) (gc:=0) (Nat.le_refl _) (xa:=none) (xl:=0) (xc:=0) (raw:=[]) (ds:=[]) (λe=>absurd rfl e) (λd hd=>by cases hd)) ?_
 rintro x w5 ⟨hn5,hcase⟩
 have hw4:=(hwu.new hn12).new hn4
 have hs5:=hn5.size
 rcases hcase with ⟨ha,m,na,nc,o,hm,rfl,ho,hra,hlt⟩ | ⟨hna,o,rfl,ho⟩
 ·refine ⟨_,_,_,aI.mk_ex o ⟨_,rfl,mr (vs:=o.cells) rfl (aI.single _) λob w7 hob hzo hn7=>?_⟩⟩
  have hzo:Blk w7 ob o.cells TFO:=hzo
  have y1:=New.blk (hn5.new hn7) hzj
  refine ⟨_,y1.cell (i:=0) rfl,aF.mk_ex r.View ⟨aH y1 rfl,_,_,_,y1.cell (i:=3) rfl,?_⟩⟩
  refine aC (vF (hj4.new (hn5.new hn7)) (ga:=none) (gn:=0) (gc:=0) (xa:=none) (xl:=0) (xc:=0) (raw:=[]) (ds:=[]) (λe=>absurd rfl e)) ?_
  rintro x w8 ⟨hn8,hcase⟩
  rcases hcase with ⟨_,m',ra,rc,hm',rfl,hrr,hrl⟩ | ⟨hna,_⟩
  case inr=>exact absurd ha hna
  rw [hm] at hm'
  cases hm'
  refine ⟨_,_,_,_,_,_,_,_,rfl,?_⟩
  rw [xG (λ_ _=>rfl)]
  have hv:=vD ha.1
  have hn58:=(hn5.new hn7).new hn8
  exact fe3 (w0:=w4) (p:=p) (r:=r) (j:=j) (o:=o) (pk:=pk) (al:=al) ⟨hw4,hn58,hnb,New.blk ((hn12.new hn4).new hn58) hrb,hp.a,New.blk hn58 hzj,New.blk hn8 hzo,by omega,hj4,hn2,hp2,hpk,hl2,hn3,hl3,hok3,h5⟩ more (l:=fB r.View.Number m j.lines) (yX _ _ _).symm (hra.new (hn7.new hn8)) hrr (λk hk=>(hrl k hk).2) ⟨_,_,_,rfl⟩ (by rw [yX];exact hv.2.2.1) false (ho.new (hn7.new hn8)) rfl (.inl rfl) (by simp) _
 ·refine ⟨_,_,_,aI.mk_ex o ⟨_,rfl,mr (vs:=o.cells) rfl (aI.single _) λob w7 hob hzo hn7=>?_⟩⟩
  have hzo:Blk w7 ob o.cells TFO:=hzo
  have y1:=New.blk (hn5.new hn7) hzj
  refine ⟨_,y1.cell (i:=0) rfl,aF.mk_ex r.View ⟨aH y1 rfl,_,_,_,y1.cell (i:=3) rfl,?_⟩⟩
  refine aC (vF (hj4.new (hn5.new hn7)) (ga:=none) (gn:=0) (gc:=0) (xa:=none) (xl:=0) (xc:=0) (raw:=[]) (ds:=[]) (λe=>absurd rfl e)) ?_
  rintro x w8 ⟨hn8,hcase⟩
  rcases hcase with ⟨ha,_⟩ | ⟨_,pa,pc,rfl,hps⟩
  ·exact absurd ha hna
  refine ⟨_,_,_,_,_,_,_,_,rfl,?_⟩
  rw [xG (λ_ _=>rfl)]
  have hn58:=(hn5.new hn7).new hn8
  have hfew:(fZ j 0 []).2.length≤1000000:=by
   unfold fZ
   repeat' split
   all_goals simp [gR]
  exact fe3 (w0:=w4) (p:=p) (r:=r) (j:=j) (o:=o) (pk:=pk) (al:=al) ⟨hw4,hn58,hnb,New.blk ((hn12.new hn4).new hn58) hrb,hp.a,New.blk hn58 hzj,New.blk hn8 hzo,by omega,hj4,hn2,hp2,hpk,hl2,hn3,hl3,hok3,h5⟩ more (l:=[]) rfl (.inl rfl) (.inl rfl) (λk hk=>absurd hk noB) ⟨0,noM,[],rfl⟩ (by simp) true (ho.new (hn7.new hn8)) rfl hps hfew _
structure Dv (w:World) (r:aX) (l:List Int):Prop where
 a:I64 r.Total
 b:I64 r.Mask
 c:I64 r.Spoil
 d:I64 r.At
 rd:Rd w r.Lines (is l)
 len:r.Lines_l=l.length
 i64:∀ x ∈ l,I64 x
theorem xw (w:World) {p:aX} {ls:List Int} (hp:Dv w p ls) {nodes:Int} (hno:I64 nodes) {a2 a3:Option Addr} {n2 c2 n3 c3:Nat} {pk:List pA} (hn2:n2=pk.length) (hp2:Rd w a2 (wE pk).flatten) (hpk:∀ p ∈ pk,pj p) {al:List AlR} (hn3:n3=al.length) (hl3:Rd w a3 (wJ al).flatten) (hok3:∀ x ∈ al,AlOk x) (more:Bool) :
  Does 5 [p.val,.int .i64 nodes,.slice a2 n2 c2,.slice a3 n3 c3,.bool more] w (qA w):=by
 refine does Tryz.func5 ?_
 rw [nQ]
 rintro b1 w1 hb1 hw1
 obtain ⟨hz1,hn1⟩:=aR hb1 hw1
 have hz1:Blk w1 b1 p.cells 58:=hz1
 clear hw1
 have hll:=hp.len
 have one:∀ (b:Bool),(b=false→n2≤12∧n3≤5∧ls.length≤10)→∀ jj,W prog (sub (aA fFE) [1,0,1]) (cV nodes a2 n2 c2 a3 n3 c3 more ⟨b1,0,none⟩ b jj) (seqQ (λenv w'=>W prog (sub (aA fFE) [1,1]) env (retQ prog fFE (qA w)) w') (retQ prog fFE (qA w))) w1:=by
  intro b hbn jj
  refine cH (P:=prog) (fn:=fFE) (R:=qA w) (λ_ _=>rfl) ?_
  rw [kF]
  refine lm (λ_=>⟨rfl,hn1⟩) (λhbf=>bF ?_)
  obtain ⟨q1,q2,q3⟩:=hbn hbf
  exact fe2 hn1 hno hz1 (ls:=ls) ⟨hp.a,hp.b,hp.c,hp.d,hp.rd,hp.len,q3,hp.i64⟩ hn2 hp2 hpk q1 hn3 hl3 hok3 q2 more _
 exact aD (λ_=>one true (λe=>(nomatch e)) _) (λh1=>aD (λ_=>one true (λe=>(nomatch e)) _) (λh2=>⟨_,_,_,hz1.cell (i:=4) rfl,one (decide ((p.Lines_l:Int)>10)) (λe=>by have:=of_decide_eq_false e;omega) _⟩))
end Go.Proofs.YtafopfaomkklpaaGreat
namespace Go.Proofs.YtafopfaomkklpaaGreat
open Go.Proofs.Tryz
open Go.ChangeShapes Go.WideShapes Go.ChangeAt Go.RowKit Go.Eng
section
variable {H:Type} {enc:TypeId×Value→H} {W:World} {held:Bool}
theorem cUo:prog.cellsOf 32=1:=by kernel_rfl
theorem FF {cs:List Value} (h:cs.length=6):∃ a b c d e f,cs=[a,b,c,d,e,f]:=by
 match cs,h with
 | [a,b,c,d,e,f],_=>exact ⟨a,b,c,d,e,f,rfl⟩
set_option maxRecDepth 100000 in
theorem BJ {fuel:Nat} {cs:List Value} {x:DataW H×List MemPlace} (h:DataW.trod enc prog W 0 (λ_=>true) held fuel 75 cs=some x):∃ p:pA,cs=aQ.cells p∧pj p:=by
 obtain ⟨xs,n,_,_,hl,hlen,hfs⟩:=DataW.trod_struct Tryz.underlying75 h
 have hc:prog.cellsOf 75=6:=by kernel_rfl
 obtain ⟨c0,c1,c2,c3,c4,c5,rfl⟩:=FF (hl.trans hc)
 obtain ⟨_,g0⟩:=fld hfs hlen 0 TIo 0 1 rfl cI
 obtain ⟨_,g1⟩:=fld hfs hlen 1 TIo 1 1 rfl cI
 obtain ⟨_,g2⟩:=fld hfs hlen 2 TIo 2 1 rfl cI
 obtain ⟨_,g3⟩:=fld hfs hlen 3 TIo 3 1 rfl cI
 obtain ⟨_,g4⟩:=fld hfs hlen 4 TIo 4 1 rfl cI
 obtain ⟨_,g5⟩:=fld hfs hlen 5 32 5 1 rfl cUo
 obtain ⟨n0,e0,_,w0⟩:=DataW.trod_int Tryz.underlying3 g0
 obtain ⟨n1,e1,_,w1⟩:=DataW.trod_int Tryz.underlying3 g1
 obtain ⟨n2,e2,_,w2⟩:=DataW.trod_int Tryz.underlying3 g2
 obtain ⟨n3,e3,_,w3⟩:=DataW.trod_int Tryz.underlying3 g3
 obtain ⟨n4,e4,_,w4⟩:=DataW.trod_int Tryz.underlying3 g4
 obtain ⟨n5,e5,_,w5⟩:=DataW.trod_int Tryz.underlying32 g5
 simp at e0 e1 e2 e3 e4 e5
 exact ⟨⟨n0,n1,n2,n3,n4,n5⟩,by rw [e0,e1,e2,e3,e4,e5];rfl,⟨m6 w0,m6 w1,m6 w2,m6 w3,m6 w4,C9 w5⟩⟩
set_option maxRecDepth 100000 in
theorem Ae {r:Reach} {base:Nat} {v:Value} {d:DataW H} {p:List MemPlace} (hv:Value.okWide prog W r base 22 v) (h:DataW.Trod enc prog W 0 (λ_=>true) held 22 v d p) :
  ∃ (a:Option Addr) (c:Nat) (l:List pA),v=.slice a l.length c∧Rd W a (wE l).flatten∧∀ p ∈ l,pj p:=by
 have hm:prog.cellsOf 75=6:=by kernel_rfl
 obtain ⟨ad,cap,rows,rfl,hrd,hrows⟩:=wq Tryz.underlying22 hm (by omega) hv h
 obtain ⟨ms,rfl,hu⟩:=xK (cells:=aQ.cells) (Ok:=pj) λr hr=>by
  obtain ⟨_,fuel,x,hx⟩:=hrows r hr
  exact BJ hx
 rw [List.length_map]
 exact ⟨ad,cap,ms,rfl,hrd,hu⟩
theorem xx {P:Program} {w:World} {base:Nat} {spare:Nat→Bool} {held:Bool} {t t' t'' t3 t4:TypeId} {args:Array Value} {ds:List (DataW H)} {ps:List MemPlace} (h:DataW.TrodAll enc P w base spare held [t,t',t'',t3,t4] args.toList ds ps) :
  ∃ v v' v'' v3 v4 d d' d'' d3 d4 p p' p'' p3 p4,args=#[v,v',v'',v3,v4]∧ds=[d,d',d'',d3,d4]∧ps=p++p'++p''++p3++p4∧DataW.Trod enc P w base spare held t v d p∧DataW.Trod enc P w base spare held t' v' d' p'∧DataW.Trod enc P w base spare held t'' v'' d'' p''∧DataW.Trod enc P w base spare held t3 v3 d3 p3∧DataW.Trod enc P w base spare held t4 v4 d4 p4:=by
 obtain ⟨v,vs,d,ds',p,q,hargs,rfl,rfl,hd,hrest⟩:=trodAll_cons h
 obtain ⟨v',vs',d',ds'',p',q',rfl,rfl,rfl,hd',hrest'⟩:=trodAll_cons hrest
 obtain ⟨v'',vs'',d'',dsa,p'',q'',rfl,rfl,rfl,hd'',hrest''⟩:=trodAll_cons hrest'
 obtain ⟨v3,vs3,d3,ds3,p3,q3,rfl,rfl,rfl,hd3,hrest3⟩:=trodAll_cons hrest''
 obtain ⟨v4,vs4,d4,ds4,p4,q4,rfl,rfl,rfl,hd4,hrest4⟩:=trodAll_cons hrest3
 obtain ⟨rfl,rfl,rfl⟩:=trodAll_nil hrest4
 exact ⟨v,v',v'',v3,v4,d,d',d'',d3,d4,p,p',p'',p3,p4,by cases args;simp_all,rfl,by simp,hd,hd',hd'',hd3,hd4⟩
theorem FG {cs:List Value} (h:cs.length=4):∃ a b c d,cs=[a,b,c,d]:=by
 match cs,h with
 | [a,b,c,d],_=>exact ⟨a,b,c,d,rfl⟩
set_option maxRecDepth 100000 in
theorem Ag {fuel:Nat} {cs:List Value} {x:DataW H×List MemPlace} (h:DataW.trod enc prog W 0 (λ_=>true) held fuel 101 cs=some x):∃ p:AlR,cs=aY.cells p∧AlOk p:=by
 obtain ⟨xs,n,_,_,hl,hlen,hfs⟩:=DataW.trod_struct Tryz.underlying101 h
 have hc:prog.cellsOf 101=4:=by kernel_rfl
 obtain ⟨c0,c1,c2,c3,rfl⟩:=FG (hl.trans hc)
 obtain ⟨_,g0⟩:=fld hfs hlen 0 TIo 0 1 rfl cI
 obtain ⟨_,g1⟩:=fld hfs hlen 1 TIo 1 1 rfl cI
 obtain ⟨_,g2⟩:=fld hfs hlen 2 TIo 2 1 rfl cI
 obtain ⟨_,g3⟩:=fld hfs hlen 3 32 3 1 rfl cUo
 obtain ⟨n0,e0,_,w0⟩:=DataW.trod_int Tryz.underlying3 g0
 obtain ⟨n1,e1,_,w1⟩:=DataW.trod_int Tryz.underlying3 g1
 obtain ⟨n2,e2,_,w2⟩:=DataW.trod_int Tryz.underlying3 g2
 obtain ⟨n3,e3,_,w3⟩:=DataW.trod_int Tryz.underlying32 g3
 simp at e0 e1 e2 e3
 exact ⟨⟨n0,n1,n2,n3⟩,by rw [e0,e1,e2,e3];rfl,⟨m6 w0,m6 w1,m6 w2,C9 w3⟩⟩
set_option maxRecDepth 100000 in
theorem yC {r:Reach} {base:Nat} {v:Value} {d:DataW H} {p:List MemPlace} (hv:Value.okWide prog W r base 23 v) (h:DataW.Trod enc prog W 0 (λ_=>true) held 23 v d p) :
  ∃ (a:Option Addr) (c:Nat) (l:List AlR),v=.slice a l.length c∧Rd W a (wJ l).flatten∧∀ p ∈ l,AlOk p:=by
 have hm:prog.cellsOf 101=4:=by kernel_rfl
 obtain ⟨ad,cap,rows,rfl,hrd,hrows⟩:=wq Tryz.underlying23 hm (by omega) hv h
 obtain ⟨ms,rfl,hu⟩:=xK (cells:=aY.cells) (Ok:=AlOk) λr hr=>by
  obtain ⟨_,fuel,x,hx⟩:=hrows r hr
  exact Ag hx
 rw [List.length_map]
 exact ⟨ad,cap,ms,rfl,hrd,hu⟩
set_option maxRecDepth 100000 in
theorem Ah {r:Reach} {base:Nat} {v:Value} {d:DataW H} {p:List MemPlace} (hv:Value.okWide prog W r base 58 v) (h:DataW.Trod enc prog W 0 (λ_=>true) held 58 v d p) :
  ∃ (q:aX) (l:List Int),v=q.val∧Dv W q l:=by
 obtain ⟨cs,rfl,fuel,x,hf⟩:=BW Tryz.underlying58 hv h
 obtain ⟨xs,n,_,_,hl,hlen,hfs⟩:=DataW.trod_struct Tryz.underlying58 hf
 have hc:prog.cellsOf 58=5:=by kernel_rfl
 have hs:prog.cellsOf 33=1:=by kernel_rfl
 obtain ⟨c0,c1,c2,c3,c4,rfl⟩:=len5 (hl.trans hc)
 obtain ⟨_,g0⟩:=fld hfs hlen 0 TIo 0 1 rfl cI
 obtain ⟨_,g1⟩:=fld hfs hlen 1 TIo 1 1 rfl cI
 obtain ⟨_,g2⟩:=fld hfs hlen 2 TIo 2 1 rfl cI
 obtain ⟨_,g3⟩:=fld hfs hlen 3 TIo 3 1 rfl cI
 obtain ⟨_,g4⟩:=fld hfs hlen 4 33 4 1 rfl hs
 obtain ⟨n0,e0,_,w0⟩:=DataW.trod_int Tryz.underlying3 g0
 obtain ⟨n1,e1,_,w1⟩:=DataW.trod_int Tryz.underlying3 g1
 obtain ⟨n2,e2,_,w2⟩:=DataW.trod_int Tryz.underlying3 g2
 obtain ⟨n3,e3,_,w3⟩:=DataW.trod_int Tryz.underlying3 g3
 obtain ⟨ad,cap,l,e4,hcap,hrd,hi⟩:=zt Tryz.underlying33 Tryz.underlying3 cI g4
 simp at e0 e1 e2 e3 e4
 exact ⟨⟨n0,n1,n2,n3,ad,l.length,cap⟩,l,by rw [e0,e1,e2,e3,e4];rfl,⟨m6 w0,m6 w1,m6 w2,m6 w3,hrd,rfl,hi⟩⟩
end
end Go.Proofs.YtafopfaomkklpaaGreat
namespace Go.Proofs.YtafopfaomkklpaaGreat
open Go.Proofs.Tryz
open Go.ChangeShapes Go.WideShapes Go.ChangeAt Go.RowKit Go.Eng
set_option maxRecDepth 100000 in
theorem C0 (os:Os) (started:os.Started) (H:Type) (enc:TypeId×Value→H) :
  ReturnsInHanded {} Tryz.checked os 5 .any (Rows.fetchExactSpec.pre6 enc prog f5 Rows.fetchExactRow.domain false) (Rows.fetchExactSpec.post enc prog f5 false true false false):=by
 refine returnsInHanded_of_change (C:=Tryz.checked) Fd started (by kernel_rfl) Tryz.func5
  (ChangeSpec.witness6 (enc:=enc) (C:=Tryz.checked) false ⟨#[],#[.agg #[.int .i64 0,.int .i64 0,.int .i64 0,.int .i64 0,.slice none 0 0],.int .i64 0,.slice none 0 0,.slice none 0 0,.bool false],[]⟩ 8 (by kernel_rfl) (by kernel_rfl) (by kernel_rfl) (by kernel_rfl)) ?_
 intro W base args ds gs before hval0 hW hcnd _
 have hval:∀ (j:Nat) t v,f5.params[j]?=some t→args[j]?=some v→Value.okWide prog W .any base t v:=hval0
 have hW':=hW
 obtain ⟨p,q,hA0,hV,rfl,hfz,hnd⟩:=hW
 have hA:DataW.TrodAll enc prog W 0 (λ_=>true) true f5.params.toList args.toList ds p:=hA0
 rw [Tryz.params5] at hA hval
 obtain ⟨v0,v1,v2,v3,v4,d0,d1,d2,d3,d4,p0,p1,p2,p3,p4,rfl,rfl,rfl,h0,h1,h2,h3,h4⟩:=xx hA
 obtain ⟨rfl,rfl⟩:=trodVars_none hV
 obtain ⟨r0,rl,rfl,hr0⟩:=Ah (hval 0 _ v0 rfl rfl) h0
 obtain ⟨a1,rfl,_,_,w1⟩:=open_int Tryz.underlying3 (hval 1 _ v1 rfl rfl) h1
 obtain ⟨a2,c2,pk,rfl,hr2,hp2⟩:=Ae (hval 2 _ v2 rfl rfl) h2
 obtain ⟨a3,c3,al,rfl,hr3,hp3⟩:=yC (hval 3 _ v3 rfl rfl) h3
 obtain ⟨b4,rfl,_⟩:=open_bool Tryz.underlying4 (hval 4 _ v4 rfl rfl) h4
 refine (xw W hr0 (m6 w1) rfl hr2 hp2 rfl hr3 hp3 b4).mono λe W' ⟨x,he,hx,hg⟩=>?_
 subst he hx
 refine ⟨_,rfl,BT hW' hg (by rw [Tryz.params5];decide +kernel) rfl rfl (tb:=4) (by kernel_rfl) Tryz.underlying4⟩
theorem fx_1:Rows.fetchExactRow.wf (OpenSpec.ofChange Rows.fetchExactSpec)=true:=by kernel_rfl
theorem fx_2:mapsRowed prog=true:=by kernel_rfl
theorem fx_3:f5.params.all (prog.readableRec ·)=true:=by kernel_rfl
theorem fx_4:namedTie prog Rows.fetchExactRow.named Rows.fetchExactSpec.vars=true:=by kernel_rfl
theorem fx_5:(Rows.fetchExactRow.inPlace == prog.inPlace 5)=true:=by kernel_rfl
theorem fx_6:(Rows.fetchExactRow.unfollowed == prog.unfollowed 5)=true:=by kernel_rfl
theorem fx_7:(Rows.fetchExactRow.recurses == prog.recurses 5)=true:=by kernel_rfl
theorem fx_8:(Rows.fetchExactRow.named == prog.varsNamed 5)=true:=by kernel_rfl
theorem C1:joinedFacts prog 5 f5 Rows.fetchExactSpec Rows.fetchExactRow=true:=by
 unfold joinedFacts
 rw [fx_1,laid,fx_2,fx_3,fx_4,fx_5,fx_6,fx_7,fx_8]
 kernel_rfl
theorem Fb:Rows.fetchExactRow.holds Tryz.pinned (OpenSpec.ofChange Rows.fetchExactSpec):=
 OpenClaim.holds_of_wide 5 f5 rfl rfl rfl rfl rfl rfl rfl ⟨rfl,rfl,rfl,rfl,rfl⟩ rfl rfl rfl rfl rfl (by kernel_rfl) Tryz.func5 C1
  (of_decide_eq_true (by kernel_rfl)) (by unfold Func.isWrapper;first | (rw [if_pos (by decide +kernel)];kernel_rfl) | (rw [if_neg (by decide +kernel)];exact ⟨rfl,rfl⟩))
  (λos started H enc _=>C0 os started H enc)
theorem fetchExact_holds:Rows.FetchExactSaid:=Fb
#print axioms fetchExact_holds
end Go.Proofs.YtafopfaomkklpaaGreat
