import Derived.Test.YtgpmeaicjonenaaGreata35
import Derived.Test.YtgpmeaicjonenaaGreata40
import Derived.Test.YtgpmeaicjonenaaGreata41
set_option linter.unusedVariables false
namespace Go.Proofs.YtgpmeaicjonenaaGreat
open Go.Proofs.Tryz
open Go.Eng
set_option maxRecDepth 20000 in
theorem tN {T:TypeId} {ks:List Bool} (hf:Go.Mx.te prog 8 T=some ks) (ha:isAgg? prog T=true) (hg:Program.eqGuardType prog (Program.depth prog) T=false) {xs ys:List Value} (hc:Go.Mx.qg ks xs ys) {K:Bool→Prop} (hk:K (Go.Mx.eqvL xs ys)) :
  uT prog T (.agg xs.toArray) (.agg ys.toArray) K:=by
 generalize hrv:Go.Mx.eqvL xs ys=r at hk
 refine ⟨r,λw=>?_,hk⟩
 have hq:=Go.Mx.Bi 8 T _ hf 10000 (by omega) xs ys hc w
 unfold Go.Mx.tf at hq
 rw [if_pos ha,if_pos ha,hrv] at hq
 have hq':(Op.equalIn 10000 T (.agg xs.toArray) (.agg ys.toArray)).run prog w=.ok r w:=hq
 cases r
 all_goals exact ⟨λop x y=>run_eqGuard_agg w op T x y _ _ hg,by rw [run_eql_struct,hq'];rfl,by rw [run_neq_struct,hq'];rfl⟩
abbrev TDt:TypeId:=71
theorem Er:Go.Mx.te prog 8 TDt=some [false,false,false,false,false,false,false]:=by kernel_rfl
theorem Fs:isAgg? prog TDt=true:=by kernel_rfl
theorem CJ:Program.eqGuardType prog (Program.depth prog) TDt=false:=by kernel_rfl
theorem Es:Go.Mx.te prog 8 TPg=some [false,false,false,false,false,false,false,false,false]:=by kernel_rfl
theorem Ft:isAgg? prog TPg=true:=by kernel_rfl
theorem CK:Program.eqGuardType prog (Program.depth prog) TPg=false:=by kernel_rfl
def uL (p:aG):aV:=⟨p.Line,p.Head⟩
theorem Fu {w:World} {a:Option Addr} {n c:Nat} {ps:List aG} (hn:n=ps.length) (hr:Rd w a (nr ps).flatten) (hl:ps.length≤1000):Does 36 [.slice a n c] w λv w'=>New w w'∧
  if (ps.all λp=>unl p.Head)=true then ∃ (ra:Option Addr) (rc:Nat),v=.tuple #[.slice ra n rc,.int .i64 0]∧Rd w' ra (tA (ps.map uL)).flatten∧∀ k,isB ra k→w.heap.size≤k else v=.tuple #[.slice none 0 0,.int .i64 3]:=by
 subst hn
 refine does Tryz.func36 ?_
 rw [uK]
 refine aT mix (λm env u=>∃ (i:Nat) (ra:Option Addr) (rc:Nat) (jj:List Value),m=ps.length - i∧i≤ps.length∧env=iD ra i rc a ps.length c ps.length i jj∧New w u∧Owns u 137 2 ra i rc (tA ((ps.take i).map uL)).flatten∧(∀ k,isB ra k→w.heap.size≤k)∧((ps.take i).all λp=>unl p.Head)=true) ps.length
  ⟨0,none,0,_,by omega,by omega,rfl,Keep.refl _ _,Owns.nil _ _ _,λk hk=>absurd hk noB,rfl⟩ ?_
 rintro m env u ⟨i,ra,rc,jj,rfl,hi,rfl,hnu,hown,hf,hall⟩
 rw [nN]
 refine aH (λhq=>?_) (λhq=>?_)
 ·have hlt:i<ps.length:=by omega
  have hg:ps[i]?=some ps[i]:=List.getElem?_eq_getElem hlt
  generalize ps[i]=p at hg
  refine ez (cells:=aG.cells) aG.len (by omega) (hr.new hnu) hg rfl rfl λb o hcc _=>aG.mk_ex p ⟨hcc,?_⟩
  refine gF (vs:=p.cells) rfl (aG.single _) λb1 w2 hb1 hz2 hn2=>⟨_,hz2.cell (i:=1) rfl,?_⟩
  refine aF (Ad w2 p.Head) ?_
  rintro x w3 ⟨rfl,rfl⟩
  refine ⟨_,rfl,dG (λhe=>?_) (λhe=>?_)⟩
  ·refine ⟨hnu.new hn2,?_⟩
   rw [if_neg]
   rw [List.all_eq_true]
   intro h
   have:=h p (List.mem_of_getElem? hg)
   rw [he] at this
   cases this
  ·refine ⟨_,hz2.cell (i:=0) rfl,_,hz2.cell (i:=1) rfl,?_⟩
   rintro b2 w4 hb2 hw4
   obtain ⟨hz4,hn4⟩:=aO hb2 hw4
   have hz4:Blk w4 b2 (uL p).cells 137:=hz4
   clear hw4
   obtain ⟨inf,hinf,hzz,hsz,hby⟩:=iF (T:=137) (z:=.agg #[.int .i64 0,.int .u64 0]) (n:=2) (m:=16) (by kernel_rfl)
   have hn24:=hn2.new hn4
   refine tB (cells:=aV.cells) aV.len aV.single Tryz.underlying36 hinf hzz (by rw [hsz];rfl) hsz (by omega) (by omega) (l:=(ps.take i).map uL) (Owns.new hn24 hown) (l2:=[uL p]) (m:=1) (eQ hz4 rfl) rfl (by omega) λap cap' w5 ho5 hk5 hap=>?_
   rw [w64 (x:=(i:Int)+1) (by omega) (by omega)]
   have et:(ps.take (i+1)).map uL=(ps.take i).map uL++[uL p]:=by rw [nK hg,List.map_append];rfl
   have hsz2:=hn24.size
   have hnus:=hnu.size
   refine ⟨ps.length - (i+1),by omega,i+1,ap,cap',_,rfl,by omega,rfl,(hnu.new hn24).trans hk5 λk hlt e=>by have:=hf k e;omega,?_,λk hk=>?_,?_⟩
   ·rw [et];exact ho5
   ·rcases hap k hk with e | e
    ·exact hf k e
    ·omega
   ·rw [nK hg,List.all_append,hall]
    simp [he]
 ·have hie:i=ps.length:=by omega
  subst hie
  rw [qh]
  rw [List.take_of_length_le (Nat.le_refl _)] at hown hall
  refine ⟨hnu,?_⟩
  rw [if_pos hall]
  exact ⟨ra,rc,rfl,hown.rd,hf⟩
end Go.Proofs.YtgpmeaicjonenaaGreat
namespace Go.Proofs.YtgpmeaicjonenaaGreat
open Go.Eng C16
structure PgU (p:aG):Prop where
 head:U64 p.Head
 data:∀ x ∈ datL p,U64 x
def tO (c seq lines:Int) (rv:aM) (ra:Option Addr) (rl rc:Nat) (wa:Option Addr) (wl wc:Nat):aB:=
 ⟨3,c,⟨0⟩,⟨0,0,0,0,0⟩,⟨c,seq,lines,rv,ra,rl,rc,wa,wl,wc⟩,⟨0,0,0,⟨0,none,0,0⟩,0,0,0⟩,⟨0,0,0,0⟩,⟨0,⟨0,none,0,0⟩,none,0,0⟩,none,0,0,false,false,0,⟨0,none,0,0⟩,0,none,0,0,0,0,0,0,0,false,none,0,0⟩
def tP (c total:Int) (rv:aM) (la:Option Addr) (ll lc:Nat):aB:=
 ⟨9,c,⟨0⟩,⟨0,0,0,0,0⟩,⟨0,0,0,⟨0,none,0,0⟩,none,0,0,none,0,0⟩,⟨0,0,0,⟨0,none,0,0⟩,0,0,0⟩,⟨0,0,0,0⟩,⟨total,rv,la,ll,lc⟩,none,0,0,false,false,0,⟨0,none,0,0⟩,0,none,0,0,0,0,0,0,0,false,none,0,0⟩
def uM (c:Int) (j:CJob):Tk C16.conv:=⟨c,.inl j,[],false,false,.inl (0,0)⟩
def uN (c:Int) (f:FJob):Tk C16.conv:=⟨c,.inr f,[],false,false,.inr (0,[])⟩
theorem yh {A:Nat→Prop} {u:World} {c seq lines:Int} {n:Nat} {rv:aM} {ra:Option Addr} {rl rc:Nat} {wa:Option Addr} {wl wc:Nat} {R:List aV} {W:List aG} (hv:ViewAt A u rv (rg n))
  (hr:Rd u ra (tA R).flatten) (hrl:rl=R.length) (hrf:R.length≤1000000) (hro:(tA R).flatten=[]∨Off A ra) (hw:Rd u wa (nr W).flatten) (hwl:wl=W.length) (hwf:W.length≤1000000) (hwo:(nr W).flatten=[]∨Off A wa) (hu:∀ p ∈ W,PgU p) :
  fL A u (tO c seq lines rv ra rl rc wa wl wc) (uM c ⟨c,seq,lines,rg n,R,W⟩):=
 ⟨rfl,rfl,rfl,rfl,lr.nil _ _ _,rfl,Nat.le_refl _,⟨⟨rfl,rfl,rfl,⟨A,hv⟩,hr,hrl,hrf,⟨hw,hwl,hwf,λp hp=>(hu p hp).head⟩⟩,hv,hro,hwo,λp hp=>(hu p hp).data⟩,⟨rfl,rfl⟩,by show ([]:List (List Done)).length≤201;simp⟩
theorem yi {A:Nat→Prop} {u:World} {c total:Int} {n:Nat} {rv:aM} {la:Option Addr} {ll lc:Nat} {L:List Int} (hv:ViewAt A u rv (rg n)) (hr:Rd u la (is L)) (hl:ll=L.length) (hf:L.length≤100000) (ho:is L=[]∨Off A la) :
  fL A u (tP c total rv la ll lc) (uN c ⟨total,rg n,L⟩):=
 ⟨rfl,rfl,rfl,rfl,lr.nil _ _ _,rfl,Nat.le_refl _,⟨⟨rfl,⟨A,hv⟩,hr,hl,hf⟩,hv,ho⟩,⟨rfl,rfl,.inl rfl,.inl rfl,λp hp=>by cases hp⟩,by show ([]:List (List Done)).length≤201;simp⟩
theorem sH (c:Int) (j:CJob):tc (uM c j):=λ_=>by show ([]:List (List Done)).length≤200;simp
theorem sI (c:Int) (f:FJob):tc (uN c f):=λ_=>by show ([]:List (List Done)).length≤200;simp
section
attribute [local irreducible] drive alone
set_option maxRecDepth 20000 in
set_option maxHeartbeats 2000000 in
theorem Et (w:World):Does 34 [] w λv u=>v=.bool true∧New w u:=by
 obtain ⟨F',t',hdr,hover,hout⟩:=CD
 have hf:Fine (Fab.fresh 1 1 98):=Fine.fresh (by omega) (by omega) (by omega)
 refine does Tryz.func34 ?_
 rw [oz]
 refine aF (Ai (n:=1) (c:=1) (lines:=98) (by omega) (by omega) (by omega)) ?_
 rintro v u1 ⟨fb,A,χ,X,rfl,hF,hnw1,hA,hX⟩
 refine ⟨_,_,rfl,er rfl ?_⟩
 refine aF (zy _ (n:=1) (by omega) (by omega)) ?_
 rintro v u2 ⟨rv,vw,rfl,hv,hn2,_,rfl⟩
 refine aM.mk_ex rv ⟨rfl,?_⟩
 rintro b1 u3 hb1 hu3
 obtain ⟨hz3,hn3⟩:=aO hb1 hu3
 have hz3:Blk u3 b1 (is [96]) 3:=hz3
 clear hu3
 have hs2:=hn2.size
 have hT:TW A χ u1 fb (λ_=>False) u3 A χ X:=TW.start hF (hn2.new hn3) λk h=>h.elim
 have hlow:∀ k,A k∨False→k<u1.heap.size:=λk hk=>hk.elim (hF.low k) False.elim
 have htk:fL (λk=>A k∨False) u3 (tP 0 98 rv (some ⟨b1,0,none⟩) 1 1) (uN 0 fetA):=by
  refine yi (n:=1) (L:=[96]) ?_ (eQ hz3 rfl) rfl (by simp) (.inr λh=>?_)
  ·have h1:ViewAt (λk=>A k∨False) u2 rv ⟨0,stM (1:Int).toNat⟩:=hv.mono λk _ hk=>hlow k hk
   exact h1.new hn3
  ·have:=hlow _ h
   have:b1<u1.heap.size:=this
   omega
 have hcall:=Bf hT.fab (by rw [hX];exact hf) htk (sI _ _)
 refine aF hcall ?_
 rintro v u4 hp
 obtain ⟨B',ξ',X',h4,hX4,hK4,hk4,hM4,hL4⟩:=hT.op hp
 obtain ⟨t2,r',ht',rfl,htx⟩:=hK4
 have hdr:alone (Fab.fresh 1 1 98) (uN 0 fetA)=(F',[t']):=hdr
 rw [hX,hdr] at ht'
 have ht':t2=t':=by simpa using ht'.symm
 subst ht'
 refine aB.mk_ex r' ⟨rfl,?_⟩
 refine gF (vs:=r'.cells) rfl (aB.single _) λb2 u5 hb2 hz5 hn5=>?_
 have ho:=htx.out
 rw [hout] at ho
 obtain ⟨hcode,hpg⟩:=ho
 have hpl:r'.Pages_l=1:=hpg.len
 have hcode:r'.Code=0:=hcode
 have hov:r'.Over=true:=htx.over.trans hover
 have h5:=h4.new hn5
 have hrd:=hpg.rd.new hn5
 refine ⟨_,hz5.cell (i:=32) rfl,gE hov ⟨_,hz5.cell (i:=34) rfl,gE (by rw [hcode];rfl) ⟨_,_,_,hz5.cell (i:=45) rfl,gE (by rw [hpl];rfl) ⟨_,_,_,hz5.cell (i:=45) rfl,?_⟩⟩⟩⟩
 refine ez (cells:=aG.cells) aG.len (by omega) (i:=0) (l:=[⟨96,256,0,0,0,0,0,0,0⟩]) hrd rfl rfl hpl λb o hcc _=>aG.mk_ex ⟨96,256,0,0,0,0,0,0,0⟩ ⟨hcc,?_⟩
 exact tN Es Ft CK (xs:=aG.cells ⟨96,256,0,0,0,0,0,0,0⟩) (ys:=aG.cells ⟨96,256,0,0,0,0,0,0,0⟩) ⟨rfl,rfl,rfl,rfl,rfl,rfl,rfl,rfl,rfl,trivial⟩ ⟨rfl,h5.mine hF hnw1 hA⟩
end
end Go.Proofs.YtgpmeaicjonenaaGreat
namespace Go.Proofs.YtgpmeaicjonenaaGreat
open Go.Proofs.Tryz
open Go.Eng C16
noncomputable abbrev fFA:Func:=f12
def RPf (w:World) (v:Value) (z:World):Prop:=v=.bool true∧New w z
structure FaAt (w z:World) (n m fb b1 b2:Nat) (A:Nat→Prop) (χ:Nat→Tag) (X:FabX) (rv:aM) (wa:Option Addr) (wl wc:Nat):Prop where
 fab:aZ A χ z fb X
 new:New w z
 own:∀ k,A k→w.heap.size≤k
 vb:Blk z b1 rv.cells TVw
 jb:Blk z b2 (aL.cells ⟨0,1,100,rv,none,0,0,wa,wl,wc⟩) 39
 view:ViewAt A z rv (rg n)
 out1:¬ A b1
 out2:¬ A b2
 old1:w.heap.size≤b1
 old2:w.heap.size≤b2
 wl:wl=(setF m).length
theorem FaAt.noop {w z z':World} {n m fb b1 b2:Nat} {A:Nat→Prop} {χ:Nat→Tag} {X:FabX} {rv:aM} {wa:Option Addr} {wl wc:Nat} (h:FaAt w z n m fb b1 b2 A χ X rv wa wl wc) (hn:New z z'):FaAt w z' n m fb b1 b2 A χ X rv wa wl wc:=
 ⟨h.fab.new hn,h.new.new hn,h.own,New.blk hn h.vb,New.blk hn h.jb,h.view.new hn,h.out1,h.out2,h.old1,h.old2,h.wl⟩
def cnt4 (a b c d:Bool):Nat:=a.toNat+b.toNat+c.toNat+d.toNat
theorem yj (m:Nat):(setF m).length=cnt4 (bitF m 0) (bitF m 1) (bitF m 2) (bitF m 3):=by
 unfold setF
 rw [List.length_map,show List.range 4=[0,1,2,3] from rfl]
 cases h0:bitF m 0<;>cases h1:bitF m 1<;>cases h2:bitF m 2<;>cases h3:bitF m 3<;>simp [h0,h1,h2,h3,cnt4]
def nowF (ws:List Int):Bool:=ws.getD 0 0 == 512
def oK (ws:List (List Int)):List aG:=(sD.zip ws).map λp=>pgW p.1 p.2
theorem CL (D:List Done):lg sD D=oK (D.map (·.words)):=by
 unfold lg oK
 rw [List.zip_map_right,List.map_map]
 rfl
theorem uO {m q:Nat} {ws:List Int} (h:okF m q ws) (hn:nowF ws=true):bitF m q=true:=by
 rcases h with rfl | rfl | ⟨_,h,_⟩
 ·cases hn
 ·cases hn
 ·exact h
theorem uP {m q:Nat} {ws:List Int} (h:okF m q ws) (l:Int) (hu:unl (pgW l ws).Head=true):(pgW l ws).Head=hdB (nowF ws):=by
 rcases h with rfl | rfl | ⟨_,_,rfl⟩
 ·rfl
 ·exact absurd (show unl 257=true from hu) (by decide +kernel)
 ·rfl
theorem Fv:∀ x0 x1 x2 x3 y0 y1 y2 y3:Bool,(x0=true→y0=true)→(x1=true→y1=true)→(x2=true→y2=true)→(x3=true→y3=true)→¬ (x0=y0∧x1=y1∧x2=y2∧x3=y3)→((cnt4 x0 x1 x2 x3:Nat):Int)<(cnt4 y0 y1 y2 y3:Nat):=by decide
section
attribute [local irreducible] drive alone
set_option maxRecDepth 20000 in
set_option maxHeartbeats 4000000 in
theorem fa9 {w z:World} {n m fb b1 b2:Nat} (hn:1≤n∧n≤3) {A:Nat→Prop} {χ:Nat→Tag} {X:FabX} {rv:aM} {wa:Option Addr} {wl wc:Nat} (h:FaAt w z n m fb b1 b2 A χ X rv wa wl wc) (hend:EndF n m X.pure) {la:Option Addr} {lc:Nat} {r0 r1:TR} (hl:Rd z la ([r0,r1].map aB.cells).flatten)
  {a b c d:List Int} (ha:okF m 0 a) (hb:okF m 1 b) (hc:okF m 2 c) (hd:okF m 3 d) (hpg:PAt A z r1.Pages r1.Pages_l (oK [a,b,c,d])) (jj:List Value) :
  W prog (sub (aD fFA) [1,1,1,1,1,1,1,1,1,1,1,1,1]) (dZ (some ⟨fb,0,none⟩) ⟨b1,0,none⟩ ⟨b2,0,none⟩ la 2 lc (cnt4 (nowF a) (nowF b) (nowF c) (nowF d):Nat) jj) (retQ prog fFA (RPf w)) z:=by
 refine kR (P:=prog) (fn:=fFA) (R:=RPf w) (λ_ _=>rfl) ?_
 rw [jB]
 refine ez (cells:=aB.cells) aB.len (by omega) (i:=1) hl rfl rfl rfl λb' o _ hcc=>⟨_,_,_,hcc 45 _ rfl,?_⟩
 have hpl:=hpg.len
 refine aF (Fu hpl hpg.rd (by show 4≤1000;omega)) ?_
 rintro v z1 ⟨hn1,hv⟩
 have h1:=h.noop hn1
 by_cases hu:((oK [a,b,c,d]).all λp=>unl p.Head)=true
 ·rw [if_pos hu] at hv
  obtain ⟨ra,rc,rfl,hra,hrf⟩:=hv
  refine ⟨_,_,_,_,rfl,er rfl ?_⟩
  refine aM.mk_ex rv ⟨aI h1.vb rfl,?_⟩
  have hp:oK [a,b,c,d]=[pgW 96 a,pgW 97 b,pgW 98 c,pgW 99 d]:=rfl
  rw [hp] at hu hra
  simp only [List.all_cons,List.all_nil,Bool.and_true,Bool.and_eq_true] at hu
  obtain ⟨u0,u1,u2,u3⟩:=hu
  have hs:[pgW 96 a,pgW 97 b,pgW 98 c,pgW 99 d].map uL=(chkG n (nowF a) (nowF b) (nowF c) (nowF d)).reads:=by
   show [(⟨96,(pgW 96 a).Head⟩:aV),⟨97,(pgW 97 b).Head⟩,⟨98,(pgW 98 c).Head⟩,⟨99,(pgW 99 d).Head⟩]=_
   rw [uP ha 96 u0,uP hb 97 u1,uP hc 98 u2,uP hd 99 u3]
   rfl
  rw [hs] at hra
  have hpl4:r1.Pages_l=4:=hpl
  rw [hpl4]
  have htk:fL A z1 (tO 1 1 100 rv ra 4 rc none 0 0) (uM 1 (chkG n (nowF a) (nowF b) (nowF c) (nowF d))):=by
   exact yh h1.view hra rfl (by show 4≤1000000;omega) (lD hra λk hk e=>by have:=hrf k hk;have:=h.fab.low k e;omega) (.inl rfl) rfl (by simp) (.inl rfl) (λp hp=>by cases hp)
  obtain ⟨F'',u,he,hout⟩:=CC hn hend (nowF a) (nowF b) (nowF c) (nowF d)
  have hcall:=Bf h1.fab hend.fine htk (sH _ _)
  refine aF hcall ?_
  rintro v z2 ⟨A',χ',X',hN,hF,hX,t',r',ht',rfl,htx⟩
  have he:alone X.pure (uM 1 (chkG n (nowF a) (nowF b) (nowF c) (nowF d)))=(F'',[u]):=he
  rw [he] at ht'
  have ht':t'=u:=by simpa using ht'.symm
  subst ht'
  have hkA:Keep A z1 z2:=hN.keep.mono λk _ hcc=>h1.fab.avoid k hcc
  have hnw2:New w z2:=h1.new.trans hkA λk hlt hk=>by have:=h1.own k hk;omega
  have hjb2:=hkA.blk h1.jb h1.out2
  refine aB.mk_ex r' ⟨rfl,?_⟩
  refine gF (vs:=r'.cells) rfl (aB.single _) λb3 z3 hb3 hz3 hn3=>?_
  have hjb3:=New.blk hn3 hjb2
  have hnw3:=hnw2.new hn3
  have ho:=htx.out
  rw [hout] at ho
  obtain ⟨hcode,_⟩:=ho
  have hwl:=h.wl
  rw [yj] at hwl
  have i0:=uO ha
  have i1:=uO hb
  have i2:=uO hc
  have i3:=uO hd
  refine ⟨_,hz3.cell (i:=34) rfl,?_⟩
  by_cases hq:nowF a=bitF m 0∧nowF b=bitF m 1∧nowF c=bitF m 2∧nowF d=bitF m 3
  ·rw [if_pos hq] at hcode
   have hcode:r'.Code=0:=hcode
   refine gE (by rw [hcode];rfl) ⟨_,_,_,hjb3.cell (i:=6) rfl,gE ?_ ⟨rfl,hnw3⟩⟩
   rw [hwl,hq.1,hq.2.1,hq.2.2.1,hq.2.2.2]
   simp
  ·rw [if_neg hq] at hcode
   have hcode:r'.Code=7:=hcode
   refine er (by rw [hcode];rfl) ⟨_,hz3.cell (i:=34) rfl,gE (by rw [hcode];rfl) ⟨_,_,_,hjb3.cell (i:=6) rfl,?_,hnw3⟩⟩
   rw [hwl]
   congr 1
   exact decide_eq_true (Fv _ _ _ _ _ _ _ _ i0 i1 i2 i3 hq)
 ·rw [if_neg hu] at hv
  subst hv
  exact ⟨_,_,_,_,rfl,gE rfl ⟨rfl,h1.new⟩⟩
end
end Go.Proofs.YtgpmeaicjonenaaGreat
namespace Go.Proofs.YtgpmeaicjonenaaGreat
open Go.Proofs.Tryz
open Go.Eng C16
def sJ (l:List (List Int)) (i:Nat):Nat:=((l.take i).filter nowF).length
theorem zf {l:List (List Int)} {i:Nat} {x:List Int} (h:l[i]?=some x):sJ l (i+1)=sJ l i+(nowF x).toNat:=by
 unfold sJ
 rw [nK h,List.filter_append,List.length_append]
 cases hx:nowF x<;>simp [hx]
theorem Eu (a b c d:List Int):sJ [a,b,c,d] 4=cnt4 (nowF a) (nowF b) (nowF c) (nowF d):=by
 unfold sJ cnt4
 rw [List.take_of_length_le (by simp)]
 cases h0:nowF a<;>cases h1:nowF b<;>cases h2:nowF c<;>cases h3:nowF d<;>simp [h0,h1,h2,h3]
def datV (p:aG):List Value:=[.int .u64 p.Data0,.int .u64 p.Data1,.int .u64 p.Data2,.int .u64 p.Data3,.int .u64 p.Data4,.int .u64 p.Data5,.int .u64 p.Data6]
theorem l8 {xs ys:List Value} (hx:Go.Mx.qg [false,false,false,false,false,false,false] xs ys) {K:Bool→Prop} {r:Bool} (hr:Go.Mx.eqvL xs ys=r) (hk:K r):uT prog TDt (.agg xs.toArray) (.agg ys.toArray) K:=tN Er Fs CJ hx (by rw [hr];exact hk)
theorem fa10 {z:World} {p7:Option Addr} {v1 v2:Addr} {la:Option Addr} {ll lc:Nat} {fr i:Int} {old now:Bool} (hon:old=true∨now=true) {R:Value→World→Prop} {Q:Exit→List Value→World→Prop} (hQ:∀ env w',Q .ret env w'=retQ prog fFA R .ret env w') (jj:List Value)
  (hk:∀ jj,Q .normal (bU p7 v1 v2 la ll lc (bif now then IntKind.i64.wrap (fr+1) else fr) i jj) z) :
  W prog (sub (aD fFA) [1,1,1,1,1,1,1,1,1,1,1,1,0,1,0,0,1,0,0,1,1]) (bB p7 v1 v2 la ll lc fr i old now jj) Q z:=by
 rw [gY,gP]
 refine kR (P:=prog) (fn:=fFA) (R:=R) hQ ?_
 rw [iR]
 have h11:∀ (jj:List Value),seqQ (λenv w=>W prog (sub (aD fFA) [1,1,1,1,1,1,1,1,1,1,1,1,0,1,0,0,1,0,0,1,1,0,1]) env (seqQ (λenv w=>W prog (sub (aD fFA) [1,1,1,1,1,1,1,1,1,1,1,1,0,1,0,0,1,0,0,1,1,1]) env Q w) Q) w) (seqQ (λenv w=>W prog (sub (aD fFA) [1,1,1,1,1,1,1,1,1,1,1,1,0,1,0,0,1,0,0,1,1,1]) env Q w) Q) .normal (cO p7 v1 v2 la ll lc fr i now false jj) z:=λjj=>by
  refine ik ?_
  refine kR (P:=prog) (fn:=fFA) (R:=R) hQ ?_
  rw [iS]
  refine er rfl (ik ?_)
  refine kR (P:=prog) (fn:=fFA) (R:=R) hQ ?_
  rw [iT]
  cases now
  ·exact er rfl (hk _)
  ·exact gE rfl (hk _)
 cases old
 ·have hnow:now=true:=hon.resolve_left (by simp)
  subst hnow
  exact gE rfl (h11 _)
 ·exact er rfl (h11 _)
set_option maxRecDepth 20000 in
set_option maxHeartbeats 4000000 in
theorem fa8 {z:World} {m q:Nat} {ws:List Int} (hok:okF m q ws) {ln:Int} {b3:Nat} (hz:Blk z b3 (pgW ln ws).cells TPg) {p7:Option Addr} {v1 v2:Addr} {la:Option Addr} {ll lc:Nat} {fr i:Int} {R:Value→World→Prop} {Q:Exit→List Value→World→Prop} (hQ:∀ env w',Q .ret env w'=retQ prog fFA R .ret env w') (jj:List Value)
  (hk:∀ z' jj,New z z'→Q .normal (bU p7 v1 v2 la ll lc (bif nowF ws then IntKind.i64.wrap (fr+1) else fr) i jj) z') :
  W prog (sub (aD fFA) [1,1,1,1,1,1,1,1,1,1,1,1,0,1,0,0,1,0,0,1]) (dY p7 v1 v2 la ll lc fr i ⟨b3,0,none⟩ jj) Q z:=by
 rw [ii]
 refine kR (P:=prog) (fn:=fFA) (R:=R) hQ ?_
 rw [jA]
 rintro z2 hz2
 have hn2:New z z2:=by rw [hz2];exact aU _
 clear hz2
 have hz12:=New.blk hn2 hz
 have hd:∀ y,Blk y b3 (pgW ln ws).cells TPg→aC y ⟨b3,0+2,none⟩ 0 (datV (pgW ln ws)):=λy hy=>aI (cs:=(pgW ln ws).cells) (o:=2) hy rfl
 have hh:∀ y,Blk y b3 (pgW ln ws).cells TPg→y.cell? ⟨b3,0+1,none⟩=some (.int .u64 (pgW ln ws).Head):=λy hy=>hy.cell (i:=1) rfl
 have fin:∀ (old now:Bool) (jj:List Value),(old=true∨now=true)→now=nowF ws→seqQ (λenv w=>W prog (sub (aD fFA) [1,1,1,1,1,1,1,1,1,1,1,1,0,1,0,0,1,0,0,1,1]) env Q w) Q .normal (bB p7 v1 v2 la ll lc fr i old now jj) z2:=λold now jj h1 h2=>by
  subst h2
  exact ik (fa10 (R:=R) h1 hQ jj λjj=>hk z2 jj hn2)
 refine ⟨λy=>Blk y b3 (pgW ln ws).cells TPg,hz12,_,_,_,_,_,_,_,hd,?_⟩
 rcases hok with rfl | rfl | ⟨_,_,rfl⟩
 ·refine l8 (xs:=us [0,0,0,0,0,0,0]) (ys:=us [0,0,0,0,0,0,0]) (r:=true) ⟨rfl,rfl,rfl,rfl,rfl,rfl,rfl,trivial⟩ rfl (gE rfl ⟨_,hh,_,_,_,_,_,_,_,hd,?_⟩)
  exact l8 (xs:=us [0,0,0,0,0,0,0]) (ys:=us [1,2,3,4,5,6,7]) (r:=false) ⟨rfl,rfl,rfl,rfl,rfl,rfl,rfl,trivial⟩ rfl (er rfl (fin true false _ (.inl rfl) rfl))
 ·refine l8 (xs:=us [0,0,0,0,0,0,0]) (ys:=us [0,0,0,0,0,0,0]) (r:=true) ⟨rfl,rfl,rfl,rfl,rfl,rfl,rfl,trivial⟩ rfl (gE rfl ⟨_,hh,_,_,_,_,_,_,_,hd,?_⟩)
  exact l8 (xs:=us [0,0,0,0,0,0,0]) (ys:=us [1,2,3,4,5,6,7]) (r:=false) ⟨rfl,rfl,rfl,rfl,rfl,rfl,rfl,trivial⟩ rfl (er rfl (fin true false _ (.inl rfl) rfl))
 ·refine l8 (xs:=us [1,2,3,4,5,6,7]) (ys:=us [0,0,0,0,0,0,0]) (r:=false) ⟨rfl,rfl,rfl,rfl,rfl,rfl,rfl,trivial⟩ rfl (er rfl ⟨_,_,_,_,_,_,_,hd,?_⟩)
  exact l8 (xs:=us [1,2,3,4,5,6,7]) (ys:=us [1,2,3,4,5,6,7]) (r:=true) ⟨rfl,rfl,rfl,rfl,rfl,rfl,rfl,trivial⟩ rfl (gE rfl ⟨_,hh,fin false true _ (.inr rfl) rfl⟩)
set_option maxRecDepth 20000 in
set_option maxHeartbeats 4000000 in
theorem fa7 {w z0:World} {n m fb b1 b2:Nat} (hn:1≤n∧n≤3) {A:Nat→Prop} {χ:Nat→Tag} {X:FabX} {rv:aM} {wa:Option Addr} {wl wc:Nat} (h:FaAt w z0 n m fb b1 b2 A χ X rv wa wl wc) (hend:EndF n m X.pure) {la:Option Addr} {lc:Nat} {r0 r1:TR} (hl:Rd z0 la ([r0,r1].map aB.cells).flatten)
  {a b c d:List Int} (ha:okF m 0 a) (hb:okF m 1 b) (hc:okF m 2 c) (hd:okF m 3 d) (hpg:PAt A z0 r1.Pages r1.Pages_l (oK [a,b,c,d])) (jj:List Value) :
  W prog (sub (aD fFA) [1,1,1,1,1,1,1,1,1,1,1]) (dX (some ⟨fb,0,none⟩) ⟨b1,0,none⟩ ⟨b2,0,none⟩ la 2 lc jj) (retQ prog fFA (RPf w)) z0:=by
 refine kR (P:=prog) (fn:=fFA) (R:=RPf w) (λ_ _=>rfl) ?_
 rw [jy]
 have hpl:r1.Pages_l=4:=hpg.len
 refine aT mix (λq env z=>∃ (i:Nat) (jj:List Value),q=4 - i∧i≤4∧env=cS (some ⟨fb,0,none⟩) ⟨b1,0,none⟩ ⟨b2,0,none⟩ la 2 lc (sJ [a,b,c,d] i:Nat) i jj∧New z0 z) 4
  ⟨0,_,by omega,by omega,rfl,Keep.refl _ _⟩ ?_
 rintro q env z ⟨i,jj,rfl,hi,rfl,hnz⟩
 refine kR (P:=prog) (fn:=fFA) (R:=RPf w) (λ_ _=>rfl) ?_
 rw [ig]
 refine aH (λhq=>?_) (λhq=>?_)
 ·have hlt:i<4:=by omega
  obtain ⟨ws,hws,hok⟩:∃ ws,[a,b,c,d][i]?=some ws∧okF m i ws:=by
   obtain rfl | rfl | rfl | rfl:i=0∨i=1∨i=2∨i=3:=by omega
   ·exact ⟨a,rfl,ha⟩
   ·exact ⟨b,rfl,hb⟩
   ·exact ⟨c,rfl,hc⟩
   ·exact ⟨d,rfl,hd⟩
  obtain ⟨ln,hpi⟩:∃ ln,(oK [a,b,c,d])[i]?=some (pgW ln ws):=by
   obtain rfl | rfl | rfl | rfl:i=0∨i=1∨i=2∨i=3:=by omega
   all_goals cases hws;exact ⟨_,rfl⟩
  have hcs:=zf hws
  have hcl:sJ [a,b,c,d] i≤4:=by
   unfold sJ
   have h1:=List.length_filter_le nowF ([a,b,c,d].take i)
   have h2:([a,b,c,d].take i).length≤4:=by rw [List.length_take];simp;omega
   omega
  refine ez (cells:=aB.cells) aB.len (by omega) (i:=1) (hl.new hnz) rfl rfl rfl λb' o _ hcc=>⟨_,_,_,hcc 45 _ rfl,?_⟩
  refine ez (cells:=aG.cells) aG.len (by omega) (i:=i) (hpg.rd.new hnz) hpi rfl hpg.len λb'' o' hc' _=>aG.mk_ex (pgW ln ws) ⟨hc',?_⟩
  refine gF (vs:=(pgW ln ws).cells) rfl (aG.single _) λb3 z1 hb3 hz1 hn1=>?_
  have hz1:Blk z1 b3 (pgW ln ws).cells TPg:=hz1
  refine fa8 (R:=RPf w) hok hz1 ?_ _ λz' jj hn'=>?_
  ·exact λ_ _=>rfl
  refine BA (ik ?_)
  refine kR (P:=prog) (fn:=fFA) (R:=RPf w) (λ_ _=>rfl) ?_
  rw [iU]
  rw [w64 (x:=(i:Int)+1) (by omega) (by omega)]
  have efr:(bif nowF ws then IntKind.i64.wrap (((sJ [a,b,c,d] i:Nat):Int)+1) else ((sJ [a,b,c,d] i:Nat):Int))=((sJ [a,b,c,d] (i+1):Nat):Int):=by
   rw [hcs]
   cases nowF ws
   ·rfl
   ·show IntKind.i64.wrap _=_
    rw [w64 (by omega) (by omega)]
    rfl
  rw [efr]
  exact ⟨4 - (i+1),by omega,i+1,_,rfl,by omega,rfl,(hnz.new hn1).new hn'⟩
 ·have hie:i=4:=by omega
  subst hie
  rw [Eu]
  refine xt (ri (ik ?_))
  rw [Bz (λ_ _=>rfl)]
  exact fa9 hn (h.noop hnz) hend (hl.new hnz) ha hb hc hd ⟨hpg.len,hpg.rd.new hnz,hpg.off,hpg.u64⟩ _
end Go.Proofs.YtgpmeaicjonenaaGreat
namespace Go.Proofs.YtgpmeaicjonenaaGreat
open Go.Proofs.Tryz
open Go.Eng C16
theorem Fw {α β:Type} {ts:List (α×β)} {u v:β} (h:ts.map Prod.snd=[u,v]):∃ a b,ts=[(a,u),(b,v)]:=by
 cases ts with
 |nil=>cases h
 |cons x ts=>
  cases ts with
  |nil=>cases h
  |cons y ts=>
   cases ts with
   |cons z ts=>cases h
   |nil=>
    obtain ⟨a,u'⟩:=x
    obtain ⟨b,v'⟩:=y
    cases h
    exact ⟨a,b,rfl⟩
theorem Ev {α:Type} {l:List α} (h:l.length=4):∃ a b c d,l=[a,b,c,d]:=by
 match l,h with
 | [a,b,c,d],_=>exact ⟨a,b,c,d,rfl⟩
section
attribute [local irreducible] drive alone
set_option maxRecDepth 20000 in
set_option maxHeartbeats 4000000 in
theorem fa5 {w z:World} {n m fb b1 b2:Nat} (hn:1≤n∧n≤3) {A:Nat→Prop} {χ:Nat→Tag} {X:FabX} {rv:aM} {wa:Option Addr} {wl wc:Nat} (h:FaAt w z n m fb b1 b2 A χ X rv wa wl wc) (hend:EndF n m X.pure) {la:Option Addr} {lc:Nat} {r0 r1:TR} (hl:Rd z la ([r0,r1].map aB.cells).flatten)
  (h0:r0.Code=0) (h1:r1.Code=0) (hov:r1.Over=true) {a b c d:List Int} (ha:okF m 0 a) (hb:okF m 1 b) (hc:okF m 2 c) (hd:okF m 3 d) (hpg:PAt A z r1.Pages r1.Pages_l (oK [a,b,c,d])) (jj:List Value) :
  W prog (sub (aD fFA) [1,1,1,1,1,1,1,1,1,1]) (cR (some ⟨fb,0,none⟩) ⟨b1,0,none⟩ ⟨b2,0,none⟩ la 2 lc jj) (retQ prog fFA (RPf w)) z:=by
 rw [ie,gX]
 refine kR (P:=prog) (fn:=fFA) (R:=RPf w) (λ_ _=>rfl) ?_
 rw [jw]
 have hpl:r1.Pages_l=4:=hpg.len
 refine ez (cells:=aB.cells) aB.len (by omega) (i:=0) hl rfl rfl rfl λ_ _ _ c0=>⟨_,c0 34 _ rfl,er (by rw [h0];rfl) ?_⟩
 refine ez (cells:=aB.cells) aB.len (by omega) (i:=1) hl rfl rfl rfl λ_ _ _ c1=>⟨_,c1 34 _ rfl,er (by rw [h1];rfl) ?_⟩
 refine ez (cells:=aB.cells) aB.len (by omega) (i:=1) hl rfl rfl rfl λ_ _ _ c2=>⟨_,c2 32 _ rfl,er (by rw [hov];rfl) ?_⟩
 refine ez (cells:=aB.cells) aB.len (by omega) (i:=1) hl rfl rfl rfl λ_ _ _ c3=>⟨_,_,_,c3 45 _ rfl,?_⟩
 rw [hpl]
 refine ik ?_
 refine kR (P:=prog) (fn:=fFA) (R:=RPf w) (λ_ _=>rfl) ?_
 rw [jx]
 refine er rfl (ik ?_)
 exact fa7 hn h hend hl ha hb hc hd hpg _
set_option maxRecDepth 20000 in
set_option maxHeartbeats 4000000 in
theorem fa4 {w z:World} {n m fb b1 b2:Nat} (hn:1≤n∧n≤3) (hm:1≤m∧m≤14) {A:Nat→Prop} {χ:Nat→Tag} {X:FabX} {rv:aM} {wa:Option Addr} {wl wc:Nat} (h:FaAt w z n m fb b1 b2 A χ X rv wa wl wc) (hX:X.pure=Fab.fresh n 2 100)
  {la:Option Addr} {lc:Nat} (hl:Rd z la (is sD)) (hlo:∀ k,isB la k→¬ A k) (hw:Rd z wa (nr (setF m)).flatten) (hwo:∀ k,isB wa k→¬ A k) {sch:List Int} {sa:Option Addr} {sc:Nat} (hsd:Rd w sa (is sch)) (hsi:∀ x ∈ sch,I64 x) (jj:List Value) :
  W prog (sub (aD fFA) [1,1,1,1,1,1,1,1,1]) (bX sa sch.length sc (some ⟨fb,0,none⟩) ⟨b1,0,none⟩ ⟨b2,0,none⟩ la 4 lc jj) (retQ prog fFA (RPf w)) z:=by
 refine kR (P:=prog) (fn:=fFA) (R:=RPf w) (λ_ _=>rfl) ?_
 rw [jv]
 refine aL.mk_ex ⟨0,1,100,rv,none,0,0,wa,wl,wc⟩ ⟨aI h.jb rfl,aM.mk_ex rv ⟨aI h.vb rfl,?_⟩⟩
 rintro b3 z1 hb3 hz1
 obtain ⟨hz3,hn1⟩:=aO hb3 hz1
 have hz3:Blk z1 b3 ([tO 0 1 100 rv none 0 0 wa wl wc,tP 1 100 rv la 4 lc].map aB.cells).flatten TTa:=hz3
 clear hz1
 have h1:=h.noop hn1
 have hfr:Fine X.pure:=by rw [hX];exact Fine.fresh (by omega) (by omega) (by omega)
 have hwf:=h.wl
 have hs4:(setF m).length≤4:=by
  rw [yj]
  unfold cnt4
  cases bitF m 0<;>cases bitF m 1<;>cases bitF m 2<;>cases bitF m 3<;>decide
 have htx:∀ x ∈ [(tO 0 1 100 rv none 0 0 wa wl wc,uM 0 (jobF n m)),(tP 1 100 rv la 4 lc,uN 1 (fetF n))],fL A z1 x.1 x.2∧tc x.2:=λx hx=>by
  simp only [List.mem_cons,List.not_mem_nil,or_false] at hx
  rcases hx with rfl | rfl
  ·refine ⟨yh h1.view (.inl rfl) rfl (by simp) (.inl rfl) (hw.new hn1) hwf (by omega) (lD (hw.new hn1) hwo) λp hp=>?_,sH _ _⟩
   obtain ⟨q,_,_,rfl⟩:=ry hp
   refine ⟨by unfold U64 pgF;simp only;omega,λx hx=>?_⟩
   simp only [datL,pgF,List.mem_cons,List.not_mem_nil,or_false] at hx
   unfold U64
   omega
  ·exact ⟨yi h1.view (hl.new hn1) rfl (by simp [sD]) (lD (hl.new hn1) hlo),sI _ _⟩
 have hcall:=Bd h1.fab hfr (pa:=some ⟨b3,0,none⟩) (pc:=2) (ts:=[(tO 0 1 100 rv none 0 0 wa wl wc,uM 0 (jobF n m)),(tP 1 100 rv la 4 lc,uN 1 (fetF n))]) (eQ hz3 rfl) htx (by simp) (Ec hsd h1.new h1.own) hsi (sc:=sc) (es:=[]) (ea:=none) (ec:=0) ⟨.inl rfl,.inl rfl⟩ (λx hx=>by cases hx) (by simp) (most:=3000) (by omega)
 refine aF hcall ?_
 rintro v z2 ⟨A',χ',X',hN,hF,hX',la',lc',ts',rfl,hts',how,hnB,htx'⟩
 obtain ⟨F',u0,u1,hd,hu0,hu1,hend,D,hD,hD4,hok⟩:=CB hn hm sch
 have hd:drive X.pure [uM 0 (jobF n m),uN 1 (fetF n)] sch [] 3000=(F',[u0,u1]):=by rw [hX];exact hd
 have e2:([(tO 0 1 100 rv none 0 0 wa wl wc,uM 0 (jobF n m)),(tP 1 100 rv la 4 lc,uN 1 (fetF n))]:List (TR×Tk conv)).map Prod.snd=[uM 0 (jobF n m),uN 1 (fetF n)]:=rfl
 rw [e2,hd] at hX' hts' how ⊢
 have hX':X'.pure=F':=hX'
 obtain ⟨r0,r1,rfl⟩:=Fw hts'
 have t0:=htx' (r0,u0) List.mem_cons_self
 have t1:=htx' (r1,u1) (List.mem_cons_of_mem _ List.mem_cons_self)
 have hkA:Keep A z1 z2:=hN.keep.mono λk _ hc=>h1.fab.avoid k hc
 have hmono:∀ k,k<z1.heap.size→A' k→A k:=λk hlt hk=>by
  rcases (hN.iff k).1 hk with h1' | ⟨_,h1',_⟩
  ·exact h1.fab.avoid k (hN.grow k hlt h1')
  ·exact h1'
 have hnw:=h1.new.size
 have hFa:FaAt w z2 n m fb b1 b2 A' χ' X' rv wa wl wc:=⟨hF,h1.new.trans hkA λk hlt hk=>by have:=h1.own k hk;omega,λk hk=>by
  by_cases hlt:k<z1.heap.size
  ·exact h1.own k (hmono k hlt hk)
  ·omega,hkA.blk h1.vb h1.out1,hkA.blk h1.jb h1.out2,C12.ViewAt.keep h1.view hkA hmono,λhk=>h1.out1 (hmono _ h1.vb.lt hk),λhk=>h1.out2 (hmono _ h1.jb.lt hk),h1.old1,h1.old2,h1.wl⟩
 have ho0:=t0.out
 have ho1:=t1.out
 simp only at ho0 ho1
 rw [hu0] at ho0
 rw [hD] at ho1
 obtain ⟨c0,_⟩:=ho0
 obtain ⟨c1,hpg⟩:=ho1
 obtain ⟨d0,d1,d2,d3,rfl⟩:=Ev hD4
 have hpg:PAt A' z2 r1.Pages r1.Pages_l (oK [d0.words,d1.words,d2.words,d3.words]):=by
  have e:lg sD [d0,d1,d2,d3]=oK [d0.words,d1.words,d2.words,d3.words]:=CL _
  rw [←e]
  exact hpg
 refine ⟨_,_,_,rfl,?_⟩
 rw [Bz (λ_ _=>rfl)]
 exact fa5 hn hFa (by rw [hX'];exact hend) (r0:=r0) (r1:=r1) how.rd c0 c1 (t1.over.trans hu1) (hok 0 d0 rfl) (hok 1 d1 rfl) (hok 2 d2 rfl) (hok 3 d3 rfl) hpg _
end
end Go.Proofs.YtgpmeaicjonenaaGreat
