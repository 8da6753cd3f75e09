import Derived.Test.YtgpmeaicjonenaaGreata14
set_option linter.unusedVariables false
namespace Go.Proofs.YtgpmeaicjonenaaGreat
open Go.Proofs.Tryz
open Go.Eng
theorem xy {α:Type} {l:List α} {k:Nat} {x:α} (h:l[k]?=some x):l.drop k=x::l.drop (k+1):=by
 obtain ⟨h1,h2⟩:=List.getElem?_eq_some_iff.1 h
 rw [List.drop_eq_getElem_cons h1,h2]
def pN (l:List eI):List (List Value):=l.map eI.cells
theorem tu (l:List eI):∀ r ∈ pN l,r.length=3:=by
 intro r hr;simp only [pN,List.mem_map] at hr;obtain ⟨l,_,rfl⟩:=hr;rfl
theorem tv {l:List eI} {i:Nat} {x:eI} (h:l[i]?=some x):(pN l)[i]?=some x.cells:=by simp [pN,h]
structure ChAt (w u:World) (a:Option Addr) (cap:Nat) (out:List eI):Prop where
 new:New w u
 own:Owns u TCh 3 a out.length cap (pN out).flatten
 fresh:∀ k,isB a k→w.heap.size≤k
theorem ChAt.step {w u u':World} {a:Option Addr} {cap:Nat} {out:List eI} (h:ChAt w u a cap out) (hn:New u u'):ChAt w u' a cap out:=⟨h.new.new hn,h.own.new hn,h.fresh⟩
theorem ChAt.append {w u u1:World} {a:Option Addr} {cap b:Nat} {out:List eI} (h:ChAt w u a cap out) (x:eI) (hb:b=u.heap.size) (hw:u1=u.alloc (.cells x.cells.toArray 102)) (hl:out.length≤1000000000) :
  ∃ a' cap' u2,(Builtin.append_ #[98,98] 98 #[.slice a out.length cap,.slice (some ⟨b,0,none⟩) 1 1]).run prog u1=.ok (.slice a' (out++[x]).length cap') u2∧ChAt w u2 a' cap' (out++[x]):=by
 obtain ⟨hz,hn⟩:=aO hb hw
 have h1:=h.step hn
 obtain ⟨ti,hi,hzz,hsz,hby⟩:=iF (T:=102) (z:=.agg #[.int .i64 0,.int .i64 0,.int .i64 0]) (n:=3) (m:=24) (by kernel_rfl)
 have hown:Owns u1 TCh ti.size a out.length cap (pN out).flatten:=by rw [hsz];exact h1.own
 obtain ⟨ap,apc,w7,hrun,hown7,hk7,hap⟩:=hown.append (P:=prog) (t:=98) (ty:=98) Tryz.underlying98 hi hzz (by rw [hsz];rfl) (by omega)
  (s:=some ⟨b,0,none⟩) (m:=1) (c:=1) (news:=x.cells) (by rw [hsz];rfl) (eQ hz (by simp [eI.cells])) (by simp [eI.cells,single]) (by omega) (by rw [hby];omega)
 rw [hsz] at hown7
 have hf:(pN (out++[x])).flatten=(pN out).flatten++x.cells:=by simp [pN]
 refine ⟨ap,apc,w7,by simpa using hrun,h1.new.trans hk7 λk hlt hk=>?_,?_,λk hk=>?_⟩
 ·have:=h.fresh k hk;omega
 ·rw [hf];simpa using hown7
 ·rcases hap with e | e
  ·exact h.fresh k (e▸hk)
  ·obtain ⟨o,ho⟩:=hk
   rw [e] at ho
   simp at ho
   have:=h.new.size
   have:=hn.size
   omega
theorem ChAt.nil (w:World):ChAt w w none 0 []:=⟨Keep.refl _ _,Owns.nil _ _ _,λk ⟨o,ho⟩=>by cases ho⟩
theorem nq (i:Nat):∀ (j:Nat) (ls:List Lane),(dH i j ls).length≤ls.length
 | _,[]=>by simp [dH]
 |j,l::ls=>by
  have:=nq i (j+1) ls
  simp only [dH,List.length_append,List.length_cons]
  split<;>simp<;>omega
theorem kD {n:Nat}:∀ (i:Nat) (cs:List Comp),(∀ c ∈ cs,c.lanes.length≤n)→(cP i cs).length≤cs.length * n
 | _,[],_=>by simp [cP]
 |i,c::cs,h=>by
  have h1:=kD (i+1) cs λc hc=>h c (List.mem_cons_of_mem _ hc)
  have h2:=nq i 0 c.lanes
  have h3:=h c (List.mem_cons_self ..)
  simp only [cP,List.length_append,List.length_cons,Nat.add_mul,Nat.one_mul]
  omega
theorem kE:∀ (i:Nat) (ps:List Pair),(eY i ps).length=ps.length
 | _,[]=>rfl
 |i,p::ps=>by simp [eY,kE (i+1) ps]
set_option maxHeartbeats 3200000 in
theorem zY {A:Nat→Prop} {χ:Nat→Tag} {w:World} {fb:Nat} {X:FabX} (h:aZ A χ w fb X) (hok:ue X.pure) (hob:X.orphans.length≤100000000):Does 41 [ptr fb] w λv w'=>
  ∃ a cap,v=.slice a X.pure.choices.length cap∧ChAt w w' a cap X.pure.choices:=by
 refine does Tryz.func41 ?_
 rw [ptr,lK]
 have hlc:∀ c ∈ X.pure.clients,c.lanes.length≤5:=by
  intro c hc
  obtain ⟨i,hi⟩:=List.mem_iff_getElem?.1 hc
  have h1:=(hok.client i c hi).lanes
  have h2:=hok.nodes
  split at h1<;>omega
 have hcl:X.pure.clients.length=X.clients.length:=by simp [FabX.pure]
 have hcle:=kD 0 X.pure.clients hlc
 have hcl6:=hok.clients
 have hpg:∀ (i:Nat) (c:aW),X.clients[i]?=some c→X.pure.clients[i]?=some c.pure:=λi c hc=>by simp [FabX.pure,hc]
 refine ⟨_,_,_,h.fab.cell rfl,?_⟩
 refine aT mix (λm env u=>∃ (i:Nat) (jj:List Value) (a:Option Addr) (cap:Nat) (out:List eI),i≤X.clients.length∧m=X.clients.length - i∧env=cZ ⟨fb,0,none⟩ a out.length cap (some ⟨X.cb,0,none⟩) X.clients.length X.clients.length X.clients.length i jj∧
   ChAt w u a cap out∧out++cP i (X.pure.clients.drop i)=cP 0 X.pure.clients) X.clients.length ⟨0,_,none,0,[],by omega,by omega,rfl,ChAt.nil w,rfl⟩ ?_
 rintro m env u ⟨i,jj,a,cap,out,hi,rfl,rfl,hch,hout⟩
 rw [iG]
 refine aH (λhlt=>?_) (λhlt=>?_)
 ·have hil:i<X.clients.length:=by omega
  obtain ⟨c,hc⟩:∃ c,X.clients[i]?=some c:=⟨X.clients[i],by simp [hil]⟩
  have hF:=h.new hch.new
  refine bE (by omega) (by omega) ?_
  rw [Int.toNat_natCast]
  have hcells:aC u ⟨X.cb,0+i * 7,none⟩ 0 c.cells:=kr λk v hv=>by
   have:=hF.ccell hc hv
   simpa using this
  refine ⟨_,_,_,_,_,_,_,_,_,_,_,hcells,?_⟩
  rintro b1 w1 hb1 hw1
  obtain ⟨hz,hn1⟩:=aO hb1 hw1
  refine ⟨cK (vs:=c.cells) hz (by simp [aW.cells]) (by simp [aW.cells,single]),?_⟩
  intro w2 hw2
  obtain ⟨hz2,hn2⟩:=mb (vs:=c.cells) hz (by simp [aW.cells]) hn1 (by omega) hw2
  clear hw1 hw2 hz hn1
  refine ⟨_,_,_,hz2.cell (i:=2) rfl,?_⟩
  have hdrop:X.pure.clients.drop i=c.pure::X.pure.clients.drop (i+1):=by
   rw [pK (by omega)]
   congr 1
   have:=hpg i c hc
   rw [List.getElem?_eq_getElem (by omega)] at this
   simpa using this
  rw [hdrop] at hout
  have hpl:c.pure.lanes.length=c.lanes.length:=by simp [aW.pure]
  have hl5:=hlc c.pure (List.mem_of_getElem? (hpg i c hc))
  refine aT mix (λm env z=>∃ (j:Nat) (j2:List Value) (a':Option Addr) (cap':Nat) (out':List eI),j≤c.lanes.length∧m=c.lanes.length - j∧env=cH ⟨fb,0,none⟩ a' out'.length cap' i (some ⟨X.cb,0,none⟩) X.clients.length X.clients.length X.clients.length i c.la c.lanes.length c.lc c.lanes.length j j2∧
   ChAt w z a' cap' out'∧out'++dH i j (c.pure.lanes.drop j)++cP (i+1) (X.pure.clients.drop (i+1))=cP 0 X.pure.clients) c.lanes.length ⟨0,_,a,cap,out,by omega,by omega,rfl,hch.step hn2,by rw [←hout];simp [cP]⟩ ?_
  rintro m env z ⟨j,j2,a',cap',out',hj,rfl,rfl,hch',hout'⟩
  rw [iH]
  have hF':=h.new hch'.new
  have hlen':out'.length≤30:=by
   have:=congrArg List.length hout'
   simp only [List.length_append] at this
   omega
  refine aH (λhlt2=>?_) (λhlt2=>?_)
  ·have hjl:j<c.lanes.length:=by omega
   obtain ⟨l,hl⟩:∃ l,c.lanes[j]?=some l:=⟨c.lanes[j],by simp [hjl]⟩
   obtain ⟨g,hga,_,_,hgc,_⟩:=Owns.row (hF'.client i c hc).own (gH c.lanes) (by omega) (fQ hl)
   rw [hga]
   refine bE (by omega) (by omega) ?_
   rw [Int.toNat_natCast]
   refine ⟨_,_,_,_,hgc,?_⟩
   rintro b3 w3 hb3 hw3
   obtain ⟨hz3,hn3⟩:=aO hb3 hw3
   refine ⟨cK (vs:=l.cells) hz3 (by simp [cJ.cells]) (by simp [cJ.cells,single]),?_⟩
   intro w4 hw4
   obtain ⟨hz4,hn4⟩:=mb (vs:=l.cells) hz3 (by simp [cJ.cells]) hn3 (by omega) hw4
   clear hw3 hw4 hz3 hn3
   refine ⟨_,hz4.cell (i:=0) rfl,?_⟩
   have hlx:=((hF'.new hn4).client i c hc).lane j l hl
   refine aF (pH hlx.pair) ?_
   rintro v w5 ⟨rfl,rfl⟩
   have hdl:c.pure.lanes.drop j=l.pure::c.pure.lanes.drop (j+1):=by
    rw [pK (by omega)]
    congr 1
    have:c.pure.lanes[j]?=some l.pure:=by simp [aW.pure,hl]
    rw [List.getElem?_eq_getElem (by omega)] at this
    simpa using this
   rw [hdl] at hout'
   have hch5:=hch'.step hn4
   rw [←hga]
   refine ⟨_,rfl,aH (λhp=>?_) (λhp=>?_)⟩
   ·have hp':0<l.pure.pair.verbs.length:=by show 0<l.p.verbs.length;omega
    rintro b6 w6 hb6 hw6
    obtain ⟨ap,apc,w7,hrun,hch7⟩:=hch5.append ⟨-1,i,j⟩ hb6 hw6 (by omega)
    refine ⟨ap,_,apc,w7,hrun,?_⟩
    rw [show IntKind.i64.wrap ((j:Int)+1)=((j+1:Nat):Int) by rw [w64 (by omega) (by omega)];rfl]
    refine ⟨c.lanes.length - (j+1),by omega,j+1,_,ap,apc,out'++[⟨-1,i,j⟩],by omega,rfl,rfl,hch7,?_⟩
    rw [←hout']
    simp [dH,hp']
   ·have hp':¬ 0<l.pure.pair.verbs.length:=by show ¬ 0<l.p.verbs.length;omega
    rw [show IntKind.i64.wrap ((j:Int)+1)=((j+1:Nat):Int) by rw [w64 (by omega) (by omega)];rfl]
    refine ⟨c.lanes.length - (j+1),by omega,j+1,_,a',cap',out',by omega,rfl,rfl,hch5,?_⟩
    rw [←hout']
    simp [dH,hp']
  ·have hje:j=c.lanes.length:=by omega
   rw [jX]
   rw [show IntKind.i64.wrap ((i:Int)+1)=((i+1:Nat):Int) by rw [w64 (by omega) (by omega)];rfl]
   refine ⟨X.clients.length - (i+1),by omega,i+1,_,a',cap',out',by omega,rfl,rfl,hch',?_⟩
   rw [←hout',hje,←hpl,List.drop_length]
   simp [dH]
 ·have hie:i=X.clients.length:=by omega
  rw [hie,←hcl,List.drop_length] at hout
  have hout1:out=cP 0 X.pure.clients:=by simpa [cP] using hout
  rw [jW]
  have hF:=h.new hch.new
  refine ⟨_,_,_,hF.fab.cell (i:=3) rfl,?_⟩
  have hol:X.pure.orphans.length=X.orphans.length:=by simp [FabX.pure]
  refine aT mix (λm env z=>∃ (i:Nat) (jj:List Value) (a:Option Addr) (cap:Nat) (out:List eI),i≤X.orphans.length∧m=X.orphans.length - i∧env=dA a out.length cap X.oa X.orphans.length X.oc X.orphans.length i jj∧
   ChAt w z a cap out∧out++eY i (X.pure.orphans.drop i)=X.pure.choices) X.orphans.length ⟨0,_,a,cap,out,by omega,by omega,rfl,hch,by rw [hout1];rfl⟩ ?_
  rintro m env z ⟨k,j3,a3,cap3,out3,hk,rfl,rfl,hch3,hout3⟩
  rw [iI]
  have hF3:=h.new hch3.new
  have hlen3:out3.length≤100000030:=by
   have:=congrArg List.length hout3
   simp only [List.length_append,Fab.choices,kE] at this
   omega
  refine aH (λhlt3=>?_) (λhlt3=>?_)
  ·have hkl:k<X.orphans.length:=by omega
   obtain ⟨b,p,ho⟩:∃ b p,X.orphans[k]?=some (b,p):=⟨X.orphans[k].1,X.orphans[k].2,by simp [hkl]⟩
   have hop:=(hF3.orphan _ (List.mem_of_getElem? ho)).1
   refine qu (v:=ptr b) (i:=k) hF3.orphs (by simp [ho]) rfl λad hcell _=>⟨some ⟨b,0,none⟩,hcell,?_⟩
   refine aF (zI hop) ?_
   rintro v w5 ⟨rfl,rfl⟩
   refine ⟨_,rfl,?_⟩
   refine aF (zJ hop) ?_
   rintro v w6 ⟨rfl,rfl⟩
   refine ⟨_,rfl,?_⟩
   rintro b6 w6 hb6 hw6
   obtain ⟨ap,apc,w7,hrun,hch7⟩:=hch3.append ⟨k,p.client,p.node⟩ hb6 hw6 (by omega)
   refine ⟨ap,_,apc,w7,hrun,?_⟩
   rw [show IntKind.i64.wrap ((k:Int)+1)=((k+1:Nat):Int) by rw [w64 (by omega) (by omega)];rfl]
   refine ⟨X.orphans.length - (k+1),by omega,k+1,_,ap,apc,_,by omega,rfl,rfl,hch7,?_⟩
   have hdl:X.pure.orphans.drop k=p.pure::X.pure.orphans.drop (k+1):=xy (by simp [FabX.pure,ho])
   rw [←hout3,hdl]
   rw [eY,List.append_assoc]
   rfl
  ·have hke:k=X.orphans.length:=by omega
   rw [hke,←hol,List.drop_length] at hout3
   have:out3=X.pure.choices:=by simpa [eY] using hout3
   subst this
   rw [jY]
   exact ⟨a3,cap3,rfl,hch3⟩
end Go.Proofs.YtgpmeaicjonenaaGreat
namespace Go.Proofs.YtgpmeaicjonenaaGreat
open Go.Proofs.Tryz
open Go.Eng
def sel (ls:List cJ):List (Nat×cX):=(ls.filter λl=>decide (0<l.p.verbs.length)).map λl=>(l.pb,l.p)
theorem xz (l:cJ) (ls:List cJ):sel (l::ls)=if 0<l.p.verbs.length then (l.pb,l.p)::sel ls else sel ls:=by
 unfold sel
 rw [List.filter_cons]
 by_cases h:0<l.p.verbs.length
 ·simp [h]
 ·simp [h]
theorem BT (ls:List cJ):(sel ls).map (λp=>p.2.pure)=((ls.map cJ.pure).map Lane.pair).filter λp=>decide (0<p.verbs.length):=by
 induction ls with
 |nil=>rfl
 |cons l ls ih=>
  rw [xz,List.map_cons,List.map_cons,List.filter_cons]
  have:l.pure.pair.verbs=l.p.verbs:=rfl
  rw [this,←ih]
  by_cases h:0<l.p.verbs.length
  ·simp [h];rfl
  ·simp [h]
theorem zZ {ls:List cJ} {x:Nat×cX} (h:x ∈ sel ls):∃ (j:Nat) (l:cJ),ls[j]?=some l∧x=(l.pb,l.p)∧0<l.p.verbs.length:=by
 simp only [sel,List.mem_map,List.mem_filter,decide_eq_true_eq] at h
 obtain ⟨l,⟨h1,h2⟩,h3⟩:=h
 obtain ⟨j,hj⟩:=List.mem_iff_getElem?.1 h1
 exact ⟨j,l,hj,h3.symm,h2⟩
def qS (i:Nat) (ls:List cJ):Tag→Tag
 | .lane c n=>if c=i then (match ls[n]? with
  |some l=>if 0<l.p.verbs.length then .orph l.pb else .lane c n
  |none=>.lane c n) else .lane c n
 |t=>t
theorem vx {i:Nat} {ls:List cJ} {t:Tag} (h:∀ n,t≠.lane i n):qS i ls t=t:=by
 cases t with
 |lane c n=>
  simp only [qS]
  rw [if_neg]
  rintro rfl
  exact h n rfl
 | _=>rfl
theorem tz {i:Nat} {ls:List cJ} {t:Tag} (h:qS i ls t≠.imm):t≠.imm:=by
 rintro rfl;exact h rfl
theorem yG {i n:Nat} {ls:List cJ} {l:cJ} (hl:ls[n]?=some l) (hp:0<l.p.verbs.length):qS i ls (.lane i n)=.orph l.pb:=by
 simp [qS,hl,hp]
structure DieI (A:Nat→Prop) (χ:Nat→Tag) (w:World) (fb:Nat) (X:FabX) (c:aW) (k:Nat) (u:World) (oa:Option Addr) (oc:Nat) (os:List (Nat×cX)):Prop where
 keep:Keep (λz=>χ z=.fab∨χ z=.orphs) w u
 fab:Blk u fb (X.cells.set 3 (.slice oa os.length oc)) TF
 own:Owns u TPP 1 oa os.length oc (os.map λp=>ptr p.1)
 tag:∀ z,isB oa z→χ z=.orphs∨w.heap.size≤z
 eq:os++sel (c.lanes.drop k)=X.orphans++sel c.lanes
set_option maxHeartbeats 3200000 in
theorem BU {A:Nat→Prop} {χ:Nat→Tag} {w:World} {fb:Nat} {X:FabX} (h:aZ A χ w fb X) (hok:ue X.pure) (hob:X.orphans.length≤100000000) {i:Nat} {c:aW} (hc:X.clients[i]?=some c)
  {j:List Value} {R:Value→World→Prop} (hR:∀ u oa oc os,DieI A χ w fb X c c.lanes.length u oa oc os→∀ jj,W prog (sub (aD f23) [1,1,1,1]) (fG (some ⟨X.cb,0+i * 7,none⟩) jj) (retQ prog f23 R) u) :
  cQ prog (.loop (sub (aD f23) [1,1,1,0,1,0,0])) (cM ⟨fb,0,none⟩ (some ⟨X.cb,0+i * 7,none⟩) c.la c.lanes.length c.lc c.lanes.length 0 j)
   (aK 0 (seqQ (λenv w=>W prog (sub (aD f23) [1,1,1,1]) env (retQ prog f23 R) w) (retQ prog f23 R))) w:=by
 have hco:=hok.client i c.pure (by simp [FabX.pure,hc])
 have hn5:=hok.nodes
 have hll:c.lanes.length≤5:=by
  have h1:=hco.lanes
  have:c.pure.lanes.length=c.lanes.length:=by simp [aW.pure]
  split at h1<;>omega
 have hsl:∀ ls:List cJ,(sel ls).length≤ls.length:=λls=>by simp [sel];exact List.length_filter_le _ _
 have hsl':=hsl c.lanes
 refine aT mix (λm env u=>∃ (k:Nat) (jj:List Value) (oa:Option Addr) (oc:Nat) (os:List (Nat×cX)),k≤c.lanes.length∧m=c.lanes.length - k∧env=cM ⟨fb,0,none⟩ (some ⟨X.cb,0+i * 7,none⟩) c.la c.lanes.length c.lc c.lanes.length k jj∧DieI A χ w fb X c k u oa oc os) c.lanes.length
  ⟨0,_,X.oa,X.oc,X.orphans,by omega,by omega,rfl,Keep.refl _ _,h.fab,h.orphs,λz hz=>.inl (h.otag z hz),rfl⟩ ?_
 rintro m env u ⟨k,jj,oa,oc,os,hk,rfl,rfl,I⟩
 rw [ke]
 have hosl:os.length≤100000005:=by
  have:=congrArg List.length I.eq
  simp only [List.length_append] at this
  omega
 refine aH (λhlt=>?_) (λhlt=>?_)
 ·have hkl:k<c.lanes.length:=by omega
  obtain ⟨l,hl⟩:∃ l,c.lanes[k]?=some l:=⟨c.lanes[k],by simp [hkl]⟩
  have hcx:=h.client i c hc
  have hown:Owns u TL 2 c.la c.lanes.length c.lc (j4 c.lanes).flatten:=hcx.own.keep I.keep λz hz=>by rw [hcx.tag z hz];simp
  obtain ⟨g,hga,_,_,hgc,_⟩:=Owns.row hown (gH c.lanes) (by omega) (fQ hl)
  have hlx:=hcx.lane k l hl
  rw [hga]
  refine bE (by omega) (by omega) ?_
  rw [Int.toNat_natCast]
  refine ⟨_,_,_,_,hgc,?_⟩
  rintro b3 w3 hb3 hw3
  obtain ⟨hz3,hn3⟩:=aO hb3 hw3
  refine ⟨cK (vs:=l.cells) hz3 (by simp [cJ.cells]) (by simp [cJ.cells,single]),?_⟩
  intro w4 hw4
  obtain ⟨hz4,hn4⟩:=mb (vs:=l.cells) hz3 (by simp [cJ.cells]) hn3 (by omega) hw4
  clear hw3 hw4 hz3 hn3
  refine ⟨_,hz4.cell (i:=0) rfl,?_⟩
  have hku4:Keep (λz=>χ z=.fab∨χ z=.orphs) w w4:=I.keep.new hn4
  have hpa:bS A w4 l.pb l.p:=hlx.pair.keep hku4 (λz hz=>by rw [hlx.tag z hz];simp) (λz hz=>h.avoid z (by rcases hz with e | e<;>rw [e]<;>simp))
  refine aF (pH hpa) ?_
  rintro v w5 ⟨rfl,rfl⟩
  have hdl:=xy hl
  have heq:=I.eq
  rw [hdl,xz] at heq
  rw [←hga]
  have hfab5:=New.blk hn4 I.fab
  have hown5:=I.own.new hn4
  refine ⟨_,rfl,aH (λhp=>?_) (λhp=>?_)⟩
  ·have hp':0<l.p.verbs.length:=by omega
   rw [if_pos hp'] at heq
   intro w6 hw6
   have hn6:New w5 w6:=by rw [hw6];exact aU _
   clear hw6
   have hfab6:=New.blk hn6 hfab5
   have hz6:=New.blk hn6 hz4
   have hown6:=hown5.new hn6
   have hfb:¬ isB oa fb:=λhb=>by
    rcases I.tag fb hb with e | e
    ·rw [h.ftag] at e;cases e
    ·have:=h.fab.lt;omega
   have hb3b:¬ isB oa b3:=λhb=>by
    have:=I.own.lt hb;omega
   refine ⟨λz=>Keep (isB oa) w6 z,Keep.refl _ _,_,_,_,λz hz=>(hz.blk hfab6 hfb).cell (i:=3) rfl,_,λz hz=>(hz.blk hz6 hb3b).cell (i:=0) rfl,?_⟩
   rintro b7 w7 hb7 hw7
   obtain ⟨hz7,hn7⟩:=aO hb7 hw7
   clear hw7
   refine ⟨Keep.of_new hn7,?_⟩
   obtain ⟨ti,hi,hzz,hsz,hby⟩:=iF (T:=115) (z:=.pointer none) (n:=1) (m:=8) (by kernel_rfl)
   have hown7:Owns w7 TPP ti.size oa os.length oc (os.map λp=>ptr p.1):=by rw [hsz];exact hown6.new hn7
   obtain ⟨ap,apc,w8,hrun,hown8,hk8,hap⟩:=hown7.append (P:=prog) (t:=118) (ty:=118) Tryz.underlying118 hi hzz (by rw [hsz];rfl) (by omega)
    (s:=some ⟨b7,0,none⟩) (m:=1) (c:=1) (news:=[ptr l.pb]) (by rw [hsz];rfl) (eQ hz7 (by simp [ptr])) (by simp [ptr,single]) (by omega) (by rw [hby];omega)
   rw [hsz] at hown8
   have hfab8:Blk w8 fb (X.cells.set 3 (.slice oa os.length oc)) TF:=hk8.blk (New.blk hn7 hfab6) hfb
   refine ⟨ap,_,apc,w8,hrun,(Keep.of_new hn7).trans hk8 λ_ _ h=>h,⟨_,hfab8.cell (i:=3) rfl⟩,hfab8.frozen,?_⟩
   intro w9 hw9
   have hk9:Keep (λz=>z=fb) w8 w9:=by rw [hw9];exact aR _ _ _ _
   have hfab9:Blk w9 fb (X.cells.set 3 (.slice ap (os.length+1) apc)) TF:=by
    rw [hw9]
    have:=hfab8.setCell (i:=3) (.slice ap (os.length+1) apc)
    rw [List.set_set] at this
    exact this
   clear hw9
   have hn48:New u w7:=(hn4.new hn6).new hn7
   have hapt:∀ z,isB ap z→χ z=.orphs∨w.heap.size≤z:=by
    intro z hz
    rcases hap with e | e
    ·exact I.tag z (e▸hz)
    ·obtain ⟨o,ho⟩:=hz
     rw [e] at ho
     simp at ho
     have:=I.keep.size
     have:=hn48.size
     exact .inr (by omega)
   rw [show IntKind.i64.wrap ((k:Int)+1)=((k+1:Nat):Int) by rw [w64 (by omega) (by omega)];rfl]
   refine ⟨c.lanes.length - (k+1),by omega,k+1,_,ap,apc,os++[(l.pb,l.p)],by omega,rfl,rfl,?_,?_,?_,hapt,?_⟩
   ·refine ((I.keep.new hn48).trans hk8 λz hlt hz=>?_).trans hk9 λz _ e=>.inl (by rw [e];exact h.ftag)
    rcases I.tag z hz with e | e
    ·exact .inr e
    ·omega
   ·simpa using hfab9
   ·have:=hown8.keep hk9 (λz hz e=>?_)
    ·simpa using this
    ·rcases hapt z hz with e' | e'
     ·rw [e,h.ftag] at e';cases e'
     ·have:=h.fab.lt;omega
   ·rw [←heq];simp
  ·have hp':¬ 0<l.p.verbs.length:=by omega
   rw [if_neg hp'] at heq
   rw [show IntKind.i64.wrap ((k:Int)+1)=((k+1:Nat):Int) by rw [w64 (by omega) (by omega)];rfl]
   exact ⟨c.lanes.length - (k+1),by omega,k+1,_,oa,oc,os,by omega,rfl,rfl,hku4,hfab5,hown5,I.tag,heq⟩
 ·have:k=c.lanes.length:=by omega
  subst this
  exact hR u oa oc os I _
theorem Dz (ls:List cJ):((sel ls).map Prod.fst).Sublist (ls.map cJ.pb):=by
 have:(sel ls).map Prod.fst=(ls.filter λl=>decide (0<l.p.verbs.length)).map cJ.pb:=by simp [sel,Function.comp_def]
 rw [this]
 exact (List.filter_sublist).map _
def tdie (i:Nat) (t:Tag):Prop:=t=.fab∨t=.orphs∨t=.clients∨ofC i t
open Classical in
set_option maxHeartbeats 1600000 in
theorem aZ.die {A:Nat→Prop} {χ:Nat→Tag} {w w':World} {fb:Nat} {X:FabX} (h:aZ A χ w fb X) {i:Nat} {c:aW} (hc:X.clients[i]?=some c) {oa:Option Addr} {oc:Nat}
  (hk:Keep (λz=>χ z=.fab∨χ z=.orphs∨χ z=.clients) w w') (hfab:Blk w' fb (X.cells.set 3 (.slice oa (X.orphans++sel c.lanes).length oc)) TF) (hown:Owns w' TPP 1 oa (X.orphans++sel c.lanes).length oc ((X.orphans++sel c.lanes).map λp=>ptr p.1))
  (htag:∀ z,isB oa z→χ z=.orphs∨w.heap.size≤z) {c':aW} (hc':c'.lanes=[]∧c'.la=none∧c'.lc=0∧c'.bb=none∧c'.raw=[]∧c'.batch=[]) (hb:Blk w' X.cb (gG (X.clients.set i c')).flatten TC) :
  ∃ A' χ',Next A A' χ χ' w w'∧aZ A' χ' w' fb { X with clients:=X.clients.set i c',orphans:=X.orphans++sel c.lanes,oa:=oa,oc:=oc }:=by
 let χ':Nat→Tag:=λk=>if isB oa k then .orphs else qS i c.lanes (χ k)
 have t1:∀ k,isB oa k→χ' k=.orphs:=λk hk=>if_pos hk
 have t2:∀ k,¬ isB oa k→χ' k=qS i c.lanes (χ k):=λk hk=>if_neg hk
 have hg:∀ k,k<w.heap.size→χ' k≠.imm→χ k≠.imm:=by
  intro k hlt hcx
  by_cases hb:isB oa k
  ·rcases htag k hb with e | e
   ·rw [e];simp
   ·omega
  ·rw [t2 k hb] at hcx;exact tz hcx
 have hs:∀ k,k<w.heap.size→¬ tdie i (χ k)→χ k≠.imm→χ' k=χ k:=by
  intro k hlt hT _
  by_cases hb:isB oa k
  ·rcases htag k hb with e | e
   ·exact absurd (.inr (.inl e)) hT
   ·omega
  ·rw [t2 k hb]
   exact vx λn e=>hT (.inr (.inr (.inr (by rw [e];rfl))))
 obtain ⟨m,nx⟩:=h.move (T:=tdie i) (χ':=χ') (w':=w') (hk.mono λk _ hc=>by rcases hc with e | e | e<;>simp [tdie,e]) (by simp [tdie,ofC]) hg hs
 have f2:=Owns.moved m h.nodes h.ntag (by simp [tdie,ofC]) (by simp)
 have hcx:=h.client i c hc
 have hnoa:∀ k,k<w.heap.size→χ k≠.orphs→¬ isB oa k:=λk hlt hne hb=>by
  rcases htag k hb with e | e
  ·exact hne e
  ·omega
 have hpb:∀ (j:Nat) (l:cJ),c.lanes[j]?=some l→χ l.pb=.lane i j:=λj l hl=>(hcx.lane j l hl).tag _ (.inl rfl)
 refine ⟨_,χ',nx,m.avoid',λk hc=>?_,?_,?_,f2.1,f2.2,λq z hz=>(h.node q z hz).moved m (by simp [tdie,ofC]) (by simp [tdie,ofC]),hb,?_,λq z hz=>?_,hown,t1,λx hx=>?_,?_⟩
 ·rcases hc with hc | hc
  ·by_cases hb:isB oa k
   ·exact hown.lt hb
   ·rw [t2 k hb] at hc
    exact Nat.lt_of_lt_of_le (h.lowt (tz hc)) hk.size
  ·exact Nat.lt_of_lt_of_le hc.1 hk.size
 ·simpa [FabX.cells] using hfab
 ·rw [t2 fb (hnoa fb h.fab.lt (by rw [h.ftag];simp)),h.ftag];rfl
 ·show χ' X.cb=_
  rw [t2 _ (hnoa _ h.cls.lt (by rw [h.ctag];simp)),h.ctag];rfl
 ·simp only [List.getElem?_set] at hz
  split at hz
  ·rename_i he
   subst he
   split at hz
   ·simp only [Option.some.injEq] at hz
    subst hz
    obtain ⟨e1,e2,e3,e4,e5,e6⟩:=hc'
    refine ⟨?_,λk hk=>?_,λj l hl=>?_,λ_=>⟨e5,e6⟩,λb hbb=>?_,?_⟩
    ·rw [e1,e2,e3];exact Owns.nil _ _ _
    ·rw [e2] at hk;obtain ⟨o,ho⟩:=hk;cases ho
    ·rw [e1] at hl;simp at hl
    ·rw [e4] at hbb;cases hbb
    ·rw [e5,e6];exact ⟨rfl,λ_ _ _ hc=>by simp at hc⟩
   ·cases hz
  ·rename_i he
   refine (h.client q z hz).moved m λt h1 h2=>?_
   rcases h2 with e | e | e | e
   ·rw [e] at h1;cases h1
   ·rw [e] at h1;cases h1
   ·rw [e] at h1;cases h1
   ·exact CZ he t h1 (.inr e)
 ·rcases List.mem_append.1 hx with hx | hx
  ·exact bS.moved m (h.orphan x hx).1 (h.orphan x hx).2 (by simp [tdie,ofC]) (by simp)
  ·obtain ⟨j,l,hl,rfl,hp⟩:=zZ hx
   have hlx:=hcx.lane j l hl
   have hml:∀ k,l.p.mut l.pb k→k<w.heap.size:=λk hk=>h.lowt (by rw [hlx.tag k hk];simp)
   have htg:∀ k,l.p.mut l.pb k→χ' k=.orph l.pb:=λk hk=>by
    rw [t2 k (hnoa k (hml k hk) (by rw [hlx.tag k hk];simp)),hlx.tag k hk]
    exact yG hl hp
   refine ⟨?_,htg⟩
   refine (hlx.pair.recolor (λk hlt hA=>m.old k hlt hA) (λk hk=>m.avoid' k (by rw [htg k hk];simp))).keep hk (λk hk hc=>?_) (λk hc=>m.avoid' k ?_)
   ·rw [hlx.tag k hk] at hc
    rcases hc with e | e | e<;>cases e
   ·by_cases hb:isB oa k
    ·rw [t1 k hb];simp
    ·rw [t2 k hb]
     rcases hc with e | e | e<;>rw [e]<;>simp [qS]
 ·show ((X.orphans++sel c.lanes).map Prod.fst).Nodup
  rw [List.map_append,List.nodup_append]
  refine ⟨h.nodup,(Dz c.lanes).nodup ?_,?_⟩
  ·refine List.pairwise_iff_getElem.2 λa b ha hb hab he=>?_
   simp only [List.length_map] at ha hb
   simp only [List.getElem_map] at he
   have h1:=hpb a _ (List.getElem?_eq_getElem ha)
   have h2:=hpb b _ (List.getElem?_eq_getElem hb)
   rw [he,h2] at h1
   simp at h1 <;> omega
  ·intro a ha b hb he
   obtain ⟨x,hx,rfl⟩:=List.mem_map.1 ha
   obtain ⟨y,hy,rfl⟩:=List.mem_map.1 hb
   obtain ⟨j,l,hl,rfl,hp⟩:=zZ hy
   have h1:=(h.orphan x hx).2 x.1 (.inl rfl)
   have h2:=hpb j l hl
   rw [he,h2] at h1
   cases h1
set_option maxHeartbeats 1600000 in
theorem FH {A:Nat→Prop} {χ:Nat→Tag} {w:World} {fb:Nat} {X:FabX} (h:aZ A χ w fb X) (hok:ue X.pure) (hob:X.orphans.length≤100000000) (c:Int):Does 23 [ptr fb,.int .i64 c] w λv w'=>
  v=.bool (X.pure.die c).1∧dE A χ w fb (X.pure.die c).2 w' λ_=>True:=by
 refine does Tryz.func23 ?_
 rw [ptr,n5]
 refine aF (zT h c) ?_
 rintro v w1 ⟨rfl,rfl⟩
 rcases X.cl_cases c with ⟨h1,h2⟩ | ⟨i,x,rfl,h1,h2⟩
 ·have hd:X.pure.die c=(false,X.pure):=by simp [Fab.die,h1]
  have ha:X.pure.alive c=false:=by simp [Fab.alive,h1]
  rw [hd,ha]
  exact ⟨_,rfl,rfl,dE.same h (Keep.refl _ _) trivial⟩
 ·have ha:X.pure.alive i=x.alive:=by simp [Fab.alive,h2,aW.pure]
  rw [ha]
  refine ⟨_,rfl,dG (λhf=>?_) (λht=>?_)⟩
  ·have hd:X.pure.die i=(false,X.pure):=by simp [Fab.die,h2,aW.pure,hf]
   rw [hd]
   exact ⟨rfl,dE.same h (Keep.refl _ _) trivial⟩
  refine aF (jd h h1) ?_
  rintro v w2 ⟨rfl,rfl⟩
  have hd:X.pure.die i=(true,{ X.pure with orphans:=X.pure.orphans++(x.pure.lanes.map Lane.pair).filter (λp=>decide (0<p.verbs.length)),clients:=X.pure.clients.set i { x.pure with alive:=false,lanes:=[],batch:=none,waiting:=0 } }):=by
   simp [Fab.die,h2,aW.pure,ht]
  rw [hd]
  refine ⟨_,rfl,_,_,_,h.ccell (k:=2) h1 rfl,?_⟩
  refine BU h hok hob h1 ?_
  intro u oa oc os I jj
  rw [lm]
  have hos:os=X.orphans++sel x.lanes:=by
   have:=I.eq
   rw [List.drop_length] at this
   simpa [sel] using this
  subst hos
  have hcls:Blk u X.cb (gG X.clients).flatten TC:=I.keep.blk h.cls (by rw [h.ctag];simp)
  refine ⟨⟨_,lO (k:=0) hcls h1 rfl⟩,hcls.frozen,?_⟩
  intro w3 hw3
  obtain ⟨hcls3,hcl3⟩:=je (k:=0) (c':={ x with alive:=false }) hcls h1 (by omega) (v:=.bool false) (by simp [aW.cells])
  have hw3':w3=u.setCell ⟨X.cb,0+i * 7+0,none⟩ (.bool false):=hw3
  rw [←hw3'] at hcls3
  have hk3:Keep (λz=>z=X.cb) u w3:=by rw [hw3'];exact aR _ _ _ _
  clear hw3 hw3'
  refine ⟨⟨_,lO (k:=2) hcls3 hcl3 rfl⟩,hcls3.frozen,?_⟩
  intro w4 hw4
  obtain ⟨hcls4,hcl4⟩:=je (k:=2) (c':={ x with alive:=false,lanes:=[],la:=none,lc:=0 }) hcls3 hcl3 (by omega) (v:=.slice none 0 0) (by simp [aW.cells])
  rw [←hw4] at hcls4
  have hk4:Keep (λz=>z=X.cb) w3 w4:=by rw [hw4];exact aR _ _ _ _
  clear hw4
  refine ⟨⟨_,lO (k:=3) hcls4 hcl4 rfl⟩,hcls4.frozen,?_⟩
  intro w5 hw5
  obtain ⟨hcls5,hcl5⟩:=je (k:=3) (c':={ x with alive:=false,lanes:=[],la:=none,lc:=0,bb:=none,raw:=[],batch:=[] }) hcls4 hcl4 (by omega) (v:=.slice none 0 0) (by simp [aW.cells])
  rw [←hw5] at hcls5
  have hk5:Keep (λz=>z=X.cb) w4 w5:=by rw [hw5];exact aR _ _ _ _
  clear hw5
  refine ⟨⟨_,lO (k:=4) hcls5 hcl5 rfl⟩,hcls5.frozen,?_⟩
  intro w6 hw6
  obtain ⟨hcls6,hcl6⟩:=je (k:=4) (c':={ x with alive:=false,lanes:=[],la:=none,lc:=0,bb:=none,raw:=[],batch:=[],waiting:=0 }) hcls5 hcl5 (by omega) (v:=.int .i64 0) (by simp [aW.cells])
  rw [←hw6] at hcls6
  have hk6:Keep (λz=>z=X.cb) w5 w6:=by rw [hw6];exact aR _ _ _ _
  clear hw6
  rw [bP,bP,bP] at hcls6
  have hk36:Keep (λz=>z=X.cb) u w6:=((hk3.trans hk4 λ_ _ h=>h).trans hk5 λ_ _ h=>h).trans hk6 λ_ _ h=>h
  have hkall:Keep (λz=>χ z=.fab∨χ z=.orphs∨χ z=.clients) w2 w6:=(I.keep.mono λz _ hz=>hz.elim .inl λe=>.inr (.inl e)).trans hk36 λz _ e=>.inr (.inr (by rw [e];exact h.ctag))
  have hne:∀ z,isB oa z→z≠X.cb:=λz hz e=>by
   rcases I.tag z hz with e' | e'
   ·rw [e,h.ctag] at e';cases e'
   ·have:=h.cls.lt;omega
  have hfc:fb≠X.cb:=λe=>by have:=h.ftag;rw [e,h.ctag] at this;cases this
  obtain ⟨A',χ',nx,hF⟩:=h.die (c':={ x with alive:=false,lanes:=[],la:=none,lc:=0,bb:=none,raw:=[],batch:=[],waiting:=0 }) h1 hkall (hk36.blk I.fab hfc) (I.own.keep hk36 hne) I.tag ⟨rfl,rfl,rfl,rfl,rfl,rfl⟩ hcls6
  refine ⟨rfl,A',χ',_,nx,hF,?_,trivial⟩
  simp only [FabX.pure,List.map_append,List.map_set,BT]
  rfl
end Go.Proofs.YtgpmeaicjonenaaGreat
