import Derived.Test.YtgpmeaicjonenaaGreata25
import Derived.Test.YtgpmeaicjonenaaGreatProg
import Derived.Test.YtgpmeaicjonenaaGreata03
set_option linter.unusedVariables false
namespace Go.Proofs.YtgpmeaicjonenaaGreat
open Go.Proofs.Tryz
open Go.Eng
theorem k9 {G:List (List Done)} {vs:List Verb} {f:Int} (h:(bL G vs f).ok=true):(bL G vs f).ask=none∧(bL G vs f).wrong=false∧(bL G vs f).out=(0,0):=by
 unfold bL at h ⊢
 split at h
 ·cases h
 ·rename_i h1
  rw [if_neg h1]
  split at h
  ·cases h
  ·rename_i h2
   rw [if_neg h2]
   exact ⟨rfl,rfl,rfl⟩
theorem jk.ok {A:Nat→Prop} {w0 u u':World} {tb B:Nat} {R:SR} (h:jk A w0 u tb B R u') (ha:R.ask=none) (hw:R.wrong=false) (k:Bool) (d:List Done) (o:Int×Int):jk A w0 u tb B ⟨k,d,o,R.got,none,false⟩ u':=by
 obtain ⟨hk,T',ht,hw',ha'⟩:=h
 rw [ha] at ha'
 exact ⟨hk,T',ht,by rw [hw',hw],ha'⟩
theorem jk.clean {A:Nat→Prop} {w0 u u':World} {tb B:Nat} {R:SR} (h:jk A w0 u tb B R u') (ha:R.ask=none) (hw:R.wrong=false):∃ T',TkAt A w0 u' tb T' R.got∧ou T':=by
 obtain ⟨hk,T',ht,hw',ha'⟩:=h
 rw [ha] at ha'
 exact ⟨T',ht,ha',by rw [hw',hw]⟩
theorem Ar {α:Type} {cells:α→List Value} {sz:Nat} (hsz:∀ x,(cells x).length=sz) (h0:0<sz) {S:World→Prop} {a:Option Addr} {l:List α} (hS:∀ y,S y→Rd y a (l.map cells).flatten) {u:World} (hu:S u) {i:Nat} {x:α} (hx:l[i]?=some x) {z:Int} (hz:z=i) {n:Nat} (hn:n=l.length) {K:Addr→Prop}
  (hk:∀ b o,(∀ y,S y→∀ (q:Nat) (v:Value),(cells x)[q]?=some v→y.cell? ⟨b,o+q,none⟩=some v)→K ⟨b,o,none⟩):idxS a n z sz K:=by
 subst hz hn
 have hlt:=aN hx
 have hs:∀ r ∈ l.map cells,r.length=sz:=λr hr=>by obtain ⟨y,_,rfl⟩:=List.mem_map.1 hr;exact hsz y
 obtain ⟨b,o,rfl,h1,h2⟩:=(hS u hu).row (sz:=sz) hs h0 (i:=i) (r:=cells x) (by simp [hx])
 refine bE (by omega) (by omega) ?_
 have:=hk b (o+i * sz) λy hy q v hv=>by
  obtain ⟨b',o',e,_,g2⟩:=(hS y hy).row (sz:=sz) hs h0 (i:=i) (r:=cells x) (by simp [hx])
  simp at e
  obtain ⟨rfl,rfl⟩:=e
  exact g2 q v hv
 simpa using this
theorem FN {u:World} {b:Nat} {zs:List Value} (hz:Blk u b zs TCO) (hl:zs.length=2) (c f:Int) {K:aA→World→Prop} (hk:∀ u4,Keep (λk=>k=b) u u4→K ⟨c,f⟩ u4) :
  wrAt u ⟨b,0,none⟩ 0 [(.int .i64 c),(.int .i64 f)]∧∀ w2,w2=puts u ⟨b,0,none⟩ 0 [(.int .i64 c),(.int .i64 f)]→aA.ex λr=>aC w2 ⟨b,0,none⟩ 0 r.cells∧wrAt w2 ⟨b,0,none⟩ 0 r.cells∧∀ w3,w3=puts w2 ⟨b,0,none⟩ 0 r.cells→aA.ex λres=>aC w3 ⟨b,0,none⟩ 0 res.cells∧w3=w3∧K res w3:=
 il hz (vs:=aA.cells ⟨c,f⟩) (by rw [hl];rfl) (aA.single _) λw2 hz2 hk2=>D0 hz2 λu4 hk4=>hk u4 (hk2.trans hk4 λ_ _ e=>e)
theorem rd_u {u:World} {a:Option Addr} {l:List Int} (h:Rd u a (us l)) {i:Nat} {x:Int} (hx:l[i]?=some x) {z:Int} (hz:z=i) {n:Nat} (hn:n=l.length) {K:Addr→Prop}
  (hk:∀ b o,(∀ y,New u y→y.cell? ⟨b,o,none⟩=some (.int .u64 x))→K ⟨b,o,none⟩):idxS a n z 1 K:=by
 subst hz hn
 have hlt:=aN hx
 have hxx:(us l)[i]?=some (.int .u64 x):=by simp [us,hx]
 rcases h with he | ⟨b,o,rfl,hc⟩
 ·rw [he] at hxx;cases hxx
 ·refine bE (by omega) (by omega) ?_
  have:=hk b (o+i) λy hy=>(Rd.new hy (.inr ⟨b,o,rfl,hc⟩)).cell hxx
  simpa using this
theorem tE:∀ (b:List Int) (c:List Done),eM (b.take c.length) c=eM b c
 | [],c=>by simp
 |x::b,[]=>by simp [eM]
 |x::b,d::c=>by
  simp only [List.length_cons,List.take_succ_cons,eM]
  rw [tE b c]
theorem tF:∀ (a:List Verb) (b:List Int) (c:List Done),eO (a.take c.length) (b.take c.length) c=eO a b c
 | [],b,c=>by simp [eO]
 |v::a,[],c=>by
  simp only [List.take_nil]
  cases c<;>simp [eO]
 |v::a,x::b,[]=>by simp [eO]
 |v::a,x::b,d::c=>by
  simp only [List.length_cons,List.take_succ_cons,eO]
  rw [tF a b c]
variable {A:Nat→Prop} {w0 u:World} {cb tb b1:Nat} {r:aL} {m0:aE} {j:CJob}
structure LkD (A:Nat→Prop) (w0 u z:World) (cb tb b1:Nat) (r:aL) (m0:aE) (j:CJob) (R:SR):Prop where
 com:fN w0 z cb tb r m0 j
 co:∃ o:aA,Blk z b1 o.cells TCO
 tk:∃ T,TkAt A w0 z tb T R.got∧ou T
 keep:Keep (λk=>k=tb) u z
theorem LkD.new {z z':World} {R:SR} (h:LkD A w0 u z cb tb b1 r m0 j R) (hn:New z z'):LkD A w0 u z' cb tb b1 r m0 j R:=by
 obtain ⟨h1,⟨o,h2⟩,⟨T,h3,h4⟩,h5⟩:=h
 exact ⟨h1.new' hn,⟨o,New.blk hn h2⟩,⟨T,h3.new hn,h4⟩,h5.new hn⟩
theorem LkD.keep' {z z':World} {R:SR} (h:LkD A w0 u z cb tb b1 r m0 j R) {M:Nat→Prop} (hk:Keep M z z') (hM:∀ k,M k→w0.heap.size≤k∧u.heap.size≤k∧k≠cb∧k≠b1∧k≠tb):LkD A w0 u z' cb tb b1 r m0 j R:=by
 obtain ⟨h1,⟨o,h2⟩,⟨T,h3,h4⟩,h5⟩:=h
 exact ⟨h1.keep hk λk e=>⟨(hM k e).1,(hM k e).2.2.1⟩,⟨o,hk.blk h2 λe=>(hM _ e).2.2.2.1 rfl⟩,⟨T,h3.keep hk λe=>(hM _ e).2.2.2.2 rfl,h4⟩,h5.trans hk λk hlt e=>by have:=hM k e;omega⟩
set_option maxRecDepth 20000 in
set_option maxHeartbeats 1000000 in
theorem D1 {z z0:World} {G:List (List Done)} {vs us:List Verb} (hok:(bL G vs 1).ok=true) (hD:LkD A w0 u z cb tb b1 r m0 j (bL G vs 1)) (hz0:New w0 z0) (hb1:u.heap.size≤b1) (hb1z:b1<z0.heap.size) (htb:tb<u.heap.size) (huz:u.heap.size≤z0.heap.size)
  {ua:Option Addr} {un uc:Nat} (hv:VB z0 z ua un uc us) (hlen:us.length≤100000) (conf:Bool) (jj:List Value) {Q:Value→World→Prop}
  (hQ:∀ v w',pT A w0 u tb u.heap.size (if conf=false then ⟨true,[],(0,0),(bL G vs 1).got,none,false⟩
   else if (bL (bL G vs 1).got us 1).ok=true then ⟨false,[],(7,1),(bL (bL G vs 1).got us 1).got,none,false⟩ else bL (bL G vs 1).got us 1) v w'→Q v w') :
  W prog (sub (aD f187) [1,1,1,1,1,1,1,1,1]) (eE ⟨cb,0,none⟩ ⟨b1,0,none⟩ ua un uc conf jj) (retQ prog f187 Q) z:=by
 rw [j7]
 obtain ⟨hcom,⟨o,hco⟩,⟨T,hT,hcl⟩,hkz⟩:=hD
 cases conf with
 |false=>
  refine co_k hco rfl 0 0 λu4 hk4=>hQ _ _ ⟨rfl,?_⟩
  have h0:jk A w0 u tb z0.heap.size ⟨true,[],(0,0),(bL G vs 1).got,none,false⟩ z:=⟨hkz,T,hT,hcl.wrong,hcl.al⟩
  exact h0.put (Keep.refl _ _) (Keep.refl _ _) hk4 hb1 hb1z (by omega) huz
 |true=>
  have hcall:=tD hcom hT hcl hz0 (by omega) hv hlen 1
  refine aF hcall ?_
  rintro v u7 ⟨da,dc,raw,rfl,hsp,_⟩
  have hsp':=hsp.after hkz
  have hz7:Blk u7 b1 o.cells TCO:=hsp.keep.blk hco (by omega)
  refine ⟨_,_,_,aA.mk_ex ⟨(bL (bL G vs 1).got us 1).out.1,(bL (bL G vs 1).got us 1).out.2⟩ ⟨(bL (bL G vs 1).got us 1).ok,rfl,?_⟩⟩
  refine il hz7 rfl (aA.single _) λu8 hz8 hk8=>?_
  have hsp8:=hsp'.put (B':=u.heap.size) (Keep.refl _ _) (Keep.refl _ _) hk8 hb1 hb1z (by omega) huz
  cases hok2:(bL (bL G vs 1).got us 1).ok with
  |true=>
   obtain ⟨ha,hw,_⟩:=k9 hok2
   have hsp9:=hsp'.ok ha hw false [] (7,1)
   have hspA:=hsp9.put (B':=z0.heap.size) (Keep.refl _ _) (Keep.refl _ _) hk8 hb1 hb1z (by omega) (Nat.le_refl _)
   refine FN hz8 rfl 7 1 λu4 hk4=>hQ _ _ ?_
   simp only [Bool.true_eq_false,if_false,if_true,hok2]
   exact ⟨rfl,hspA.put (Keep.refl _ _) (Keep.refl _ _) hk4 hb1 hb1z (by omega) huz⟩
  |false=>
   have hspA:=hsp'.put (B':=z0.heap.size) (Keep.refl _ _) (Keep.refl _ _) hk8 hb1 hb1z (by omega) (Nat.le_refl _)
   refine D0 hz8 λu4 hk4=>hQ _ _ ?_
   simp only [Bool.true_eq_false,if_false,if_true,hok2,Bool.false_eq_true]
   refine ⟨?_,hspA.put (Keep.refl _ _) (Keep.refl _ _) hk4 hb1 hb1z (by omega) huz⟩
   rw [hok2]
set_option maxRecDepth 20000 in
set_option maxHeartbeats 4000000 in
theorem D2 {z:World} {pa:Option Addr} {n pc:Nat} {qa:Option Addr} {qc:Nat} {T:TkX} {G:List (List Done)} {u1:World} (hI:LkI w0 u1 cb tb r m0 j z pa n pc qa qc (aX j) (dR j)) (hu1:New u u1) (hw0u:New w0 u) (hT:TkAt A w0 z tb T G) (hcl:ou T) (hco:Blk z b1 (aA.cells ⟨0,0⟩) TCO)
  (hb1:u.heap.size≤b1) (hb1z:b1<u1.heap.size) (htb:tb<u.heap.size) (hcb:cb<u.heap.size) (jj:List Value) {Q:Value→World→Prop} (hQ:∀ v w',pT A w0 u tb u.heap.size (mF j G) v w'→Q v w') :
  W prog (sub (aD f187) [1,1,1,1,1]) (eD ⟨cb,0,none⟩ ⟨b1,0,none⟩ pa n pc none 0 0 qa n qc jj) (retQ prog f187 Q) z:=by
 rw [j6]
 have hs01:=hu1.size
 have hsw:=hw0u.size
 have hn:=hI.vb.len
 have hwl:=hI.wl
 have hg:=hI.com.good
 have hgf:=hg.wfew
 have hgr:=hg.rfew
 have hn36:n≤36:=by
  rw [hn]
  unfold aX
  simp only [List.length_append,List.length_map]
  omega
 have hnz:New u z:=hu1.new hI.new
 have hcall:=tD hI.com hT hcl (hw0u.new hu1) (by omega) hI.vb (by omega) 1
 refine aF hcall ?_
 rintro v u4 ⟨da,dc,raw,rfl,hsp,hrd,hds,hrl⟩
 refine ⟨_,_,_,aA.mk_ex ⟨(bL G (aX j) 1).out.1,(bL G (aX j) 1).out.2⟩ ⟨(bL G (aX j) 1).ok,rfl,?_⟩⟩
 have hz4:Blk u4 b1 (aA.cells ⟨0,0⟩) TCO:=hsp.keep.blk hco (by omega)
 have hsp':=hsp.after (Keep.of_new hnz)
 refine il hz4 rfl (aA.single _) λu5 hz5 hk5=>?_
 unfold mF at hQ
 cases hok:(bL G (aX j) 1).ok with
 |false=>
  have hspA:=hsp'.put (B':=u1.heap.size) (Keep.refl _ _) (Keep.refl _ _) hk5 hb1 hb1z (by omega) (Nat.le_refl _)
  refine D0 hz5 λu6 hk6=>hQ _ _ ?_
  rw [if_pos hok]
  refine ⟨?_,hspA.put (Keep.refl _ _) (Keep.refl _ _) hk6 hb1 hb1z (by omega) hs01⟩
  rw [hok]
 |true=>
  rw [if_neg (by rw [hok];simp)] at hQ
  obtain ⟨ha,hw,ho⟩:=k9 hok
  obtain ⟨T',hT',hcl'⟩:=hsp.clean ha hw
  have hk45:Keep (λk=>k=tb∨k=b1) z u5:=(hsp.keep.mono λk _ e=>.inl e).trans (hk5.mono λk _ e=>.inr e) λ_ _ e=>e
  have hD5:LkD A w0 u u5 cb tb b1 r m0 j (bL G (aX j) 1):=by
   refine ⟨hI.com.keep hk45 λk e=>?_,⟨_,hz5⟩,⟨T',hT'.keep hk5 (by omega),hcl'⟩,((Keep.of_new hnz).trans hsp.keep λ_ _ e=>e).trans hk5 λk hlt e=>by omega⟩
   have h1:=hI.com.tbl
   have h2:=hI.com.ne
   rcases e with e | e
   ·exact ⟨by omega,by omega⟩
   ·exact ⟨by omega,by omega⟩
  have hvb5:VB u1 u5 pa n pc (aX j):=hI.vb.keep_nw hI.nw hk45 λk hk e=>by have:=hI.vb.fr k hk;omega
  have hown5:Owns u5 TUw 1 qa n qc (us (dR j)):=hI.own.keep hk45 λk hk e=>by have:=hI.qf k hk;omega
  obtain ⟨⟨vraw,hvo,hvv⟩,hvl,hvf⟩:=hvb5
  have hvrd:=hvo.rd
  have hvnw:=hI.nw
  have hwrd:=hown5.rd
  have hw05:=hD5.com.new
  have hlt5:=hz5.lt
  have hdl:=hds.1
  have hu15:u1.heap.size≤u5.heap.size:=by have h1:=hI.new.size;have h2:=hk45.size;omega
  clear hown5
  refine aT mix (λq env y=>∃ (i:Nat) (cf:Bool) (ua:Option Addr) (un uc:Nat) (jj:List Value),q=raw.length - i∧i≤raw.length∧cf=eM ((dR j).take i) ((bL G (aX j) 1).done.take i)∧env=bR ⟨cb,0,none⟩ ⟨b1,0,none⟩ pa n pc ua un uc qa n qc cf da raw.length dc raw.length i jj∧New u5 y∧VB u5 y ua un uc (eO ((aX j).take i) ((dR j).take i) ((bL G (aX j) 1).done.take i))∧LkD A w0 u y cb tb b1 r m0 j (bL G (aX j) 1)) raw.length
   ⟨0,false,none,0,0,_,rfl,by omega,rfl,rfl,Keep.refl _ _,VB.nil _ _,hD5⟩ ?_
  rintro q env y ⟨i,cf,ua,un,uc,jj,rfl,hi,hcf,rfl,hny,hub,hDy⟩
  rw [iO]
  have hul:=hub.len
  have hul2:=@sk ((aX j).take i) ((dR j).take i) ((bL G (aX j) 1).done.take i)
  have hul3:((aX j).take i).length≤n:=by rw [List.length_take];omega
  refine aH (λhlt=>?_) (λhge=>?_)
  ·have hlt':i<raw.length:=by omega
   obtain ⟨d,hd⟩:∃ d,raw[i]?=some d:=⟨_,List.getElem?_eq_getElem hlt'⟩
   have hraw:raw.length=(aX j).length:=hrl.resolve_left λe=>by rw [e] at hlt';simp at hlt'
   obtain ⟨x,hx⟩:∃ x,(bL G (aX j) 1).done[i]?=some x:=⟨_,List.getElem?_eq_getElem (by omega)⟩
   obtain ⟨y1,hy1⟩:∃ y1,(dR j)[i]?=some y1:=⟨_,List.getElem?_eq_getElem (by omega)⟩
   obtain ⟨v1,hv1⟩:∃ v1,(aX j)[i]?=some v1:=⟨_,List.getElem?_eq_getElem (by omega)⟩
   obtain ⟨r1,hr1⟩:∃ r1,vraw[i]?=some r1:=⟨_,List.getElem?_eq_getElem (by have:=hvv.1;omega)⟩
   have hda:=hds.2 i d x hd hx
   have hva:=hvv.2 i r1 v1 hr1 hv1
   have hv1w:=hvnw v1 (List.mem_of_getElem? hv1)
   have ec:eM ((dR j).take (i+1)) ((bL G (aX j) 1).done.take (i+1))=(eM ((dR j).take i) ((bL G (aX j) 1).done.take i) || decide (eA x≠y1)):=by
    rw [List.take_add_one,List.take_add_one,hy1,hx]
    exact vV (by rw [List.length_take,List.length_take];omega)
   have eu:eO ((aX j).take (i+1)) ((dR j).take (i+1)) ((bL G (aX j) 1).done.take (i+1))=eO ((aX j).take i) ((dR j).take i) ((bL G (aX j) 1).done.take i)++(if eA x=y1∧v1.kind=3 then [vT v1] else []):=by
    rw [List.take_add_one,List.take_add_one,List.take_add_one,hy1,hx,hv1]
    exact vU (by rw [List.length_take,List.length_take];omega) (by rw [List.length_take,List.length_take];omega)
   refine ez (cells:=aY.cells) aY.len (by omega) (hrd.new (hw05.new hny)) hd rfl rfl λb o hcc _=>aY.mk_ex d ⟨hcc,?_⟩
   refine gF (vs:=d.cells) rfl (aY.single _) λb3 z2 hb3 hz3 hn2=>?_
   rintro z3 hz3'
   have hn3:New z2 z3:=by rw [hz3'];exact aU _
   clear hz3'
   have hn53:=(hny.new hn2).new hn3
   refine ⟨λy=>New z3 y,Keep.refl _ _,aY.mk_ex d ⟨λy hy=>aI (New.blk (hn3.new hy) hz3) rfl,?_⟩⟩
   refine rd_u (hwrd.new hn53) hy1 rfl (by omega) λb4 o4 hc4=>⟨y1,λy hy=>hc4 y hy,?_⟩
   have hcall2:=DK (hda.keep (Keep.of_new (hw05.new hn53)) λ_ _ e=>e)
   refine aF hcall2 ?_
   rintro v z4 ⟨rfl,hn4⟩
   have hn54:=hn53.new hn4
   have hny4:=(hn2.new hn3).new hn4
   refine ⟨_,rfl,hn4,cU (λe=>?_) (λe=>?_)⟩
   ·rw [if_neg λh=>e h.1,List.append_nil] at eu
    rw [w64 (x:=(i:Int)+1) (by omega) (by omega)]
    exact ⟨raw.length - (i+1),by omega,i+1,true,ua,un,uc,_,rfl,by omega,by rw [ec];simp [e],rfl,hn54,by rw [eu];exact hub.new hny4,hDy.new hny4⟩
   ·have ec':cf=eM ((dR j).take (i+1)) ((bL G (aX j) 1).done.take (i+1)):=by rw [ec,hcf];simp [e]
    have hkd:r1.Kind=v1.kind:=by rw [hva.eq];rfl
    refine ez (cells:=aJ.cells) aJ.len (by omega) (hvrd.new hn54) hr1 rfl (by have:=hvv.1;omega) λb5 o5 hcc5 hq5=>⟨_,hq5 0 _ rfl,bK (λe3=>?_) (λe3=>?_)⟩
    ·rw [if_pos ⟨e,by rw [←hkd];exact e3⟩] at eu
     refine ez (cells:=aJ.cells) aJ.len (by omega) (hvrd.new hn54) hr1 rfl (by have:=hvv.1;omega) λb6 o6 hcc6 hq6=>aJ.mk_ex r1 ⟨hcc6,?_⟩
     refine gF (vs:=r1.cells) rfl (aJ.single _) λb7 z5 hb7 hz5' hn5=>?_
     rintro z6 hz6'
     have hn6:New z5 z6:=by rw [hz6'];exact aU _
     clear hz6'
     have hz6:=New.blk hn6 hz5'
     have hvo6:=Owns.new ((hn54.new hn5).new hn6) hvo
     have hb7o:∀ k,isB pa k→k≠b7:=λk hk=>by
      obtain ⟨cs,hcs⟩:=dU hvo hk
      have h1:=hcs.lt
      have h2:=hn54.size
      omega
     refine ⟨λy=>Owns y TV 9 pa n pc (eC vraw).flatten,hvo6,?_⟩
     refine Ar (S:=λy=>Owns y TV 9 pa n pc (eC vraw).flatten) (cells:=aJ.cells) aJ.len (by omega) (λy hy=>hy.rd) hvo6 hr1 rfl (by have:=hvv.1;omega) λb8 o8 hq8=>⟨r1.New,λy hy=>hq8 y hy 5 _ rfl,?_⟩
     refine Ar (S:=λy=>Owns y TV 9 pa n pc (eC vraw).flatten) (cells:=aJ.cells) aJ.len (by omega) (λy hy=>hy.rd) hvo6 hr1 rfl (by have:=hvv.1;omega) λb9 o9 hq9=>⟨r1.Old,λy hy=>hq9 y hy 4 _ rfl,?_⟩
     refine pS hz6 (i:=4) rfl λz7 hz7 hk7=>⟨hvo6.keep hk7 λk hk e=>hb7o k hk e,?_⟩
     refine pS hz7 (i:=5) rfl λz8 hz8 hk8=>?_
     have hs6:=hn6.size
     have hny8:New y z8:=(((hny4.new hn5).new hn6).trans hk7 λk hlt e=>by have:=hny4.size;omega).trans hk8 λk hlt e=>by have:=hny4.size;omega
     refine aJ.mk_ex { r1 with Old:=r1.New,New:=r1.Old } ⟨aI hz8 rfl,?_⟩
     rintro bA zA hbA hzA
     have hvx:bI (λk=>k<y.heap.size) z8 { r1 with Old:=r1.New,New:=r1.Old } (vT v1):=by
      refine ⟨?_,?_,λ_=>hv1w,.inl hv1w,λz hz=>?_,hva.old,hva.new,hva.key,hva.boot,hva.cap,hva.wlen⟩
      ·have e9:=hva.eq
       rw [e9]
       rfl
      ·rw [show (vT v1).words=[] from hv1w]
       exact .inl rfl
      ·rw [show (vT v1).words=[] from hv1w] at hz
       cases hz
     refine VB.push_e hub hny hny8 hvx (by omega) hbA hzA λap ac z9 h9 hk9 hn9=>?_
     rw [w64 (x:=(i:Int)+1) (by omega) (by omega)]
     refine ⟨raw.length - (i+1),by omega,i+1,cf,ap,un+1,ac,_,rfl,by omega,ec',rfl,hn9,by rw [eu];exact h9,(hDy.new hny8).keep' hk9 λk hk=>?_⟩
     have:=hub.fr k hk
     exact ⟨by omega,by omega,by omega,by omega,by omega⟩
    ·rw [if_neg λh=>e3 (by rw [hkd];exact h.2),List.append_nil] at eu
     rw [w64 (x:=(i:Int)+1) (by omega) (by omega)]
     exact ⟨raw.length - (i+1),by omega,i+1,cf,ua,un,uc,_,rfl,by omega,ec',rfl,hn54,by rw [eu];exact hub.new hny4,hDy.new hny4⟩
  ·have hie:i=(bL G (aX j) 1).done.length:=by omega
   rw [hie,List.take_length,tE] at hcf
   rw [hie,List.take_length,tF] at hub
   have h36:=@sk (aX j) (dR j) (bL G (aX j) 1).done
   refine D1 hok hDy hw05 hb1 (by omega) htb (by omega) hub (by omega) cf _ λv w' hv=>hQ v w' ?_
   rw [hcf] at hv
   exact hv
end Go.Proofs.YtgpmeaicjonenaaGreat
namespace Go.Proofs.YtgpmeaicjonenaaGreat
open Go.Eng
abbrev TSn:TypeId:=137
set_option maxRecDepth 20000 in
set_option maxHeartbeats 4000000 in
theorem E2 {A:Nat→Prop} {w0 u:World} {cb tb:Nat} {r:aL} {m0:aE} {j:CJob} (hco:fN w0 u cb tb r m0 j) {T:TkX} {G:List (List Done)} (hT:TkAt A w0 u tb T G) (hcl:ou T) :
  Does 187 [ptr cb] u (pT A w0 u tb u.heap.size (mF j G)):=by
 refine does Tryz.func187 ?_
 rw [ptr,l6]
 rintro b1 u1 hb1 hu1
 obtain ⟨hz1,hn1⟩:=aO hb1 hu1
 have hz1:Blk u1 b1 (aA.cells ⟨0,0⟩) TCO:=hz1
 clear hu1
 have hc1:=hco.new' hn1
 have hT1:=hT.new hn1
 have hlen:=hco.job.pg.len
 have hs1:=hn1.size
 have hl1:=hz1.lt
 have htl:=hT.blk.lt
 have hg:=hco.good
 have hgc:=hg.client
 have hgf:=hg.wfew
 have hgr:=hg.rfew
 have hjc:=hco.job.client
 have hm0:=hco.mem
 have hmb:=hg.boot m0 (List.mem_of_getElem? hm0)
 have hbt0:I64 m0.Boot:=by unfold I64;omega
 have hw0u:=hc1.new.size
 have em0:m0Of j=m0:=by
  unfold m0Of
  cases hmm:j.v.mem with
  |nil=>rw [hmm] at hm0;cases hm0
  |cons x xs=>rw [hmm] at hm0;simp at hm0;subst hm0;rfl
 refine ⟨_,_,_,hc1.blk.cell (i:=6) rfl,?_⟩
 refine aT mix (λq env z=>∃ (i:Nat) (pa:Option Addr) (pc:Nat) (qa:Option Addr) (qc:Nat) (jj:List Value),q=j.writes.length - i∧i≤j.writes.length∧env=dB ⟨cb,0,none⟩ ⟨b1,0,none⟩ pa i pc none 0 0 qa i qc r.Writes r.Writes_l r.Writes_c r.Writes_l i jj∧LkI w0 u1 cb tb r m0 j z pa i pc qa qc ((j.writes.take i).map (casV j)) ((j.writes.take i).map (·.Head))) j.writes.length
  ⟨0,none,0,none,0,_,rfl,by omega,rfl,⟨hc1,Keep.refl _ _,VB.nil _ _,(λx hx=>by simp at hx),Owns.nil _ _ _,(λk hk=>absurd hk noB),rfl⟩⟩ ?_
 rintro q env z ⟨i,pa,pc,qa,qc,jj,rfl,hi,rfl,hI⟩
 rw [iM,hlen]
 refine aH (λhlt=>?_) (λhge=>?_)
 ·obtain ⟨p,hp⟩:∃ p,j.writes[i]?=some p:=⟨_,List.getElem?_eq_getElem (by omega)⟩
  have hpm:=List.mem_of_getElem? hp
  have hpl:=hg.wl p hpm
  have hph:=hg.wh p hpm
  have hpu:=hco.job.pg.u64 p hpm
  refine ez (cells:=aG.cells) aG.len (by omega) (hco.job.pg.rd.new hI.com.new) hp rfl rfl λb o hcc _=>aG.mk_ex p ⟨hcc,?_⟩
  refine gF (vs:=p.cells) rfl (aG.single _) λb3 z2 hb3 hz3 hn2=>?_
  rintro z3 hz3'
  have hn3:New z2 z3:=by rw [hz3'];exact aU _
  clear hz3'
  have hn23:=hn2.new hn3
  refine ⟨λy=>Blk y b3 p.cells TPg∧fN w0 y cb tb r m0 j,⟨New.blk hn3 hz3,hI.com.new' hn23⟩,aG.mk_ex p ⟨λy hy=>aI hy.1 rfl,_,λy hy=>hy.2.blk.cell (i:=0) rfl,?_⟩⟩
  refine aF (B7 z3 p hph.1 (by omega)) ?_
  rintro v z4 ⟨rfl,hn4⟩
  refine ⟨_,_,rfl,?_⟩
  rintro z5 hz5'
  have hn5:New z4 z5:=by rw [hz5'];exact aU _
  clear hz5'
  have hn25:=(hn23.new hn4).new hn5
  have hb35:=New.blk ((hn3.new hn4).new hn5) hz3
  have hcm5:=hI.com.new' hn25
  refine ⟨λy=>Blk y b3 p.cells TPg∧fN w0 y cb tb r m0 j,⟨hb35,hcm5⟩,aE.mk_ex m0 ⟨λy hy=>aI hy.2.blk rfl,_,λy hy=>hy.1.cell (i:=0) rfl,_,λy hy=>hy.1.cell (i:=1) rfl,?_⟩⟩
  refine aF (vA z5 hpl.1 hpl.2) ?_
  rintro v z6 ⟨rfl,rfl⟩
  refine ⟨_,rfl,⟨hb35,hcm5⟩,?_⟩
  rw [hjc]
  have hva:bI (λ_=>False) z6 ⟨3,0,p.Line * 8,0,p.Head,eT p.Head j.client,none,0,0,0,0⟩ ⟨3,0,p.Line * 8,0,p.Head,eT p.Head j.client,[],0,0⟩:=qD (.inl rfl) rfl (by omega) (λ_=>rfl) (λx hx=>by cases hx) (by simp) hpu (DN _ _)
  have hcall:=l4 hcm5 hbt0 hva
  refine aF hcall ?_
  rintro v z7 ⟨v',rfl,hv',hn7⟩
  refine aJ.mk_ex v' ⟨rfl,⟨New.blk hn7 hb35,hcm5.new' hn7⟩,?_⟩
  rintro b5 z8 hb5 hz8
  have hI6:=hI.new' hn25
  have ecas:addr j.v.number m0 ⟨3,0,p.Line * 8,0,p.Head,eT p.Head j.client,[],0,0⟩=casV j p:=by unfold casV;rw [em0]
  rw [ecas] at hv'
  refine hI6.push hn7 hv' rfl (by omega) (by omega) (New.blk hn7 hb35) (by decide) (by decide) (y:=p.Head) (S:=λy=>Blk y b3 p.cells TPg∧fN w0 y cb tb r m0 j) (λz' h1 h2=>⟨h1,h2⟩) hb5 hz8 (rd:=λz' y=>z'.cell? ⟨b3,1,none⟩=some (.int .u64 y)) (λz' h=>h.cell (i:=1) rfl) λap ac y3 b6 y4 bp bc z' hI'=>?_
  rw [w64 (x:=(i:Int)+1) (by omega) (by omega)]
  have e1:(j.writes.take i).map (casV j)++[casV j p]=(j.writes.take (i+1)).map (casV j):=by rw [List.take_add_one,hp];simp
  have e2:(j.writes.take i).map (·.Head)++[p.Head]=(j.writes.take (i+1)).map (·.Head):=by rw [List.take_add_one,hp];simp
  rw [e1,e2] at hI'
  exact ⟨j.writes.length - (i+1),by omega,i+1,ap,ac,bp,bc,_,rfl,by omega,by rw [←hlen];rfl,hI'⟩
 ·have hie:i=j.writes.length:=by omega
  subst hie
  simp only [List.take_length] at hI
  rw [j5]
  have hrl:=hco.job.len
  refine ⟨_,_,_,hI.com.blk.cell (i:=5) rfl,?_⟩
  refine aT mix (λq env z=>∃ (i:Nat) (pa:Option Addr) (pc:Nat) (qa:Option Addr) (qc:Nat) (jj:List Value),q=j.reads.length - i∧i≤j.reads.length∧env=dC ⟨cb,0,none⟩ ⟨b1,0,none⟩ pa (j.writes.length+i) pc none 0 0 qa (j.writes.length+i) qc r.Reads r.Reads_l r.Reads_c r.Reads_l i jj∧LkI w0 u1 cb tb r m0 j z pa (j.writes.length+i) pc qa qc (j.writes.map (casV j)++(j.reads.take i).map (sY j)) (j.writes.map (·.Head)++(j.reads.take i).map (·.Head))) j.reads.length
   ⟨0,pa,pc,qa,qc,_,rfl,by omega,rfl,by rw [List.take_zero,List.map_nil,List.map_nil,List.append_nil,List.append_nil];exact hI⟩ ?_
  rintro q env z ⟨i,pa,pc,qa,qc,jj,rfl,hi,rfl,hI⟩
  rw [iN,hrl]
  refine aH (λhlt=>?_) (λhge=>?_)
  ·obtain ⟨p,hp⟩:∃ p,j.reads[i]?=some p:=⟨_,List.getElem?_eq_getElem (by omega)⟩
   have hpm:=List.mem_of_getElem? hp
   have hpl:=hg.rl p hpm
   refine ez (cells:=aV.cells) aV.len (by omega) (hco.job.rd.new hI.com.new) hp rfl rfl λb o hcc _=>aV.mk_ex p ⟨hcc,?_⟩
   refine gF (vs:=p.cells) rfl (aV.single _) λb3 z2 hb3 hz3 hn2=>?_
   rintro z3 hz3'
   have hn3:New z2 z3:=by rw [hz3'];exact aU _
   clear hz3'
   have hn23:=hn2.new hn3
   have hb33:=New.blk hn3 hz3
   have hcm3:=hI.com.new' hn23
   refine ⟨λy=>Blk y b3 p.cells TSn∧fN w0 y cb tb r m0 j,⟨hb33,hcm3⟩,aE.mk_ex m0 ⟨λy hy=>aI hy.2.blk rfl,_,λy hy=>hy.1.cell (i:=0) rfl,?_⟩⟩
   refine aF (vA z3 hpl.1 hpl.2) ?_
   rintro v z6 ⟨rfl,rfl⟩
   refine ⟨_,rfl,⟨hb33,hcm3⟩,?_⟩
   have hva:bI (λ_=>False) z6 ⟨1,0,p.Line * 8,1,0,0,none,0,0,0,0⟩ ⟨1,0,p.Line * 8,1,0,0,[],0,0⟩:=qD (.inl rfl) rfl (by omega) (λ_=>rfl) (λx hx=>by cases hx) (by simp) u0 u0
   have hcall:=l4 hcm3 hbt0 hva
   refine aF hcall ?_
   rintro v z7 ⟨v',rfl,hv',hn7⟩
   refine aJ.mk_ex v' ⟨rfl,⟨New.blk hn7 hb33,hcm3.new' hn7⟩,?_⟩
   rintro b5 z8 hb5 hz8
   have hI6:=hI.new' hn23
   have ecas:addr j.v.number m0 ⟨1,0,p.Line * 8,1,0,0,[],0,0⟩=sY j p:=by unfold sY;rw [em0]
   rw [ecas] at hv'
   refine hI6.push hn7 hv' rfl (by omega) (by omega) (New.blk hn7 hb33) (by decide) (by decide) (y:=p.Head) (S:=λy=>Blk y b3 p.cells TSn∧fN w0 y cb tb r m0 j) (λz' h1 h2=>⟨h1,h2⟩) hb5 hz8 (rd:=λz' y=>z'.cell? ⟨b3,1,none⟩=some (.int .u64 y)) (λz' h=>h.cell (i:=1) rfl) λap ac y3 b6 y4 bp bc z' hI'=>?_
   rw [w64 (x:=(i:Int)+1) (by omega) (by omega)]
   have e1:j.writes.map (casV j)++(j.reads.take i).map (sY j)++[sY j p]=j.writes.map (casV j)++(j.reads.take (i+1)).map (sY j):=by rw [List.take_add_one,hp];simp
   have e2:j.writes.map (·.Head)++(j.reads.take i).map (·.Head)++[p.Head]=j.writes.map (·.Head)++(j.reads.take (i+1)).map (·.Head):=by rw [List.take_add_one,hp];simp
   rw [e1,e2] at hI'
   exact ⟨j.reads.length - (i+1),by omega,i+1,ap,ac,bp,bc,_,rfl,by omega,by rw [←hrl];rfl,hI'⟩
  ·have hie:i=j.reads.length:=by omega
   subst hie
   simp only [List.take_length] at hI
   have hn1z:=hI.new
   refine D2 hI hn1 hco.new (hT1.new hn1z) hcl (New.blk hn1z hz1) (by omega) hl1 htl hco.blk.lt _ λv w' hv=>hv
end Go.Proofs.YtgpmeaicjonenaaGreat
namespace Go.Proofs.YtgpmeaicjonenaaGreat
open Go.Proofs.Tryz
open Go.Eng IntKind
variable (w:World) (R:Value→World→Prop)
theorem sZ (p0:aL) (p1:Option Addr) (a b:Nat):fnW prog f100 [p0.val,(.slice p1 a b)] R w=(∀ b1 w1,b1=w.heap.size→w1=w.alloc (.cells p0.cells.toArray 39)→∀ b2 w2,b2=w1.heap.size→w2=w1.alloc (.cells #[(.int .i64 0),(.int .i64 0)] 188)→aL.ex λr=>aC w2 ⟨b1,0,none⟩ 0 r.cells∧Calls prog 134 #[r.val] w2 λe w3=>∃ (c:Int),e=.returned (.int .i64 c)∧(bif ((c:Int) != 0) then (wrAt w3 ⟨b2,0,none⟩ 0 [(.int .i64 c),(.int .i64 0)]∧∀ w4,w4=puts w3 ⟨b2,0,none⟩ 0 [(.int .i64 c),(.int .i64 0)]→aA.ex λm=>aC w4 ⟨b2,0,none⟩ 0 m.cells∧w4=w4∧R (.tuple #[(.slice none 0 0),m.val,(.bool true)]) w4) else (∀ w5,w5=w3.drew→∃ Sx:World→Prop,Sx w5∧aL.ex λr1=>(∀ u,Sx u→aC u ⟨b1,0,none⟩ 0 r1.cells)∧Calls prog 125 #[(.slice p1 a b)] w5 λe w6=>∃ (d:Option Addr),e=.returned (.pointer d)∧Sx w6∧∀ b3 w7,b3=w6.heap.size→w7=w6.alloc (.cells #[(.int .i64 r1.Client),(.int .i64 r1.Seq),(.int .i64 r1.Lines),(.int .i64 r1.View.Number),(.slice r1.View.Members r1.View.Members_l r1.View.Members_c),(.slice r1.Reads r1.Reads_l r1.Reads_c),(.slice r1.Writes r1.Writes_l r1.Writes_c),(.pointer d),(.int .i64 0),(.int .i64 0),(.bool false)] 237)→Sx w7∧aM.ex λn=>aC w7 ⟨b1,3,none⟩ 0 n.cells∧Calls prog 135 #[n.val] w7 λe w8=>aE.ex λo=>∃ (f:Bool),e=.returned (.tuple #[o.val,(.bool f)])∧wrAt w8 ⟨b3,8,none⟩ 0 o.cells∧∀ w9,w9=puts w8 ⟨b3,8,none⟩ 0 o.cells→Calls prog 136 #[(.pointer (some ⟨b3,0,none⟩))] w9 λe p=>aA.ex λq=>e=.returned q.val∧wrAt p ⟨b2,0,none⟩ 0 q.cells∧∀ s,s=puts p ⟨b2,0,none⟩ 0 q.cells→∃ (t:Option Addr),s.cell? ⟨b3,7,none⟩=some (.pointer t)∧Calls prog 128 #[(.pointer t)] s λe v=>∃ (g:Option Addr) (h i:Nat) (k:Bool),e=.returned (.tuple #[(.slice g h i),(.bool k)])∧(bif k then (wrAt v ⟨b2,0,none⟩ 0 [(.int .i64 0),(.int .i64 0)]∧∀ x,x=puts v ⟨b2,0,none⟩ 0 [(.int .i64 0),(.int .i64 0)]→aA.ex λy=>aC x ⟨b2,0,none⟩ 0 y.cells∧x=x∧R (.tuple #[(.slice g h i),y.val,(.bool false)]) x) else (∃ (t1:Option Addr),v.cell? ⟨b3,7,none⟩=some (.pointer t1)∧Calls prog 129 #[(.pointer t1)] v λe z=>∃ (l:Bool),e=.returned (.bool l)∧(bif l then (wrAt z ⟨b2,0,none⟩ 0 [(.int .i64 6),(.int .i64 0)]∧∀ aa,aa=puts z ⟨b2,0,none⟩ 0 [(.int .i64 6),(.int .i64 0)]→∀ ab,ab=aa.drew→∃ Sx1:World→Prop,Sx1 ab∧aA.ex λr2=>(∀ u,Sx1 u→aC u ⟨b2,0,none⟩ 0 r2.cells)∧wrAt ab ⟨b2,0,none⟩ 0 r2.cells∧∀ ac,ac=puts ab ⟨b2,0,none⟩ 0 r2.cells→aA.ex λad=>aC ac ⟨b2,0,none⟩ 0 ad.cells∧ac=ac∧R (.tuple #[(.slice none 0 0),ad.val,(.bool true)]) ac) else (∀ ae,ae=z.drew→∃ Sx2:World→Prop,Sx2 ae∧aA.ex λr3=>(∀ u,Sx2 u→aC u ⟨b2,0,none⟩ 0 r3.cells)∧wrAt ae ⟨b2,0,none⟩ 0 r3.cells∧∀ af,af=puts ae ⟨b2,0,none⟩ 0 r3.cells→aA.ex λag=>aC af ⟨b2,0,none⟩ 0 ag.cells∧af=af∧R (.tuple #[(.slice none 0 0),ag.val,(.bool true)]) af))))))):=by kernel_rfl
def dN (s2:Addr) (a:Option Addr) (b c:Nat) (d f:Int) (j:LV):LV:=jq j 0 2 (.pointer (some s2)::jq j 2 14 (.slice a b c::.int .i64 d::.int .i64 f::jq j 16 13 []))
def gO (a:Addr) (j:LV):LV:=jq j 0 2 (.pointer (some a)::jq j 2 30 [])
theorem mj (p0:Nat):fnW prog f136 [.pointer (some ⟨p0,0,none⟩)] R w=(∀ b1 w1,b1=w.heap.size→w1=w.alloc (.cells #[.int .i64 0,.int .i64 0] 188)→∀ b2 w2,b2=w1.heap.size→w2=w1.alloc (.cells #[.func (.func 186) #[.pointer (some ⟨p0,0,none⟩)] #[],.func (.func 187) #[.pointer (some ⟨p0,0,none⟩)] #[],.func (.func 188) #[.pointer (some ⟨p0,0,none⟩)] #[],.func (.func 189) #[.pointer (some ⟨p0,0,none⟩)] #[],.func (.func 190) #[.pointer (some ⟨p0,0,none⟩)] #[]] 308)→cQ prog (.loop (sub (aD f136) [1,0,1,0,0])) (dN ⟨b1,0,none⟩ (some ⟨b2,0,none⟩) 5 5 5 0 (jp ⟨p0,0,none⟩::uq 5 (jp ⟨p0,0,none⟩::.func (.func 186) #[.pointer (some ⟨p0,0,none⟩)] #[]::jp ⟨p0,0,none⟩::.func (.func 187) #[.pointer (some ⟨p0,0,none⟩)] #[]::jp ⟨p0,0,none⟩::.func (.func 188) #[.pointer (some ⟨p0,0,none⟩)] #[]::jp ⟨p0,0,none⟩::.func (.func 189) #[.pointer (some ⟨p0,0,none⟩)] #[]::jp ⟨p0,0,none⟩::.func (.func 190) #[.pointer (some ⟨p0,0,none⟩)] #[]::uq 13 []))) (aK 0 (nx f136 [1,1] R)) w2):=by kernel_rfl
theorem jm (s2:Addr) (a:Option Addr) (b c:Nat) (d f:Int) (j:LV) (N1:LV→World→Prop):W prog (sub (aD f136) [1,0,1,0,0]) (dN s2 a b c d f j) (seqQ N1 (aK 0 (nx f136 [1,1] R))) w=((bif (decide ((f:Int)<d)) then (idxS a b f 1 λad=>∃ x,w.cell? ad=some x∧nU prog x #[] w λe w1=>aA.ex λh=>∃ g,e=.returned (.tuple #[h.val,.bool g])∧∀ b1 w2,b1=w1.heap.size→w2=w1.alloc (.cells #[.int .i64 0,.int .i64 0] 188)→wrAt w2 ⟨b1,0,none⟩ 0 h.cells∧∀ w3,w3=puts w2 ⟨b1,0,none⟩ 0 h.cells→(bif (!g) then (aA.ex λr=>aC w3 ⟨b1,0,none⟩ 0 r.cells∧wrAt w3 s2 0 r.cells∧∀ w4,w4=puts w3 s2 0 r.cells→aA.ex λi=>aC w4 s2 0 i.cells∧w4=w4∧R i.val w4) else (N1 (dN s2 a b c d (i64.wrap (f+1)) (jg j 0::jg j 1::jg j 2::x::jp ⟨b1,0,none⟩::jb g::jq j 6 10 [jb (decide ((f:Int)<d)),jp ad,x,.tuple #[h.val,.bool g],x,.tuple #[h.val,.bool g],h.val,jb g,jb g,jb (!g),jg j 26,ji (i64.wrap (f+1)),jg j 28])) w3))) else (W prog (sub (aD f136) [1,1]) (gO s2 (jq j 0 16 (js a b c::ji d::ji f::jb (decide ((f:Int)<d))::jq j 17 12 []))) (retQ prog f136 R) w))):=by kernel_rfl
theorem ki (a:Addr) (j:LV):W prog (sub (aD f136) [1,1]) (gO a j) (retQ prog f136 R) w=(wrAt w a 0 [.int .i64 0,.int .i64 3]∧∀ w1,w1=puts w a 0 [.int .i64 0,.int .i64 3]→aA.ex λb=>aC w1 a 0 b.cells∧w1=w1∧R b.val w1):=by kernel_rfl
end Go.Proofs.YtgpmeaicjonenaaGreat
