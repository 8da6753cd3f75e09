import Derived.Test.YtegepanmkjemjaaGreatw21
set_option linter.unusedVariables false
namespace Go.Proofs.YtegepanmkjemjaaGreat
open Go.Eng
def oB:List Done→Int
 | []=>0
 |d::ds=>if d.code=0 then oB ds else d.code
theorem xX {ds:List Done} {i:Nat} {x:Done} (h:ds[i]?=some x):oB (ds.drop i)=if x.code=0 then oB (ds.drop (i+1)) else x.code:=by
 have hl:=aO h
 rw [List.drop_eq_getElem_cons hl]
 rw [List.getElem?_eq_getElem hl] at h
 cases h
 rfl
theorem C1 {A:Nat→Prop} {w0 w:World} (hw:New w0 w) {a:Option Addr} {n c:Nat} {raw:List bF} {ds:List Done} (hn:n=raw.length) (hr:Rd w0 a (kA raw).flatten) (hd:Ds A w0 raw ds) (hfew:raw.length≤1000000):Does 203 [.slice a n c] w λx w'=>x=.int .i64 (oB ds)∧New w w':=by
 subst hn
 refine does Tryz.func203 ?_
 rw [vf]
 have hdl:=hd.1
 refine aQ mix (λm env u=>∃ (i:Nat) (jj:List Value),m=raw.length - i∧i≤raw.length∧env=iE a raw.length c raw.length i jj∧New w u∧oB ds=oB (ds.drop i)) raw.length
  ⟨0,_,by omega,by omega,rfl,Keep.refl _ _,rfl⟩ ?_
 rintro m env u ⟨i,jj,rfl,hi,rfl,hnu,hf⟩
 rw [nZ]
 refine aJ (λhq=>?_) (λhq=>?_)
 ·have hlt:i<raw.length:=by omega
  have hg:raw[i]?=some raw[i]:=List.getElem?_eq_getElem hlt
  obtain ⟨x,hgd⟩:∃ x,ds[i]?=some x:=⟨_,List.getElem?_eq_getElem (by omega)⟩
  have hda:=hd.2 i _ _ hg hgd
  generalize raw[i]=d at hg hda
  have hcode:=hda.code
  rw [xX hgd] at hf
  refine fR (cells:=bF.cells) bF.len (by omega) (hr.new (hw.new hnu)) hg rfl rfl λb o hcc _=>bF.mk_ex d ⟨hcc,?_⟩
  refine gX (vs:=d.cells) rfl (bF.single _) λb1 w2 hb1 hz2 hn2=>⟨_,hz2.cell (i:=0) rfl,cR (λe=>⟨_,hz2.cell (i:=0) rfl,?_,hnu.new hn2⟩) (λe=>?_)⟩
  ·rw [hf,if_neg (by omega),hcode]
  ·rw [w64 (x:=(i:Int)+1) (by omega) (by omega)]
   exact ⟨raw.length - (i+1),by omega,i+1,_,rfl,by omega,rfl,hnu.new hn2,by rw [hf,if_pos (by omega)]⟩
 ·rw [qv]
  refine ⟨?_,hnu⟩
  rw [hf,List.drop_of_length_le (by omega)]
  rfl
structure SR where
 ok:Bool
 done:List Done
 out:Int×Int
 got:List (List Done)
 ask:Option (List Verb)
 wrong:Bool
def bL (G:List (List Done)) (vs:List Verb) (fate:Int):SR:=
 if (batch G vs).ok=false then ⟨false,[],(0,0),(batch G vs).got,(batch G vs).ask,(batch G vs).wrong⟩
 else if oB (batch G vs).done≠0 then ⟨false,[],(oB (batch G vs).done,fate),(batch G vs).got,none,false⟩
 else ⟨true,(batch G vs).done,(0,0),(batch G vs).got,none,false⟩
structure TkAt (A:Nat→Prop) (w0 u:World) (tb:Nat) (T:TkX) (G:List (List Done)):Prop where
 blk:Blk u tb T.cells TTk
 got:mS A w0 T.ga G
 gl:T.gl=G.length
 gc:T.gl≤T.gc
theorem TkAt.new {A:Nat→Prop} {w0 u u':World} {tb:Nat} {T:TkX} {G:List (List Done)} (h:TkAt A w0 u tb T G) (hn:New u u'):TkAt A w0 u' tb T G:=⟨New.blk hn h.blk,h.got,h.gl,h.gc⟩
theorem TkAt.keep {A:Nat→Prop} {w0 u u':World} {tb:Nat} {T:TkX} {G:List (List Done)} (h:TkAt A w0 u tb T G) {M:Nat→Prop} (hk:Keep M u u') (hM:¬ M tb):TkAt A w0 u' tb T G:=⟨hk.blk h.blk hM,h.got,h.gl,h.gc⟩
structure jy (A:Nat→Prop) (w0 u:World) (tb B:Nat) (R:SR) (u':World):Prop where
 keep:Keep (λk=>k=tb) u u'
 tk:∃ T':TkX,TkAt A w0 u' tb T' R.got∧T'.wrong=R.wrong∧(match R.ask with
  |none=>T'.al=0
  |some vs=>0<vs.length∧∃ w1,New w0 w1∧B≤w1.heap.size∧VB w1 u' T'.aa T'.al T'.ac vs)
structure pf (T:TkX):Prop where
 al:T.al=0
 wrong:T.wrong=false
theorem jy.new {A:Nat→Prop} {w0 u u' u'':World} {tb B:Nat} {R:SR} (h:jy A w0 u tb B R u') (hn:New u' u''):jy A w0 u tb B R u'':=by
 obtain ⟨hk,T',ht,hw,ha⟩:=h
 refine ⟨hk.new hn,T',ht.new hn,hw,?_⟩
 cases hR:R.ask with
 |none=>rw [hR] at ha;exact ha
 |some vs=>
  rw [hR] at ha
  obtain ⟨h0,w1,h1,h2,h3⟩:=ha
  exact ⟨h0,w1,h1,h2,h3.new hn⟩
theorem co_k {u:World} {b:Nat} {zs:List Value} (hz:Blk u b zs TCO) (hl:zs.length=2) (c f:Int) {K:aA→World→Prop} (hk:∀ u4,Keep (λk=>k=b) u u4→K ⟨c,f⟩ u4) :
  wrAt u ⟨b,0,none⟩ 0 [(.int .i64 c),(.int .i64 f)]∧∀ w2,w2=puts u ⟨b,0,none⟩ 0 [(.int .i64 c),(.int .i64 f)]→aA.ex λres=>aG w2 ⟨b,0,none⟩ 0 res.cells∧w2=w2∧K res w2:=
 gJ hz (vs:=aA.cells ⟨c,f⟩) (by rw [hl];rfl) (aA.single _) λw2 hz2 hk2=>aA.mk_ex ⟨c,f⟩ ⟨aK hz2 rfl,rfl,hk w2 hk2⟩
theorem EP {G:List (List Done)} {vs ws:List Verb} (h:(batch G vs).ask=some ws):0<vs.length:=by
 unfold batch at h
 split at h
 ·cases h
 ·omega
set_option maxHeartbeats 1000000 in
theorem uy {A:Nat→Prop} {w0 u:World} {cb tb:Nat} {r:aH} {m:aF} {j:CJob} (hc:fZ w0 u cb tb r m j) {T:TkX} {G:List (List Done)} (hT:TkAt A w0 u tb T G) (hcl:pf T) {w1:World} (hw1:New w0 w1) (htb:tb<w1.heap.size) {a:Option Addr} {n cap:Nat} {vs:List Verb} (hv:VB w1 u a n cap vs) (hfew:vs.length≤100000) (fate:Int) :
  Does 184 [ptr cb,.slice a n cap,.int .i64 fate] u λv u'=>∃ (da:Option Addr) (dc:Nat) (raw:List bF),v=.tuple #[.slice da raw.length dc,aA.val ⟨(bL G vs fate).out.1,(bL G vs fate).out.2⟩,.bool (bL G vs fate).ok]∧
   jy A w0 u tb w1.heap.size (bL G vs fate) u'∧Rd w0 da (kA raw).flatten∧Ds A w0 raw (bL G vs fate).done∧(raw=[]∨raw.length=vs.length):=by
 refine does Tryz.func184 ?_
 rw [ptr,mr]
 rintro b1 u1 hb1 hu1
 obtain ⟨hz1,hn1⟩:=aN hb1 hu1
 have hz1:Blk u1 b1 (aA.cells ⟨0,0⟩) TCO:=hz1
 clear hu1
 have hc1:=hc.new' hn1
 have hT1:=hT.new hn1
 have hv1:=hv.new hn1
 obtain ⟨raws,hown,hvs⟩:=hv1.ex
 have hvl:=hvs.1
 have hnl:=hv1.len
 have hs1:=hn1.size
 have htl:=hT.blk.lt
 have hbn:b1≠tb:=by omega
 refine ⟨_,hc1.blk.cell (i:=7) rfl,?_⟩
 have hnr:n=raws.length:=by omega
 rw [hnr] at hown
 have hB:=EG (A:=A) hc1.new hc.tbl hT1.blk hT1.got hT1.gl hT1.gc (aa:=a) (ac:=cap) hown.rd hvs (by omega)
 rw [←hnr] at hB
 refine aE hB ?_
 rintro v u2 ⟨T',da,dc,raw,rfl,hb2,hk2,hrd,hds,hgot,hgl,hgc,hwr,hask⟩
 rw [hcl.wrong,Bool.false_or] at hwr
 have hz2:Blk u2 b1 (aA.cells ⟨0,0⟩) TCO:=hk2.blk hz1 hbn
 have hv2:VB w1 u2 a n cap vs:=hv1.keep hk2 λk e=>by omega
 have hk02:Keep (λk=>k=tb) u u2:=(Keep.of_new hn1).trans hk2 λ_ _ e=>e
 have hblen:(batch G vs).done.length=raw.length:=hds.1.symm
 refine ⟨_,_,_,_,rfl,?_⟩
 have fin:∀ {u3 u4:World},New u2 u3→Keep (λk=>k=b1) u3 u4→∀ {R:SR},R.got=(batch G vs).got→R.wrong=(batch G vs).wrong→R.ask=(batch G vs).ask→jy A w0 u tb w1.heap.size R u4:=by
  intro u3 u4 hn3 hk4 R h1 h2 h3
  have hk24:Keep (λk=>k=b1) u2 u4:=(Keep.of_new hn3).trans hk4 λ_ _ e=>e
  have hk04:Keep (λk=>k=tb) u u4:=hk02.trans hk24 λk hlt e=>by omega
  refine ⟨hk04,T',?_,by rw [hwr,h2],?_⟩
  ·rw [h1]
   exact ⟨hk24.blk hb2 (by omega),hgot,hgl,hgc⟩
  ·rw [h3]
   cases hq:(batch G vs).ask with
   |none=>rw [hq] at hask;obtain ⟨_,h5,_⟩:=hask;show T'.al=0;rw [h5];exact hcl.al
   |some ws=>
    rw [hq] at hask
    obtain ⟨h4,h5,h6⟩:=hask
    have:=Ba hq
    subst this
    refine ⟨EP hq,w1,hw1,Nat.le_refl _,?_⟩
    rw [h4,h5,h6,←hnl]
    exact hv.keep hk04 λk e=>e▸htb
 unfold bL
 have hdl:=@qL G vs
 refine dN (λhok=>?_) (λhok=>?_)
 ·rw [if_pos hok]
  exact co_k hz2 rfl 0 0 λu4 hk4=>⟨none,0,[],rfl,fin (Keep.refl _ _) hk4 rfl rfl rfl,.inl rfl,⟨rfl,λi v x hv=>by simp at hv⟩,.inl rfl⟩
 ·rw [if_neg (by rw [hok];simp)]
  obtain ⟨hq1,hq2⟩:=CU hok
  have hn02:New w0 u2:=hc1.new.trans hk2 λk hlt e=>by have:=hc.tbl;omega
  refine aE (C1 hn02 rfl hrd hds (by omega)) ?_
  rintro v u3 ⟨rfl,hn3⟩
  refine ⟨_,rfl,cR (λe=>?_) (λe=>?_)⟩
  ·rw [if_pos e]
   exact co_k (New.blk hn3 hz2) rfl _ _ λu4 hk4=>⟨none,0,[],rfl,fin hn3 hk4 rfl hq2.symm hq1.symm,.inl rfl,⟨rfl,λi v x hv=>by simp at hv⟩,.inl rfl⟩
  ·rw [if_neg (by simpa using e)]
   refine co_k (New.blk hn3 hz2) rfl 0 0 λu4 hk4=>⟨da,dc,raw,rfl,fin hn3 hk4 rfl hq2.symm hq1.symm,hrd,hds,?_⟩
   by_cases hv0:vs.length=0
   ·exact .inl (List.eq_nil_of_length_eq_zero (by omega))
   ·right
    unfold batch at hok hblen
    rw [if_neg hv0] at hok hblen
    cases G with
    |nil=>cases hok
    |cons d G'=>
     simp only at hok hblen
     split at hok
     ·rename_i hf
      rw [if_pos hf] at hblen
      have:=yw hf
      simp only at hblen
      omega
     ·cases hok
theorem GX {w0 w:World} {cb tb:Nat} {r:aH} {m0:aF} {j:CJob} (h:fZ w0 w cb tb r m0 j) {M:Nat→Prop} {v:aL} {x:Verb} (hv:bJ M w v x) :
  Does 198 [ptr cb,v.val] w λy w'=>∃ (a:Option Addr) (cap:Nat),y=.slice a j.v.mem.length cap∧VB w w' a j.v.mem.length cap (j.v.mem.map λm=>addr j.v.number m x)∧New w w':=by
 refine does Tryz.func198 ?_
 rw [ptr,mT]
 rintro b1 w1 hb1 hw1
 obtain ⟨hz1,hn1⟩:=aN hb1 hw1
 have hz1:Blk w1 b1 v.cells TV:=hz1
 clear hw1
 have h1:=h.new' hn1
 obtain ⟨MV,hview⟩:=h.job.view
 have hlen:=hview.len
 have hgm:=h.good.mem
 have hs1:=hn1.size
 have hl1:=hz1.lt
 refine ⟨_,_,_,h1.blk.cell (i:=4) rfl,?_⟩
 refine aQ mix (λq env u=>∃ (i:Nat) (pa:Option Addr) (pc:Nat) (jj:List Value),q=j.v.mem.length - i∧i≤j.v.mem.length∧env=dJ ⟨cb,0,none⟩ ⟨b1,0,none⟩ pa i pc r.View.Members r.View.Members_l r.View.Members_c r.View.Members_l i jj∧New w1 u∧VB w1 u pa i pc ((j.v.mem.take i).map λm=>addr j.v.number m x)∧Blk u b1 v.cells TV∧fZ w0 u cb tb r m0 j) j.v.mem.length
  ⟨0,none,0,_,rfl,by omega,rfl,Keep.refl _ _,VB.nil _ _,hz1,h1⟩ ?_
 rintro q env u ⟨i,pa,pc,jj,rfl,hi,rfl,hnu,hvb,hz1,hcu⟩
 rw [jx,hlen]
 have hnwu:New w0 u:=h1.new.new hnu
 refine aJ (λhlt=>?_) (λhge=>?_)
 ·obtain ⟨m,hm⟩:∃ m,j.v.mem[i]?=some m:=⟨_,List.getElem?_eq_getElem (by omega)⟩
  have hmb:=h.good.boot m (List.mem_of_getElem? hm)
  refine fR (cells:=aF.cells) aF.len (by omega) (hview.rd.new hnwu) hm rfl rfl λb o hcc _=>aF.mk_ex m ⟨hcc,?_⟩
  refine gX (vs:=m.cells) rfl (aF.single _) λb3 u2 hb3 hz3 hn2=>?_
  refine aF.mk_ex m ⟨aK hz3 rfl,aL.mk_ex v ⟨aK (New.blk hn2 hz1) rfl,?_⟩⟩
  have hva:bJ M u2 v x:=hv.keep (Keep.of_new ((hn1.new hnu).new hn2)) λ_ _ e=>e
  have hcall:=mw (hcu.new' hn2) (m:=m) (by unfold I64;omega) hva
  refine aE hcall ?_
  rintro y u3 ⟨v',rfl,hv',hn3⟩
  refine aL.mk_ex v' ⟨rfl,?_⟩
  rintro b5 u7 hb5 hw7
  have hs2:=hn2.size
  refine VB.push_e (hvb.new hn2) (hnu.new hn2) hn3 hv' (by omega) hb5 hw7 λap cap' u8 h8 hk8 hn8=>?_
  have hpa1:¬ isB pa b1:=λe=>by
   have h9:=hvb.fr _ e
   omega
  rw [w64 (x:=(i:Int)+1) (by omega) (by omega)]
  have e:(j.v.mem.take i).map (λm=>addr j.v.number m x)++[addr j.v.number m x]=(j.v.mem.take (i+1)).map λm=>addr j.v.number m x:=by
   rw [List.take_add_one,hm]
   simp
  rw [e] at h8
  refine ⟨j.v.mem.length - (i+1),by omega,i+1,ap,cap',_,rfl,by omega,by rw [←hlen];rfl,hn8,h8,hk8.blk (New.blk (hn2.new hn3) hz1) hpa1,(hcu.new' (hn2.new hn3)).keep hk8 λk hk=>?_⟩
  have h9:=hvb.fr k hk
  have h10:=h.new.size
  refine ⟨by omega,λe=>?_⟩
  obtain ⟨raws,ho,_⟩:=hvb.ex
  obtain ⟨cs,hcs⟩:=eX ho hk
  exact absurd (e▸hcs |>.ne hcu.blk (by decide)) (λhh=>hh rfl)
 ·have hil:i=j.v.mem.length:=by omega
  subst hil
  rw [kC]
  rw [List.take_length] at hvb
  exact ⟨pa,pc,rfl,hvb.mono hs1,hn1.new hnu⟩
def iq (R:SR) (f:List (List Done)→SR):SR:=if R.ok then f R.got else R
def pi (G:List (List Done)):SR:=⟨true,[],(0,0),G,none,false⟩
def logV (j:CJob) (at_:Int) (ws:List Int):List Verb:=j.v.mem.map λm=>addr j.v.number m ⟨2,0,at_,0,0,0,ws,0,0⟩
def logM (j:CJob) (G:List (List Done)) (at_:Int) (ws:List Int) (fate:Int):SR:=if j.writes=[] then pi G else bL G (logV j at_ ws) fate
def xY (j:CJob) (G:List (List Done)):SR:=logM j G (ry j.client+8) (pe j.seq j.writes) 1
def wM (j:CJob) (G:List (List Done)):SR:=logM j G (ry j.client) [xW j.seq] 2
def qM (A:Nat→Prop) (w0 u:World) (tb B:Nat) (R:SR) (v:Value) (u':World):Prop:=v=.tuple #[aA.val ⟨R.out.1,R.out.2⟩,.bool R.ok]∧jy A w0 u tb B R u'
theorem jy.skip {A:Nat→Prop} {w0 u u':World} {tb B:Nat} {T:TkX} {G:List (List Done)} (hT:TkAt A w0 u tb T G) (hcl:pf T) (hn:New u u'):jy A w0 u tb B (pi G) u':=
 ⟨Keep.of_new hn,T,hT.new hn,hcl.wrong,hcl.al⟩
theorem jy.put {A:Nat→Prop} {w0 u u1 u2 u3 u4:World} {tb B B' b:Nat} {R:SR} (h:jy A w0 u1 tb B R u2) (hn:New u u1) (hn2:New u2 u3) (hk:Keep (λk=>k=b) u3 u4) (hb:u.heap.size≤b) (hbB:b<B) (hbt:b≠tb) (hB:B'≤B):jy A w0 u tb B' R u4:=by
 obtain ⟨hk1,T',ht,hw,ha⟩:=h
 refine ⟨(((Keep.of_new hn).trans hk1 λ_ _ e=>e).new hn2).trans hk λk hlt e=>by omega,T',(ht.new hn2).keep hk λe=>hbt e.symm,hw,?_⟩
 cases hR:R.ask with
 |none=>rw [hR] at ha;exact ha
 |some vs=>
  rw [hR] at ha
  obtain ⟨h0,w1,h1,h2,h3⟩:=ha
  exact ⟨h0,w1,h1,by omega,(h3.new hn2).keep hk λk e=>by omega⟩
theorem F7 {u:World} {b:Nat} {zs:List Value} (hz:Blk u b zs TCO) (hl:zs.length=2) (o:aA) {K:aA→World→Prop} (hk:∀ u3 u4,New u u3→Keep (λk=>k=b) u3 u4→K o u4) :
  ∀ b2 w5,b2=u.heap.size→w5=u.alloc (.cells #[.int .i64 0,.int .i64 0] TCO)→wrAt w5 ⟨b2,0,none⟩ 0 o.cells∧∀ w6,w6=puts w5 ⟨b2,0,none⟩ 0 o.cells→aA.ex λr=>aG w6 ⟨b2,0,none⟩ 0 r.cells∧wrAt w6 ⟨b,0,none⟩ 0 r.cells∧∀ w7,w7=puts w6 ⟨b,0,none⟩ 0 r.cells→aA.ex λres=>aG w7 ⟨b,0,none⟩ 0 res.cells∧w7=w7∧K res w7:=by
 refine gX (zs:=[.int .i64 0,.int .i64 0]) (vs:=o.cells) rfl (aA.single _) λb2 w6 hb hz2 hn=>?_
 refine aA.mk_ex o ⟨aK hz2 rfl,gJ (New.blk hn hz) (by rw [hl];rfl) (aA.single _) λw7 hz7 hk7=>?_⟩
 exact aA.mk_ex o ⟨aK hz7 rfl,rfl,hk w6 w7 hn hk7⟩
set_option maxRecDepth 20000 in
theorem F8 {A:Nat→Prop} {w0 u:World} {cb tb:Nat} {r:aH} {m:aF} {j:CJob} (hc:fZ w0 u cb tb r m j) {T:TkX} {G:List (List Done)} (hT:TkAt A w0 u tb T G) (hcl:pf T) {a:Option Addr} {n cap:Nat} {at_:Int} {ws:List Int} (hw:j.writes≠[]→Rd u a (us ws)∧n=ws.length∧n≤cap∧(a=none→ws=[])∧(∀ x ∈ ws,U64 x)∧ws.length≤1000000) (fate:Int) :
  Does 179 [ptr cb,.int .i64 at_,.slice a n cap,.int .i64 fate] u (qM A w0 u tb u.heap.size (logM j G at_ ws fate)):=by
 refine does Tryz.func179 ?_
 rw [ptr,mU]
 rintro b1 u1 hb1 hu1
 obtain ⟨hz1,hn1⟩:=aN hb1 hu1
 have hz1:Blk u1 b1 (aA.cells ⟨0,0⟩) TCO:=hz1
 clear hu1
 have hc1:=hc.new' hn1
 have hT1:=hT.new hn1
 have hlen:=hc.job.pg.len
 have hs1:=hn1.size
 have hl1:=hz1.lt
 have htl:=hT.blk.lt
 unfold logM
 refine ⟨_,_,_,hc1.blk.cell (i:=6) rfl,bH (λe=>?_) (λe=>?_)⟩
 ·have hw0:j.writes=[]:=List.eq_nil_of_length_eq_zero (by omega)
  rw [if_pos hw0]
  exact co_k hz1 rfl 0 0 λu4 hk4=>⟨rfl,(jy.skip (B:=u1.heap.size) hT1 hcl (Keep.refl _ _)).put hn1 (Keep.refl _ _) hk4 (by omega) hl1 (by omega) hs1⟩
 ·have hw0:j.writes≠[]:=λe2=>by rw [e2] at hlen;simp at hlen <;> omega
  rw [if_neg hw0]
  obtain ⟨h1,h2,h3,h4,h5,h6⟩:=hw hw0
  have hva:bJ (λ_=>False) u1 ⟨2,0,at_,0,0,0,a,n,cap,0,0⟩ ⟨2,0,at_,0,0,0,ws,0,0⟩:=tp (h1.new hn1) h2 h3 h4 h5 h6 u0 u0
  have hcall:=GX hc1 hva
  refine aE hcall ?_
  rintro v u2 ⟨aa,ac,rfl,hvb,hn2⟩
  refine ⟨_,_,_,rfl,?_⟩
  have hcall2:=uy (hc1.new' hn2) (hT1.new hn2) hcl hc1.new (w1:=u1) (by omega) hvb (by rw [List.length_map];have:=hc.good.mem;omega) fate
  refine aE hcall2 ?_
  rintro v u4 ⟨da,dc,raw,rfl,hsp,_⟩
  refine ⟨_,_,_,aA.mk_ex ⟨(bL G (logV j at_ ws) fate).out.1,(bL G (logV j at_ ws) fate).out.2⟩ ⟨(bL G (logV j at_ ws) fate).ok,rfl,?_⟩⟩
  have hz4:Blk u4 b1 (aA.cells ⟨0,0⟩) TCO:=hsp.keep.blk (New.blk hn2 hz1) (by omega)
  refine F7 hz4 rfl _ λu5 u6 hn5 hk6=>⟨rfl,hsp.put (hn1.new hn2) hn5 hk6 (by omega) hl1 (by omega) hs1⟩
end Go.Proofs.YtegepanmkjemjaaGreat
namespace Go.Proofs.YtegepanmkjemjaaGreat
open Go.Proofs.Tryz
open Go.Eng
theorem EQ {w:World} {r:aS} {W:List aB} (h:tj w r.Writes r.Writes_l W) (hv:iK r.Seq W 256≠0):Does 181 [r.val] w λv w'=>v=.slice none 0 0∧New w w':=by
 refine does Tryz.func181 ?_
 rw [pB]
 rintro b1 w1 hb1 hw1
 obtain ⟨hz,hn1⟩:=aN hb1 hw1
 have hz:Blk w1 b1 r.cells 252:=hz
 clear hw1
 refine aS.mk_ex r ⟨aK hz rfl,?_⟩
 refine aE (vq (h.new hn1) 256) ?_
 rintro v w2 ⟨rfl,hn2⟩
 exact ⟨_,rfl,cR (λe=>⟨rfl,hn1.new hn2⟩) (λe=>absurd e hv)⟩
theorem Bg (w:World) (s:Int):Does 185 [.int .i64 s] w λv w'=>∃ x e:Int,v=.tuple #[.int .u64 x,.int .i64 e]∧w'=w∧(1≤s∧s<1073741824→x=xW s):=by
 refine does Tryz.func185 ?_
 rw [vX]
 refine aE (qI w s 1 1073741823) ?_
 rintro v w1 ⟨rfl,rfl⟩
 refine ⟨_,rfl,dN (λhf=>⟨_,_,rfl,rfl,λe=>absurd (of_decide_eq_false hf) (by omega)⟩) (λ_=>⟨_,_,rfl,rfl,λe=>?_⟩)⟩
 rw [wu64 (x:=s) (by omega) (by omega)]
 rfl
theorem ER {seq:Int} {W:List aB} (hs:U64 seq) (hl:W.length≤12) (hW:∀ p ∈ W,U64 p.Line∧U64 p.Head∧∀ x ∈ datL p,U64 x):∀ x ∈ pe seq W,U64 x:=by
 intro x hx
 unfold pe recL at hx
 rcases List.mem_append.1 hx with hx | hx
 ·rcases List.mem_cons.1 hx with rfl | hx
  ·exact hs
  rcases List.mem_cons.1 hx with rfl | hx
  ·unfold U64;omega
  obtain ⟨l,hl1,hx⟩:=List.mem_flatten.1 hx
  obtain ⟨p,hp,rfl⟩:=List.mem_map.1 hl1
  obtain ⟨h1,h2,h3⟩:=hW p hp
  rcases List.mem_cons.1 hx with rfl | hx
  ·exact h1
  rcases List.mem_cons.1 hx with rfl | hx
  ·exact h2
  exact h3 x hx
 ·simp at hx
  subst hx
  exact CQ _
def xZ (j:CJob):Prop:=∀ p ∈ j.writes,∀ x ∈ datL p,U64 x
set_option maxRecDepth 20000 in
theorem F9 {A:Nat→Prop} {w0 u:World} {cb tb:Nat} {r:aH} {m:aF} {j:CJob} (hc:fZ w0 u cb tb r m j) (hd:xZ j) {T:TkX} {G:List (List Done)} (hT:TkAt A w0 u tb T G) (hcl:pf T) :
  Does 147 [ptr cb] u (qM A w0 u tb u.heap.size (xY j G)):=by
 refine does Tryz.func147 ?_
 rw [ptr,mt]
 rintro b1 u1 hb1 hu1
 obtain ⟨hz1,hn1⟩:=aN hb1 hu1
 have hz1:Blk u1 b1 (aA.cells ⟨0,0⟩) TCO:=hz1
 clear hu1
 rintro u2 hu2
 have hn2:New u1 u2:=by rw [hu2];exact aV _
 clear hu2
 have hn02:=hn1.new hn2
 have hc2:=hc.new' hn02
 have hT2:=hT.new hn02
 have hs1:=hn1.size
 have hs2:=hn2.size
 have hl1:=hz1.lt
 have htl:=hT.blk.lt
 have hjc:=hc.job.client
 have hjs:=hc.job.seq
 have hg:=hc.good
 have hgc:=hg.client
 have hgf:=hg.wfew
 refine ⟨λy=>Blk y cb (comC r tb m) TCm,hc2.blk,_,λy hy=>hy.cell (i:=0) rfl,aH.mk_ex r ⟨λy hy=>aK hy rfl,?_⟩⟩
 refine aE (EM u2 (by omega)) ?_
 rintro v u3 ⟨rfl,rfl⟩
 refine ⟨_,rfl,hc2.blk,?_⟩
 refine aE (yr u3 r) ?_
 rintro v u4 ⟨rfl,hn4⟩
 refine aS.mk_ex _ ⟨rfl,(hc2.new' hn4).blk,?_⟩
 have hc4:=hc2.new' hn4
 have hpg:tj u4 r.Writes r.Writes_l j.writes:=hc.job.pg.new hc4.new
 have fin:∀ {u5:World} {a:Option Addr} {n cap:Nat},New u4 u5→(j.writes≠[]→Rd u5 a (us (pe j.seq j.writes))∧n=(pe j.seq j.writes).length∧n≤cap∧(a=none→pe j.seq j.writes=[])∧(∀ x ∈ pe j.seq j.writes,U64 x)∧(pe j.seq j.writes).length≤1000000)→
   Calls prog 179 #[(.pointer (some ⟨cb,0,none⟩)),(.int .i64 (ry r.Client+8)),(.slice a n cap),(.int .i64 1)] u5 λe w6=>aA.ex λo=>∃ b:Bool,e=.returned (.tuple #[o.val,(.bool b)])∧Blk w6 cb (comC r tb m) TCm∧wrAt w6 ⟨b1,0,none⟩ 0 o.cells∧∀ w7,w7=puts w6 ⟨b1,0,none⟩ 0 o.cells→aA.ex λres=>aG w7 ⟨b1,0,none⟩ 0 res.cells∧w7=w7∧qM A w0 u tb u.heap.size (xY j G) (.tuple #[res.val,(.bool b)]) w7:=by
  intro u5 a n cap hn5 hw
  have hn25:=hn4.new hn5
  have hcall:=F8 (A:=A) (hc2.new' hn25) (hT2.new hn25) hcl (at_:=ry j.client+8) hw 1
  rw [hjc]
  refine aE hcall ?_
  rintro v u6 ⟨rfl,hsp⟩
  have hs5:=hn25.size
  refine aA.mk_ex _ ⟨_,rfl,hsp.keep.blk (hc2.new' hn25).blk hc.ne,?_⟩
  exact co_k (hsp.keep.blk (New.blk (hn2.new hn25) hz1) (by omega)) rfl _ _ λu7 hk7=>⟨rfl,hsp.put (hn02.new hn25) (Keep.refl _ _) hk7 (by omega) (by omega) (by omega) (by omega)⟩
 by_cases hw0:j.writes=[]
 ·have hne:iK r.Seq j.writes 256≠0:=λe=>by
   have:=(mv e).2.1.2.2.1
   rw [hw0] at this
   simp at this
  refine aE (EQ (r:=⟨r.Seq,r.Writes,r.Writes_l,r.Writes_c⟩) hpg hne) ?_
  rintro v u5 ⟨rfl,hn5⟩
  exact ⟨_,_,_,rfl,(hc4.new' hn5).blk,fin hn5 λe=>absurd hw0 e⟩
 ·obtain ⟨hv,hs⟩:=hg.wr hw0
  rw [←hjs] at hv hs
  refine aE (CY (r:=⟨r.Seq,r.Writes,r.Writes_l,r.Writes_c⟩) hpg hv hs hgf hg.wl) ?_
  rintro v u5 ⟨a,cap,rfl,hn5,hown,hfr⟩
  refine ⟨_,_,_,rfl,(hc4.new' hn5).blk,fin hn5 λ_=>?_⟩
  have hown:Owns u5 43 1 a (3+9 * j.writes.length) cap (us (pe j.seq j.writes)):=by rw [←hjs];exact hown
  refine ⟨hown.rd,(oz _ _).symm,Owns.le hown,λe=>?_,ER (by unfold U64;omega) hgf λp hp=>?_,by rw [oz];omega⟩
  ·rcases hown.2 with ⟨hn,_,_⟩ | ⟨g,cur,hg,_⟩
   ·omega
   ·rw [hg] at e;cases e
  ·have:=hg.wl p hp
   exact ⟨by unfold U64;omega,hpg.u64 p hp,hd p hp⟩
theorem ES {A:Nat→Prop} {w0 u:World} {cb tb:Nat} {r:aH} {m:aF} {j:CJob} (hc:fZ w0 u cb tb r m j) {T:TkX} {G:List (List Done)} (hT:TkAt A w0 u tb T G) (hcl:pf T) :
  Does 149 [ptr cb] u (qM A w0 u tb u.heap.size (wM j G)):=by
 refine does Tryz.func149 ?_
 rw [ptr,mu]
 rintro b1 u1 hb1 hu1
 obtain ⟨hz1,hn1⟩:=aN hb1 hu1
 have hz1:Blk u1 b1 (aA.cells ⟨0,0⟩) TCO:=hz1
 clear hu1
 have hc1:=hc.new' hn1
 have hs1:=hn1.size
 have hl1:=hz1.lt
 have htl:=hT.blk.lt
 have hjc:=hc.job.client
 have hjs:=hc.job.seq
 have hg:=hc.good
 have hgc:=hg.client
 refine ⟨_,hc1.blk.cell (i:=1) rfl,?_⟩
 refine aE (Bg u1 r.Seq) ?_
 rintro v u2 ⟨x,e,rfl,rfl,hx⟩
 refine ⟨_,_,rfl,_,hc1.blk.cell (i:=0) rfl,?_⟩
 refine aE (EN u2 (by omega)) ?_
 rintro v u3 ⟨rfl,rfl⟩
 refine ⟨_,rfl,?_⟩
 rintro b2 u4 hb2 hu4
 obtain ⟨hz4,hn4⟩:=aN hb2 hu4
 have hz4:Blk u4 b2 (us [x]) TUw:=hz4
 clear hu4
 have hs4:=hn4.size
 rw [hjc]
 have hcall:=F8 (A:=A) (hc1.new' hn4) ((hT.new hn1).new hn4) hcl (a:=some ⟨b2,0,none⟩) (n:=1) (cap:=1) (at_:=ry j.client) (ws:=[xW j.seq]) (λhw=>by
  obtain ⟨_,hs⟩:=hg.wr hw
  have hxx:=hx (by omega)
  rw [hxx,hjs] at hz4
  exact ⟨fG hz4 rfl,rfl,by omega,(λe=>by cases e),(λy hy=>by simp at hy;subst hy;exact EK _),by simp⟩) 2
 refine aE hcall ?_
 rintro v u6 ⟨rfl,hsp⟩
 refine aA.mk_ex _ ⟨_,rfl,?_⟩
 exact co_k (hsp.keep.blk (New.blk hn4 hz1) (by omega)) rfl _ _ λu7 hk7=>⟨rfl,hsp.put (hn1.new hn4) (Keep.refl _ _) hk7 (by omega) (by omega) (by omega) (by omega)⟩
theorem qN (l:List aL):(l.map aL.cells).flatten=(eH l).flatten:=rfl
theorem VB.app_e {w0 wb u1:World} {a a2:Option Addr} {n n2 cap c2:Nat} {vs vs2:List Verb} (h:VB w0 u1 a n cap vs) (h0:New w0 u1) (h2:VB wb u1 a2 n2 c2 vs2) (hlt:∀ k,isB a k→k<wb.heap.size) (hwb:w0.heap.size≤wb.heap.size) (hf:n+n2≤100000) {K:Option Addr→Nat→Nat→World→Prop}
  (hk:∀ ap cap' w3,VB w0 w3 ap (n+n2) cap' (vs++vs2)→Keep (isB a) u1 w3→New w0 w3→K ap (n+n2) cap' w3) :
  ∃ (ap:Option Addr) (ap_len ap_cap:Nat),∃ w3,(Builtin.append_ #[TSV,TSV] TSV #[(.slice a n cap),(.slice a2 n2 c2)]).run prog u1=.ok (.slice ap ap_len ap_cap) w3∧K ap ap_len ap_cap w3:=by
 obtain ⟨⟨raws,ho,hvs⟩,hl,hfr⟩:=h
 obtain ⟨⟨raws2,ho2,hvs2⟩,hl2,hfr2⟩:=h2
 obtain ⟨inf,hi,hz,hsz,hby⟩:=j8 (T:=TV) (z:=.agg #[.int .i64 0,.int .i64 0,.int .i64 0,.int .i64 0,.int .u64 0,.int .u64 0,.slice none 0 0,.int .u64 0,.int .i64 0]) (n:=9) (m:=88) (by kernel_rfl)
 have hs0:=h0.size
 refine Bb (cells:=aL.cells) (sz:=9) aL.len aL.single Tryz.underlying128 hi hz (by rw [hsz];rfl) hsz (by decide) (by rw [hby];decide) (l:=raws) (by rw [qN];exact ho) (l2:=raws2) (m:=n2) (by rw [qN];exact ho2.rd) (by rw [hvs2.1];exact hl2) (by omega) λap cap' w3 h1 hk3 hap=>?_
 have hapf:∀ k,isB ap k→w0.heap.size≤k:=λk hk=>by
  rcases hap k hk with e | e
  ·exact hfr k e
  ·omega
 refine hk ap cap' w3 ⟨⟨raws++raws2,h1,?_⟩,by rw [List.length_append,hl,hl2],hapf⟩ hk3 (h0.trans hk3 λk hlt e=>by have:=hfr k e;omega)
 have hst:∀ k,k<u1.heap.size→(k<w0.heap.size∨isB ap k)→(k<w0.heap.size∨isB a k):=λk hlt e=>e.imp id λe=>by
  rcases hap k e with e | e
  ·exact e
  ·omega
 refine Vs.app (hvs.keep (hk3.mono λk _ e=>.inr e) hst) ?_
 have hv2:Vs (λk=>k<w0.heap.size∨isB a k) u1 raws2 vs2:=hvs2.keep (Keep.refl _ _) λk _ e=>by
  rcases e with e | e
  ·left;omega
  ·left;exact hlt k e
 exact hv2.keep (hk3.mono λk _ e=>.inr e) hst
def memV (j:CJob) (m:aF):List Verb:=if j.writes=[] then [] else j.writes.map (oA j m)++[my j m]
def gE (j:CJob):List Verb:=(j.v.mem.tail.map (memV j)).flatten
def nt (j:CJob) (G:List (List Done)):SR:=bL G (gE j) 3
theorem yB (j:CJob) (m:aF):(memV j m).length≤j.writes.length+1:=by
 unfold memV
 split
 ·simp
 ·simp
theorem Bh {α:Type} {b:Nat}:∀ (l:List (List α)),(∀ x ∈ l,x.length≤b)→l.flatten.length≤l.length * b
 | [],_=>by simp
 |x::l,h=>by
  have h1:=h x List.mem_cons_self
  have h2:=Bh l λy hy=>h y (List.mem_cons_of_mem _ hy)
  rw [List.flatten_cons,List.length_append,List.length_cons,Nat.succ_mul]
  omega
set_option maxRecDepth 20000 in
set_option maxHeartbeats 1000000 in
theorem ET {A:Nat→Prop} {w0 u:World} {cb tb:Nat} {r:aH} {m0:aF} {j:CJob} (hc:fZ w0 u cb tb r m0 j) (hd:xZ j) {T:TkX} {G:List (List Done)} (hT:TkAt A w0 u tb T G) (hcl:pf T) :
  Does 150 [ptr cb] u (qM A w0 u tb u.heap.size (nt j G)):=by
 refine does Tryz.func150 ?_
 rw [ptr,kV]
 rintro b1 u1 hb1 hu1
 obtain ⟨hz1,hn1⟩:=aN hb1 hu1
 have hz1:Blk u1 b1 (aA.cells ⟨0,0⟩) TCO:=hz1
 clear hu1
 have hc1:=hc.new' hn1
 have hs1:=hn1.size
 have hl1:=hz1.lt
 have htl:=hT.blk.lt
 have hg:=hc.good
 have hgm:=hg.mem
 have hgf:=hg.wfew
 have hlen:=hc.job.pg.len
 obtain ⟨MV,hview⟩:=hc.job.view
 refine aM.mk_ex r.View ⟨aK hc1.blk rfl,?_⟩
 refine aE (Bf (hview.new hc1.new) hgm.1) ?_
 rintro v u2 ⟨ba,bc,rfl,hn2,hbr⟩
 refine ⟨_,_,_,rfl,?_⟩
 have hc2:=hc1.new' hn2
 have hs2:=hn2.size
 have htl2:j.v.mem.tail.length=j.v.mem.length - 1:=List.length_tail
 refine aQ mix (λq env z=>∃ (i n:Nat) (pa:Option Addr) (pc:Nat) (jj:List Value),q=j.v.mem.tail.length - i∧i≤j.v.mem.tail.length∧env=bQ ⟨cb,0,none⟩ ⟨b1,0,none⟩ pa n pc ba (j.v.mem.length - 1) bc ((j.v.mem.length - 1:Nat):Int) i jj∧New u2 z∧VB u2 z pa n pc (((j.v.mem.tail.take i).map (memV j)).flatten)) j.v.mem.tail.length
  ⟨0,0,none,0,_,rfl,by omega,rfl,Keep.refl _ _,VB.nil _ _⟩ ?_
 rintro q env z ⟨i,n,pa,pc,jj,rfl,hi,rfl,hnz,hvb⟩
 rw [ic]
 have hcz:=hc2.new' hnz
 have hsz:=hnz.size
 have hvl:=hvb.len
 have hn60:n≤1000:=by
  have h1:=Bh (b:=j.writes.length+1) ((j.v.mem.tail.take i).map (memV j)) λx hx=>by
   obtain ⟨m,_,rfl⟩:=List.mem_map.1 hx
   exact yB j m
  rw [List.length_map,List.length_take] at h1
  have h2:min i j.v.mem.tail.length * (j.writes.length+1)≤5 * 13:=Nat.mul_le_mul (by omega) (by omega)
  omega
 refine aJ (λhlt=>?_) (λhge=>?_)
 ·obtain ⟨m,hm⟩:∃ m,j.v.mem.tail[i]?=some m:=⟨_,List.getElem?_eq_getElem (by omega)⟩
  have hmb:=hg.boot m (List.mem_of_mem_tail (List.mem_of_getElem? hm))
  have hbt:I64 m.Boot:=by unfold I64;omega
  have etk:((j.v.mem.tail.take (i+1)).map (memV j)).flatten=((j.v.mem.tail.take i).map (memV j)).flatten++memV j m:=by
   rw [List.take_add_one,hm]
   simp
  refine fR (cells:=aF.cells) aF.len (by omega) (hbr.new hnz) hm rfl (by omega) λb o hcc _=>aF.mk_ex m ⟨hcc,?_⟩
  refine gX (vs:=m.cells) rfl (aF.single _) λb3 z2 hb3 hz3 hn3=>⟨_,_,_,(hcz.new' hn3).blk.cell (i:=6) rfl,?_⟩
  have hs3:=hn3.size
  rw [w64 (x:=(i:Int)+1) (by omega) (by omega)]
  refine aJ (λhw=>?_) (λhw=>?_)
  ·have hw0:j.writes≠[]:=λe=>by rw [e] at hlen;simp at hlen <;> omega
   obtain ⟨_,hsq⟩:=hg.wr hw0
   refine aF.mk_ex m ⟨aK hz3 rfl,?_⟩
   refine aE (yA (hcz.new' hn3) hd hbt) ?_
   rintro v z4 ⟨ga,gc,rfl,hvp,hn4⟩
   refine ⟨_,_,_,rfl,?_⟩
   have hpal:∀ k,isB pa k→k<z2.heap.size:=λk hk=>by
    obtain ⟨raws,ho,_⟩:=hvb.ex
    have:=ho.lt hk
    omega
   refine VB.app_e ((hvb.new hn3).new hn4) ((hnz.new hn3).new hn4) hvp hpal (by omega) (by omega) λap cap' z5 h5 hk5 hn5=>?_
   have hcz5:fZ w0 z5 cb tb r m0 j:=((hcz.new' hn3).new' hn4).keep hk5 λk hk=>by
    have h9:=hvb.fr k hk
    have h10:=hc2.new.size
    refine ⟨by omega,λe=>?_⟩
    obtain ⟨raws,ho,_⟩:=hvb.ex
    obtain ⟨cs,hcs⟩:=eX ho hk
    exact absurd (e▸hcs |>.ne hcz.blk (by decide)) (λhh=>hh rfl)
   have hz35:Blk z5 b3 m.cells TMb:=hk5.blk (New.blk hn4 hz3) λe=>by
    obtain ⟨raws,ho,_⟩:=hvb.ex
    have:=ho.lt e
    omega
   refine aF.mk_ex m ⟨aK hz35 rfl,?_⟩
   refine aE (yz hcz5 hsq hbt) ?_
   rintro v z6 ⟨v',rfl,hv',hn6⟩
   refine aL.mk_ex v' ⟨rfl,?_⟩
   rintro b4 z7 hb4 hz7
   refine VB.push_e h5 hn5 hn6 hv' (by omega) hb4 hz7 λap2 cap2 z8 h8 hk8 hn8=>?_
   have e8:((j.v.mem.tail.take i).map (memV j)).flatten++j.writes.map (oA j m)++[my j m]=((j.v.mem.tail.take (i+1)).map (memV j)).flatten:=by
    rw [etk]
    unfold memV
    rw [if_neg hw0,List.append_assoc]
   rw [e8] at h8
   exact ⟨j.v.mem.tail.length - (i+1),by omega,i+1,_,ap2,cap2,_,rfl,by omega,rfl,hn8,h8⟩
  ·have hw0:j.writes=[]:=List.eq_nil_of_length_eq_zero (by omega)
   refine ⟨j.v.mem.tail.length - (i+1),by omega,i+1,n,pa,pc,_,rfl,by omega,rfl,hnz.new hn3,?_⟩
   have e8:memV j m=[]:=by unfold memV;rw [if_pos hw0]
   rw [etk,e8,List.append_nil]
   exact hvb.new hn3
 ·have hil:i=j.v.mem.tail.length:=by omega
  subst hil
  rw [iR]
  rw [List.take_length] at hvb
  have hvb:VB u2 z pa n pc (gE j):=hvb
  have hvl2:=hvb.len
  have hn2z:=(hn1.new hn2).new hnz
  have hcall:=uy (A:=A) hcz (hT.new hn2z) hcl hc2.new (w1:=u2) (by omega) hvb (by omega) 3
  refine aE hcall ?_
  rintro v u4 ⟨da,dc,raw,rfl,hsp,_⟩
  refine ⟨_,_,_,aA.mk_ex ⟨(nt j G).out.1,(nt j G).out.2⟩ ⟨(nt j G).ok,rfl,?_⟩⟩
  have hz4:Blk u4 b1 (aA.cells ⟨0,0⟩) TCO:=hsp.keep.blk (New.blk (hn2.new hnz) hz1) (by omega)
  refine F7 hz4 rfl _ λu5 u6 hn5 hk6=>⟨rfl,hsp.put hn2z hn5 hk6 (by omega) (by omega) (by omega) (by omega)⟩
end Go.Proofs.YtegepanmkjemjaaGreat
