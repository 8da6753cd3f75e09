import Derived.Test.YtegepanmkjemjaaGreatw14
set_option linter.unusedVariables false
namespace Go.Proofs.YtegepanmkjemjaaGreat
open Go.Proofs.Tryz
open Go.Eng
def sel (ls:List cE):List (Nat×cX):=(ls.filter λl=>decide (0<l.p.verbs.length)).map λl=>(l.pb,l.p)
theorem yq (l:cE) (ls:List cE):sel (l::ls)=if 0<l.p.verbs.length then (l.pb,l.p)::sel ls else sel ls:=by
 unfold sel
 rw [List.filter_cons]
 by_cases h:0<l.p.verbs.length
 ·simp [h]
 ·simp [h]
theorem CE (ls:List cE):(sel ls).map (λp=>p.2.pure)=((ls.map cE.pure).map Lane.pair).filter λp=>decide (0<p.verbs.length):=by
 induction ls with
 |nil=>rfl
 |cons l ls ih=>
  rw [yq,List.map_cons,List.map_cons,List.filter_cons]
  have:l.pure.pair.verbs=l.p.verbs:=rfl
  rw [this,←ih]
  by_cases h:0<l.p.verbs.length
  ·simp [h];rfl
  ·simp [h]
theorem AT {ls:List cE} {x:Nat×cX} (h:x ∈ sel ls):∃ (j:Nat) (l:cE),ls[j]?=some l∧x=(l.pb,l.p)∧0<l.p.verbs.length:=by
 simp only [sel,List.mem_map,List.mem_filter,decide_eq_true_eq] at h
 obtain ⟨l,⟨h1,h2⟩,h3⟩:=h
 obtain ⟨j,hj⟩:=List.mem_iff_getElem?.1 h1
 exact ⟨j,l,hj,h3.symm,h2⟩
def rR (i:Nat) (ls:List cE):Tag→Tag
 | .lane c n=>if c=i then (match ls[n]? with
  |some l=>if 0<l.p.verbs.length then .orph l.pb else .lane c n
  |none=>.lane c n) else .lane c n
 |t=>t
theorem wq {i:Nat} {ls:List cE} {t:Tag} (h:∀ n,t≠.lane i n):rR i ls t=t:=by
 cases t with
 |lane c n=>
  simp only [rR]
  rw [if_neg]
  rintro rfl
  exact h n rfl
 | _=>rfl
theorem uw {i:Nat} {ls:List cE} {t:Tag} (h:rR i ls t≠.imm):t≠.imm:=by
 rintro rfl;exact h rfl
theorem zw {i n:Nat} {ls:List cE} {l:cE} (hl:ls[n]?=some l) (hp:0<l.p.verbs.length):rR i ls (.lane i n)=.orph l.pb:=by
 simp [rR,hl,hp]
structure DieI (A:Nat→Prop) (χ:Nat→Tag) (w:World) (fb:Nat) (X:FabX) (c:aZ) (k:Nat) (u:World) (oa:Option Addr) (oc:Nat) (os:List (Nat×cX)):Prop where
 keep:Keep (λz=>χ z=.fab∨χ z=.orphs) w u
 fab:Blk u fb (X.cells.set 3 (.slice oa os.length oc)) TF
 own:Owns u TPP 1 oa os.length oc (os.map λp=>ptr p.1)
 tag:∀ z,isB oa z→χ z=.orphs∨w.heap.size≤z
 eq:os++sel (c.lanes.drop k)=X.orphans++sel c.lanes
set_option maxHeartbeats 3200000 in
theorem CF {A:Nat→Prop} {χ:Nat→Tag} {w:World} {fb:Nat} {X:FabX} (h:aY A χ w fb X) (hok:vj X.pure) (hob:X.orphans.length≤100000000) {i:Nat} {c:aZ} (hc:X.clients[i]?=some c)
  {j:List Value} {R:Value→World→Prop} (hR:∀ u oa oc os,DieI A χ w fb X c c.lanes.length u oa oc os→∀ jj,W prog (sub (aD f46) [1,1,1,1]) (fN (some ⟨X.cb,0+i * 7,none⟩) jj) (retQ prog f46 R) u) :
  bS prog (.loop (sub (aD f46) [1,1,1,0,1,0,0])) (cG ⟨fb,0,none⟩ (some ⟨X.cb,0+i * 7,none⟩) c.la c.lanes.length c.lc c.lanes.length 0 j)
   (aI 0 (seqQ (λenv w=>W prog (sub (aD f46) [1,1,1,1]) env (retQ prog f46 R) w) (retQ prog f46 R))) w:=by
 have hco:=hok.client i c.pure (by simp [FabX.pure,hc])
 have hn5:=hok.nodes
 have hll:c.lanes.length≤5:=by
  have h1:=hco.lanes
  have:c.pure.lanes.length=c.lanes.length:=by simp [aZ.pure]
  split at h1<;>omega
 have hsl:∀ ls:List cE,(sel ls).length≤ls.length:=λls=>by simp [sel];exact List.length_filter_le _ _
 have hsl':=hsl c.lanes
 refine aQ mix (λm env u=>∃ (k:Nat) (jj:List Value) (oa:Option Addr) (oc:Nat) (os:List (Nat×cX)),k≤c.lanes.length∧m=c.lanes.length - k∧env=cG ⟨fb,0,none⟩ (some ⟨X.cb,0+i * 7,none⟩) c.la c.lanes.length c.lc c.lanes.length k jj∧DieI A χ w fb X c k u oa oc os) c.lanes.length
  ⟨0,_,X.oa,X.oc,X.orphans,by omega,by omega,rfl,Keep.refl _ _,h.fab,h.orphs,λz hz=>.inl (h.otag z hz),rfl⟩ ?_
 rintro m env u ⟨k,jj,oa,oc,os,hk,rfl,rfl,I⟩
 rw [kz]
 have hosl:os.length≤100000005:=by
  have:=congrArg List.length I.eq
  simp only [List.length_append] at this
  omega
 refine aJ (λhlt=>?_) (λhlt=>?_)
 ·have hkl:k<c.lanes.length:=by omega
  obtain ⟨l,hl⟩:∃ l,c.lanes[k]?=some l:=⟨c.lanes[k],by simp [hkl]⟩
  have hcx:=h.client i c hc
  have hown:Owns u TL 2 c.la c.lanes.length c.lc (ki c.lanes).flatten:=hcx.own.keep I.keep λz hz=>by rw [hcx.tag z hz];simp
  obtain ⟨g,hga,_,_,hgc,_⟩:=Owns.row hown (gZ c.lanes) (by omega) (gA hl)
  have hlx:=hcx.lane k l hl
  rw [hga]
  refine bB (by omega) (by omega) ?_
  rw [Int.toNat_natCast]
  refine ⟨_,_,_,_,hgc,?_⟩
  rintro b3 w3 hb3 hw3
  obtain ⟨hz3,hn3⟩:=aN hb3 hw3
  refine ⟨bZ (vs:=l.cells) hz3 (by simp [cE.cells]) (by simp [cE.cells,single]),?_⟩
  intro w4 hw4
  obtain ⟨hz4,hn4⟩:=mL (vs:=l.cells) hz3 (by simp [cE.cells]) hn3 (by omega) hw4
  clear hw3 hw4 hz3 hn3
  refine ⟨_,hz4.cell (i:=0) rfl,?_⟩
  have hku4:Keep (λz=>χ z=.fab∨χ z=.orphs) w w4:=I.keep.new hn4
  have hpa:bP A w4 l.pb l.p:=hlx.pair.keep hku4 (λz hz=>by rw [hlx.tag z hz];simp) (λz hz=>h.avoid z (by rcases hz with e | e<;>rw [e]<;>simp))
  refine aE (qA hpa) ?_
  rintro v w5 ⟨rfl,rfl⟩
  have hdl:=yp hl
  have heq:=I.eq
  rw [hdl,yq] at heq
  rw [←hga]
  have hfab5:=New.blk hn4 I.fab
  have hown5:=I.own.new hn4
  refine ⟨_,rfl,aJ (λhp=>?_) (λhp=>?_)⟩
  ·have hp':0<l.p.verbs.length:=by omega
   rw [if_pos hp'] at heq
   intro w6 hw6
   have hn6:New w5 w6:=by rw [hw6];exact aV _
   clear hw6
   have hfab6:=New.blk hn6 hfab5
   have hz6:=New.blk hn6 hz4
   have hown6:=hown5.new hn6
   have hfb:¬ isB oa fb:=λhb=>by
    rcases I.tag fb hb with e | e
    ·rw [h.ftag] at e;cases e
    ·have:=h.fab.lt;omega
   have hb3b:¬ isB oa b3:=λhb=>by
    have:=I.own.lt hb;omega
   refine ⟨λz=>Keep (isB oa) w6 z,Keep.refl _ _,_,_,_,λz hz=>(hz.blk hfab6 hfb).cell (i:=3) rfl,_,λz hz=>(hz.blk hz6 hb3b).cell (i:=0) rfl,?_⟩
   rintro b7 w7 hb7 hw7
   obtain ⟨hz7,hn7⟩:=aN hb7 hw7
   clear hw7
   refine ⟨Keep.of_new hn7,?_⟩
   obtain ⟨ti,hi,hzz,hsz,hby⟩:=j8 (T:=137) (z:=.pointer none) (n:=1) (m:=8) (by kernel_rfl)
   have hown7:Owns w7 TPP ti.size oa os.length oc (os.map λp=>ptr p.1):=by rw [hsz];exact hown6.new hn7
   obtain ⟨ap,apc,w8,hrun,hown8,hk8,hap⟩:=hown7.append (P:=prog) (t:=111) (ty:=111) Tryz.underlying111 hi hzz (by rw [hsz];rfl) (by omega)
    (s:=some ⟨b7,0,none⟩) (m:=1) (c:=1) (news:=[ptr l.pb]) (by rw [hsz];rfl) (fG hz7 (by simp [ptr])) (by simp [ptr,single]) (by omega) (by rw [hby];omega)
   rw [hsz] at hown8
   have hfab8:Blk w8 fb (X.cells.set 3 (.slice oa os.length oc)) TF:=hk8.blk (New.blk hn7 hfab6) hfb
   refine ⟨ap,_,apc,w8,hrun,(Keep.of_new hn7).trans hk8 λ_ _ h=>h,⟨_,hfab8.cell (i:=3) rfl⟩,hfab8.frozen,?_⟩
   intro w9 hw9
   have hk9:Keep (λz=>z=fb) w8 w9:=by rw [hw9];exact aR _ _ _ _
   have hfab9:Blk w9 fb (X.cells.set 3 (.slice ap (os.length+1) apc)) TF:=by
    rw [hw9]
    have:=hfab8.setCell (i:=3) (.slice ap (os.length+1) apc)
    rw [List.set_set] at this
    exact this
   clear hw9
   have hn48:New u w7:=(hn4.new hn6).new hn7
   have hapt:∀ z,isB ap z→χ z=.orphs∨w.heap.size≤z:=by
    intro z hz
    rcases hap with e | e
    ·exact I.tag z (e▸hz)
    ·obtain ⟨o,ho⟩:=hz
     rw [e] at ho
     simp at ho
     have:=I.keep.size
     have:=hn48.size
     exact .inr (by omega)
   rw [show IntKind.i64.wrap ((k:Int)+1)=((k+1:Nat):Int) by rw [w64 (by omega) (by omega)];rfl]
   refine ⟨c.lanes.length - (k+1),by omega,k+1,_,ap,apc,os++[(l.pb,l.p)],by omega,rfl,rfl,?_,?_,?_,hapt,?_⟩
   ·refine ((I.keep.new hn48).trans hk8 λz hlt hz=>?_).trans hk9 λz _ e=>.inl (by rw [e];exact h.ftag)
    rcases I.tag z hz with e | e
    ·exact .inr e
    ·omega
   ·simpa using hfab9
   ·have:=hown8.keep hk9 (λz hz e=>?_)
    ·simpa using this
    ·rcases hapt z hz with e' | e'
     ·rw [e,h.ftag] at e';cases e'
     ·have:=h.fab.lt;omega
   ·rw [←heq];simp
  ·have hp':¬ 0<l.p.verbs.length:=by omega
   rw [if_neg hp'] at heq
   rw [show IntKind.i64.wrap ((k:Int)+1)=((k+1:Nat):Int) by rw [w64 (by omega) (by omega)];rfl]
   exact ⟨c.lanes.length - (k+1),by omega,k+1,_,oa,oc,os,by omega,rfl,rfl,hku4,hfab5,hown5,I.tag,heq⟩
 ·have:k=c.lanes.length:=by omega
  subst this
  exact hR u oa oc os I _
theorem Et (ls:List cE):((sel ls).map Prod.fst).Sublist (ls.map cE.pb):=by
 have:(sel ls).map Prod.fst=(ls.filter λl=>decide (0<l.p.verbs.length)).map cE.pb:=by simp [sel,Function.comp_def]
 rw [this]
 exact (List.filter_sublist).map _
def tdie (i:Nat) (t:Tag):Prop:=t=.fab∨t=.orphs∨t=.clients∨ofC i t
open Classical in
set_option maxHeartbeats 1600000 in
theorem aY.die {A:Nat→Prop} {χ:Nat→Tag} {w w':World} {fb:Nat} {X:FabX} (h:aY A χ w fb X) {i:Nat} {c:aZ} (hc:X.clients[i]?=some c) {oa:Option Addr} {oc:Nat}
  (hk:Keep (λz=>χ z=.fab∨χ z=.orphs∨χ z=.clients) w w') (hfab:Blk w' fb (X.cells.set 3 (.slice oa (X.orphans++sel c.lanes).length oc)) TF) (hown:Owns w' TPP 1 oa (X.orphans++sel c.lanes).length oc ((X.orphans++sel c.lanes).map λp=>ptr p.1))
  (htag:∀ z,isB oa z→χ z=.orphs∨w.heap.size≤z) {c':aZ} (hc':c'.lanes=[]∧c'.la=none∧c'.lc=0∧c'.bb=none∧c'.raw=[]∧c'.batch=[]) (hb:Blk w' X.cb (gY (X.clients.set i c')).flatten TC) :
  ∃ A' χ',Next A A' χ χ' w w'∧aY A' χ' w' fb { X with clients:=X.clients.set i c',orphans:=X.orphans++sel c.lanes,oa:=oa,oc:=oc }:=by
 let χ':Nat→Tag:=λk=>if isB oa k then .orphs else rR i c.lanes (χ k)
 have t1:∀ k,isB oa k→χ' k=.orphs:=λk hk=>if_pos hk
 have t2:∀ k,¬ isB oa k→χ' k=rR i c.lanes (χ k):=λk hk=>if_neg hk
 have hg:∀ k,k<w.heap.size→χ' k≠.imm→χ k≠.imm:=by
  intro k hlt hcx
  by_cases hb:isB oa k
  ·rcases htag k hb with e | e
   ·rw [e];simp
   ·omega
  ·rw [t2 k hb] at hcx;exact uw hcx
 have hs:∀ k,k<w.heap.size→¬ tdie i (χ k)→χ k≠.imm→χ' k=χ k:=by
  intro k hlt hT _
  by_cases hb:isB oa k
  ·rcases htag k hb with e | e
   ·exact absurd (.inr (.inl e)) hT
   ·omega
  ·rw [t2 k hb]
   exact wq λn e=>hT (.inr (.inr (.inr (by rw [e];rfl))))
 obtain ⟨m,nx⟩:=h.move (T:=tdie i) (χ':=χ') (w':=w') (hk.mono λk _ hc=>by rcases hc with e | e | e<;>simp [tdie,e]) (by simp [tdie,ofC]) hg hs
 have f2:=Owns.moved m h.nodes h.ntag (by simp [tdie,ofC]) (by simp)
 have hcx:=h.client i c hc
 have hnoa:∀ k,k<w.heap.size→χ k≠.orphs→¬ isB oa k:=λk hlt hne hb=>by
  rcases htag k hb with e | e
  ·exact hne e
  ·omega
 have hpb:∀ (j:Nat) (l:cE),c.lanes[j]?=some l→χ l.pb=.lane i j:=λj l hl=>(hcx.lane j l hl).tag _ (.inl rfl)
 refine ⟨_,χ',nx,m.avoid',λk hc=>?_,?_,?_,f2.1,f2.2,λq z hz=>(h.node q z hz).moved m (by simp [tdie,ofC]) (by simp [tdie,ofC]),hb,?_,λq z hz=>?_,hown,t1,λx hx=>?_,?_⟩
 ·rcases hc with hc | hc
  ·by_cases hb:isB oa k
   ·exact hown.lt hb
   ·rw [t2 k hb] at hc
    exact Nat.lt_of_lt_of_le (h.lowt (uw hc)) hk.size
  ·exact Nat.lt_of_lt_of_le hc.1 hk.size
 ·simpa [FabX.cells] using hfab
 ·rw [t2 fb (hnoa fb h.fab.lt (by rw [h.ftag];simp)),h.ftag];rfl
 ·show χ' X.cb=_
  rw [t2 _ (hnoa _ h.cls.lt (by rw [h.ctag];simp)),h.ctag];rfl
 ·simp only [List.getElem?_set] at hz
  split at hz
  ·rename_i he
   subst he
   split at hz
   ·simp only [Option.some.injEq] at hz
    subst hz
    obtain ⟨e1,e2,e3,e4,e5,e6⟩:=hc'
    refine ⟨?_,λk hk=>?_,λj l hl=>?_,λ_=>⟨e5,e6⟩,λb hbb=>?_,?_⟩
    ·rw [e1,e2,e3];exact Owns.nil _ _ _
    ·rw [e2] at hk;obtain ⟨o,ho⟩:=hk;cases ho
    ·rw [e1] at hl;simp at hl
    ·rw [e4] at hbb;cases hbb
    ·rw [e5,e6];exact ⟨rfl,λ_ _ _ hc=>by simp at hc⟩
   ·cases hz
  ·rename_i he
   refine (h.client q z hz).moved m λt h1 h2=>?_
   rcases h2 with e | e | e | e
   ·rw [e] at h1;cases h1
   ·rw [e] at h1;cases h1
   ·rw [e] at h1;cases h1
   ·exact DX he t h1 (.inr e)
 ·rcases List.mem_append.1 hx with hx | hx
  ·exact bP.moved m (h.orphan x hx).1 (h.orphan x hx).2 (by simp [tdie,ofC]) (by simp)
  ·obtain ⟨j,l,hl,rfl,hp⟩:=AT hx
   have hlx:=hcx.lane j l hl
   have hml:∀ k,l.p.mut l.pb k→k<w.heap.size:=λk hk=>h.lowt (by rw [hlx.tag k hk];simp)
   have htg:∀ k,l.p.mut l.pb k→χ' k=.orph l.pb:=λk hk=>by
    rw [t2 k (hnoa k (hml k hk) (by rw [hlx.tag k hk];simp)),hlx.tag k hk]
    exact zw hl hp
   refine ⟨?_,htg⟩
   refine (hlx.pair.recolor (λk hlt hA=>m.old k hlt hA) (λk hk=>m.avoid' k (by rw [htg k hk];simp))).keep hk (λk hk hc=>?_) (λk hc=>m.avoid' k ?_)
   ·rw [hlx.tag k hk] at hc
    rcases hc with e | e | e<;>cases e
   ·by_cases hb:isB oa k
    ·rw [t1 k hb];simp
    ·rw [t2 k hb]
     rcases hc with e | e | e<;>rw [e]<;>simp [rR]
 ·show ((X.orphans++sel c.lanes).map Prod.fst).Nodup
  rw [List.map_append,List.nodup_append]
  refine ⟨h.nodup,(Et c.lanes).nodup ?_,?_⟩
  ·refine List.pairwise_iff_getElem.2 λa b ha hb hab he=>?_
   simp only [List.length_map] at ha hb
   simp only [List.getElem_map] at he
   have h1:=hpb a _ (List.getElem?_eq_getElem ha)
   have h2:=hpb b _ (List.getElem?_eq_getElem hb)
   rw [he,h2] at h1
   simp at h1 <;> omega
  ·intro a ha b hb he
   obtain ⟨x,hx,rfl⟩:=List.mem_map.1 ha
   obtain ⟨y,hy,rfl⟩:=List.mem_map.1 hb
   obtain ⟨j,l,hl,rfl,hp⟩:=AT hy
   have h1:=(h.orphan x hx).2 x.1 (.inl rfl)
   have h2:=hpb j l hl
   rw [he,h2] at h1
   cases h1
set_option maxHeartbeats 1600000 in
theorem GS {A:Nat→Prop} {χ:Nat→Tag} {w:World} {fb:Nat} {X:FabX} (h:aY A χ w fb X) (hok:vj X.pure) (hob:X.orphans.length≤100000000) (c:Int):Does 46 [ptr fb,.int .i64 c] w λv w'=>
  v=.bool (X.pure.die c).1∧dD A χ w fb (X.pure.die c).2 w' λ_=>True:=by
 refine does Tryz.func46 ?_
 rw [ptr,oT]
 refine aE (AM h c) ?_
 rintro v w1 ⟨rfl,rfl⟩
 rcases X.cl_cases c with ⟨h1,h2⟩ | ⟨i,x,rfl,h1,h2⟩
 ·have hd:X.pure.die c=(false,X.pure):=by simp [Fab.die,h1]
  have ha:X.pure.alive c=false:=by simp [Fab.alive,h1]
  rw [hd,ha]
  exact ⟨_,rfl,rfl,dD.same h (Keep.refl _ _) trivial⟩
 ·have ha:X.pure.alive i=x.alive:=by simp [Fab.alive,h2,aZ.pure]
  rw [ha]
  refine ⟨_,rfl,dN (λhf=>?_) (λht=>?_)⟩
  ·have hd:X.pure.die i=(false,X.pure):=by simp [Fab.die,h2,aZ.pure,hf]
   rw [hd]
   exact ⟨rfl,dD.same h (Keep.refl _ _) trivial⟩
  refine aE (gB h h1) ?_
  rintro v w2 ⟨rfl,rfl⟩
  have hd:X.pure.die i=(true,{ X.pure with orphans:=X.pure.orphans++(x.pure.lanes.map Lane.pair).filter (λp=>decide (0<p.verbs.length)),clients:=X.pure.clients.set i { x.pure with alive:=false,lanes:=[],batch:=none,waiting:=0 } }):=by
   simp [Fab.die,h2,aZ.pure,ht]
  rw [hd]
  refine ⟨_,rfl,_,_,_,h.ccell (k:=2) h1 rfl,?_⟩
  refine CF h hok hob h1 ?_
  intro u oa oc os I jj
  rw [lL]
  have hos:os=X.orphans++sel x.lanes:=by
   have:=I.eq
   rw [List.drop_length] at this
   simpa [sel] using this
  subst hos
  have hcls:Blk u X.cb (gY X.clients).flatten TC:=I.keep.blk h.cls (by rw [h.ctag];simp)
  refine ⟨⟨_,mh (k:=0) hcls h1 rfl⟩,hcls.frozen,?_⟩
  intro w3 hw3
  obtain ⟨hcls3,hcl3⟩:=jw (k:=0) (c':={ x with alive:=false }) hcls h1 (by omega) (v:=.bool false) (by simp [aZ.cells])
  have hw3':w3=u.setCell ⟨X.cb,0+i * 7+0,none⟩ (.bool false):=hw3
  rw [←hw3'] at hcls3
  have hk3:Keep (λz=>z=X.cb) u w3:=by rw [hw3'];exact aR _ _ _ _
  clear hw3 hw3'
  refine ⟨⟨_,mh (k:=2) hcls3 hcl3 rfl⟩,hcls3.frozen,?_⟩
  intro w4 hw4
  obtain ⟨hcls4,hcl4⟩:=jw (k:=2) (c':={ x with alive:=false,lanes:=[],la:=none,lc:=0 }) hcls3 hcl3 (by omega) (v:=.slice none 0 0) (by simp [aZ.cells])
  rw [←hw4] at hcls4
  have hk4:Keep (λz=>z=X.cb) w3 w4:=by rw [hw4];exact aR _ _ _ _
  clear hw4
  refine ⟨⟨_,mh (k:=3) hcls4 hcl4 rfl⟩,hcls4.frozen,?_⟩
  intro w5 hw5
  obtain ⟨hcls5,hcl5⟩:=jw (k:=3) (c':={ x with alive:=false,lanes:=[],la:=none,lc:=0,bb:=none,raw:=[],batch:=[] }) hcls4 hcl4 (by omega) (v:=.slice none 0 0) (by simp [aZ.cells])
  rw [←hw5] at hcls5
  have hk5:Keep (λz=>z=X.cb) w4 w5:=by rw [hw5];exact aR _ _ _ _
  clear hw5
  refine ⟨⟨_,mh (k:=4) hcls5 hcl5 rfl⟩,hcls5.frozen,?_⟩
  intro w6 hw6
  obtain ⟨hcls6,hcl6⟩:=jw (k:=4) (c':={ x with alive:=false,lanes:=[],la:=none,lc:=0,bb:=none,raw:=[],batch:=[],waiting:=0 }) hcls5 hcl5 (by omega) (v:=.int .i64 0) (by simp [aZ.cells])
  rw [←hw6] at hcls6
  have hk6:Keep (λz=>z=X.cb) w5 w6:=by rw [hw6];exact aR _ _ _ _
  clear hw6
  rw [bN,bN,bN] at hcls6
  have hk36:Keep (λz=>z=X.cb) u w6:=((hk3.trans hk4 λ_ _ h=>h).trans hk5 λ_ _ h=>h).trans hk6 λ_ _ h=>h
  have hkall:Keep (λz=>χ z=.fab∨χ z=.orphs∨χ z=.clients) w2 w6:=(I.keep.mono λz _ hz=>hz.elim .inl λe=>.inr (.inl e)).trans hk36 λz _ e=>.inr (.inr (by rw [e];exact h.ctag))
  have hne:∀ z,isB oa z→z≠X.cb:=λz hz e=>by
   rcases I.tag z hz with e' | e'
   ·rw [e,h.ctag] at e';cases e'
   ·have:=h.cls.lt;omega
  have hfc:fb≠X.cb:=λe=>by have:=h.ftag;rw [e,h.ctag] at this;cases this
  obtain ⟨A',χ',nx,hF⟩:=h.die (c':={ x with alive:=false,lanes:=[],la:=none,lc:=0,bb:=none,raw:=[],batch:=[],waiting:=0 }) h1 hkall (hk36.blk I.fab hfc) (I.own.keep hk36 hne) I.tag ⟨rfl,rfl,rfl,rfl,rfl,rfl⟩ hcls6
  refine ⟨rfl,A',χ',_,nx,hF,?_,trivial⟩
  simp only [FabX.pure,List.map_append,List.map_set,CE]
  rfl
end Go.Proofs.YtegepanmkjemjaaGreat
