import Derived.Test.YtegepanmkjemjaaGreatq19
set_option linter.unusedVariables false
namespace Go.Proofs.YtegepanmkjemjaaGreat
open Go.Proofs.Tryz
open Go.Eng
def oO (d:Done):Int:=d.words.headD 0
def fitP (v:Verb) (d:Done):Bool:=if d.code=0 then decide ((d.words.length:Int)=v.v.rets) else if d.code=4∨d.code=5 then decide (d.words.length=0) else false
def fitL (vs:List Verb) (ds:List Done):Bool:=decide (vs.length=ds.length) && (vs.zip ds).all λp=>fitP p.1 p.2
structure BRes where
 done:List Done
 ok:Bool
 got:List (List Done)
 ask:Option (List Verb)
 wrong:Bool
def batch (G:List (List Done)) (vs:List Verb):BRes:=
 if vs.length=0 then ⟨[],true,G,none,false⟩ else match G with
 | []=>⟨[],false,[],some vs,false⟩
 |d::G'=>if fitL vs d then ⟨d,true,G',none,false⟩ else ⟨[],false,d::G',none,true⟩
abbrev TTk:TypeId:=224
theorem Bf {M:Nat→Prop} {w:World} {d:bE} {x:Done} (h:jk M w d x):Does 167 [d.val] w λv w'=>v=.int .u64 (oO x)∧New w w':=by
 refine does Tryz.func167 ?_
 refine Eq.mpr (sW d.Code d.Words d.Wl d.Wc w _) ?_
 rintro b1 w1 hb1 hw1
 obtain ⟨hz,hn⟩:=aM hb1 hw1
 have hl:=h.len
 refine ⟨_,_,_,hz.cell rfl,bI (λh0=>?_) (λh0=>⟨_,_,_,hz.cell rfl,?_⟩)⟩
 ·have:x.words=[]:=List.eq_nil_of_length_eq_zero (by omega)
  refine ⟨by simp [oO,this],hn⟩
 ·cases hx:x.words with
  |nil=>rw [hx] at hl;simp at hl;omega
  |cons y ys=>
   have hr:=h.rd.new hn
   rw [hx] at hr
   rcases hr with hr | ⟨b,o,he,hc⟩
   ·cases hr
   rw [he]
   refine aZ (by omega) (by omega) ⟨y,?_,by simp [oO,hx],hn⟩
   exact hc 0 _ rfl
structure TkX where
 ga:Option Addr
 gl:Nat
 gc:Nat
 aa:Option Addr
 al:Nat
 ac:Nat
 wrong:Bool
def TkX.cells (T:TkX):List Value:=[.slice T.ga T.gl T.gc,.slice T.aa T.al T.ac,.bool T.wrong]
structure Row where
 a:Option Addr
 c:Nat
 raw:List bE
def oP (rows:List Row):List Value:=rows.map λr=>.slice r.a r.raw.length r.c
def lj (A:Nat→Prop) (w:World) (a:Option Addr) (G:List (List Done)):Prop:=
 ∃ rows:List Row,rows.length=G.length∧Rd w a (oP rows)∧(oP rows=[]∨Off A a)∧
  ∀ (i:Nat) (r:Row) (ds:List Done),rows[i]?=some r→G[i]?=some ds→Rd w r.a (jv r.raw).flatten∧((jv r.raw).flatten=[]∨Off A r.a)∧Ds A w r.raw ds∧ds.length≤1024
theorem lj.nil (A:Nat→Prop) (w:World) (a:Option Addr):lj A w a []:=⟨[],rfl,.inl rfl,.inl rfl,λi r ds h=>by simp at h⟩
theorem lj.head {A:Nat→Prop} {w:World} {a:Option Addr} {d:List Done} {G:List (List Done)} (h:lj A w a (d::G)) :
  ∃ (b o:Nat) (r:Row),a=some ⟨b,o,none⟩∧w.cell? ⟨b,o,none⟩=some (.slice r.a r.raw.length r.c)∧Rd w r.a (jv r.raw).flatten∧Ds A w r.raw d∧d.length≤1024∧lj A w (some ⟨b,o+1,none⟩) G:=by
 obtain ⟨rows,hl,hr,ho,hd⟩:=h
 cases rows with
 |nil=>simp at hl
 |cons r rows=>
  rcases hr with hr | ⟨b,o,rfl,hc⟩
  ·simp [oP] at hr
  ·obtain ⟨h1,h2,h3,h4⟩:=hd 0 r d rfl rfl
   refine ⟨b,o,r,rfl,hc 0 _ rfl,h1,h3,h4,rows,by simpa using hl,?_,?_,λi r' ds h5 h6=>hd (i+1) r' ds (by simpa using h5) (by simpa using h6)⟩
   ·refine .inr ⟨b,o+1,rfl,λj u hu=>?_⟩
    rw [Nat.add_assoc,Nat.add_comm 1 j]
    exact hc (j+1) u (by simpa [oP] using hu)
   ·rcases ho with ho | ho
    ·simp [oP] at ho
    ·exact .inr ho
theorem Bg {M A:Nat→Prop} {w w':World} {v:aK} {x:Verb} {d:bE} {y:Done} (hv:bG M w v x) (h:jk A w' d y):fits v d=fitP x y:=by
 unfold fits fitP
 rw [h.code,h.len,hv.eq]
 rfl
theorem xX {M A:Nat→Prop} {w w':World} {raws:List aK} {vs:List Verb} {raw:List bE} {ds:List Done} (hv:Vs M w raws vs) (h:Ds A w' raw ds):qE raws raw=fitL vs ds:=by
 unfold qE fitL
 rw [h.1,hv.1]
 congr 1
 obtain ⟨h1,h2⟩:=h
 obtain ⟨k1,k2⟩:=hv
 induction vs generalizing raw ds raws with
 |nil=>
  cases raws with
  |nil=>simp
  |cons=>simp at k1
 |cons v vs ih=>
  cases raws with
  |nil=>simp at k1
  |cons rv raws=>
   cases raw with
   |nil=>cases ds with
    |nil=>simp
    |cons=>simp at h1
   |cons r raw=>cases ds with
    |nil=>simp at h1
    |cons d ds=>
     simp only [List.zip_cons_cons,List.all_cons]
     rw [Bg (k2 0 rv v rfl rfl) (h2 0 r d rfl rfl),ih (by simpa using h1) (λi v x hv hx=>h2 (i+1) v x (by simpa using hv) (by simpa using hx)) (by simpa using k1) λi v x hv hx=>k2 (i+1) v x (by simpa using hv) (by simpa using hx)]
theorem vy {vs:List Verb} {ds:List Done} (h:fitL vs ds=true):vs.length=ds.length:=by
 unfold fitL at h
 simp at h
 exact h.1
theorem oQ {G:List (List Done)} {vs:List Verb}:(batch G vs).done.length≤vs.length:=by
 unfold batch
 split
 ·simp
 ·cases G with
  |nil=>simp
  |cons d G=>
   simp only
   split
   ·rename_i h;rw [vy h];exact Nat.le_refl _
   ·simp
theorem Bh {A:Nat→Prop} {w0 u:World} {tb:Nat} {T:TkX} {G:List (List Done)} (hn:New w0 u) (hl:w0.heap.size≤tb) (hb:Blk u tb T.cells TTk) (hg:lj A w0 T.ga G) (hgl:T.gl=G.length) (hgc:T.gl≤T.gc)
  {M:Nat→Prop} {raws:List aK} {vs:List Verb} {aa:Option Addr} {ac:Nat} (hr:Rd u aa (eh raws).flatten) (hvs:Vs M u raws vs) (hvl:vs.length≤1000000) :
  Does 98 [ptr tb,.slice aa raws.length ac] u λv u'=>∃ (T':TkX) (da:Option Addr) (dc:Nat) (raw:List bE),v=.tuple #[.slice da raw.length dc,.bool (batch G vs).ok]∧Blk u' tb T'.cells TTk∧Keep (λk=>k=tb) u u'∧
   Rd w0 da (jv raw).flatten∧Ds A w0 raw (batch G vs).done∧lj A w0 T'.ga (batch G vs).got∧T'.gl=(batch G vs).got.length∧T'.gl≤T'.gc∧T'.wrong=(T.wrong || (batch G vs).wrong)∧
   (match (batch G vs).ask with | none=>T'.aa=T.aa∧T'.al=T.al∧T'.ac=T.ac | some _=>T'.aa=aa∧T'.al=vs.length∧T'.ac=ac):=by
 refine does Tryz.func98 ?_
 rw [ptr,oq]
 rw [hvs.1]
 have hds0:Ds A w0 [] []:=⟨rfl,λi v x hv=>by simp at hv⟩
 unfold batch
 refine bI (λh0=>?_) (λh0=>⟨_,_,_,hb.cell rfl,bI (λh1=>?_) (λh1=>?_)⟩)
 ·have hv0:vs.length=0:=by omega
  rw [if_pos hv0]
  exact ⟨T,none,0,[],rfl,hb,Keep.refl _ _,.inl rfl,hds0,hg,hgl,hgc,by simp,rfl,rfl,rfl⟩
 ·have hv0:¬ vs.length=0:=by omega
  have hG:G=[]:=List.eq_nil_of_length_eq_zero (by omega)
  subst hG
  rw [if_neg hv0]
  refine ⟨⟨_,hb.cell rfl⟩,hb.frozen,?_⟩
  rintro u1 rfl
  exact ⟨{ T with aa:=aa,al:=vs.length,ac:=ac },none,0,[],rfl,hb.setCell _,aO _ _ _ _,.inl rfl,hds0,lj.nil _ _ _,hgl,hgc,by simp,rfl,rfl,rfl⟩
 ·have hv0:¬ vs.length=0:=by omega
  rw [if_neg hv0]
  cases G with
  |nil=>simp at hgl;omega
  |cons d G'=>
   simp only
   obtain ⟨b,o,r,ha,hc,hrd,hds,hdl,htl⟩:=hg.head
   have hne:b≠tb:=by
    have h1:b<w0.heap.size:=by
     have:=hc
     unfold World.cell? at this
     by_cases hlt:b<w0.heap.size
     ·exact hlt
     ·simp [Array.getElem?_eq_none (Nat.le_of_not_lt hlt)] at this
    omega
   have hcell:∀ z,New w0 z→z.cell? ⟨b,o,none⟩=some (.slice r.a r.raw.length r.c):=by
    intro z hz
    have h2:Rd w0 (some ⟨b,o,none⟩) [.slice r.a r.raw.length r.c]:=.inr ⟨b,o,rfl,λj u hu=>by
     cases j with
     |zero=>simp at hu;subst hu;exact hc
     |succ j=>simp at hu⟩
    exact (h2.new hz).cell (j:=0) rfl
   refine ⟨_,_,_,hb.cell rfl,?_⟩
   rw [ha]
   refine aZ (by omega) (by omega) ?_
   refine ⟨_,_,_,hcell u hn,?_⟩
   have hfit:qE raws r.raw=fitL vs d:=xX hvs hds
   have hrl:=hds.1
   have hlen:raws.length=vs.length:=hvs.1
   rw [←hlen]
   refine aE (Dp hr (hrd.new hn) (by omega) (by omega)) ?_
   rintro v u2 ⟨rfl,hn2⟩
   rw [hfit]
   refine ⟨_,rfl,dG (λhf=>?_) (λhf=>?_)⟩
   ·have hb2:=New.blk hn2 hb
    rw [hf]
    refine ⟨⟨_,hb2.cell rfl⟩,hb2.frozen,?_⟩
    rintro u3 rfl
    exact ⟨{ T with wrong:=true },none,0,[],rfl,hb2.setCell _,(Keep.of_new hn2).trans (aO _ _ _ _) (λ_ _ h=>h),.inl rfl,hds0,hg,hgl,hgc,by simp,rfl,rfl,rfl⟩
   ·rw [hf]
    rintro u3 hu3
    have hn3:New u u3:=by rw [hu3];exact hn2.drew
    have hb3:=New.blk hn3 hb
    refine ⟨λz=>New u3 z,Keep.refl _ _,_,_,_,λz hz=>(New.blk hz hb3).cell rfl,?_⟩
    rw [ha]
    refine aZ (by omega) (by omega) ?_
    refine ⟨_,_,_,λz hz=>hcell z ((hn.new hn3).new hz),_,_,_,λz hz=>(New.blk hz hb3).cell rfl,?_⟩
    rw [ha]
    refine ⟨by omega,by omega,by omega,by omega,by omega,⟨_,hb3.cell rfl⟩,hb3.frozen,?_⟩
    rintro u4 rfl
    have hgl':T.gl=G'.length+1:=by simpa using hgl
    refine ⟨{ T with ga:=if (T.gc:Int)=1 then some ⟨b,o,none⟩ else (some ⟨b,o,none⟩:Option Addr).map (·.add (Int.toNat 1 * 1)),gl:=Int.toNat T.gl - Int.toNat 1,gc:=Int.toNat T.gc - Int.toNat 1 },r.a,r.c,r.raw,rfl,hb3.setCell _,(Keep.of_new hn3).trans (aO _ _ _ _) (λ_ _ h=>h),hrd,hds,?_,?_,?_,by simp,rfl,rfl,rfl⟩
    ·show lj A w0 (if (T.gc:Int)=1 then _ else _) G'
     split
     ·have:G'=[]:=List.eq_nil_of_length_eq_zero (by omega)
      rw [this]
      exact lj.nil _ _ _
     ·exact htl
    ·show Int.toNat (T.gl:Int) - Int.toNat 1=G'.length
     omega
    ·show Int.toNat (T.gl:Int) - Int.toNat 1≤Int.toNat (T.gc:Int) - Int.toNat 1
     omega
abbrev TSV:TypeId:=128
theorem Bi {u:World} {a:Option Addr} {n cap:Nat} {xs:List Value} (ho:Owns u TV 9 a n cap xs) {v:aK} (hb1:n≤1000000000) {K:Nat→Option Addr→Nat→Nat→World→Prop}
  (hk:∀ b ap cap' w3,b=u.heap.size→Owns w3 TV 9 ap (n+1) cap' (xs++v.cells)→Keep (isB a) u w3→(∀ k,isB ap k→isB a k∨u.heap.size≤k)→K b ap (n+1) cap' w3) :
  ∀ b1 w2,b1=u.heap.size→w2=u.alloc (.cells v.cells.toArray TV)→∃ (ap:Option Addr) (ap_len ap_cap:Nat),∃ w3,(Builtin.append_ #[TSV,TSV] TSV #[(.slice a n cap),(.slice (some ⟨b1,0,none⟩) 1 1)]).run prog w2=.ok (.slice ap ap_len ap_cap) w3∧K b1 ap ap_len ap_cap w3:=by
 obtain ⟨inf,hi,hz,hsz,hby⟩:=iR (T:=TV) (z:=.agg #[.int .i64 0,.int .i64 0,.int .i64 0,.int .i64 0,.int .u64 0,.int .u64 0,.slice none 0 0,.int .u64 0,.int .i64 0]) (n:=9) (m:=88) (by kernel_rfl)
 rw [←hsz] at ho
 refine push_k Tryz.underlying128 hi hz (by rw [hsz];rfl) (by omega) ho (by rw [hsz];rfl) (aK.single v) hb1 (by omega) ?_
 intro b ap cap' w3 h1 h2
 rw [hsz] at h2
 exact hk b ap cap' w3 h1 h2
theorem xY {G:List (List Done)} {vs ws:List Verb} (h:(batch G vs).ask=some ws):ws=vs:=by
 unfold batch at h
 split at h
 ·cases h
 ·cases G with
  |nil=>simp at h;exact h.symm
  |cons d G'=>
   simp only at h
   split at h<;>cases h
theorem zp {G:List (List Done)} {vs:List Verb} (h:(batch G vs).ok=true):(batch G vs).ask=none∧(batch G vs).wrong=false:=by
 unfold batch at h ⊢
 split
 ·exact ⟨rfl,rfl⟩
 ·rename_i hv
  rw [if_neg hv] at h
  cases G with
  |nil=>simp at h
  |cons d G'=>
   simp only at h ⊢
   split
   ·exact ⟨rfl,rfl⟩
   ·rename_i hf
    rw [if_neg hf] at h
    simp at h
theorem CH (w:World) (ga:Option Addr) (gl gc:Nat):Does 97 [.slice ga gl gc] w λv w'=>∃ tb,v=ptr tb∧w.heap.size≤tb∧Blk w' tb (TkX.cells ⟨ga,gl,gc,none,0,0,false⟩) TTk∧New w w':=by
 refine does Tryz.func97 ?_
 rw [ux]
 rintro b1 w1 hb1 hw1
 obtain ⟨hz,hn⟩:=aM hb1 hw1
 exact ⟨b1,rfl,by omega,hz,hn⟩
end Go.Proofs.YtegepanmkjemjaaGreat
