import Derived.Test.YtgpmeaicjonenaaGreata23
set_option linter.unusedVariables false
namespace Go.Proofs.YtgpmeaicjonenaaGreat
open Go.Proofs.Tryz
open Go.Eng
theorem eJ {b k o1 o2:Nat} (h:(some ⟨b,o1,none⟩:Option Addr)=some ⟨k,o2,none⟩):b=k∧o1=o2:=by
 injection h with h
 injection h with h1 h2
 exact ⟨h1,h2⟩
theorem Blk.get {w:World} {b i:Nat} {cs:List Value} {T:TypeId} {v:Value} (h:Blk w b cs T) (hc:w.cell? ⟨b,i,none⟩=some v):cs[i]?=some v:=by
 unfold World.cell? at hc
 simp only [show w.heap[(⟨b,i,none⟩:Addr).block]?=_ from h] at hc
 simpa using hc
theorem VB.keep_co {w0 u u':World} {a:Option Addr} {n cap:Nat} {vs:List Verb} (h:VB w0 u a n cap vs) {b:Nat} {o:aA} (hb:Blk u b o.cells TCO) (hk:Keep (λk=>k=b) u u'):VB w0 u' a n cap vs:=by
 obtain ⟨⟨raws,ho,hv⟩,hl,hf⟩:=h
 have hab:¬ isB a b:=λe=>by
  obtain ⟨cs,hcs⟩:=dU ho e
  exact hcs.ne hb (by decide) rfl
 refine ⟨⟨raws,ho.keep hk λk hk e=>hab (e▸hk),hv.1,λi v x h1 h2=>?_⟩,hl,hf⟩
 have hx:=hv.2 i v x h1 h2
 have hx2:bI (λk=>k=b∨(k<w0.heap.size∨isB a k)) u v x:=by
  refine ⟨hx.eq,hx.rd,hx.nil,?_,hx.wf,hx.new,hx.old,hx.key,hx.boot,hx.cap,hx.wlen⟩
  by_cases he:x.words=[]
  ·exact .inl he
  ·right
   have hoff:=hx.off.resolve_left he
   have hrd:=hx.rd
   cases hw:v.Words with
   |none=>trivial
   |some ad=>
    rw [hw] at hoff hrd
    rintro (e | e)
    ·obtain ⟨y,ys,hys⟩:=List.exists_cons_of_ne_nil he
     rcases hrd with hr | ⟨b',o',e2,hc⟩
     ·rw [hys] at hr;cases hr
     ·simp only [Option.some.injEq] at e2
      subst e2
      have e:b'=b:=e
      subst e
      have h0:=hc 0 (.int .u64 y) (by rw [hys];rfl)
      rw [Nat.add_zero] at h0
      have h1:=Blk.get hb h0
      rcases o' with _ | _ | o'
      ·cases h1
      ·cases h1
      ·cases h1
    ·exact hoff e
 exact (hx2.keep (hk.mono λk _ e=>.inl e) λ_ _ e=>e).mono λk e=>.inr e
theorem jk.put_co {A:Nat→Prop} {w0 u u1 u2 u3 u4:World} {tb B B' b:Nat} {R:SR} (h:jk A w0 u1 tb B R u2) (hn:New u u1) (hn2:New u2 u3) {o:aA} (ho:Blk u3 b o.cells TCO) (hk:Keep (λk=>k=b) u3 u4) (hb:u.heap.size≤b) (hbt:b≠tb) (hB:B'≤B):jk A w0 u tb B' R u4:=by
 obtain ⟨hk1,T',ht,hw,ha⟩:=h
 refine ⟨(((Keep.of_new hn).trans hk1 λ_ _ e=>e).new hn2).trans hk λk hlt e=>by omega,T',(ht.new hn2).keep hk λe=>hbt e.symm,hw,?_⟩
 cases hR:R.ask with
 |none=>rw [hR] at ha;exact ha
 |some vs=>
  rw [hR] at ha
  obtain ⟨h0,w1,h1,h2,h3⟩:=ha
  exact ⟨h0,w1,h1,by omega,(h3.new hn2).keep_co ho hk⟩
def PV (M:Nat→Prop) (w:World) (a:Option Addr) (n:Nat) (vs:List Verb):Prop:=∃ raws:List aJ,Rd w a (eC raws).flatten∧Vs M w raws vs∧n=vs.length
theorem PV.new {M:Nat→Prop} {w w':World} {a:Option Addr} {n:Nat} {vs:List Verb} (h:PV M w a n vs) (hn:New w w'):PV M w' a n vs:=by
 obtain ⟨raws,h1,h2,h3⟩:=h
 exact ⟨raws,h1.new hn,h2.keep (Keep.of_new hn) λ_ _ e=>e,h3⟩
theorem VB.pv {w0 u:World} {a:Option Addr} {n cap:Nat} {vs:List Verb} (h:VB w0 u a n cap vs) {M:Nat→Prop} (hM:∀ k,k<u.heap.size→M k→k<w0.heap.size):PV M u a n vs:=by
 obtain ⟨⟨raws,ho,hv⟩,hl,hf⟩:=h
 exact ⟨raws,ho.rd,hv.keep (Keep.refl _ _) λk hlt e=>.inl (hM k hlt e),hl⟩
theorem PV.wide {M M':Nat→Prop} {w w':World} {a:Option Addr} {n:Nat} {vs:List Verb} (h:PV M w a n vs) (hn:New w w') (hM:∀ k,k<w.heap.size→M' k→M k):PV M' w' a n vs:=by
 obtain ⟨raws,h1,h2,h3⟩:=h
 refine ⟨raws,h1.new hn,?_,h3⟩
 have h4:Vs M' w raws vs:=h2.keep (Keep.refl _ _) hM
 exact h4.keep (Keep.of_new hn) λ_ _ e=>e
theorem VB.app2_e {w0 u1:World} {a a2:Option Addr} {n n2 cap c2:Nat} {vs vs2:List Verb} (h:VB w0 u1 a n cap vs) (h0:New w0 u1) (h2:PV (λk=>k<w0.heap.size∨isB a k) u1 a2 n2 vs2) (hf:n+n2≤100000) {K:Option Addr→Nat→Nat→World→Prop}
  (hk:∀ ap cap' w3,VB w0 w3 ap (n+n2) cap' (vs++vs2)→Keep (isB a) u1 w3→New w0 w3→K ap (n+n2) cap' w3) :
  ∃ (ap:Option Addr) (ap_len ap_cap:Nat),∃ w3,(Builtin.append_ #[TSV,TSV] TSV #[(.slice a n cap),(.slice a2 n2 c2)]).run prog u1=.ok (.slice ap ap_len ap_cap) w3∧K ap ap_len ap_cap w3:=by
 obtain ⟨⟨raws,ho,hvs⟩,hl,hfr⟩:=h
 obtain ⟨raws2,ho2,hvs2,hl2⟩:=h2
 obtain ⟨inf,hi,hz,hsz,hby⟩:=iF (T:=TV) (z:=.agg #[.int .i64 0,.int .i64 0,.int .i64 0,.int .i64 0,.int .u64 0,.int .u64 0,.slice none 0 0,.int .u64 0,.int .i64 0]) (n:=9) (m:=88) (by kernel_rfl)
 have hs0:=h0.size
 refine tB (cells:=aJ.cells) (sz:=9) aJ.len aJ.single Tryz.underlying140 hi hz (by rw [hsz];rfl) hsz (by decide) (by rw [hby];decide) (l:=raws) (by rw [pU];exact ho) (l2:=raws2) (m:=n2) (by rw [pU];exact ho2) (by rw [hvs2.1];exact hl2) (by omega) λap cap' w3 h1 hk3 hap=>?_
 have hapf:∀ k,isB ap k→w0.heap.size≤k:=λk hk=>by
  rcases hap k hk with e | e
  ·exact hfr k e
  ·omega
 have hst:∀ k,k<u1.heap.size→(k<w0.heap.size∨isB ap k)→(k<w0.heap.size∨isB a k):=λk hlt e=>e.imp id λe=>by
  rcases hap k e with e | e
  ·exact e
  ·omega
 exact hk ap cap' w3 ⟨⟨raws++raws2,h1,Vs.app (hvs.keep (hk3.mono λk _ e=>.inr e) hst) (hvs2.keep (hk3.mono λk _ e=>.inr e) hst)⟩,by rw [List.length_append,hl,hl2],hapf⟩ hk3 (h0.trans hk3 λk hlt e=>by have:=hfr k e;omega)
theorem VB.box {u3 w w':World} {v:aJ} {x:Verb} (hn:New u3 w) (hv:bI (λk=>k<u3.heap.size) w v x) {b:Nat} (hb:b=w.heap.size) (hw:w'=w.alloc (.cells v.cells.toArray TV)):VB u3 w' (some ⟨b,0,none⟩) 1 1 [x]∧New w w':=by
 obtain ⟨hz,hnw⟩:=aO hb hw
 have hz:Blk w' b v.cells TV:=hz
 have hs:=hn.size
 refine ⟨⟨⟨[v],⟨rfl,.inr ⟨b,_,rfl,hz,by omega,by decide,rfl,by rw [show (eC [v]).flatten=v.cells by simp [eC]];rfl⟩⟩,Vs.one ?_⟩,rfl,λk hk=>by obtain ⟨o,ho⟩:=hk;simp at ho <;> omega⟩,hnw⟩
 have h1:bI (λk=>k<u3.heap.size∨isB (some ⟨b,0,none⟩) k) w v x:=hv.keep (Keep.refl _ _) λk hlt e=>by
  rcases e with e | ⟨o,ho⟩
  ·exact e
  ·exfalso
   have hbk:b=k∧0=o:=eJ ho
   omega
 exact h1.keep (Keep.of_new hnw) λ_ _ e=>e
def finV (j:CJob):List Verb:=match j.v.mem with
 |m::_=>l5 j m::j.writes.map (nB j m)
 | []=>[]
def finM (j:CJob) (G:List (List Done)):SR:=if j.writes=[] then ow G else bL G (finV j) 3
structure FS (A:Nat→Prop) (w0 u3:World) (cb tb b1:Nat) (r:aL) (m0:aE) (j:CJob) (T:TkX) (G:List (List Done)) (w:World):Prop where
 com:fN w0 w cb tb r m0 j
 tk:TkAt A w0 w tb T G
 b1:Blk w b1 (aA.cells ⟨0,0⟩) TCO
 new:New u3 w
theorem FS.new' {A:Nat→Prop} {w0 u3 w w':World} {cb tb b1:Nat} {r:aL} {m0:aE} {j:CJob} {T:TkX} {G:List (List Done)} (h:FS A w0 u3 cb tb b1 r m0 j T G w) (hn:New w w'):FS A w0 u3 cb tb b1 r m0 j T G w':=
 ⟨h.com.new' hn,h.tk.new hn,New.blk hn h.b1,h.new.new hn⟩
theorem FS.keep {A:Nat→Prop} {w0 u3 w w':World} {cb tb b1:Nat} {r:aL} {m0:aE} {j:CJob} {T:TkX} {G:List (List Done)} (h:FS A w0 u3 cb tb b1 r m0 j T G w) {M:Nat→Prop} (hk:Keep M w w') (hM:∀ k,M k→u3.heap.size≤k) (hc:cb<u3.heap.size) (ht:tb<u3.heap.size) (hb:b1<u3.heap.size) (h0:w0.heap.size≤u3.heap.size):FS A w0 u3 cb tb b1 r m0 j T G w':=
 ⟨h.com.keep hk λk e=>by have:=hM k e;omega,h.tk.keep hk λe=>by have:=hM _ e;omega,hk.blk h.b1 λe=>by have:=hM _ e;omega,h.new.trans hk λk hlt e=>by have:=hM k e;omega⟩
section
variable {A:Nat→Prop} {w0 u u3:World} {cb tb b1:Nat} {r:aL} {m0:aE} {j:CJob} {T:TkX} {G:List (List Done)}
theorem E1 (h0:New u u3) (hc:cb<u3.heap.size) (ht:tb<u3.heap.size) (hb:b1<u3.heap.size) (hbu:u.heap.size≤b1) (hbt:b1≠tb) (hw3:New w0 u3) (hcl:ou T) {R:Value→World→Prop} (hR:∀ v w',pT A w0 u tb u.heap.size (bL G (finV j) 3) v w'→R v w') {w:World} (hf:FS A w0 u3 cb tb b1 r m0 j T G w) {a:Option Addr} {n cap:Nat} (hv:VB u3 w a n cap (finV j)) (hl:n≤100000) :
  Calls prog 235 #[(.pointer (some ⟨cb,0,none⟩)),(.slice a n cap),(.int .i64 3)] w λe w8=>∃ (k:Option Addr) (l m:Nat),aA.ex λcz=>∃ (n:Bool),e=.returned (.tuple #[(.slice k l m),cz.val,(.bool n)])∧Blk w8 cb (comC r tb m0) TCm∧∀ b3 w9,b3=w8.heap.size→w9=w8.alloc (.cells #[(.int .i64 0),(.int .i64 0)] TCO)→Blk w9 cb (comC r tb m0) TCm∧wrAt w9 ⟨b3,0,none⟩ 0 cz.cells∧∀ c0,c0=puts w9 ⟨b3,0,none⟩ 0 cz.cells→aA.ex λr=>aC c0 ⟨b3,0,none⟩ 0 r.cells∧wrAt c0 ⟨b1,0,none⟩ 0 r.cells∧∀ c1,c1=puts c0 ⟨b1,0,none⟩ 0 r.cells→aA.ex λc2=>aC c1 ⟨b1,0,none⟩ 0 c2.cells∧c1=c1∧R (.tuple #[c2.val,(.bool n)]) c1:=by
 have hcall:=tD (A:=A) hf.com hf.tk hcl hw3 ht hv (by have:=hv.len;omega) 3
 refine aF hcall ?_
 rintro v w8 ⟨da,dc,raw,rfl,hsp,_⟩
 refine ⟨_,_,_,aA.mk_ex ⟨(bL G (finV j) 3).out.1,(bL G (finV j) 3).out.2⟩ ⟨_,rfl,?_⟩⟩
 have hcb8:Blk w8 cb (comC r tb m0) TCm:=hsp.keep.blk hf.com.blk hf.com.ne
 refine ⟨hcb8,?_⟩
 rintro b3 w9 hb3 hw9
 obtain ⟨hz9,hn9⟩:=aO hb3 hw9
 have hz9:Blk w9 b3 (aA.cells ⟨0,0⟩) TCO:=hz9
 clear hw9
 have hs8:=hsp.keep.size
 have hsw:=hf.new.size
 have hs0:=h0.size
 refine ⟨New.blk hn9 hcb8,il hz9 rfl (aA.single _) λc0 hz0 hk0=>aA.mk_ex _ ⟨aI hz0 rfl,?_⟩⟩
 have hb10:Blk c0 b1 (aA.cells ⟨0,0⟩) TCO:=hk0.blk (New.blk hn9 (hsp.keep.blk hf.b1 hbt)) (by omega)
 refine il hb10 rfl (aA.single _) λc1 hz1 hk1=>aA.mk_ex _ ⟨aI hz1 rfl,rfl,hR _ _ ⟨rfl,?_⟩⟩
 have hnew:New w8 c0:=hn9.trans hk0 λk hlt e=>by omega
 exact hsp.put (h0.new hf.new) hnew hk1 (by omega) hb (by omega) (by omega)
theorem FM (h0:New u u3) (hc:cb<u3.heap.size) (ht:tb<u3.heap.size) (hb:b1<u3.heap.size) (hbu:u.heap.size≤b1) (hbt:b1≠tb) (hw3:New w0 u3) (hcl:ou T) {R:Value→World→Prop} (hR:∀ v w',pT A w0 u tb u.heap.size (bL G (finV j) 3) v w'→R v w') {w:World} (hf:FS A w0 u3 cb tb b1 r m0 j T G w) {a:Option Addr} {n cap:Nat} (hv:VB u3 w a n cap (finV j)) (hl:n≤100000) {b4:Nat} (hz4:Blk w b4 (aA.cells ⟨0,0⟩) TCO) (hb4:u3.heap.size≤b4) :
  Calls prog 235 #[(.pointer (some ⟨cb,0,none⟩)),(.slice a n cap),(.int .i64 3)] w λe c4=>∃ (k:Option Addr) (l m:Nat),aA.ex λcz=>∃ (n:Bool),e=.returned (.tuple #[(.slice k l m),cz.val,(.bool n)])∧Blk c4 cb (comC r tb m0) TCm∧wrAt c4 ⟨b4,0,none⟩ 0 cz.cells∧∀ c0,c0=puts c4 ⟨b4,0,none⟩ 0 cz.cells→aA.ex λr=>aC c0 ⟨b4,0,none⟩ 0 r.cells∧wrAt c0 ⟨b1,0,none⟩ 0 r.cells∧∀ c1,c1=puts c0 ⟨b1,0,none⟩ 0 r.cells→aA.ex λc2=>aC c1 ⟨b1,0,none⟩ 0 c2.cells∧c1=c1∧R (.tuple #[c2.val,(.bool n)]) c1:=by
 have hcall:=tD (A:=A) hf.com hf.tk hcl hw3 ht hv (by have:=hv.len;omega) 3
 refine aF hcall ?_
 rintro v w8 ⟨da,dc,raw,rfl,hsp,_⟩
 refine ⟨_,_,_,aA.mk_ex ⟨(bL G (finV j) 3).out.1,(bL G (finV j) 3).out.2⟩ ⟨_,rfl,?_⟩⟩
 have hs8:=hsp.keep.size
 have hsw:=hf.new.size
 have hs0:=h0.size
 have hz48:Blk w8 b4 (aA.cells ⟨0,0⟩) TCO:=hsp.keep.blk hz4 (by omega)
 refine ⟨hsp.keep.blk hf.com.blk hf.com.ne,il hz48 rfl (aA.single _) λc0 hz0 hk0=>aA.mk_ex _ ⟨aI hz0 rfl,?_⟩⟩
 have hb10:Blk c0 b1 (aA.cells ⟨0,0⟩) TCO:=hk0.blk (hsp.keep.blk hf.b1 hbt) (by omega)
 refine il hb10 rfl (aA.single _) λc1 hz1 hk1=>aA.mk_ex _ ⟨aI hz1 rfl,rfl,hR _ _ ⟨rfl,?_⟩⟩
 have hsp2:=hsp.put_co (u:=u) (B':=u3.heap.size) (h0.new hf.new) (Keep.refl _ _) hz48 hk0 (by omega) (by omega) (Nat.le_refl _)
 exact hsp2.put (Keep.refl _ _) (Keep.refl _ _) hk1 (by omega) hb (by omega) (by omega)
set_option maxRecDepth 20000 in
set_option maxHeartbeats 2000000 in
theorem Cb (hco:fN w0 u cb tb r m0 j) (hd:wY j) (hT:TkAt A w0 u tb T G) (hcl:ou T) :
  Does 190 [ptr cb] u (pT A w0 u tb u.heap.size (finM j G)):=by
 refine does Tryz.func190 ?_
 rw [ptr,kQ]
 rintro b1 u1 hb1 hu1
 obtain ⟨hz1,hn1⟩:=aO hb1 hu1
 have hz1:Blk u1 b1 (aA.cells ⟨0,0⟩) TCO:=hz1
 clear hu1
 have hc1:=hco.new' hn1
 have hT1:=hT.new hn1
 have hlen:=hco.job.pg.len
 have hs1:=hn1.size
 have hl1:=hz1.lt
 have htl:=hT.blk.lt
 have hcl':=hco.blk.lt
 have hg:=hco.good
 have hgf:=hg.wfew
 have hm0:=hco.mem
 have hmb:=hg.boot m0 (List.mem_of_getElem? hm0)
 have hbt0:I64 m0.Boot:=by unfold I64;omega
 have efin:finV j=[l5 j m0]++j.writes.map (nB j m0):=by
  unfold finV
  cases hmm:j.v.mem with
  |nil=>rw [hmm] at hm0;cases hm0
  |cons x xs=>rw [hmm] at hm0;simp at hm0;subst hm0;rfl
 unfold finM
 refine ⟨_,_,_,hc1.blk.cell (i:=6) rfl,bK (λe=>?_) (λe=>?_)⟩
 ·have hw0:j.writes=[]:=List.eq_nil_of_length_eq_zero (by omega)
  rw [if_pos hw0]
  exact co_k hz1 rfl 0 0 λu4 hk4=>⟨rfl,(jk.skip (B:=u1.heap.size) hT1 hcl (Keep.refl _ _)).put hn1 (Keep.refl _ _) hk4 (by omega) hl1 (by omega) hs1⟩
 ·have hw0:j.writes≠[]:=λe2=>by rw [e2] at hlen;simp at hlen <;> omega
  rw [if_neg hw0]
  obtain ⟨_,hsq⟩:=hg.wr hw0
  rintro u3 hu3
  have hn3:New u1 u3:=by rw [hu3];exact aU _
  clear hu3
  have h03:=hn1.new hn3
  have hs3:=hn3.size
  have hf3:FS A w0 u3 cb tb b1 r m0 j T G u3:=⟨hc1.new' hn3,hT1.new hn3,New.blk hn3 hz1,Keep.refl _ _⟩
  have hw3:=hf3.com.new
  have hw0s:=hw3.size
  have so:=@E1 A w0 u u3 cb tb b1 r m0 j T G h03 (by omega) (by omega) (by omega) (by omega) (by omega) hw3 hcl (pT A w0 u tb u.heap.size (bL G (finV j) 3)) (λ_ _ h=>h)
  have so2:=@FM A w0 u u3 cb tb b1 r m0 j T G h03 (by omega) (by omega) (by omega) (by omega) (by omega) hw3 hcl (pT A w0 u tb u.heap.size (bL G (finV j) 3)) (λ_ _ h=>h)
  have app:∀ {w:World} {b2:Nat} {d:Option Addr} {n g:Nat},FS A w0 u3 cb tb b1 r m0 j T G w→VB u3 w (some ⟨b2,0,none⟩) 1 1 [l5 j m0]→n=j.writes.length→PV (λk=>k<u3.heap.size∨isB (some ⟨b2,0,none⟩) k) w d n (j.writes.map (nB j m0))→∀ {K:Option Addr→Nat→Nat→World→Prop},(∀ ap m c w',FS A w0 u3 cb tb b1 r m0 j T G w'→VB u3 w' ap m c (finV j)→m≤100000→Keep (isB (some ⟨b2,0,none⟩)) w w'→K ap m c w')→
    ∃ (ap:Option Addr) (h i:Nat),∃ w7,(Builtin.append_ #[TSV,TSV] TSV #[(.slice (some ⟨b2,0,none⟩) 1 1),(.slice d n g)]).run prog w=.ok (.slice ap h i) w7∧K ap h i w7:=by
   intro w b2 d n g hf hvb hn hpv K hK
   refine VB.app2_e hvb hf.new hpv (by omega) λap cap' w3 h7 hk7 hn7=>?_
   rw [←efin] at h7
   exact hK ap _ cap' w3 (hf.keep hk7 (λk hk=>hvb.fr k hk) (by omega) (by omega) (by omega) (by omega)) h7 (by omega) hk7
  have obox:∀ {w w':World} {b:Nat},FS A w0 u3 cb tb b1 r m0 j T G w→b=w.heap.size→w'=w.alloc (.cells #[(.int .i64 0),(.int .i64 0)] TCO)→FS A w0 u3 cb tb b1 r m0 j T G w'∧New w w'∧Blk w' b (aA.cells ⟨0,0⟩) TCO∧u3.heap.size≤b:=by
   intro w w' b hf hb hw
   obtain ⟨hz,hn⟩:=aO hb hw
   have:=hf.new.size
   exact ⟨hf.new' hn,hn,hz,by omega⟩
  have clk:∀ {w:World} {K:Ending→World→Prop},FS A w0 u3 cb tb b1 r m0 j T G w→(∀ (v':aJ) w',FS A w0 u3 cb tb b1 r m0 j T G w'→New w w'→bI (λk=>k<u3.heap.size) w' v' (l5 j m0)→K (.returned v'.val) w')→Calls prog 240 #[(.pointer (some ⟨cb,0,none⟩)),m0.val] w K:=by
   intro w K hf hK
   refine aF (xI hf.com hsq hbt0) ?_
   rintro v w' ⟨v',rfl,hv',hn⟩
   have:=hf.new.size
   exact hK v' w' (hf.new' hn) hn (hv'.mono λk hk=>by omega)
  have pgs:∀ {w:World} {K:Ending→World→Prop},FS A w0 u3 cb tb b1 r m0 j T G w→(∀ (a:Option Addr) (c:Nat) w',FS A w0 u3 cb tb b1 r m0 j T G w'→New w w'→VB w w' a j.writes.length c (j.writes.map (nB j m0))→K (.returned (.slice a j.writes.length c)) w')→Calls prog 239 #[(.pointer (some ⟨cb,0,none⟩)),m0.val] w K:=by
   intro w K hf hK
   refine aF (xJ hf.com hd hbt0) ?_
   rintro v w' ⟨a,c,rfl,hv',hn⟩
   exact hK a c w' (hf.new' hn) hn hv'
  have hbB:∀ {w:World} {b2 k:Nat},b2<w.heap.size→(k<u3.heap.size∨isB (some ⟨b2,0,none⟩) k)→u3.heap.size≤w.heap.size→k<w.heap.size:=by
   intro w b2 k h1 h2 h3
   rcases h2 with e | ⟨o,ho⟩
   ·omega
   ·have:b2=k∧0=o:=eJ ho
    omega
  have lt_of_VB:∀ {w:World} {b2 n c:Nat} {vs:List Verb},VB u3 w (some ⟨b2,0,none⟩) n c vs→b2<w.heap.size:=by
   intro w b2 n c vs h
   obtain ⟨raws,ho,_⟩:=h.ex
   exact ho.lt ⟨0,rfl⟩
  refine ⟨λy=>Blk y cb (comC r tb m0) TCm,hf3.com.blk,aE.mk_ex m0 ⟨λy hy=>aI hy rfl,aE.mk_ex m0 ⟨λy hy=>aI hy rfl,?_⟩⟩⟩
  refine ⟨clk hf3 λv' w4 hf4 hn4 hv4=>aJ.mk_ex v' ⟨rfl,hf4.com.blk,?_,?_,?_⟩,?_⟩
  ·
   rintro b2 w5 hb2 hw5
   obtain ⟨hvb5,hn5⟩:=VB.box hf4.new hv4 hb2 hw5
   have hf5:=hf4.new' hn5
   have hs5:=hf5.new.size
   have hb5:=lt_of_VB hvb5
   refine ⟨hf5.com.blk,?_,?_⟩
   ·refine pgs hf5 λd c w6 hf6 hn6 hp6=>⟨_,_,_,rfl,hf6.com.blk,?_,?_⟩
    ·refine app hf6 (hvb5.new hn6) rfl (hp6.pv λk _ e=>hbB hb5 e hs5) λap m c7 w7 hf7 hv7 hl7 _=>⟨hf7.com.blk,so hf7 hv7 hl7,?_⟩
     rintro b4 c3 hb4 hc3
     obtain ⟨hf8,hn8,hz8,hb8⟩:=obox hf7 hb4 hc3
     exact ⟨hf8.com.blk,so2 hf8 (hv7.new hn8) hl7 hz8 hb8⟩
    ·rintro b5 c9 hb5' hc9
     obtain ⟨hf8,hn8,hz8,hb8⟩:=obox hf6 hb5' hc9
     refine ⟨hf8.com.blk,?_⟩
     have hs8:=hn6.size
     refine app hf8 (hvb5.new (hn6.new hn8)) rfl ((hp6.pv λk _ e=>hbB hb5 e hs5).new hn8) λap m c7 w7 hf7 hv7 hl7 hk7=>⟨hf7.com.blk,so2 hf7 hv7 hl7 (hk7.blk hz8 λe=>?_) hb8⟩
     obtain ⟨o,ho⟩:=e
     have:b2=b5∧0=o:=eJ ho
     omega
   ·rintro b6 dg hb6 hdg
    obtain ⟨hf8,hn8,hz8,hb8⟩:=obox hf5 hb6 hdg
    have hs8:=hn8.size
    have hz8l:=hz8.lt
    refine ⟨hf8.com.blk,pgs hf8 λd c w6 hf6 hn6 hp6=>⟨_,_,_,rfl,hf6.com.blk,?_⟩⟩
    refine app hf6 (hvb5.new (hn8.new hn6)) rfl (hp6.pv λk _ e=>by have:=hbB hb5 e hs5;omega) λap m c7 w7 hf7 hv7 hl7 hk7=>⟨hf7.com.blk,so2 hf7 hv7 hl7 (hk7.blk (New.blk hn6 hz8) λe=>?_) hb8⟩
    obtain ⟨o,ho⟩:=e
    have:b2=b6∧0=o:=eJ ho
    omega
  ·
   refine pgs hf4 λd c w6 hf6 hn6 hp6=>⟨_,_,_,rfl,hf6.com.blk,?_,?_⟩
   ·rintro b7 dq hb7 hdq
    obtain ⟨hvb7,hn7⟩:=VB.box hf6.new (hv4.keep (Keep.of_new hn6) λ_ _ e=>e) hb7 hdq
    have hf7:=hf6.new' hn7
    have hs4:=hf4.new.size
    have hs6:=hf6.new.size
    have hpv7:PV (λk=>k<u3.heap.size∨isB (some ⟨b7,0,none⟩) k) dq d j.writes.length (j.writes.map (nB j m0)):=(hp6.pv (M:=λk=>k<u3.heap.size) λk _ e=>by omega).wide hn7 λk hlt e=>by
     rcases e with e | ⟨o,ho⟩
     ·exact e
     ·exfalso
      have:b7=k∧0=o:=eJ ho
      omega
    refine ⟨hf7.com.blk,?_,?_⟩
    ·refine app hf7 hvb7 rfl hpv7 λap m c7 w7 hf8 hv8 hl8 _=>⟨hf8.com.blk,so hf8 hv8 hl8,?_⟩
     rintro b4 c3 hb4 hc3
     obtain ⟨hf9,hn9,hz9,hb9⟩:=obox hf8 hb4 hc3
     exact ⟨hf9.com.blk,so2 hf9 (hv8.new hn9) hl8 hz9 hb9⟩
    ·rintro b5 c9 hb5' hc9
     obtain ⟨hf8,hn8,hz8,hb8⟩:=obox hf7 hb5' hc9
     refine ⟨hf8.com.blk,?_⟩
     have hb7l:=lt_of_VB hvb7
     refine app hf8 (hvb7.new hn8) rfl (hpv7.new hn8) λap m c7 w7 hf9 hv9 hl9 hk9=>⟨hf9.com.blk,so2 hf9 hv9 hl9 (hk9.blk hz8 λe=>?_) hb8⟩
     obtain ⟨o,ho⟩:=e
     have:b7=b5∧0=o:=eJ ho
     omega
   ·rintro b5 c9 hb5' hc9
    obtain ⟨hf8,hn8,hz8,hb8⟩:=obox hf6 hb5' hc9
    refine ⟨hf8.com.blk,?_⟩
    rintro b7 dq hb7 hdq
    obtain ⟨hvb7,hn7⟩:=VB.box hf8.new (hv4.keep (Keep.of_new (hn6.new hn8)) λ_ _ e=>e) hb7 hdq
    have hf7:=hf8.new' hn7
    have hs4:=hf4.new.size
    have hs6:=hf6.new.size
    have hz8l:=hz8.lt
    have hpv7:PV (λk=>k<u3.heap.size∨isB (some ⟨b7,0,none⟩) k) dq d j.writes.length (j.writes.map (nB j m0)):=((hp6.pv (M:=λk=>k<u3.heap.size) λk _ e=>by omega).new hn8).wide hn7 λk hlt e=>by
     rcases e with e | ⟨o,ho⟩
     ·exact e
     ·exfalso
      have:b7=k∧0=o:=eJ ho
      omega
    refine ⟨hf7.com.blk,?_⟩
    refine app hf7 hvb7 rfl hpv7 λap m c7 w7 hf9 hv9 hl9 hk9=>⟨hf9.com.blk,so2 hf9 hv9 hl9 (hk9.blk (New.blk hn7 hz8) λe=>?_) hb8⟩
    obtain ⟨o,ho⟩:=e
    have:b7=b5∧0=o:=eJ ho
    omega
  ·
   rintro b9 wO hb9 hwO
   obtain ⟨hfO,hnO,hzO,hbO⟩:=obox hf4 hb9 hwO
   have hvO:bI (λk=>k<u3.heap.size) wO v' (l5 j m0):=hv4.keep (Keep.of_new hnO) λ_ _ e=>e
   refine ⟨hfO.com.blk,?_⟩
   refine ⟨?_,?_⟩
   ·rintro b2 w5 hb2 hw5
    obtain ⟨hvb5,hn5⟩:=VB.box hfO.new hvO hb2 hw5
    have hf5:=hfO.new' hn5
    have hs5:=hf5.new.size
    have hb5:=lt_of_VB hvb5
    have hzl:=hzO.lt
    refine ⟨hf5.com.blk,pgs hf5 λd c w6 hf6 hn6 hp6=>⟨_,_,_,rfl,hf6.com.blk,?_⟩⟩
    refine app hf6 (hvb5.new hn6) rfl (hp6.pv λk _ e=>hbB hb5 e hs5) λap m c7 w7 hf7 hv7 hl7 hk7=>⟨hf7.com.blk,so2 hf7 hv7 hl7 (hk7.blk (New.blk (hn5.new hn6) hzO) λe=>?_) hbO⟩
    obtain ⟨o,ho⟩:=e
    have:b2=b9∧0=o:=eJ ho
    omega
   ·refine pgs hfO λd c w6 hf6 hn6 hp6=>⟨_,_,_,rfl,hf6.com.blk,?_⟩
    rintro b7 dq hb7 hdq
    obtain ⟨hvb7,hn7⟩:=VB.box hf6.new (hvO.keep (Keep.of_new hn6) λ_ _ e=>e) hb7 hdq
    have hf7:=hf6.new' hn7
    have hs4:=hfO.new.size
    have hs6:=hn6.size
    have hzl:=hzO.lt
    have hpv7:PV (λk=>k<u3.heap.size∨isB (some ⟨b7,0,none⟩) k) dq d j.writes.length (j.writes.map (nB j m0)):=(hp6.pv (M:=λk=>k<u3.heap.size) λk _ e=>by omega).wide hn7 λk hlt e=>by
     rcases e with e | ⟨o,ho⟩
     ·exact e
     ·exfalso
      have:b7=k∧0=o:=eJ ho
      omega
    refine ⟨hf7.com.blk,?_⟩
    refine app hf7 hvb7 rfl hpv7 λap m c7 w7 hf9 hv9 hl9 hk9=>⟨hf9.com.blk,so2 hf9 hv9 hl9 (hk9.blk (New.blk (hn6.new hn7) hzO) λe=>?_) hbO⟩
    obtain ⟨o,ho⟩:=e
    have:b7=b9∧0=o:=eJ ho
    omega
  ·rintro b9 wO hb9 hwO
   obtain ⟨hfO,hnO,hzO,hbO⟩:=obox hf3 hb9 hwO
   refine ⟨hfO.com.blk,clk hfO λv' w4 hf4 hn4 hv4=>aJ.mk_ex v' ⟨rfl,hf4.com.blk,?_⟩⟩
   have hzO4:=New.blk hn4 hzO
   refine ⟨?_,?_⟩
   ·rintro b2 w5 hb2 hw5
    obtain ⟨hvb5,hn5⟩:=VB.box hf4.new hv4 hb2 hw5
    have hf5:=hf4.new' hn5
    have hs5:=hf5.new.size
    have hb5:=lt_of_VB hvb5
    have hzl:=hzO4.lt
    refine ⟨hf5.com.blk,pgs hf5 λd c w6 hf6 hn6 hp6=>⟨_,_,_,rfl,hf6.com.blk,?_⟩⟩
    refine app hf6 (hvb5.new hn6) rfl (hp6.pv λk _ e=>hbB hb5 e hs5) λap m c7 w7 hf7 hv7 hl7 hk7=>⟨hf7.com.blk,so2 hf7 hv7 hl7 (hk7.blk (New.blk (hn5.new hn6) hzO4) λe=>?_) hbO⟩
    obtain ⟨o,ho⟩:=e
    have:b2=b9∧0=o:=eJ ho
    omega
   ·refine pgs hf4 λd c w6 hf6 hn6 hp6=>⟨_,_,_,rfl,hf6.com.blk,?_⟩
    rintro b7 dq hb7 hdq
    obtain ⟨hvb7,hn7⟩:=VB.box hf6.new (hv4.keep (Keep.of_new hn6) λ_ _ e=>e) hb7 hdq
    have hf7:=hf6.new' hn7
    have hs4:=hf4.new.size
    have hs6:=hn6.size
    have hzl:=hzO4.lt
    have hpv7:PV (λk=>k<u3.heap.size∨isB (some ⟨b7,0,none⟩) k) dq d j.writes.length (j.writes.map (nB j m0)):=(hp6.pv (M:=λk=>k<u3.heap.size) λk _ e=>by omega).wide hn7 λk hlt e=>by
     rcases e with e | ⟨o,ho⟩
     ·exact e
     ·exfalso
      have:b7=k∧0=o:=eJ ho
      omega
    refine ⟨hf7.com.blk,?_⟩
    refine app hf7 hvb7 rfl hpv7 λap m c7 w7 hf9 hv9 hl9 hk9=>⟨hf9.com.blk,so2 hf9 hv9 hl9 (hk9.blk (New.blk (hn6.new hn7) hzO4) λe=>?_) hbO⟩
    obtain ⟨o,ho⟩:=e
    have:b7=b9∧0=o:=eJ ho
    omega
end
end Go.Proofs.YtgpmeaicjonenaaGreat
