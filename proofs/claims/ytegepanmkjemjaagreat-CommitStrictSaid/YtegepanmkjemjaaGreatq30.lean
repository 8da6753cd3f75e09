import Derived.Test.YtegepanmkjemjaaGreatq29
set_option linter.unusedVariables false
namespace Go.Proofs.YtegepanmkjemjaaGreat
open Go.Proofs.Tryz
open Go.Eng
theorem sI {u:World} {b i:Nat} {cs:List Value} {T:TypeId} {v x:Value} {K:World→Prop} (hb:Blk u b cs T) (hi:cs[i]?=some x) (hk:∀ w',Blk w' b (cs.set i v) T→Keep (λk=>k=b) u w'→K w') :
  (∃ y,u.cell? ⟨b,i,none⟩=some y)∧u.frozen? ⟨b,i,none⟩=false∧∀ w',w'=u.setCell ⟨b,i,none⟩ v→K w':=
 ⟨⟨x,hb.cell hi⟩,hb.frozen,λw' e=>by subst e;exact hk _ (hb.setCell v) (aO _ _ _ _)⟩
def addr (num:Int) (m:aC) (x:Verb):Verb:={ x with node:=m.Node,boot:=m.Boot,key:=key1 num }
set_option maxHeartbeats 1000000 in
theorem wL (w:World) {r:aN} {m:aC} (h0:0≤r.Number) (h1:r.Number<16) (hbt:I64 m.Boot) {M:Nat→Prop} {v:aK} {x:Verb} (hv:bG M w v x) :
  Does 202 [r.val,m.val,.bool true,v.val] w λy w'=>∃ v':aK,y=v'.val∧bG (λk=>k<w.heap.size) w' v' (addr r.Number m x)∧New w w':=by
 refine does Tryz.func202 ?_
 rw [qT]
 rintro b1 w1 hb1 hw1
 obtain ⟨hz1,hn1⟩:=aM hb1 hw1
 have hz1:Blk w1 b1 r.cells TVw:=hz1
 clear hw1
 rintro b2 w2 hb2 hw2
 obtain ⟨hz2,hn2⟩:=aM hb2 hw2
 have hz2:Blk w2 b2 m.cells TMb:=hz2
 clear hw2
 rintro b3 w3 hb3 hw3
 obtain ⟨hz3,hn3⟩:=aM hb3 hw3
 have hz3:Blk w3 b3 v.cells TV:=hz3
 clear hw3
 rintro b4 w4 hb4 hw4
 obtain ⟨hz4,hn4⟩:=aM hb4 hw4
 have hz4:Blk w4 b4 (aK.cells ⟨0,0,0,0,0,0,none,0,0,0,0⟩) TV:=hz4
 clear hw4
 rintro w5 hw5
 have hn5:New w4 w5:=by rw [hw5];exact aT _
 clear hw5
 have hs1:=hn1.size
 have hs2:=hn2.size
 have hs3:=hn3.size
 have hs4:=hn4.size
 have hs5:=hn5.size
 have hl1:=hz1.lt
 have hl2:=hz2.lt
 have hl3:=hz3.lt
 have hl4:=hz4.lt
 have hn05:=(((hn1.new hn2).new hn3).new hn4).new hn5
 have y1:=New.blk (((hn2.new hn3).new hn4).new hn5) hz1
 have y2:=New.blk ((hn3.new hn4).new hn5) hz2
 have y3:=New.blk (hn4.new hn5) hz3
 have y4:=New.blk hn5 hz4
 refine ⟨λy=>Blk y b2 m.cells TMb,y2,_,λy hy=>hy.cell (i:=0) rfl,_,λy hy=>hy.cell (i:=1) rfl,sI y3 (i:=1) rfl λw6 y3 hk6=>⟨hk6.blk y2 (by omega),sI y3 (i:=8) rfl λw7 y3 hk7=>?_⟩⟩
 have hk57:=hk6.trans hk7 λ_ _ e=>e
 have y1:=hk57.blk y1 (by omega)
 refine ⟨_,y1.cell (i:=0) rfl,?_⟩
 refine aE (Dx w7 h0 h1) ?_
 rintro z w8 ⟨rfl,rfl⟩
 refine ⟨_,_,rfl,sI y3 (i:=7) rfl λw9 y3 hk9=>⟨_,_,_,y3.cell (i:=6) rfl,?_⟩⟩
 have hn09:New w w9:=hn05.trans (hk57.trans hk9 λ_ _ e=>e) λk hlt e=>by omega
 have hwl:v.Wl=x.words.length:=by rw [hv.eq];rfl
 refine aE (nO (xs:=us x.words) (by rw [kg,hwl]) (hv.rd.new hn09) (jL _) (by have:=hv.wlen;omega) (λe=>by rw [hwl,hv.nil e];rfl)) ?_
 rintro z w10 ⟨a',cap,rfl,hn10,hown,hfr,hnil⟩
 have hs9:=hn09.size
 have hs59:=(hk57.trans hk9 λ_ _ e=>e).size
 refine ⟨_,_,_,rfl,sI (New.blk hn10 y3) (i:=6) rfl λw11 y3 hk11=>?_⟩
 have y4:=hk11.blk (New.blk hn10 ((hk57.trans hk9 λ_ _ e=>e).blk y4 (by omega))) (show ¬ b4=b3 by omega)
 have y3:Blk w11 b3 (aK.cells { v with Node:=m.Node,Boot:=m.Boot,Key:=key1 r.Number,Words:=a',Wc:=cap }) TV:=y3
 refine aK.mk_ex _ ⟨aJ y3 rfl,fN y4 rfl (aK.single _) λw12 y4 hk12=>?_⟩
 refine aK.mk_ex _ ⟨aJ y4 rfl,rfl,_,rfl,?_,((hn09.new hn10).trans hk11 λk hlt e=>by omega).trans hk12 λk hlt e=>by omega⟩
 have hoff:us x.words=[]∨Off (λk=>k<w9.heap.size) a':=og hown.rd λk hk e=>by have:=hfr k hk;omega
 have hrd:Rd w12 a' (us x.words):=(hown.rd.keep hk11 (hoff.imp id λh=>by
  cases a' with
  |none=>trivial
  |some a=>exact λe=>h (by have e:a.block=b3:=e;omega))).keep hk12 (hoff.imp id λh=>by
  cases a' with
  |none=>trivial
  |some a=>exact λe=>h (by have e:a.block=b4:=e;omega))
 refine ⟨?_,hrd,λe=>hv.nil (hnil.1 e),?_,hv.wf,hv.new,hv.old,?_,hbt,Owns.le hown,hv.wlen⟩
 ·show ({ v with Node:=m.Node,Boot:=m.Boot,Key:=key1 r.Number,Words:=a',Wc:=cap }:aK)=_
  have e:=hv.eq
  generalize v.Words=q1 at e
  generalize v.Wc=q2 at e
  subst e
  rfl
 ·rcases hoff with h | h
  ·left
   have:=congrArg List.length h
   rw [kg] at this
   exact List.eq_nil_of_length_eq_zero this
  ·right
   cases a' with
   |none=>trivial
   |some a=>exact λe=>h (by have e:a.block<w.heap.size:=e;show a.block<w9.heap.size;omega)
 ·show U64 (key1 r.Number)
  unfold key1 U64
  omega
theorem tS (l:List aC):∀ r ∈ gZ l,r.length=3:=by
 intro r hr
 obtain ⟨x,_,rfl⟩:=List.mem_map.1 hr
 rfl
theorem tT (l:List aC):∀ u ∈ (gZ l).flatten,single u=true:=by
 intro u hu
 obtain ⟨r,hr,hx⟩:=List.mem_flatten.1 hu
 obtain ⟨y,_,rfl⟩:=List.mem_map.1 hr
 exact aC.single y u hx
theorem zS {w:World} {a:Option Addr} {n c:Nat} {vs:List aC} (hl:vs.length=n) (hr:Rd w a (gZ vs).flatten) (hb:n≤1000000) (hn:a=none→n=0) :
  Does 204 [.slice a n c] w λv w'=>∃ a' cap,v=.slice a' n cap∧sZ w w' TMb 3 a a' n cap (gZ vs).flatten:=by
 refine does Tryz.func204 ?_
 rw [fE]
 obtain ⟨i,hi,hz,hsz,hby⟩:=iR (T:=TMb) (z:=.agg #[.int .i64 0,.int .i64 0,.bool false]) (n:=3) (m:=24) (by kernel_rfl)
 cases a with
 |none=>
  refine iL rfl ⟨none,0,by rw [hn rfl],Keep.refl _ _,?_,?_,by simp⟩
  ·rw [hn rfl] at hl ⊢
   rw [List.eq_nil_of_length_eq_zero hl]
   exact Owns.nil _ _ _
  ·rintro k ⟨o,ho⟩;cases ho
 |some a=>
  refine dE rfl ?_
  rintro b1 w1 rfl rfl
  obtain ⟨a',cap',w',hrun,hc⟩:=mK (t:=28) (ty:=28) (n:=n) (c:=c) (w:=w) (a:=a) (xs:=(gZ vs).flatten) Tryz.underlying28 hi hz (by rw [hsz];rfl) (by omega) (by rw [dN (tS vs),hsz,gZ,List.length_map,hl]) hr (tT vs) (by omega) (by rw [hby];omega)
  exact ⟨a',n,cap',w',hrun,a',cap',rfl,by rw [hsz] at hc;exact hc⟩
theorem yn {M:Nat→Prop} {w:World} {r:aN} {v:Vw} (h:ViewAt M w r v) {m:aC} (hm:v.mem[0]?=some m):Does 107 [r.val] w λx w'=>x=.tuple #[m.val,.bool true]∧New w w':=by
 refine does Tryz.func107 ?_
 rw [qQ]
 rintro b1 w1 hb1 hw1
 obtain ⟨hz1,hn1⟩:=aM hb1 hw1
 have hz1:Blk w1 b1 r.cells TVw:=hz1
 clear hw1
 rintro b2 w2 hb2 hw2
 obtain ⟨hz2,hn2⟩:=aM hb2 hw2
 have hz2:Blk w2 b2 (aC.cells noM) TMb:=hz2
 clear hw2
 have hz12:=New.blk hn2 hz1
 have hn02:=hn1.new hn2
 have hs1:=hn1.size
 have hl:=aV hm
 have e3:=h.len
 refine ⟨_,_,_,hz12.cell (i:=1) rfl,bI (λe=>absurd e (by omega)) (λ_=>⟨_,_,_,hz12.cell (i:=1) rfl,?_⟩)⟩
 refine eS (cells:=aC.cells) aC.len (by omega) (i:=0) (h.rd.new hn02) hm rfl e3 λb o hcc _=>aC.mk_ex m ⟨hcc,fN hz2 rfl (aC.single _) λw4 hz4 hk4=>?_⟩
 exact aC.mk_ex m ⟨aJ hz4 rfl,rfl,rfl,hn02.trans hk4 λk hlt e=>by omega⟩
theorem yo {M:Nat→Prop} {w:World} {r:aN} {v:Vw} (h:ViewAt M w r v) (hne:0<v.mem.length):Does 187 [r.val] w λy w'=>∃ (a:Option Addr) (cap:Nat),y=.slice a (v.mem.length - 1) cap∧New w w'∧Rd w' a (gZ v.mem.tail).flatten:=by
 refine does Tryz.func187 ?_
 rw [qS]
 rintro b1 w1 hb1 hw1
 obtain ⟨hz1,hn1⟩:=aM hb1 hw1
 have hz1:Blk w1 b1 r.cells TVw:=hz1
 clear hw1
 have hlen:=h.len
 have hcap:=h.cap
 have hsm:=h.small
 refine ⟨_,_,_,hz1.cell (i:=1) rfl,bI (λe=>absurd e (by omega)) (λ_=>⟨_,_,_,hz1.cell (i:=1) rfl,?_⟩)⟩
 have hr:=h.rd.new hn1
 have hfl:(gZ v.mem).flatten.length=v.mem.length * 3:=by rw [dN (tS _),gZ,List.length_map]
 obtain ⟨b,o,hab⟩:∃ b o,r.Members=some ⟨b,o,none⟩:=by
  rcases hr with he | ⟨b,o,e,_⟩
  ·have:=congrArg List.length he
   rw [hfl] at this
   simp at this
   omega
  ·exact ⟨b,o,e⟩
 rw [hab] at hr ⊢
 rw [hlen]
 have htl:(gZ v.mem.tail).flatten=((gZ v.mem).flatten).drop 3:=by
  cases hvm:v.mem with
  |nil=>rfl
  |cons x xs=>rfl
 refine nr (by omega) (by omega) (by omega) (by omega) (by omega) λa ha=>?_
 have ha2:Rd w1 a (gZ v.mem.tail).flatten∧a≠none:=by
  rcases ha with rfl | ⟨e,rfl⟩
  ·refine ⟨?_,by simp⟩
   rw [htl]
   exact hr.drop 3
  ·refine ⟨?_,by simp⟩
   have:v.mem.tail=[]:=List.eq_nil_of_length_eq_zero (by rw [List.length_tail];omega)
   rw [this]
   exact .inl rfl
 have e1:Int.toNat (v.mem.length:Int) - Int.toNat 1=v.mem.length - 1:=by omega
 rw [e1]
 refine aE (zS (vs:=v.mem.tail) (by rw [List.length_tail]) ha2.1 (by omega) (λe=>absurd e ha2.2)) ?_
 rintro y w2 ⟨a',cap,rfl,hn2,hown,_⟩
 exact ⟨_,_,_,rfl,a',cap,rfl,hn1.new hn2,hown.rd⟩
structure VB (w0 u:World) (a:Option Addr) (n cap:Nat) (vs:List Verb):Prop where
 ex:∃ raws:List aK,Owns u TV 9 a n cap (eh raws).flatten∧Vs (λk=>k<w0.heap.size∨isB a k) u raws vs
 len:n=vs.length
 fr:∀ k,isB a k→w0.heap.size≤k
theorem VB.nil (w0 u:World):VB w0 u none 0 0 []:=⟨⟨[],Owns.nil _ _ _,rfl,λi v x h=>by simp at h⟩,rfl,λk hk=>absurd hk noB⟩
theorem VB.new {w0 u u':World} {a:Option Addr} {n cap:Nat} {vs:List Verb} (h:VB w0 u a n cap vs) (hn:New u u'):VB w0 u' a n cap vs:=by
 obtain ⟨⟨raws,ho,hv⟩,hl,hf⟩:=h
 exact ⟨⟨raws,Owns.new hn ho,hv.keep (Keep.of_new hn) λ_ _ e=>e⟩,hl,hf⟩
theorem VB.keep {w0 u u':World} {a:Option Addr} {n cap:Nat} {vs:List Verb} (h:VB w0 u a n cap vs) {M:Nat→Prop} (hk:Keep M u u') (hM:∀ k,M k→k<w0.heap.size):VB w0 u' a n cap vs:=by
 obtain ⟨⟨raws,ho,hv⟩,hl,hf⟩:=h
 refine ⟨⟨raws,ho.keep hk λk hk e=>?_,hv.keep (hk.mono λk _ e=>.inl (hM k e)) λ_ _ e=>e⟩,hl,hf⟩
 have:=hf k hk
 have:=hM k e
 omega
theorem VB.mono {w0 w1 u:World} {a:Option Addr} {n cap:Nat} {vs:List Verb} (h:VB w1 u a n cap vs) (hs:w0.heap.size≤w1.heap.size):VB w0 u a n cap vs:=by
 obtain ⟨⟨raws,ho,hv⟩,hl,hf⟩:=h
 exact ⟨⟨raws,ho,hv.keep (Keep.refl _ _) λk _ e=>e.imp (λe=>by omega) id⟩,hl,λk hk=>by have:=hf k hk;omega⟩
theorem Vs.app {M:Nat→Prop} {w:World} {r1 r2:List aK} {v1 v2:List Verb} (h1:Vs M w r1 v1) (h2:Vs M w r2 v2):Vs M w (r1++r2) (v1++v2):=by
 obtain ⟨l1,g1⟩:=h1
 obtain ⟨l2,g2⟩:=h2
 refine ⟨by simp [l1,l2],λi v x hv hx=>?_⟩
 by_cases hi:i<r1.length
 ·rw [List.getElem?_append_left hi] at hv
  rw [List.getElem?_append_left (by omega)] at hx
  exact g1 i v x hv hx
 ·rw [List.getElem?_append_right (by omega)] at hv
  rw [List.getElem?_append_right (by omega)] at hx
  rw [←l1] at hx
  exact g2 _ v x hv hx
theorem Vs.one {M:Nat→Prop} {w:World} {v:aK} {x:Verb} (h:bG M w v x):Vs M w [v] [x]:=⟨rfl,λi v' x' h1 h2=>by
 cases i with
 |zero=>simp at h1 h2;subst h1 h2;exact h
 |succ i=>simp at h1⟩
theorem VB.push_k {w0 u u1:World} {a:Option Addr} {n cap:Nat} {vs:List Verb} (h:VB w0 u a n cap vs) (h00:New w0 u) (hu:New u u1) {v:aK} {x:Verb} (hv:bG (λk=>k<u.heap.size) u1 v x) (hf:n≤100000) {K:Nat→Option Addr→Nat→Nat→World→Prop}
  (hk:∀ b ap cap' w3,b=u1.heap.size→VB w0 w3 ap (n+1) cap' (vs++[x])→Keep (isB a) u1 w3→New w0 w3→K b ap (n+1) cap' w3) :
  ∀ b1 w2,b1=u1.heap.size→w2=u1.alloc (.cells v.cells.toArray TV)→∃ (ap:Option Addr) (ap_len ap_cap:Nat),∃ w3,(Builtin.append_ #[TSV,TSV] TSV #[(.slice a n cap),(.slice (some ⟨b1,0,none⟩) 1 1)]).run prog w2=.ok (.slice ap ap_len ap_cap) w3∧K b1 ap ap_len ap_cap w3:=by
 obtain ⟨⟨raws,ho,hvs⟩,hl,hfr⟩:=h
 have h0:=h00.new hu
 have hs0:=h00.size
 have hsu:=hu.size
 refine Bi (Owns.new hu ho) (v:=v) (by omega) λb ap cap' w3 hb h1 hk3 hap=>?_
 have hapf:∀ k,isB ap k→w0.heap.size≤k:=λk hk=>by
  rcases hap k hk with e | e
  ·exact hfr k e
  ·omega
 refine hk b ap cap' w3 hb ⟨⟨raws++[v],by rw [pP];simpa [eh] using h1,?_⟩,by rw [List.length_append,hl];rfl,hapf⟩ hk3 (h0.trans hk3 λk hlt e=>by have:=hfr k e;omega)
 have hst:∀ k,k<u1.heap.size→(k<w0.heap.size∨isB ap k)→(k<w0.heap.size∨isB a k):=λk hlt e=>e.imp id λe=>by
  rcases hap k e with e | e
  ·exact e
  ·omega
 have hv1:=hvs.keep (M':=λk=>k<w0.heap.size∨isB a k) (Keep.of_new hu) λ_ _ e=>e
 refine Vs.app (hv1.keep (hk3.mono λk _ e=>.inr e) hst) (Vs.one ?_)
 have hv2:bG (λk=>k<w0.heap.size∨isB a k) u1 v x:=hv.keep (Keep.refl _ _) λk hlt e=>by
  rcases e with e | e
  ·omega
  ·exact ho.lt e
 exact hv2.keep (hk3.mono λk _ e=>.inr e) hst
theorem VB.push_e {w0 u u1:World} {a:Option Addr} {n cap:Nat} {vs:List Verb} (h:VB w0 u a n cap vs) (h00:New w0 u) (hu:New u u1) {v:aK} {x:Verb} (hv:bG (λk=>k<u.heap.size) u1 v x) (hf:n≤100000) {b1:Nat} {w2:World} (hb:b1=u1.heap.size) (hw:w2=u1.alloc (.cells v.cells.toArray TV)) {K:Option Addr→Nat→Nat→World→Prop}
  (hk:∀ ap cap' w3,VB w0 w3 ap (n+1) cap' (vs++[x])→Keep (isB a) u1 w3→New w0 w3→K ap (n+1) cap' w3) :
  ∃ (ap:Option Addr) (ap_len ap_cap:Nat),∃ w3,(Builtin.append_ #[TSV,TSV] TSV #[(.slice a n cap),(.slice (some ⟨b1,0,none⟩) 1 1)]).run prog w2=.ok (.slice ap ap_len ap_cap) w3∧K ap ap_len ap_cap w3:=
 VB.push_k h h00 hu hv hf (K:=λ_ ap n c w=>K ap n c w) (λb ap cap' w3 _ h1 h2 h3=>hk ap cap' w3 h1 h2 h3) b1 w2 hb hw
end Go.Proofs.YtegepanmkjemjaaGreat
