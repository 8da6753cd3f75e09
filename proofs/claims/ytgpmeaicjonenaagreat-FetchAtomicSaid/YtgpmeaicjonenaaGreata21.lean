import Derived.Test.YtgpmeaicjonenaaGreata20
import Derived.Test.YtgpmeaicjonenaaGreatProg
import Derived.Test.YtgpmeaicjonenaaGreata03
set_option linter.unusedVariables false
namespace Go.Proofs.YtgpmeaicjonenaaGreat
open Go.Proofs.Tryz
open Go.Eng
theorem pS {u:World} {b i:Nat} {cs:List Value} {T:TypeId} {v x:Value} {K:World→Prop} (hb:Blk u b cs T) (hi:cs[i]?=some x) (hk:∀ w',Blk w' b (cs.set i v) T→Keep (λk=>k=b) u w'→K w') :
  (∃ y,u.cell? ⟨b,i,none⟩=some y)∧u.frozen? ⟨b,i,none⟩=false∧∀ w',w'=u.setCell ⟨b,i,none⟩ v→K w':=
 ⟨⟨x,hb.cell hi⟩,hb.frozen,λw' e=>by subst e;exact hk _ (hb.setCell v) (aR _ _ _ _)⟩
def addr (num:Int) (m:aE) (x:Verb):Verb:={ x with node:=m.Node,boot:=m.Boot,key:=key1 num }
set_option maxHeartbeats 1000000 in
theorem tC (w:World) {r:aM} {m:aE} (h0:0≤r.Number) (h1:r.Number<16) (hbt:I64 m.Boot) {M:Nat→Prop} {v:aJ} {x:Verb} (hv:bI M w v x) :
  Does 162 [r.val,m.val,.bool true,v.val] w λy w'=>∃ v':aJ,y=v'.val∧bI (λk=>k<w.heap.size) w' v' (addr r.Number m x)∧New w w':=by
 refine does Tryz.func162 ?_
 rw [rK]
 rintro b1 w1 hb1 hw1
 obtain ⟨hz1,hn1⟩:=aO hb1 hw1
 have hz1:Blk w1 b1 r.cells TVw:=hz1
 clear hw1
 rintro b2 w2 hb2 hw2
 obtain ⟨hz2,hn2⟩:=aO hb2 hw2
 have hz2:Blk w2 b2 m.cells TMb:=hz2
 clear hw2
 rintro b3 w3 hb3 hw3
 obtain ⟨hz3,hn3⟩:=aO hb3 hw3
 have hz3:Blk w3 b3 v.cells TV:=hz3
 clear hw3
 rintro b4 w4 hb4 hw4
 obtain ⟨hz4,hn4⟩:=aO hb4 hw4
 have hz4:Blk w4 b4 (aJ.cells ⟨0,0,0,0,0,0,none,0,0,0,0⟩) TV:=hz4
 clear hw4
 rintro w5 hw5
 have hn5:New w4 w5:=by rw [hw5];exact aU _
 clear hw5
 have hs1:=hn1.size
 have hs2:=hn2.size
 have hs3:=hn3.size
 have hs4:=hn4.size
 have hs5:=hn5.size
 have hl1:=hz1.lt
 have hl2:=hz2.lt
 have hl3:=hz3.lt
 have hl4:=hz4.lt
 have hn05:=(((hn1.new hn2).new hn3).new hn4).new hn5
 have y1:=New.blk (((hn2.new hn3).new hn4).new hn5) hz1
 have y2:=New.blk ((hn3.new hn4).new hn5) hz2
 have y3:=New.blk (hn4.new hn5) hz3
 have y4:=New.blk hn5 hz4
 refine ⟨λy=>Blk y b2 m.cells TMb,y2,_,λy hy=>hy.cell (i:=0) rfl,_,λy hy=>hy.cell (i:=1) rfl,pS y3 (i:=1) rfl λw6 y3 hk6=>⟨hk6.blk y2 (by omega),pS y3 (i:=8) rfl λw7 y3 hk7=>?_⟩⟩
 have hk57:=hk6.trans hk7 λ_ _ e=>e
 have y1:=hk57.blk y1 (by omega)
 refine ⟨_,y1.cell (i:=0) rfl,?_⟩
 refine aF (FK w7 h0 h1) ?_
 rintro z w8 ⟨rfl,rfl⟩
 refine ⟨_,_,rfl,pS y3 (i:=7) rfl λw9 y3 hk9=>⟨_,_,_,y3.cell (i:=6) rfl,?_⟩⟩
 have hn09:New w w9:=hn05.trans (hk57.trans hk9 λ_ _ e=>e) λk hlt e=>by omega
 have hwl:v.Wl=x.words.length:=by rw [hv.eq];rfl
 refine aF (oT (xs:=us x.words) (by rw [kV,hwl]) (hv.rd.new hn09) (kw _) (by have:=hv.wlen;omega) (λe=>by rw [hwl,hv.nil e];rfl)) ?_
 rintro z w10 ⟨a',cap,rfl,hn10,hown,hfr,hnil⟩
 have hs9:=hn09.size
 have hs59:=(hk57.trans hk9 λ_ _ e=>e).size
 refine ⟨_,_,_,rfl,pS (New.blk hn10 y3) (i:=6) rfl λw11 y3 hk11=>?_⟩
 have y4:=hk11.blk (New.blk hn10 ((hk57.trans hk9 λ_ _ e=>e).blk y4 (by omega))) (show ¬ b4=b3 by omega)
 have y3:Blk w11 b3 (aJ.cells { v with Node:=m.Node,Boot:=m.Boot,Key:=key1 r.Number,Words:=a',Wc:=cap }) TV:=y3
 refine aJ.mk_ex _ ⟨aI y3 rfl,il y4 rfl (aJ.single _) λw12 y4 hk12=>?_⟩
 refine aJ.mk_ex _ ⟨aI y4 rfl,rfl,_,rfl,?_,((hn09.new hn10).trans hk11 λk hlt e=>by omega).trans hk12 λk hlt e=>by omega⟩
 have hoff:us x.words=[]∨Off (λk=>k<w9.heap.size) a':=lD hown.rd λk hk e=>by have:=hfr k hk;omega
 have hrd:Rd w12 a' (us x.words):=(hown.rd.keep hk11 (hoff.imp id λh=>by
  cases a' with
  |none=>trivial
  |some a=>exact λe=>h (by have e:a.block=b3:=e;omega))).keep hk12 (hoff.imp id λh=>by
  cases a' with
  |none=>trivial
  |some a=>exact λe=>h (by have e:a.block=b4:=e;omega))
 refine ⟨?_,hrd,λe=>hv.nil (hnil.1 e),?_,hv.wf,hv.new,hv.old,?_,hbt,Owns.le hown,hv.wlen⟩
 ·show ({ v with Node:=m.Node,Boot:=m.Boot,Key:=key1 r.Number,Words:=a',Wc:=cap }:aJ)=_
  have e:=hv.eq
  generalize v.Words=q1 at e
  generalize v.Wc=q2 at e
  subst e
  rfl
 ·rcases hoff with h | h
  ·left
   have:=congrArg List.length h
   rw [kV] at this
   exact List.eq_nil_of_length_eq_zero this
  ·right
   cases a' with
   |none=>trivial
   |some a=>exact λe=>h (by have e:a.block<w.heap.size:=e;show a.block<w9.heap.size;omega)
 ·show U64 (key1 r.Number)
  unfold key1 U64
  omega
theorem vP (l:List aE):∀ r ∈ jM l,r.length=3:=by
 intro r hr
 obtain ⟨x,_,rfl⟩:=List.mem_map.1 hr
 rfl
theorem vQ (l:List aE):∀ u ∈ (jM l).flatten,single u=true:=by
 intro u hu
 obtain ⟨r,hr,hx⟩:=List.mem_flatten.1 hu
 obtain ⟨y,_,rfl⟩:=List.mem_map.1 hr
 exact aE.single y u hx
theorem B9 {w:World} {a:Option Addr} {n c:Nat} {vs:List aE} (hl:vs.length=n) (hr:Rd w a (jM vs).flatten) (hb:n≤1000000) (hn:a=none→n=0) :
  Does 286 [.slice a n c] w λv w'=>∃ a' cap,v=.slice a' n cap∧vj w w' TMb 3 a a' n cap (jM vs).flatten:=by
 refine does Tryz.func286 ?_
 rw [fW]
 obtain ⟨i,hi,hz,hsz,hby⟩:=iF (T:=TMb) (z:=.agg #[.int .i64 0,.int .i64 0,.bool false]) (n:=3) (m:=24) (by kernel_rfl)
 cases a with
 |none=>
  refine gE rfl ⟨none,0,by rw [hn rfl],Keep.refl _ _,?_,?_,by simp⟩
  ·rw [hn rfl] at hl ⊢
   rw [List.eq_nil_of_length_eq_zero hl]
   exact Owns.nil _ _ _
  ·rintro k ⟨o,ho⟩;cases ho
 |some a=>
  refine er rfl ?_
  rintro b1 w1 rfl rfl
  obtain ⟨a',cap',w',hrun,hc⟩:=nQ (t:=33) (ty:=33) (n:=n) (c:=c) (w:=w) (a:=a) (xs:=(jM vs).flatten) Tryz.underlying33 hi hz (by rw [hsz];rfl) (by omega) (by rw [ee (vP vs),hsz,jM,List.length_map,hl]) hr (vQ vs) (by omega) (by rw [hby];omega)
  exact ⟨a',n,cap',w',hrun,a',cap',rfl,by rw [hsz] at hc;exact hc⟩
theorem vR {M:Nat→Prop} {w:World} {r:aM} {v:Vw} (h:ViewAt M w r v) {m:aE} (hm:v.mem[0]?=some m):Does 135 [r.val] w λx w'=>x=.tuple #[m.val,.bool true]∧New w w':=by
 refine does Tryz.func135 ?_
 rw [rJ]
 rintro b1 w1 hb1 hw1
 obtain ⟨hz1,hn1⟩:=aO hb1 hw1
 have hz1:Blk w1 b1 r.cells TVw:=hz1
 clear hw1
 rintro b2 w2 hb2 hw2
 obtain ⟨hz2,hn2⟩:=aO hb2 hw2
 have hz2:Blk w2 b2 (aE.cells noM) TMb:=hz2
 clear hw2
 have hz12:=New.blk hn2 hz1
 have hn02:=hn1.new hn2
 have hs1:=hn1.size
 have hl:=aN hm
 have e3:=h.len
 refine ⟨_,_,_,hz12.cell (i:=1) rfl,bK (λe=>absurd e (by omega)) (λ_=>⟨_,_,_,hz12.cell (i:=1) rfl,?_⟩)⟩
 refine ez (cells:=aE.cells) aE.len (by omega) (i:=0) (h.rd.new hn02) hm rfl e3 λb o hcc _=>aE.mk_ex m ⟨hcc,il hz2 rfl (aE.single _) λw4 hz4 hk4=>?_⟩
 exact aE.mk_ex m ⟨aI hz4 rfl,rfl,rfl,hn02.trans hk4 λk hlt e=>by omega⟩
theorem Ao {M:Nat→Prop} {w:World} {r:aM} {v:Vw} (h:ViewAt M w r v) (hne:0<v.mem.length):Does 238 [r.val] w λy w'=>∃ (a:Option Addr) (cap:Nat),y=.slice a (v.mem.length - 1) cap∧New w w'∧Rd w' a (jM v.mem.tail).flatten:=by
 refine does Tryz.func238 ?_
 rw [rM]
 rintro b1 w1 hb1 hw1
 obtain ⟨hz1,hn1⟩:=aO hb1 hw1
 have hz1:Blk w1 b1 r.cells TVw:=hz1
 clear hw1
 have hlen:=h.len
 have hcap:=h.cap
 have hsm:=h.small
 refine ⟨_,_,_,hz1.cell (i:=1) rfl,bK (λe=>absurd e (by omega)) (λ_=>⟨_,_,_,hz1.cell (i:=1) rfl,?_⟩)⟩
 have hr:=h.rd.new hn1
 have hfl:(jM v.mem).flatten.length=v.mem.length * 3:=by rw [ee (vP _),jM,List.length_map]
 obtain ⟨b,o,hab⟩:∃ b o,r.Members=some ⟨b,o,none⟩:=by
  rcases hr with he | ⟨b,o,e,_⟩
  ·have:=congrArg List.length he
   rw [hfl] at this
   simp at this <;> omega
  ·exact ⟨b,o,e⟩
 rw [hab] at hr ⊢
 rw [hlen]
 have htl:(jM v.mem.tail).flatten=((jM v.mem).flatten).drop 3:=by
  cases hvm:v.mem with
  |nil=>rfl
  |cons x xs=>rfl
 refine oC (by omega) (by omega) (by omega) (by omega) (by omega) λa ha=>?_
 have ha2:Rd w1 a (jM v.mem.tail).flatten∧a≠none:=by
  rcases ha with rfl | ⟨e,rfl⟩
  ·refine ⟨?_,by simp⟩
   rw [htl]
   exact hr.drop 3
  ·refine ⟨?_,by simp⟩
   have:v.mem.tail=[]:=List.eq_nil_of_length_eq_zero (by rw [List.length_tail];omega)
   rw [this]
   exact .inl rfl
 have e1:Int.toNat (v.mem.length:Int) - Int.toNat 1=v.mem.length - 1:=by omega
 rw [e1]
 refine aF (B9 (vs:=v.mem.tail) (by rw [List.length_tail]) ha2.1 (by omega) (λe=>absurd e ha2.2)) ?_
 rintro y w2 ⟨a',cap,rfl,hn2,hown,_⟩
 exact ⟨_,_,_,rfl,a',cap,rfl,hn1.new hn2,hown.rd⟩
structure VB (w0 u:World) (a:Option Addr) (n cap:Nat) (vs:List Verb):Prop where
 ex:∃ raws:List aJ,Owns u TV 9 a n cap (eC raws).flatten∧Vs (λk=>k<w0.heap.size∨isB a k) u raws vs
 len:n=vs.length
 fr:∀ k,isB a k→w0.heap.size≤k
theorem VB.nil (w0 u:World):VB w0 u none 0 0 []:=⟨⟨[],Owns.nil _ _ _,rfl,λi v x h=>by simp at h⟩,rfl,λk hk=>absurd hk noB⟩
theorem VB.new {w0 u u':World} {a:Option Addr} {n cap:Nat} {vs:List Verb} (h:VB w0 u a n cap vs) (hn:New u u'):VB w0 u' a n cap vs:=by
 obtain ⟨⟨raws,ho,hv⟩,hl,hf⟩:=h
 exact ⟨⟨raws,Owns.new hn ho,hv.keep (Keep.of_new hn) λ_ _ e=>e⟩,hl,hf⟩
theorem VB.keep {w0 u u':World} {a:Option Addr} {n cap:Nat} {vs:List Verb} (h:VB w0 u a n cap vs) {M:Nat→Prop} (hk:Keep M u u') (hM:∀ k,M k→k<w0.heap.size):VB w0 u' a n cap vs:=by
 obtain ⟨⟨raws,ho,hv⟩,hl,hf⟩:=h
 refine ⟨⟨raws,ho.keep hk λk hk e=>?_,hv.keep (hk.mono λk _ e=>.inl (hM k e)) λ_ _ e=>e⟩,hl,hf⟩
 have:=hf k hk
 have:=hM k e
 omega
theorem VB.mono {w0 w1 u:World} {a:Option Addr} {n cap:Nat} {vs:List Verb} (h:VB w1 u a n cap vs) (hs:w0.heap.size≤w1.heap.size):VB w0 u a n cap vs:=by
 obtain ⟨⟨raws,ho,hv⟩,hl,hf⟩:=h
 exact ⟨⟨raws,ho,hv.keep (Keep.refl _ _) λk _ e=>e.imp (λe=>by omega) id⟩,hl,λk hk=>by have:=hf k hk;omega⟩
theorem Vs.app {M:Nat→Prop} {w:World} {r1 r2:List aJ} {v1 v2:List Verb} (h1:Vs M w r1 v1) (h2:Vs M w r2 v2):Vs M w (r1++r2) (v1++v2):=by
 obtain ⟨l1,g1⟩:=h1
 obtain ⟨l2,g2⟩:=h2
 refine ⟨by simp [l1,l2],λi v x hv hx=>?_⟩
 by_cases hi:i<r1.length
 ·rw [List.getElem?_append_left hi] at hv
  rw [List.getElem?_append_left (by omega)] at hx
  exact g1 i v x hv hx
 ·rw [List.getElem?_append_right (by omega)] at hv
  rw [List.getElem?_append_right (by omega)] at hx
  rw [←l1] at hx
  exact g2 _ v x hv hx
theorem Vs.one {M:Nat→Prop} {w:World} {v:aJ} {x:Verb} (h:bI M w v x):Vs M w [v] [x]:=⟨rfl,λi v' x' h1 h2=>by
 cases i with
 |zero=>simp at h1 h2;subst h1 h2;exact h
 |succ i=>simp at h1⟩
theorem VB.push_k {w0 u u1:World} {a:Option Addr} {n cap:Nat} {vs:List Verb} (h:VB w0 u a n cap vs) (h00:New w0 u) (hu:New u u1) {v:aJ} {x:Verb} (hv:bI (λk=>k<u.heap.size) u1 v x) (hf:n≤100000) {K:Nat→Option Addr→Nat→Nat→World→Prop}
  (hk:∀ b ap cap' w3,b=u1.heap.size→VB w0 w3 ap (n+1) cap' (vs++[x])→Keep (isB a) u1 w3→New w0 w3→K b ap (n+1) cap' w3) :
  ∀ b1 w2,b1=u1.heap.size→w2=u1.alloc (.cells v.cells.toArray TV)→∃ (ap:Option Addr) (ap_len ap_cap:Nat),∃ w3,(Builtin.append_ #[TSV,TSV] TSV #[(.slice a n cap),(.slice (some ⟨b1,0,none⟩) 1 1)]).run prog w2=.ok (.slice ap ap_len ap_cap) w3∧K b1 ap ap_len ap_cap w3:=by
 obtain ⟨⟨raws,ho,hvs⟩,hl,hfr⟩:=h
 have h0:=h00.new hu
 have hs0:=h00.size
 have hsu:=hu.size
 refine DM (Owns.new hu ho) (v:=v) (by omega) λb ap cap' w3 hb h1 hk3 hap=>?_
 have hapf:∀ k,isB ap k→w0.heap.size≤k:=λk hk=>by
  rcases hap k hk with e | e
  ·exact hfr k e
  ·omega
 refine hk b ap cap' w3 hb ⟨⟨raws++[v],by rw [qR];simpa [eC] using h1,?_⟩,by rw [List.length_append,hl];rfl,hapf⟩ hk3 (h0.trans hk3 λk hlt e=>by have:=hfr k e;omega)
 have hst:∀ k,k<u1.heap.size→(k<w0.heap.size∨isB ap k)→(k<w0.heap.size∨isB a k):=λk hlt e=>e.imp id λe=>by
  rcases hap k e with e | e
  ·exact e
  ·omega
 have hv1:=hvs.keep (M':=λk=>k<w0.heap.size∨isB a k) (Keep.of_new hu) λ_ _ e=>e
 refine Vs.app (hv1.keep (hk3.mono λk _ e=>.inr e) hst) (Vs.one ?_)
 have hv2:bI (λk=>k<w0.heap.size∨isB a k) u1 v x:=hv.keep (Keep.refl _ _) λk hlt e=>by
  rcases e with e | e
  ·omega
  ·exact ho.lt e
 exact hv2.keep (hk3.mono λk _ e=>.inr e) hst
theorem VB.push_e {w0 u u1:World} {a:Option Addr} {n cap:Nat} {vs:List Verb} (h:VB w0 u a n cap vs) (h00:New w0 u) (hu:New u u1) {v:aJ} {x:Verb} (hv:bI (λk=>k<u.heap.size) u1 v x) (hf:n≤100000) {b1:Nat} {w2:World} (hb:b1=u1.heap.size) (hw:w2=u1.alloc (.cells v.cells.toArray TV)) {K:Option Addr→Nat→Nat→World→Prop}
  (hk:∀ ap cap' w3,VB w0 w3 ap (n+1) cap' (vs++[x])→Keep (isB a) u1 w3→New w0 w3→K ap (n+1) cap' w3) :
  ∃ (ap:Option Addr) (ap_len ap_cap:Nat),∃ w3,(Builtin.append_ #[TSV,TSV] TSV #[(.slice a n cap),(.slice (some ⟨b1,0,none⟩) 1 1)]).run prog w2=.ok (.slice ap ap_len ap_cap) w3∧K ap ap_len ap_cap w3:=
 VB.push_k h h00 hu hv hf (K:=λ_ ap n c w=>K ap n c w) (λb ap cap' w3 _ h1 h2 h3=>hk ap cap' w3 h1 h2 h3) b1 w2 hb hw
end Go.Proofs.YtgpmeaicjonenaaGreat
namespace Go.Proofs.YtgpmeaicjonenaaGreat
open Go.Proofs.Tryz
open Go.Eng IntKind
variable (w:World) (R:Value→World→Prop)
theorem lX (p0:Nat):fnW prog f186 [(.pointer (some ⟨p0,0,none⟩))] R w=(∀ b1 w1,b1=w.heap.size→w1=w.alloc (.cells #[(.int .i64 0),(.int .i64 0)] 188)→∀ w2,w2=w1.drew→∃ Sx:World→Prop,Sx w2∧∃ a,(∀ u,Sx u→u.cell? ⟨p0,0,none⟩=some (.int .i64 a))∧aL.ex λj_=>(∀ u,Sx u→aC u ⟨p0,0,none⟩ 0 j_.cells)∧Calls prog 231 #[(.int .i64 a)] w2 λe w3=>∃ b,e=.returned (.int .i64 b)∧Sx w3∧Calls prog 183 #[j_.val] w3 λe w4=>aS.ex λh=>e=.returned h.val∧Sx w4∧Calls prog 232 #[h.val] w4 λe w5=>∃ c d f,e=.returned (.slice c d f)∧Sx w5∧Calls prog 230 #[(.pointer (some ⟨p0,0,none⟩)),(.int .i64 b),(.slice c d f),(.int .i64 1)] w5 λe w6=>aA.ex λi=>∃ g,e=.returned (.tuple #[i.val,(.bool g)])∧Sx w6∧wrAt w6 ⟨b1,0,none⟩ 0 i.cells∧∀ w7,w7=puts w6 ⟨b1,0,none⟩ 0 i.cells→aA.ex λk=>aC w7 ⟨b1,0,none⟩ 0 k.cells∧w7=w7∧R (.tuple #[k.val,(.bool g)]) w7):=by kernel_rfl
theorem lY (p0:Nat):fnW prog f188 [.pointer (some ⟨p0,0,none⟩)] R w=(∀ b1 w1,b1=w.heap.size→w1=w.alloc (.cells #[.int .i64 0,.int .i64 0] 188)→∃ a,w1.cell? ⟨p0,1,none⟩=some (.int .i64 a)∧Calls prog 236 #[.int .i64 a] w1 λe w2=>∃ b c,e=.returned (.tuple #[.int .u64 b,.int .i64 c])∧∃ d,w2.cell? ⟨p0,0,none⟩=some (.int .i64 d)∧Calls prog 237 #[.int .i64 d] w2 λe w3=>∃ f,e=.returned (.int .i64 f)∧∀ b2 w4,b2=w3.heap.size→w4=w3.alloc (.cells #[.int .u64 b] 30)→Calls prog 230 #[.pointer (some ⟨p0,0,none⟩),.int .i64 f,.slice (some ⟨b2,0,none⟩) 1 1,.int .i64 2] w4 λe w5=>aA.ex λh=>∃ g,e=.returned (.tuple #[h.val,.bool g])∧wrAt w5 ⟨b1,0,none⟩ 0 h.cells∧∀ w6,w6=puts w5 ⟨b1,0,none⟩ 0 h.cells→aA.ex λi=>aC w6 ⟨b1,0,none⟩ 0 i.cells∧w6=w6∧R (.tuple #[i.val,.bool g]) w6):=by kernel_rfl
def bT (s0 s2:Addr) (s4:Option Addr) (a b:Nat) (c:Option Addr) (d f:Nat) (g h:Int) (j:LV):LV:=.pointer (some s0)::jq j 0 1 (.pointer (some s2)::jq j 1 1 (.slice s4 a b::jq j 2 10 (.slice c d f::.int .i64 g::.int .i64 h::jq j 12 31 [])))
def fB (a b:Addr) (s4:Option Addr) (c d:Nat) (j:LV):LV:=.pointer (some a)::jq j 0 1 (.pointer (some b)::jq j 1 1 (.slice s4 c d::jq j 2 44 []))
theorem kH (p0:Nat):fnW prog f189 [.pointer (some ⟨p0,0,none⟩)] R w=(∀ b1 w1,b1=w.heap.size→w1=w.alloc (.cells #[.int .i64 0,.int .i64 0] 188)→aM.ex λd=>aC w1 ⟨p0,3,none⟩ 0 d.cells∧Calls prog 238 #[d.val] w1 λe w2=>∃ a b c,e=.returned (.slice a b c)∧cQ prog (.loop (sub (aD f189) [1,1,0,1,0,0])) (bT ⟨p0,0,none⟩ ⟨b1,0,none⟩ none 0 0 a b c (b:Nat) 0 (undef::jb false::uq 5 (jp ⟨p0,0,none⟩::jp ⟨p0,0,none⟩::jp ⟨p0,0,none⟩::jp ⟨p0,3,none⟩::d.val::uq 31 []))) (aK 0 (nx f189 [1,1,1] R)) w2):=by kernel_rfl
theorem gU (s0 s2:Addr) (s4:Option Addr) (a b:Nat) (c:Option Addr) (d f:Nat) (g h:Int) (j:LV) (N1:LV→World→Prop):W prog (sub (aD f189) [1,1,0,1,0,0]) (bT s0 s2 s4 a b c d f g h j) (seqQ N1 (aK 0 (nx f189 [1,1,1] R))) w=((bif (decide ((h:Int)<g)) then (idxS c d h 3 λad=>aE.ex λr=>aC w ad 0 r.cells∧∀ b1 w1,b1=w.heap.size→w1=w.alloc (.cells #[.int .i64 0,.int .i64 0,.bool false] 128)→wrAt w1 ⟨b1,0,none⟩ 0 r.cells∧∀ w2,w2=puts w1 ⟨b1,0,none⟩ 0 r.cells→∃ i k l,w2.cell? ⟨s0.block,s0.off+6,none⟩=some (.slice i k l)∧(bif (decide (((k:Nat):Int)>0)) then (aE.ex λr1=>aC w2 ⟨b1,0,none⟩ 0 r1.cells∧Calls prog 239 #[.pointer (some s0),r1.val] w2 λe w3=>∃ (m:Option Addr) (n o:Nat),e=.returned (.slice m n o)∧∃ (ap:Option Addr) (p q:Nat),∃ w4,(Builtin.append_ #[140,140] 140 #[.slice s4 a b,.slice m n o]).run prog w3=.ok (.slice ap p q) w4∧aE.ex λr2=>aC w4 ⟨b1,0,none⟩ 0 r2.cells∧Calls prog 240 #[.pointer (some s0),r2.val] w4 λe w5=>aJ.ex λx=>e=.returned x.val∧∀ b2 w6,b2=w5.heap.size→w6=w5.alloc (.cells x.cells.toArray 173)→∃ (s:Option Addr) (t v:Nat),∃ w7,(Builtin.append_ #[140,140] 140 #[.slice ap p q,.slice (some ⟨b2,0,none⟩) 1 1]).run prog w6=.ok (.slice s t v) w7∧N1 (bT s0 s2 s t v c d f g (i64.wrap (h+1)) (jg j 0::jg j 1::jg j 2::jp ⟨b1,0,none⟩::jq j 4 8 (jb (decide ((h:Int)<g))::jp ad::r.val::jp s0::jp s0::jp s0::jf s0 6::js i k l::jn k::jb (decide (((k:Nat):Int)>0))::js s4 a b::jp s0::r1.val::js m n o::js ap p q::js ap p q::jp s0::r2.val::x.val::js (some ⟨b2,0,none⟩) 1 1::js s t v::ji (i64.wrap (h+1))::jq j 34 9 []))) w7) else (N1 (bT s0 s2 s4 a b c d f g (i64.wrap (h+1)) (jg j 0::jg j 1::jg j 2::jp ⟨b1,0,none⟩::jq j 4 8 (jb (decide ((h:Int)<g))::jp ad::r.val::jp s0::jp s0::jp s0::jf s0 6::js i k l::jn k::jb (decide (((k:Nat):Int)>0))::jq j 22 11 (ji (i64.wrap (h+1))::jq j 34 9 [])))) w2))) else (W prog (sub (aD f189) [1,1,1]) (fB s0 s2 s4 a b (jq j 0 12 (js c d f::ji g::ji h::jb (decide ((h:Int)<g))::jq j 13 30 []))) (retQ prog f189 R) w))):=by kernel_rfl
theorem iL (a b:Addr) (s4:Option Addr) (c d:Nat) (j:LV):W prog (sub (aD f189) [1,1,1]) (fB a b s4 c d j) (retQ prog f189 R) w=(Calls prog 235 #[.pointer (some a),.slice s4 c d,.int .i64 3] w λe w1=>∃ f g h,aA.ex λk=>∃ i,e=.returned (.tuple #[.slice f g h,k.val,.bool i])∧∀ b1 w2,b1=w1.heap.size→w2=w1.alloc (.cells #[.int .i64 0,.int .i64 0] 188)→wrAt w2 ⟨b1,0,none⟩ 0 k.cells∧∀ w3,w3=puts w2 ⟨b1,0,none⟩ 0 k.cells→aA.ex λr=>aC w3 ⟨b1,0,none⟩ 0 r.cells∧wrAt w3 b 0 r.cells∧∀ w4,w4=puts w3 b 0 r.cells→aA.ex λl=>aC w4 b 0 l.cells∧w4=w4∧R (.tuple #[l.val,.bool i]) w4):=by kernel_rfl
set_option maxHeartbeats 4000000 in
theorem kQ (p0:Nat):fnW prog f190 [.pointer (some ⟨p0,0,none⟩)] R w=(∀ b1 w1,b1=w.heap.size→w1=w.alloc (.cells #[.int .i64 0,.int .i64 0] 188)→∃ a b c,w1.cell? ⟨p0,6,none⟩=some (.slice a b c)∧(bif (((b:Nat):Int) == 0) then (wrAt w1 ⟨b1,0,none⟩ 0 [.int .i64 0,.int .i64 0]∧∀ w2,w2=puts w1 ⟨b1,0,none⟩ 0 [.int .i64 0,.int .i64 0]→aA.ex λcv=>aC w2 ⟨b1,0,none⟩ 0 cv.cells∧w2=w2∧R (.tuple #[cv.val,.bool true]) w2) else (∀ w3,w3=w1.drew→∃ Sx:World→Prop,Sx w3∧aE.ex λcw=>(∀ u,Sx u→aC u ⟨p0,8,none⟩ 0 cw.cells)∧aE.ex λcx=>(∀ u,Sx u→aC u ⟨p0,8,none⟩ 0 cx.cells)∧(Calls prog 240 #[.pointer (some ⟨p0,0,none⟩),cw.val] w3 λe w4=>aJ.ex λcy=>e=.returned cy.val∧Sx w4∧(∀ b2 w5,b2=w4.heap.size→w5=w4.alloc (.cells cy.cells.toArray 173)→Sx w5∧(Calls prog 239 #[.pointer (some ⟨p0,0,none⟩),cx.val] w5 λe w6=>∃ (d:Option Addr) (f g:Nat),e=.returned (.slice d f g)∧Sx w6∧(∃ (ap:Option Addr) (h i:Nat),∃ w7,(Builtin.append_ #[140,140] 140 #[.slice (some ⟨b2,0,none⟩) 1 1,.slice d f g]).run prog w6=.ok (.slice ap h i) w7∧Sx w7∧(Calls prog 235 #[.pointer (some ⟨p0,0,none⟩),.slice ap h i,.int .i64 3] w7 λe w8=>∃ (k:Option Addr) (l m:Nat),aA.ex λcz=>∃ (n:Bool),e=.returned (.tuple #[.slice k l m,cz.val,.bool n])∧Sx w8∧∀ b3 w9,b3=w8.heap.size→w9=w8.alloc (.cells #[.int .i64 0,.int .i64 0] 188)→Sx w9∧wrAt w9 ⟨b3,0,none⟩ 0 cz.cells∧∀ c0,c0=puts w9 ⟨b3,0,none⟩ 0 cz.cells→aA.ex λr=>aC c0 ⟨b3,0,none⟩ 0 r.cells∧wrAt c0 ⟨b1,0,none⟩ 0 r.cells∧∀ c1,c1=puts c0 ⟨b1,0,none⟩ 0 r.cells→aA.ex λc2=>aC c1 ⟨b1,0,none⟩ 0 c2.cells∧c1=c1∧R (.tuple #[c2.val,.bool n]) c1)∧(∀ b4 c3,b4=w7.heap.size→c3=w7.alloc (.cells #[.int .i64 0,.int .i64 0] 188)→Sx c3∧Calls prog 235 #[.pointer (some ⟨p0,0,none⟩),.slice ap h i,.int .i64 3] c3 λe c4=>∃ (o:Option Addr) (p q:Nat),aA.ex λc5=>∃ (s:Bool),e=.returned (.tuple #[.slice o p q,c5.val,.bool s])∧Sx c4∧wrAt c4 ⟨b4,0,none⟩ 0 c5.cells∧∀ c6,c6=puts c4 ⟨b4,0,none⟩ 0 c5.cells→aA.ex λr1=>aC c6 ⟨b4,0,none⟩ 0 r1.cells∧wrAt c6 ⟨b1,0,none⟩ 0 r1.cells∧∀ c7,c7=puts c6 ⟨b1,0,none⟩ 0 r1.cells→aA.ex λc8=>aC c7 ⟨b1,0,none⟩ 0 c8.cells∧c7=c7∧R (.tuple #[c8.val,.bool s]) c7))∧(∀ b5 c9,b5=w6.heap.size→c9=w6.alloc (.cells #[.int .i64 0,.int .i64 0] 188)→Sx c9∧∃ (t:Option Addr) (v x:Nat),∃ da,(Builtin.append_ #[140,140] 140 #[.slice (some ⟨b2,0,none⟩) 1 1,.slice d f g]).run prog c9=.ok (.slice t v x) da∧Sx da∧Calls prog 235 #[.pointer (some ⟨p0,0,none⟩),.slice t v x,.int .i64 3] da λe db=>∃ (y:Option Addr) (z aa:Nat),aA.ex λdc=>∃ (ab:Bool),e=.returned (.tuple #[.slice y z aa,dc.val,.bool ab])∧Sx db∧wrAt db ⟨b5,0,none⟩ 0 dc.cells∧∀ dd,dd=puts db ⟨b5,0,none⟩ 0 dc.cells→aA.ex λr2=>aC dd ⟨b5,0,none⟩ 0 r2.cells∧wrAt dd ⟨b1,0,none⟩ 0 r2.cells∧∀ de,de=puts dd ⟨b1,0,none⟩ 0 r2.cells→aA.ex λdf=>aC de ⟨b1,0,none⟩ 0 df.cells∧de=de∧R (.tuple #[df.val,.bool ab]) de))∧(∀ b6 dg,b6=w5.heap.size→dg=w5.alloc (.cells #[.int .i64 0,.int .i64 0] 188)→Sx dg∧Calls prog 239 #[.pointer (some ⟨p0,0,none⟩),cx.val] dg λe dh=>∃ (ac:Option Addr) (ad ae:Nat),e=.returned (.slice ac ad ae)∧Sx dh∧∃ (af:Option Addr) (ag ah:Nat),∃ di,(Builtin.append_ #[140,140] 140 #[.slice (some ⟨b2,0,none⟩) 1 1,.slice ac ad ae]).run prog dh=.ok (.slice af ag ah) di∧Sx di∧Calls prog 235 #[.pointer (some ⟨p0,0,none⟩),.slice af ag ah,.int .i64 3] di λe dj=>∃ (ai:Option Addr) (aj ak:Nat),aA.ex λdk=>∃ (al:Bool),e=.returned (.tuple #[.slice ai aj ak,dk.val,.bool al])∧Sx dj∧wrAt dj ⟨b6,0,none⟩ 0 dk.cells∧∀ dl,dl=puts dj ⟨b6,0,none⟩ 0 dk.cells→aA.ex λr3=>aC dl ⟨b6,0,none⟩ 0 r3.cells∧wrAt dl ⟨b1,0,none⟩ 0 r3.cells∧∀ dm,dm=puts dl ⟨b1,0,none⟩ 0 r3.cells→aA.ex λdn=>aC dm ⟨b1,0,none⟩ 0 dn.cells∧dm=dm∧R (.tuple #[dn.val,.bool al]) dm))∧(Calls prog 239 #[.pointer (some ⟨p0,0,none⟩),cx.val] w4 λe dp=>∃ (am:Option Addr) (an ao:Nat),e=.returned (.slice am an ao)∧Sx dp∧(∀ b7 dq,b7=dp.heap.size→dq=dp.alloc (.cells cy.cells.toArray 173)→Sx dq∧(∃ (aq:Option Addr) (ar au:Nat),∃ dr,(Builtin.append_ #[140,140] 140 #[.slice (some ⟨b7,0,none⟩) 1 1,.slice am an ao]).run prog dq=.ok (.slice aq ar au) dr∧Sx dr∧(Calls prog 235 #[.pointer (some ⟨p0,0,none⟩),.slice aq ar au,.int .i64 3] dr λe ds=>∃ (av:Option Addr) (aw ax:Nat),aA.ex λdt=>∃ (ay:Bool),e=.returned (.tuple #[.slice av aw ax,dt.val,.bool ay])∧Sx ds∧∀ b8 du,b8=ds.heap.size→du=ds.alloc (.cells #[.int .i64 0,.int .i64 0] 188)→Sx du∧wrAt du ⟨b8,0,none⟩ 0 dt.cells∧∀ dv,dv=puts du ⟨b8,0,none⟩ 0 dt.cells→aA.ex λr4=>aC dv ⟨b8,0,none⟩ 0 r4.cells∧wrAt dv ⟨b1,0,none⟩ 0 r4.cells∧∀ dw,dw=puts dv ⟨b1,0,none⟩ 0 r4.cells→aA.ex λdx=>aC dw ⟨b1,0,none⟩ 0 dx.cells∧dw=dw∧R (.tuple #[dx.val,.bool ay]) dw)∧(∀ b9 dy,b9=dr.heap.size→dy=dr.alloc (.cells #[.int .i64 0,.int .i64 0] 188)→Sx dy∧Calls prog 235 #[.pointer (some ⟨p0,0,none⟩),.slice aq ar au,.int .i64 3] dy λe dz=>∃ (az:Option Addr) (a0 a1:Nat),aA.ex λd0=>∃ (a2:Bool),e=.returned (.tuple #[.slice az a0 a1,d0.val,.bool a2])∧Sx dz∧wrAt dz ⟨b9,0,none⟩ 0 d0.cells∧∀ d1,d1=puts dz ⟨b9,0,none⟩ 0 d0.cells→aA.ex λr5=>aC d1 ⟨b9,0,none⟩ 0 r5.cells∧wrAt d1 ⟨b1,0,none⟩ 0 r5.cells∧∀ d2,d2=puts d1 ⟨b1,0,none⟩ 0 r5.cells→aA.ex λd3=>aC d2 ⟨b1,0,none⟩ 0 d3.cells∧d2=d2∧R (.tuple #[d3.val,.bool a2]) d2))∧(∀ d4 d5,d4=dq.heap.size→d5=dq.alloc (.cells #[.int .i64 0,.int .i64 0] 188)→Sx d5∧∃ (a3:Option Addr) (a4 a5:Nat),∃ d6,(Builtin.append_ #[140,140] 140 #[.slice (some ⟨b7,0,none⟩) 1 1,.slice am an ao]).run prog d5=.ok (.slice a3 a4 a5) d6∧Sx d6∧Calls prog 235 #[.pointer (some ⟨p0,0,none⟩),.slice a3 a4 a5,.int .i64 3] d6 λe d7=>∃ (a6:Option Addr) (a7 a8:Nat),aA.ex λd8=>∃ (a9:Bool),e=.returned (.tuple #[.slice a6 a7 a8,d8.val,.bool a9])∧Sx d7∧wrAt d7 ⟨d4,0,none⟩ 0 d8.cells∧∀ d9,d9=puts d7 ⟨d4,0,none⟩ 0 d8.cells→aA.ex λr6=>aC d9 ⟨d4,0,none⟩ 0 r6.cells∧wrAt d9 ⟨b1,0,none⟩ 0 r6.cells∧∀ fa,fa=puts d9 ⟨b1,0,none⟩ 0 r6.cells→aA.ex λfb=>aC fa ⟨b1,0,none⟩ 0 fb.cells∧fa=fa∧R (.tuple #[fb.val,.bool a9]) fa))∧(∀ fc fd,fc=dp.heap.size→fd=dp.alloc (.cells #[.int .i64 0,.int .i64 0] 188)→Sx fd∧∀ fe ff,fe=fd.heap.size→ff=fd.alloc (.cells cy.cells.toArray 173)→Sx ff∧∃ (ba:Option Addr) (bb bc:Nat),∃ fg,(Builtin.append_ #[140,140] 140 #[.slice (some ⟨fe,0,none⟩) 1 1,.slice am an ao]).run prog ff=.ok (.slice ba bb bc) fg∧Sx fg∧Calls prog 235 #[.pointer (some ⟨p0,0,none⟩),.slice ba bb bc,.int .i64 3] fg λe fh=>∃ (bd:Option Addr) (be bf:Nat),aA.ex λfi=>∃ (bg:Bool),e=.returned (.tuple #[.slice bd be bf,fi.val,.bool bg])∧Sx fh∧wrAt fh ⟨fc,0,none⟩ 0 fi.cells∧∀ fj,fj=puts fh ⟨fc,0,none⟩ 0 fi.cells→aA.ex λr7=>aC fj ⟨fc,0,none⟩ 0 r7.cells∧wrAt fj ⟨b1,0,none⟩ 0 r7.cells∧∀ fk,fk=puts fj ⟨b1,0,none⟩ 0 r7.cells→aA.ex λfl=>aC fk ⟨b1,0,none⟩ 0 fl.cells∧fk=fk∧R (.tuple #[fl.val,.bool bg]) fk))∧(∀ fm fn,fm=w4.heap.size→fn=w4.alloc (.cells #[.int .i64 0,.int .i64 0] 188)→Sx fn∧(∀ fo fp,fo=fn.heap.size→fp=fn.alloc (.cells cy.cells.toArray 173)→Sx fp∧Calls prog 239 #[.pointer (some ⟨p0,0,none⟩),cx.val] fp λe fq=>∃ (bh:Option Addr) (bi bj:Nat),e=.returned (.slice bh bi bj)∧Sx fq∧∃ (bk:Option Addr) (bl bm:Nat),∃ fr,(Builtin.append_ #[140,140] 140 #[.slice (some ⟨fo,0,none⟩) 1 1,.slice bh bi bj]).run prog fq=.ok (.slice bk bl bm) fr∧Sx fr∧Calls prog 235 #[.pointer (some ⟨p0,0,none⟩),.slice bk bl bm,.int .i64 3] fr λe fs=>∃ (bn:Option Addr) (bo bp:Nat),aA.ex λft=>∃ (bq:Bool),e=.returned (.tuple #[.slice bn bo bp,ft.val,.bool bq])∧Sx fs∧wrAt fs ⟨fm,0,none⟩ 0 ft.cells∧∀ fu,fu=puts fs ⟨fm,0,none⟩ 0 ft.cells→aA.ex λr8=>aC fu ⟨fm,0,none⟩ 0 r8.cells∧wrAt fu ⟨b1,0,none⟩ 0 r8.cells∧∀ fv,fv=puts fu ⟨b1,0,none⟩ 0 r8.cells→aA.ex λfw=>aC fv ⟨b1,0,none⟩ 0 fw.cells∧fv=fv∧R (.tuple #[fw.val,.bool bq]) fv)∧(Calls prog 239 #[.pointer (some ⟨p0,0,none⟩),cx.val] fn λe fx=>∃ (br:Option Addr) (bs bt:Nat),e=.returned (.slice br bs bt)∧Sx fx∧∀ fy fz,fy=fx.heap.size→fz=fx.alloc (.cells cy.cells.toArray 173)→Sx fz∧∃ (bu:Option Addr) (bv bw:Nat),∃ f0,(Builtin.append_ #[140,140] 140 #[.slice (some ⟨fy,0,none⟩) 1 1,.slice br bs bt]).run prog fz=.ok (.slice bu bv bw) f0∧Sx f0∧Calls prog 235 #[.pointer (some ⟨p0,0,none⟩),.slice bu bv bw,.int .i64 3] f0 λe f1=>∃ (bx:Option Addr) (bz b0:Nat),aA.ex λf2=>∃ (ca:Bool),e=.returned (.tuple #[.slice bx bz b0,f2.val,.bool ca])∧Sx f1∧wrAt f1 ⟨fm,0,none⟩ 0 f2.cells∧∀ f3,f3=puts f1 ⟨fm,0,none⟩ 0 f2.cells→aA.ex λr9=>aC f3 ⟨fm,0,none⟩ 0 r9.cells∧wrAt f3 ⟨b1,0,none⟩ 0 r9.cells∧∀ f4,f4=puts f3 ⟨b1,0,none⟩ 0 r9.cells→aA.ex λf5=>aC f4 ⟨b1,0,none⟩ 0 f5.cells∧f4=f4∧R (.tuple #[f5.val,.bool ca]) f4)))∧(∀ f6 f7,f6=w3.heap.size→f7=w3.alloc (.cells #[.int .i64 0,.int .i64 0] 188)→Sx f7∧Calls prog 240 #[.pointer (some ⟨p0,0,none⟩),cw.val] f7 λe f8=>aJ.ex λf9=>e=.returned f9.val∧Sx f8∧(∀ ga gb,ga=f8.heap.size→gb=f8.alloc (.cells f9.cells.toArray 173)→Sx gb∧Calls prog 239 #[.pointer (some ⟨p0,0,none⟩),cx.val] gb λe gc=>∃ (cb:Option Addr) (cc cd:Nat),e=.returned (.slice cb cc cd)∧Sx gc∧∃ (ce:Option Addr) (cf cg:Nat),∃ gd,(Builtin.append_ #[140,140] 140 #[.slice (some ⟨ga,0,none⟩) 1 1,.slice cb cc cd]).run prog gc=.ok (.slice ce cf cg) gd∧Sx gd∧Calls prog 235 #[.pointer (some ⟨p0,0,none⟩),.slice ce cf cg,.int .i64 3] gd λe gf=>∃ (ch:Option Addr) (ci cj:Nat),aA.ex λgg=>∃ (ck:Bool),e=.returned (.tuple #[.slice ch ci cj,gg.val,.bool ck])∧Sx gf∧wrAt gf ⟨f6,0,none⟩ 0 gg.cells∧∀ gh,gh=puts gf ⟨f6,0,none⟩ 0 gg.cells→aA.ex λgi=>aC gh ⟨f6,0,none⟩ 0 gi.cells∧wrAt gh ⟨b1,0,none⟩ 0 gi.cells∧∀ gj,gj=puts gh ⟨b1,0,none⟩ 0 gi.cells→aA.ex λgk=>aC gj ⟨b1,0,none⟩ 0 gk.cells∧gj=gj∧R (.tuple #[gk.val,.bool ck]) gj)∧(Calls prog 239 #[.pointer (some ⟨p0,0,none⟩),cx.val] f8 λe gl=>∃ (cl:Option Addr) (cm cn:Nat),e=.returned (.slice cl cm cn)∧Sx gl∧∀ gm gn,gm=gl.heap.size→gn=gl.alloc (.cells f9.cells.toArray 173)→Sx gn∧∃ (co:Option Addr) (cp cq:Nat),∃ gp,(Builtin.append_ #[140,140] 140 #[.slice (some ⟨gm,0,none⟩) 1 1,.slice cl cm cn]).run prog gn=.ok (.slice co cp cq) gp∧Sx gp∧Calls prog 235 #[.pointer (some ⟨p0,0,none⟩),.slice co cp cq,.int .i64 3] gp λe gq=>∃ (cr:Option Addr) (cs ct:Nat),aA.ex λgr=>∃ (cu:Bool),e=.returned (.tuple #[.slice cr cs ct,gr.val,.bool cu])∧Sx gq∧wrAt gq ⟨f6,0,none⟩ 0 gr.cells∧∀ gs,gs=puts gq ⟨f6,0,none⟩ 0 gr.cells→aA.ex λgu=>aC gs ⟨f6,0,none⟩ 0 gu.cells∧wrAt gs ⟨b1,0,none⟩ 0 gu.cells∧∀ gv,gv=puts gs ⟨b1,0,none⟩ 0 gu.cells→aA.ex λgw=>aC gv ⟨b1,0,none⟩ 0 gw.cells∧gv=gv∧R (.tuple #[gw.val,.bool cu]) gv))))):=by kernel_rfl
theorem mi (p0:Nat) (p1:Int) (p2:Option Addr) (a b:Nat) (p3:Int):fnW prog f230 [.pointer (some ⟨p0,0,none⟩),.int .i64 p1,.slice p2 a b,.int .i64 p3] R w=(∀ b1 w1,b1=w.heap.size→w1=w.alloc (.cells #[.int .i64 0,.int .i64 0] 188)→∃ c d f,w1.cell? ⟨p0,6,none⟩=some (.slice c d f)∧(bif (((d:Nat):Int) == 0) then (wrAt w1 ⟨b1,0,none⟩ 0 [.int .i64 0,.int .i64 0]∧∀ w2,w2=puts w1 ⟨b1,0,none⟩ 0 [.int .i64 0,.int .i64 0]→aA.ex λo=>aC w2 ⟨b1,0,none⟩ 0 o.cells∧w2=w2∧R (.tuple #[o.val,.bool true]) w2) else (Calls prog 282 #[.pointer (some ⟨p0,0,none⟩),.agg #[.int .i64 2,.int .i64 0,.int .i64 p1,.int .i64 0,.int .u64 0,.int .u64 0,.slice p2 a b,.int .u64 0,.int .i64 0]] w1 λe w3=>∃ g h i,e=.returned (.slice g h i)∧Calls prog 235 #[.pointer (some ⟨p0,0,none⟩),.slice g h i,.int .i64 p3] w3 λe w4=>∃ k l m,aA.ex λp=>∃ n,e=.returned (.tuple #[.slice k l m,p.val,.bool n])∧∀ b2 w5,b2=w4.heap.size→w5=w4.alloc (.cells #[.int .i64 0,.int .i64 0] 188)→wrAt w5 ⟨b2,0,none⟩ 0 p.cells∧∀ w6,w6=puts w5 ⟨b2,0,none⟩ 0 p.cells→aA.ex λr=>aC w6 ⟨b2,0,none⟩ 0 r.cells∧wrAt w6 ⟨b1,0,none⟩ 0 r.cells∧∀ w7,w7=puts w6 ⟨b1,0,none⟩ 0 r.cells→aA.ex λq=>aC w7 ⟨b1,0,none⟩ 0 q.cells∧w7=w7∧R (.tuple #[q.val,.bool n]) w7))):=by kernel_rfl
end Go.Proofs.YtgpmeaicjonenaaGreat
