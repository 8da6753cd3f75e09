import Derived.Test.YtgpmeaicjonenaaGreata05
import Derived.Test.YtgpmeaicjonenaaGreata08
set_option linter.unusedVariables false
namespace Go.Proofs.YtgpmeaicjonenaaGreat
open Go.Proofs.Tryz
open Go.Eng
structure Verb where
 kind:Int
 node:Int
 at_:Int
 n:Int
 old:Int
 new:Int
 words:List Int
 key:Int
 boot:Int
def Verb.v (x:Verb):aJ:=⟨x.kind,x.node,x.at_,x.n,x.old,x.new,none,x.words.length,0,x.key,x.boot⟩
structure Done where
 code:Int
 words:List Int
structure Pair where
 client:Int
 inc:Int
 node:Int
 verbs:List Verb
 executed:Nat
 words:List Int
def Pair.refusal (p:Pair) (x:Verb) (n:aP):Int:=
 if n.down=true then 4 else if x.v.valid 5 (n.words.length / 8:Nat)≠0 then 2 else x.v.check p.inc (n.get (24+p.client).toNat) (n.get 0) (n.get 1)
def exec (x:Verb) (pc:Int×Int) (n:aP):aP×List Int:=
 if x.kind=1 then (n,n.read pc.1 pc.2)
 else if x.kind=2 then (n.write pc.1.toNat ((x.words.drop (pc.1 - x.at_).toNat).take pc.2.toNat),[])
 else if x.kind=3 then (n.cas x.at_ x.old x.new,[n.get x.at_.toNat])
 else if x.kind=4 then (n.add x.at_ x.new,[n.get x.at_.toNat])
 else (n,[])
def Pair.rdy (p:Pair):Prop:=∀ x xs,p.verbs=x::xs→p.executed<x.v.pieces.length
def Pair.done (p:Pair):Pair:={ p with verbs:=p.verbs.tail,executed:=0,words:=[] }
def Pair.step (p:Pair) (n:aP):Pair×aP×Option Done:=
 match p.verbs with
 | []=>(p,n,none)
 |x::_=>
  if p.refusal x n≠0 then (p.done,n,some ⟨p.refusal x n,[]⟩)
  else
   let r:=exec x (x.v.pieces.getD p.executed (0,0)) n
   if p.executed+1<x.v.pieces.length then ({ p with executed:=p.executed+1,words:=p.words++r.2 },r.1,none)
   else (p.done,r.1,some ⟨0,p.words++r.2⟩)
structure bI (M:Nat→Prop) (w:World) (v:aJ) (x:Verb):Prop where
 eq:v={ x.v with Words:=v.Words,Wc:=v.Wc }
 rd:Rd w v.Words (us x.words)
 nil:v.Words=none→x.words=[]
 off:x.words=[]∨Off M v.Words
 wf:∀ u ∈ x.words,U64 u
 new:U64 x.new
 old:U64 x.old
 key:U64 x.key
 boot:I64 x.boot
 cap:v.Wl≤v.Wc
 wlen:x.words.length≤1000000
theorem bI.keep {M M':Nat→Prop} {w w':World} {v:aJ} {x:Verb} (h:bI M w v x) (hk:Keep M w w') (hM:∀ k,k<w.heap.size→M' k→M k):bI M' w' v x:=by
 refine ⟨h.eq,h.rd.keep hk (h.off.imp (λe=>by rw [e];rfl) id),h.nil,?_,h.wf,h.new,h.old,h.key,h.boot,h.cap,h.wlen⟩
 rcases h.off with ho | ho
 ·exact .inl ho
 ·by_cases hx:x.words=[]
  ·exact .inl hx
  ·refine .inr ?_
   cases ha:v.Words with
   |none=>trivial
   |some a=>
    rw [ha] at ho
    have hr:=h.rd
    rw [ha] at hr
    intro hm
    exact ho (hM _ (hr.lt (by simpa [us] using hx)) hm)
theorem bI.count {M:Nat→Prop} {w:World} {v:aJ} {x:Verb} (h:bI M w v x):v.count=x.v.count:=by rw [h.eq];rfl
theorem bI.valid {M:Nat→Prop} {w:World} {v:aJ} {x:Verb} (h:bI M w v x) (a b:Int):v.valid a b=x.v.valid a b:=by rw [h.eq];rfl
theorem bI.check {M:Nat→Prop} {w:World} {v:aJ} {x:Verb} (h:bI M w v x) (a b c d:Int):v.check a b c d=x.v.check a b c d:=by rw [h.eq];rfl
theorem bI.pieces {M:Nat→Prop} {w:World} {v:aJ} {x:Verb} (h:bI M w v x):v.pieces=x.v.pieces:=by rw [h.eq];rfl
theorem bI.at_ {M:Nat→Prop} {w:World} {v:aJ} {x:Verb} (h:bI M w v x):v.At=x.at_:=by rw [h.eq];rfl
theorem bI.kind {M:Nat→Prop} {w:World} {v:aJ} {x:Verb} (h:bI M w v x):v.Kind=x.kind:=by rw [h.eq];rfl
structure cX where
 client:Int
 inc:Int
 node:Int
 raw:List aJ
 verbs:List Verb
 va:Option Addr
 vc:Nat
 executed:Nat
 words:List Int
 wa:Option Addr
 wc:Nat
def cX.pure (p:cX):Pair:=⟨p.client,p.inc,p.node,p.verbs,p.executed,p.words⟩
def cX.cells (p:cX):List Value:=[.int .i64 p.client,.int .i64 p.inc,.int .i64 p.node,.slice p.va p.verbs.length p.vc,.int .i64 p.executed,.slice p.wa p.words.length p.wc]
abbrev TP:TypeId:=154
abbrev TU:TypeId:=30
def Vs (M:Nat→Prop) (w:World) (raw:List aJ) (xs:List Verb):Prop:=raw.length=xs.length∧∀ (i:Nat) (v:aJ) (x:Verb),raw[i]?=some v→xs[i]?=some x→bI M w v x
theorem Vs.keep {M M':Nat→Prop} {w w':World} {raw:List aJ} {xs:List Verb} (h:Vs M w raw xs) (hk:Keep M w w') (hM:∀ k,k<w.heap.size→M' k→M k):Vs M' w' raw xs:=
 ⟨h.1,λi v x hv hx=>(h.2 i v x hv hx).keep hk hM⟩
theorem Vs.tail {M:Nat→Prop} {w:World} {v:aJ} {raw:List aJ} {x:Verb} {xs:List Verb} (h:Vs M w (v::raw) (x::xs)):Vs M w raw xs:=
 ⟨by simpa using h.1,λi v x hv hx=>h.2 (i+1) v x (by simpa using hv) (by simpa using hx)⟩
def cX.mut (b:Nat) (p:cX) (k:Nat):Prop:=k=b∨isB p.va k∨isB p.wa k
structure bS (M:Nat→Prop) (w:World) (b:Nat) (p:cX):Prop where
 blk:Blk w b p.cells TP
 own:Owns w TV 9 p.va p.verbs.length p.vc (eC p.raw).flatten
 wown:Owns w TU 1 p.wa p.words.length p.wc (us p.words)
 vs:Vs M w p.raw p.verbs
 client:0≤p.client∧p.client<6
 inc:0≤p.inc∧p.inc≤59
 node:0≤p.node∧p.node<5
 len:p.verbs.length≤1024
 wlen:p.words.length≤8 * p.executed
 vok:∀ x ∈ p.verbs,x.v.valid 5 256=0∧x.node=p.node
 ex:match p.verbs with
  | []=>p.executed=0
  |x::_=>p.executed≤x.v.pieces.length
 wwf:∀ u ∈ p.words,U64 u
 mine:∀ k,p.mut b k→M k
theorem bS.keep {M M':Nat→Prop} {w w':World} {b:Nat} {p:cX} (h:bS M w b p) (hk:Keep M' w w') (hp:∀ k,p.mut b k→¬ M' k) (hM:∀ k,M' k→M k):bS M w' b p:=
 ⟨hk.blk h.blk (hp b (.inl rfl)),h.own.keep hk λk hb=>hp k (.inr (.inl hb)),h.wown.keep hk λk hb=>hp k (.inr (.inr hb)),h.vs.keep (hk.mono λi _=>hM i) λ_ _ h=>h,
  h.client,h.inc,h.node,h.len,h.wlen,h.vok,h.ex,h.wwf,h.mine⟩
theorem bS.new {M:Nat→Prop} {w w':World} {b:Nat} {p:cX} (h:bS M w b p) (hk:New w w'):bS M w' b p:=h.keep hk (λ_ _ hf=>hf) (λ_ hf=>hf.elim)
theorem bS.recolor {M M':Nat→Prop} {w:World} {b:Nat} {p:cX} (h:bS M w b p) (hM:∀ k,k<w.heap.size→M' k→M k) (hp:∀ k,p.mut b k→M' k):bS M' w b p:=
 ⟨h.blk,h.own,h.wown,h.vs.keep (Keep.refl _ _) hM,h.client,h.inc,h.node,h.len,h.wlen,h.vok,h.ex,h.wwf,hp⟩
theorem pH {M:Nat→Prop} {w:World} {b:Nat} {p:cX} (h:bS M w b p):Does 50 [.pointer (some ⟨b,0,none⟩)] w λv w'=>v=.int .i64 p.verbs.length∧w'=w:=by
 refine does Tryz.func50 ?_
 rw [lj]
 exact ⟨_,_,_,h.blk.cell rfl,rfl,rfl⟩
theorem zI {M:Nat→Prop} {w:World} {b:Nat} {p:cX} (h:bS M w b p):Does 74 [.pointer (some ⟨b,0,none⟩)] w λv w'=>v=.int .i64 p.client∧w'=w:=by
 refine does Tryz.func74 ?_
 rw [lG]
 exact ⟨_,h.blk.cell rfl,rfl,rfl⟩
theorem zJ {M:Nat→Prop} {w:World} {b:Nat} {p:cX} (h:bS M w b p):Does 75 [.pointer (some ⟨b,0,none⟩)] w λv w'=>v=.int .i64 p.node∧w'=w:=by
 refine does Tryz.func75 ?_
 rw [mw]
 exact ⟨_,h.blk.cell rfl,rfl,rfl⟩
theorem EJ {w:World} {c i n:Int} (hc:0≤c∧c<6) (hi:0≤i∧i≤59) (hn:0≤n∧n<5) :
  Does 87 [.int .i64 c,.int .i64 i,.int .i64 n] w λv w'=>v=.tuple #[.pointer (some ⟨w.heap.size,0,none⟩),.int .i64 0]∧(∀ M:Nat→Prop,M w.heap.size→bS M w' w.heap.size ⟨c,i,n,[],[],none,0,0,[],none,0⟩)∧New w w'∧w'.heap.size=w.heap.size+1:=by
 refine does Tryz.func87 ?_
 rw [qY]
 refine aH (λh=>by omega) (λ_=>aH (λh=>by omega) (λ_=>aH (λh=>by omega) (λ_=>aH (λh=>by omega) (λ_=>aH (λh=>by omega) (λ_=>aH (λh=>by omega) (λ_=>?_))))))
 rintro b1 w1 rfl rfl
 refine ⟨rfl,λM hM=>?_,dP _ _,by simp⟩
 refine ⟨jK w [.int .i64 c,.int .i64 i,.int .i64 n,.slice none 0 0,.int .i64 0,.slice none 0 0] TP,Owns.nil _ _ _,Owns.nil _ _ _,⟨rfl,λi v x hv=>by simp at hv⟩,hc,hi,hn,by simp,by simp,by simp,rfl,by simp,?_⟩
 rintro k (rfl | ⟨o,ho⟩ | ⟨o,ho⟩)
 ·exact hM
 ·cases ho
 ·cases ho
theorem vl (vs:List aJ):∀ u ∈ (eC vs).flatten,single u=true:=by
 intro u hu
 simp only [eC,List.mem_flatten,List.mem_map] at hu
 obtain ⟨r,⟨v,_,rfl⟩,hu⟩:=hu
 exact v.single u hu
theorem sX (vs:List aJ):(eC vs).flatten.length=vs.length * 9:=by
 rw [ee (nl vs)];simp [eC]
theorem ud {w:World} {a:Option Addr} {n c:Nat} {vs:List aJ} (hl:vs.length=n) (hr:Rd w a (eC vs).flatten) (hb:n≤1000000) (hn:a=none→n=0) :
  Does 147 [.slice a n c] w λv w'=>∃ a' cap,v=.slice a' n cap∧vj w w' TV 9 a a' n cap (eC vs).flatten:=by
 refine does Tryz.func147 ?_
 rw [hU]
 obtain ⟨i,hi,hz,hsz,hby⟩:=iF (T:=TV) (z:=.agg #[.int .i64 0,.int .i64 0,.int .i64 0,.int .i64 0,.int .u64 0,.int .u64 0,.slice none 0 0,.int .u64 0,.int .i64 0]) (n:=9) (m:=88) (by kernel_rfl)
 cases a with
 |none=>
  refine gE rfl ⟨none,0,by rw [hn rfl],Keep.refl _ _,?_,?_,by simp⟩
  ·rw [hn rfl] at hl ⊢
   rw [List.eq_nil_of_length_eq_zero hl]
   exact Owns.nil _ _ _
  ·rintro k ⟨o,ho⟩;cases ho
 |some a=>
  refine er rfl ?_
  rintro b1 w1 rfl rfl
  obtain ⟨a',cap',w',hrun,hc⟩:=nQ (t:=140) (ty:=140) (n:=n) (c:=c) (w:=w) (a:=a) (xs:=(eC vs).flatten) Tryz.underlying140 hi hz (by rw [hsz];rfl) (by omega) (by rw [sX,hl,hsz]) hr (vl vs) (by omega) (by rw [hby];omega)
  exact ⟨a',n,cap',w',hrun,a',cap',rfl,by rw [hsz] at hc;exact hc⟩
theorem Dt {w:World} {v:aJ} {ws:List Int} (hr:Rd w v.Words (us ws)) (hl:ws.length=v.Wl) (hb:v.Wl≤1000000) (hn:v.Words=none→v.Wl=0) :
  Does 144 [v.val] w λx w'=>∃ a' cap,x=aJ.val { v with Words:=a',Wc:=cap }∧New w w'∧Owns w' TU 1 a' v.Wl cap (us ws)∧(∀ k,isB a' k→w.heap.size≤k)∧(a'=none↔v.Words=none):=by
 refine does Tryz.func144 ?_
 refine Eq.mpr (py v.Kind v.Node v.At v.N v.Old v.New v.Words v.Wl v.Wc v.Key v.Boot w _) ?_
 rintro b1 w1 hb1 hw1 b2 w2 hb2 hw2
 obtain ⟨hx,hn1⟩:=aO hb1 hw1
 obtain ⟨hz,hn2⟩:=aO hb2 hw2
 have hs1:w1.heap.size=w.heap.size+1:=by rw [hw1];simp
 have hs2:w2.heap.size=w.heap.size+2:=by rw [hw2];simp [hs1]
 have hx2:=New.blk hn2 hx
 have hnw:Go.Eng.New w w2:=hn1.new hn2
 clear hw1 hw2 hx hn1 hn2
 refine ⟨_,_,_,hx2.cell rfl,?_⟩
 refine aF (oT (by rw [kV,hl]) (hr.new hnw) (kw ws) (by omega) hn) ?_
 rintro x w3 ⟨a',cap,rfl,hk,ho,hf,hi⟩
 refine ⟨_,_,_,rfl,⟨_,(New.blk hk hx2).cell rfl⟩,(New.blk hk hx2).frozen,?_⟩
 intro w4 hw4
 have hx4:Blk w4 b1 (aJ.cells { v with Words:=a',Wc:=cap }) TV:=by
  rw [hw4];exact (New.blk hk hx2).setCell _
 have hz4:=(New.blk hk hz).setCell_ne (b':=b1) (i:=6) (by omega) (.slice a' v.Wl cap)
 rw [←hw4] at hz4
 have hk4:Keep (λk=>k=b1) w3 w4:=by rw [hw4];exact aR _ _ _ _
 refine mv (v:={ v with Words:=a',Wc:=cap }) (vbox hx4) ⟨cK (vs:=aJ.cells { v with Words:=a',Wc:=cap }) hz4 (by simp [aJ.cells]) (aJ.single _),?_⟩
 intro w5 hw5
 have hz5:Blk w5 b2 (aJ.cells { v with Words:=a',Wc:=cap }) TV:=by
  rw [hw5]
  have:=hz4.puts (o:=0) (i:=0) (vs:=aJ.cells { v with Words:=a',Wc:=cap })
  rw [gZ (by simp [aJ.cells])] at this
  exact this
 have hk5:Keep (λk=>k=b2) w4 w5:=by rw [hw5];exact dD _ _ _ _ _
 refine mv (v:={ v with Words:=a',Wc:=cap }) (vbox hz5) ⟨rfl,a',cap,rfl,?_,?_,λk hk'=>?_,hi⟩
 ·exact ((hnw.new hk).trans hk4 (λi hi' he=>by omega)).trans hk5 (λi hi' he=>by omega)
 ·refine (ho.keep hk4 ?_).keep hk5 ?_
  ·intro k hb he;have:=hf k hb;omega
  ·intro k hb he;have:=hf k hb;omega
 ·have:=hf k hk';omega
theorem zK {w:World} {b bw:Nat} {n:aP} (h:bM w b bw n) (hu:n.down=false) (at_:Int) (h0:0≤at_) (h1:at_<100):Does 145 [.pointer (some ⟨b,0,none⟩),.int .i64 at_] w λv w'=>v=.int .u64 (n.get at_.toNat)∧New w w':=by
 refine does Tryz.func145 ?_
 rw [qp]
 refine aF (CX h at_ 1) ?_
 intro v w1 hr
 rcases hr with ⟨hc,rfl,rfl⟩ | ⟨hc,a,cap,rfl,hn,ho,hf⟩
 ·refine ⟨_,_,_,_,rfl,cU (λ_=>⟨?_,Keep.refl _ _⟩) (λh=>absurd h hc)⟩
  have:(n.words.length:Int)≤at_:=by
   unfold aP.chk at hc
   split at hc
   ·omega
   ·simp [hu] at hc
  rw [aP.get,List.getD_eq_getElem?_getD,List.getElem?_eq_none (by omega)];rfl
 ·refine ⟨_,_,_,_,rfl,cU (λh=>absurd rfl h) (λ_=>?_)⟩
  rcases ho.2 with ⟨hx,_⟩ | ⟨g,cur,hx,_⟩
  ·cases hx
  simp only [Option.some.injEq] at hx
  subst hx
  obtain ⟨b1,b2,b3,_⟩:=aP.chk_zero hc
  refine bE (by omega) (by simp) ⟨n.get at_.toNat,?_,rfl,hn⟩
  refine ho.rd.cell (uY ?_)
  simp only [aP.read]
  rw [List.getElem?_take,if_pos (by simp),List.getElem?_drop]
  simpa using aP.get_some (n:=n) (i:=at_.toNat) (by omega)
theorem zL {M:Nat→Prop} {w:World} {b nb nw:Nat} {p:cX} {n:aP} {v:aJ} {x:Verb} (h:bS M w b p) (hn:bM w nb nw n) (hv:bI M w v x) :
  Does 104 [.pointer (some ⟨b,0,none⟩),v.val,.pointer (some ⟨nb,0,none⟩)] w λr w'=>r=.int .i64 (p.pure.refusal x n)∧New w w':=by
 refine does Tryz.func104 ?_
 refine Eq.mpr (lk b v.Kind v.Node v.At v.N v.Old v.New v.Words v.Wl v.Wc v.Key v.Boot nb w _) ?_
 rintro b1 w1 hb1 hw1
 obtain ⟨hx,hn1⟩:=aO hb1 hw1
 clear hw1
 refine aF (Up_c (hn.new hn1)) ?_
 rintro r w2 ⟨rfl,rfl⟩
 refine ⟨_,rfl,dG (λhd=>⟨?_,hn1⟩) (λhd=>?_)⟩
 ·have:n.down=true:=by simpa using hd
  simp [Pair.refusal,this]
 have hup:n.down=false:=by simpa using hd
 intro w3 hw3
 have hk3:Go.Eng.New w2 w3:=by rw [hw3];exact aU _
 have hx3:Blk w3 b1 v.cells TV:=New.blk hk3 hx
 have hnw3:=hn1.new hk3
 refine ⟨λu=>Go.Eng.New w3 u,Keep.refl _ _,mV (λu hu=>vbox (New.blk hu hx3)) ?_⟩
 refine aF (pF (hn.new hnw3)) ?_
 rintro r w4 ⟨rfl,rfl⟩
 refine ⟨_,rfl,Keep.refl _ _,?_⟩
 refine aF (wN _ v 5 _) ?_
 rintro r w5 ⟨rfl,hk5⟩
 have hx5:=New.blk hk5 hx3
 have hnw5:=hnw3.new hk5
 refine ⟨_,rfl,cU (λhval=>⟨?_,hnw5⟩) (λhval=>?_)⟩
 ·rw [hv.valid] at hval
  rw [Pair.refusal,if_neg (by simp [hup]),if_pos hval]
 have hcl:=h.client
 refine ⟨_,((h.new hnw5).blk).cell rfl,?_⟩
 rw [w64 (x:=24+p.client) (by omega) (by omega)]
 refine aF (zK (hn.new hnw5) hup (24+p.client) (by omega) (by omega)) ?_
 rintro r w6 ⟨rfl,hk6⟩
 refine ⟨_,rfl,?_⟩
 intro w7 hw7
 have hk7:Go.Eng.New w6 w7:=by rw [hw7];exact aU _
 have hnw7:=(hnw5.new hk6).new hk7
 have hx7:=New.blk hk7 (New.blk hk6 hx5)
 refine ⟨λu=>Go.Eng.New w7 u,Keep.refl _ _,mV (λu hu=>vbox (New.blk hu hx7)) ⟨_,λu hu=>((h.new (hnw7.new hu)).blk).cell rfl,?_⟩⟩
 refine aF (zK (hn.new hnw7) hup 0 (by omega) (by omega)) ?_
 rintro r w8 ⟨rfl,hk8⟩
 refine ⟨_,rfl,hk8,?_⟩
 refine aF (zK (hn.new (hnw7.new hk8)) hup 1 (by omega) (by omega)) ?_
 rintro r w9 ⟨rfl,hk9⟩
 refine ⟨_,rfl,hk8.new hk9,?_⟩
 have hval':¬ v.valid 5 (n.words.length / 8:Nat)≠0:=by omega
 have hins:v.inside 5 (n.words.length / 8:Nat)=true:=by
  unfold aJ.valid at hval
  cases hin:v.inside 5 (n.words.length / 8:Nat) with
  |true=>rfl
  |false=>
   rw [hin] at hval
   simp at hval
   split at hval<;>omega
 have hi:=fP hins
 have hinc:=h.inc
 have hboot:=hv.boot
 refine aF (Dr _ v p.inc _ _ _ (by omega) (by omega) (by omega) (by rw [hv.eq];exact hboot.2)) ?_
 rintro r w10 ⟨rfl,hk10⟩
 refine ⟨_,rfl,?_,((hnw7.new hk8).new hk9).new hk10⟩
 rw [hv.valid] at hval
 rw [hv.check]
 rw [Pair.refusal,if_neg (by simp [hup]),if_neg (λh=>h hval)]
 rfl
def BM (M:Nat→Prop) (nb nw:Nat) (n:aP) (x:Verb) (pc:Int×Int) (w:World) (r:Value) (w':World):Prop:=
 ∃ a cap,r=.slice a (exec x pc n).2.length cap∧Rd w' a (us (exec x pc n).2)∧(∀ k,isB a k→w.heap.size≤k)∧bM w' nb nw (exec x pc n).1∧Keep (λk=>k=nw) w w'
theorem Du {w:World} {b bw:Nat} {n:aP} (h:bM w b bw n) (i c:Int):∀ u ∈ n.read i c,U64 u:=by
 intro u hu
 exact h.wf u (List.mem_of_mem_drop (List.mem_of_mem_take hu))
theorem Dv {w:World} {b bw:Nat} {n:aP} (h:bM w b bw n) (x:Verb) (pc:Int×Int):∀ u ∈ (exec x pc n).2,U64 u:=by
 intro u hu
 unfold exec at hu
 split at hu
 ·exact Du h _ _ u hu
 split at hu
 ·simp at hu
 split at hu
 ·simp at hu;subst hu;exact h.wf_get _
 split at hu
 ·simp at hu;subst hu;exact h.wf_get _
 ·simp at hu
theorem zM {M:Nat→Prop} {w:World} {nb nw:Nat} {n:aP} {v:aJ} {x:Verb} {pc:Int×Int} (hn:bM w nb nw n) (hup:n.down=false) (hv:bI M w v x) (hoff:x.words=[]∨Off (λk=>k=nw) v.Words)
  (p0:x.at_≤pc.1) (p1:1≤pc.2) (p2:pc.2≤8) (p3:pc.1+pc.2≤x.at_+x.v.count) (h0:0≤x.at_) (h1:x.at_+x.v.count≤n.words.length) :
  Does 107 [v.val,.agg #[.int .i64 pc.1,.int .i64 pc.2],.pointer (some ⟨nb,0,none⟩)] w (BM M nb nw n x pc w):=by
 have hlen:=hn.len
 refine does Tryz.func107 ?_
 refine Eq.mpr (n0 v.Kind v.Node v.At v.N v.Old v.New v.Words v.Wl v.Wc v.Key v.Boot pc.1 pc.2 nb w _) ?_
 rintro b1 w1 hb1 hw1 b2 w2 hb2 hw2
 obtain ⟨hx,hn1⟩:=aO hb1 hw1
 obtain ⟨hz,hn2⟩:=aO hb2 hw2
 have hx2:=New.blk hn2 hx
 have hnw:Go.Eng.New w w2:=hn1.new hn2
 have hs:w.heap.size≤w2.heap.size:=hnw.size
 clear hw1 hw2 hx hn1 hn2
 have hN:=hn.new hnw
 have ek:=hv.kind
 have ea:=hv.at_
 refine ⟨_,hx2.cell rfl,bK (λhk=>?_) (λhk=>bK (λhk2=>?_) (λhk2=>bK (λhk3=>?_) (λhk3=>bK (λhk4=>?_) (λhk4=>?_))))⟩
 ·
  rw [ek] at hk
  have ec:x.v.count=x.n:=by simp [aJ.count,Verb.v,hk]
  have hc:n.chk pc.1 pc.2=0:=by
   unfold aP.chk
   rw [if_neg (by omega),if_neg (by simp [hup])]
  refine ⟨_,hz.cell rfl,_,hz.cell rfl,?_⟩
  refine aF (CX hN pc.1 pc.2) ?_
  intro r w3 hr
  rcases hr with ⟨hc',_⟩ | ⟨_,a,cap,rfl,hk3,ho,hf⟩
  ·exact absurd hc hc'
  have ex:exec x pc n=(n,n.read pc.1 pc.2):=by simp [exec,hk]
  refine ⟨_,_,_,_,rfl,some a,cap,?_,?_,?_,?_,?_⟩
  ·rw [ex];simp only [aP.read_len hc]
  ·rw [ex];exact ho.rd
  ·rintro k ⟨o,he⟩
   simp at he
   rw [he] at hf
   exact Nat.le_trans hs hf
  ·rw [ex];exact hN.new hk3
  ·exact Keep.of_new (hnw.new hk3)
 ·
  rw [ek] at hk hk2
  have ec:x.v.count=x.words.length:=by simp [aJ.count,Verb.v,hk2]
  have ex:exec x pc n=(n.write pc.1.toNat ((x.words.drop (pc.1 - x.at_).toNat).take pc.2.toNat),[]):=by simp [exec,hk2]
  refine ⟨_,hz.cell rfl,_,hx2.cell rfl,?_⟩
  rintro w4 hw4
  have hk4:Go.Eng.New w2 w4:=by rw [hw4];exact aU _
  clear hw4
  have hz4:=New.blk hk4 hz
  have hx4:=New.blk hk4 hx2
  have hN4:=hN.new hk4
  have hnw4:=hnw.new hk4
  refine ⟨λu=>Keep (λk=>k=nw) w4 u,Keep.refl _ _,_,λu hu=>(hu.blk hz4 (hz4.ne hN4.words (by decide))).cell rfl,_,_,_,λu hu=>(hu.blk hx4 (hx4.ne hN4.words (by decide))).cell rfl,_,λu hu=>(hu.blk hz4 (hz4.ne hN4.words (by decide))).cell rfl,?_⟩
  have e1:IntKind.i64.wrap (pc.1 - v.At)=pc.1 - x.at_:=by rw [ea,w64 (by omega) (by omega)]
  have e2:IntKind.i64.wrap (pc.1 - x.at_+pc.2)=pc.1 - x.at_+pc.2:=w64 (by omega) (by omega)
  rw [e1,e2]
  have hwl:v.Wl=x.words.length:=by rw [hv.eq];rfl
  have hne:x.words≠[]:=by intro hc;rw [hc] at ec;simp at ec <;> omega
  have hrd:=hv.rd.new hnw4
  have hwc:v.Wl≤v.Wc:=hv.cap
  rcases hrd with hr | ⟨sb,so,hs',hcell⟩
  ·exact absurd (by simpa [us] using hr) hne
  rw [hs']
  refine oC (by omega) (by omega) (by omega) (by omega) hwc ?_
  intro a ha
  rcases ha with rfl | ⟨hx',_⟩
  ·have hlen2:((x.words.drop (pc.1 - x.at_).toNat).take pc.2.toNat).length=(pc.1 - x.at_+pc.2).toNat - (pc.1 - x.at_).toNat:=by
    simp;omega
   have hrd2:Rd w4 (some ⟨sb,so+(pc.1 - x.at_).toNat * 1,none⟩) (us ((x.words.drop (pc.1 - x.at_).toNat).take pc.2.toNat)):=by
    rw [←wL,←wM,Nat.mul_one]
    have:Rd w4 (some ⟨sb,so,none⟩) (us x.words):=.inr ⟨sb,so,rfl,hcell⟩
    exact (this.drop _).take _
   rw [←hlen2]
   refine aF (zG hN4 pc.1 hrd2 (λu hu=>hv.wf u (List.mem_of_mem_drop (List.mem_of_mem_take hu))) (by simp)) ?_
   rintro r w5 ⟨rfl,hN5,hk5⟩
   have hc:n.chk pc.1 ((x.words.drop (pc.1 - x.at_).toNat).take pc.2.toNat).length=0:=by
    unfold aP.chk
    rw [if_neg (by rw [hlen2];omega),if_neg (by simp [hup])]
   rw [if_pos hc] at hN5
   refine ⟨_,rfl,hk5,none,0,?_,?_,?_,?_,?_⟩
   ·rw [ex];rfl
   ·rw [ex];exact Rd.nil _ _
   ·rintro k ⟨o,he⟩;cases he
   ·rw [ex];exact hN5
   ·exact (Keep.of_new hnw4).trans hk5 λi _ h=>h
  ·omega
 ·
  rw [ek] at hk3
  have ec:x.v.count=1:=by simp [aJ.count,Verb.v,hk3]
  have ex:exec x pc n=(n.cas x.at_ x.old x.new,[n.get x.at_.toNat]):=by simp [exec,hk3]
  have eo:v.Old=x.old:=by rw [hv.eq];rfl
  have en:v.New=x.new:=by rw [hv.eq];rfl
  refine ⟨_,hx2.cell rfl,_,hx2.cell rfl,_,hx2.cell rfl,?_⟩
  rw [ea,eo,en]
  refine aF (FE hN x.at_ x.old x.new hv.new.1 hv.new.2) ?_
  rintro r w6 ⟨rfl,hN6,hk6⟩
  have hc:n.chk x.at_ 1=0:=by
   unfold aP.chk
   rw [if_neg (by omega),if_neg (by simp [hup])]
  rw [if_pos hc] at hN6
  rw [if_pos hc]
  refine ⟨_,_,rfl,?_⟩
  intro b3 w7 hb3 hw7
  obtain ⟨hb7,hk7⟩:=aO hb3 hw7
  have hs6:=hk6.size
  refine ⟨some ⟨b3,0,none⟩,1,?_,?_,?_,?_,?_⟩
  ·rw [ex];rfl
  ·rw [ex];exact eQ hb7 rfl
  ·rintro k ⟨o,he⟩;simp at he <;> omega
  ·rw [ex];exact hN6.new hk7
  ·exact ((Keep.of_new hnw).trans hk6 λi _ h=>h).new hk7
 ·
  rw [ek] at hk4
  have ec:x.v.count=1:=by simp [aJ.count,Verb.v,hk4]
  have ex:exec x pc n=(n.add x.at_ x.new,[n.get x.at_.toNat]):=by simp [exec,hk4]
  have en:v.New=x.new:=by rw [hv.eq];rfl
  refine ⟨_,hx2.cell rfl,_,hx2.cell rfl,?_⟩
  rw [ea,en]
  refine aF (FF hN x.at_ x.new) ?_
  rintro r w6 ⟨rfl,hN6,hk6⟩
  have hc:n.chk x.at_ 1=0:=by
   unfold aP.chk
   rw [if_neg (by omega),if_neg (by simp [hup])]
  rw [if_pos hc] at hN6
  rw [if_pos hc]
  refine ⟨_,_,rfl,?_⟩
  intro b3 w7 hb3 hw7
  obtain ⟨hb7,hk7⟩:=aO hb3 hw7
  have hs6:=hk6.size
  refine ⟨some ⟨b3,0,none⟩,1,?_,?_,?_,?_,?_⟩
  ·rw [ex];rfl
  ·rw [ex];exact eQ hb7 rfl
  ·rintro k ⟨o,he⟩;simp at he <;> omega
  ·rw [ex];exact hN6.new hk7
  ·exact ((Keep.of_new hnw).trans hk6 λi _ h=>h).new hk7
 ·rw [ek] at hk hk2 hk3 hk4
  have ex:exec x pc n=(n,[]):=by simp [exec,hk,hk2,hk3,hk4]
  refine ⟨none,0,?_,?_,?_,?_,Keep.of_new hnw⟩
  ·rw [ex];rfl
  ·rw [ex];exact Rd.nil _ _
  ·rintro k ⟨o,he⟩;cases he
  ·rw [ex];exact hN
def Ok (M M':Nat→Prop) (w:World) (nu:Nat→Prop):Prop:=∀ k,M' k→(k<w.heap.size∧M k)∨nu k
theorem Blk.typ {w:World} {b:Nat} {cs cs':List Value} {T T':TypeId} (h:Blk w b cs T) (h':Blk w b cs' T'):T=T':=(h.uniq h').2
def cX.done (p:cX) (va:Option Addr) (vc:Nat):cX:={ p with raw:=p.raw.tail,verbs:=p.verbs.tail,va:=va,vc:=vc,executed:=0,words:=[],wa:=none,wc:=0 }
theorem yA (v:aJ) (vs:List aJ):(eC (v::vs)).flatten.drop 9=(eC vs).flatten:=by
 simp [eC,aJ.cells]
theorem tq {M:Nat→Prop} {w:World} {b:Nat} {p:cX} (h:bS M w b p) (hne:p.verbs≠[]) :
  Does 105 [.pointer (some ⟨b,0,none⟩)] w λr w'=>r=.tuple #[]∧∃ va vc,(∀ M':Nat→Prop,Ok M M' w (isB va)→(∀ k,(p.done va vc).mut b k→M' k)→bS M' w' b (p.done va vc))∧Keep (λk=>k=b) w w'∧(∀ k,isB va k→w.heap.size≤k):=by
 refine does Tryz.func105 ?_
 rw [kN]
 obtain ⟨x,xs,hxs⟩:∃ x xs,p.verbs=x::xs:=by
  cases hp:p.verbs with
  |nil=>exact absurd hp hne
  |cons x xs=>exact ⟨x,xs,rfl⟩
 obtain ⟨v,vs,hvs⟩:∃ v vs,p.raw=v::vs:=by
  cases hp:p.raw with
  |nil=>have:=h.vs.1;rw [hp,hxs] at this;simp at this
  |cons v vs=>exact ⟨v,vs,rfl⟩
 have hl:=h.len
 have hlen:p.verbs.length=vs.length+1:=by have:=h.vs.1;rw [hvs] at this;simpa using this.symm
 have hle:=h.own.le
 have hb:=h.blk
 refine ⟨_,_,_,hb.cell rfl,?_⟩
 rcases h.own.2 with ⟨_,hz,_⟩ | ⟨g,cur,hva,hg,hnc,hcm,hcs,htake⟩
 ·rw [hlen] at hz;omega
 rw [hva]
 refine oC (by omega) (by omega) (by omega) (by omega) hle ?_
 intro a ha
 have hrd:Rd w a (eC vs).flatten:=by
  rcases ha with rfl | ⟨he,rfl⟩
  ·have h1:=h.own.rd
   rw [hva] at h1
   have:=h1.drop 9
   rw [hvs,yA] at this
   exact this
  ·have:vs=[]:=List.eq_nil_of_length_eq_zero (by omega)
   rw [this]
   exact Rd.nil _ _
 have e1:((p.verbs.length:Int).toNat - (1:Int).toNat)=vs.length:=by omega
 rw [e1]
 refine aF (ud rfl hrd (by omega) (by intro hc;rcases ha with rfl | ⟨_,rfl⟩<;>cases hc)) ?_
 rintro r w1 ⟨a',cap,rfl,hk,ho,hf,hi⟩
 have hb1:=New.blk hk hb
 refine ⟨_,_,_,rfl,⟨_,hb1.cell rfl⟩,hb1.frozen,?_⟩
 rintro w2 rfl
 have hb2:=hb1.setCell (i:=3) (.slice a' vs.length cap)
 refine ⟨⟨_,hb2.cell rfl⟩,hb2.frozen,?_⟩
 rintro w3 rfl
 have hb3:=hb2.setCell (i:=4) (.int .i64 0)
 refine ⟨⟨_,hb3.cell rfl⟩,hb3.frozen,?_⟩
 rintro w4 rfl
 have hb4:=hb3.setCell (i:=5) (.slice none 0 0)
 have hkk:Keep (λk=>k=b) w (((w1.setCell ⟨b,3,none⟩ (.slice a' vs.length cap)).setCell ⟨b,4,none⟩ (.int .i64 0)).setCell ⟨b,5,none⟩ (.slice none 0 0)):=
  (((Keep.of_new (M:=λk=>k=b) hk).setCell (.inl rfl) _).setCell (.inl rfl) _).setCell (.inl rfl) _
 have hk1:Keep (λk=>k=b) w1 (((w1.setCell ⟨b,3,none⟩ (.slice a' vs.length cap)).setCell ⟨b,4,none⟩ (.int .i64 0)).setCell ⟨b,5,none⟩ (.slice none 0 0)):=
  (((Keep.refl (λk=>k=b) _).setCell (.inl rfl) _).setCell (.inl rfl) _).setCell (.inl rfl) _
 refine ⟨rfl,a',cap,λM' hM' hmine=>?_,hkk,hf⟩
 have htl:p.verbs.tail.length=vs.length:=by rw [hxs];rw [hxs] at hlen;simpa using hlen
 have hbl:=hb.lt
 refine ⟨?_,?_,Owns.nil _ _ _,?_,h.client,h.inc,h.node,?_,by simp [cX.done],?_,?_,by simp [cX.done],hmine⟩
 ·have e:(p.done a' cap).cells=((p.cells.set 3 (.slice a' vs.length cap)).set 4 (.int .i64 0)).set 5 (.slice none 0 0):=by
   simp only [cX.done,cX.cells,htl]
   rfl
  rw [e]
  exact hb4
 ·show Owns _ TV 9 a' p.verbs.tail.length cap (eC p.raw.tail).flatten
  rw [htl,hvs]
  exact ho.keep hk1 λk hb' he=>by have:=hf k hb';omega
 ·show Vs M' _ p.raw.tail p.verbs.tail
  rw [hvs,hxs]
  have h1:=h.vs
  rw [hvs,hxs] at h1
  refine h1.tail.keep (hkk.mono λk _ e=>h.mine k (.inl e)) λk hlt hm=>?_
  rcases hM' k hm with hm | hm
  ·exact hm.2
  ·have:=hf k hm;omega
 ·show p.verbs.tail.length≤1024
  omega
 ·intro y hy
  exact h.vok y (List.mem_of_mem_tail hy)
 ·show match p.verbs.tail with | []=>(0:Nat)=0 | x::_=>0≤x.v.pieces.length
  cases ht:p.verbs.tail with
  |nil=>rfl
  |cons y ys=>exact Nat.zero_le _
def cX.post (p:cX) (v:aJ) (x:Verb) (va:Option Addr) (vc:Nat):cX:={ p with raw:=p.raw++[v],verbs:=p.verbs++[x],va:=va,vc:=vc }
theorem qR (a b:List aJ):(eC (a++b)).flatten=(eC a).flatten++(eC b).flatten:=by simp [eC]
theorem yB {v:aJ} {a b:Int} (h:v.valid a b=0):v.valid 5 256=0:=by
 unfold aJ.valid at *
 split at h
 ·omega
 rename_i hc
 split at h
 ·omega
 rename_i hi
 split at h
 ·omega
 rename_i hl
 have hi':v.inside a b=true:=by simpa using hi
 have:=fP hi'
 have h5:v.inside 5 256=true:=by
  unfold aJ.inside
  exact decide_eq_true (by omega)
 rw [if_neg hc,if_neg (by simp [h5]),if_neg hl]
theorem Dw {M M0:Nat→Prop} {w:World} {b:Nat} {p:cX} {v:aJ} {x:Verb} {lines:Int} (h:bS M w b p) (hv:bI M0 w v x) (hval:x.v.valid 5 lines=0) (hnode:x.node=p.node) (hlen:p.verbs.length<1024) :
  Does 103 [.pointer (some ⟨b,0,none⟩),v.val,.int .i64 lines] w λr w'=>r=.int .i64 0∧∃ v' va vc,
   (∀ M':Nat→Prop,Ok M M' w (isB va)→(∀ k,(p.post v' x va vc).mut b k→M' k)→bS M' w' b (p.post v' x va vc))∧Keep (λk=>k=b∨isB p.va k) w w'∧(va=p.va∨∀ k,isB va k→w.heap.size≤k):=by
 refine does Tryz.func103 ?_
 refine Eq.mpr (mz b v.Kind v.Node v.At v.N v.Old v.New v.Words v.Wl v.Wc v.Key v.Boot lines w _) ?_
 rintro b1 w1 hb1 hw1
 obtain ⟨hx,hn1⟩:=aO hb1 hw1
 clear hw1
 refine mv (v:=v) (vbox hx) ?_
 refine aF (wN _ v 5 lines) ?_
 rintro r w2 ⟨rfl,hk2⟩
 have hx2:=New.blk hk2 hx
 have hnw2:=hn1.new hk2
 refine ⟨_,rfl,cU (λhc=>absurd (by rw [hv.valid];exact hval) hc) (λ_=>?_)⟩
 intro w3 hw3
 have hk3:Go.Eng.New w2 w3:=by rw [hw3];exact aU _
 have hx3:Blk w3 b1 v.cells TV:=New.blk hk3 hx2
 have hnw3:=hnw2.new hk3
 have hp3:=h.new hnw3
 clear hw3
 refine ⟨λu=>Go.Eng.New w3 u,Keep.refl _ _,_,λu hu=>(New.blk hu hx3).cell rfl,_,λu hu=>((hp3.new hu).blk).cell rfl,cU (λhc=>absurd (by rw [hv.eq];exact hnode) hc) (λ_=>?_)⟩
 refine ⟨_,_,_,hp3.blk.cell rfl,aH (λhc=>by omega) (λ_=>?_)⟩
 intro w4 hw4
 have hk4:Go.Eng.New w3 w4:=by rw [hw4];exact aU _
 have hx4:Blk w4 b1 v.cells TV:=New.blk hk4 hx3
 have hnw4:=hnw3.new hk4
 have hp4:=hp3.new hk4
 clear hw4
 have hvalt:∀ k,isB p.va k→k<w.heap.size:=λk hk=>h.own.lt hk
 have hbne:¬ isB p.va b:=by
  intro hc
  rcases h.own.2 with ⟨he,_⟩ | ⟨g,cur,he,hg,_⟩
  ·obtain ⟨o,ho⟩:=hc;rw [he] at ho;cases ho
  ·obtain ⟨o,ho⟩:=hc
   rw [he] at ho
   simp at ho
   have:=Blk.typ (ho.1▸hg) h.blk
   revert this;decide
 refine ⟨λu=>Keep (isB p.va) w4 u,Keep.refl _ _,_,_,_,λu hu=>(hu.blk hp4.blk hbne).cell rfl,mV (v:=v) (λu hu=>vbox (hu.blk hx4 (λhc=>by have:=hvalt _ hc;omega))) ?_⟩
 have hwl:x.words.length=v.Wl:=by rw [hv.eq];rfl
 have hins:x.v.inside 5 lines=true:=by
  unfold aJ.valid at hval
  cases hin:x.v.inside 5 lines with
  |true=>rfl
  |false=>rw [hin] at hval;simp at hval;split at hval<;>omega
 have hin:=fP hins
 refine aF (Dt (v:=v) (ws:=x.words) (hv.rd.new hnw4) hwl ?_ (λhc=>by rw [←hwl,hv.nil hc];rfl)) ?_
 ·rw [←hwl];exact hv.wlen
 rintro r w5 ⟨a',cap,rfl,hk5,ho5,hf5,hi5⟩
 refine ⟨_,_,_,_,_,_,_,_,_,_,_,rfl,Keep.of_new hk5,?_⟩
 rintro b2 w6 hb2 hw6
 obtain ⟨hz6,hn6⟩:=aO hb2 hw6
 clear hw6
 have hnw6:=(hnw4.new hk5).new hn6
 have hp6:=h.new hnw6
 refine ⟨(Keep.of_new hk5).new hn6,?_⟩
 obtain ⟨inf,hi,hz,hsz,hby⟩:=iF (T:=TV) (z:=.agg #[.int .i64 0,.int .i64 0,.int .i64 0,.int .i64 0,.int .u64 0,.int .u64 0,.slice none 0 0,.int .u64 0,.int .i64 0]) (n:=9) (m:=88) (by kernel_rfl)
 have hown:=hp6.own
 rw [←hsz] at hown
 obtain ⟨ap,cap',w7,hrun,hown7,hk7,hap⟩:=hown.append (P:=prog) (t:=140) (ty:=140) Tryz.underlying140 hi hz (by rw [hsz];rfl) (by omega)
  (s:=some ⟨b2,0,none⟩) (m:=1) (c:=1) (news:=aJ.cells { v with Words:=a',Wc:=cap }) (by rw [hsz];rfl) (eQ hz6 (by simp [aJ.cells])) (aJ.single _) (by omega) (by rw [hby];omega)
 rw [hsz] at hown7
 refine ⟨ap,p.verbs.length+1,cap',w7,hrun,((Keep.of_new hk5).new hn6).trans hk7 (λ_ _ h=>h),?_⟩
 have hb7:Blk w7 b p.cells TP:=hk7.blk hp6.blk hbne
 refine ⟨⟨_,hb7.cell rfl⟩,hb7.frozen,?_⟩
 rintro w8 hw8
 have hk8:Keep (λk=>k=b) w7 w8:=by rw [hw8];exact aR _ _ _ _
 have hb8:Blk w8 b (p.cells.set 3 (.slice ap (p.verbs.length+1) cap')) TP:=by rw [hw8];exact hb7.setCell _
 clear hw8
 have hapb:ap=p.va∨∀ k,isB ap k→w.heap.size≤k:=by
  rcases hap with hap | hap
  ·exact .inl hap
  ·refine .inr ?_
   rintro k ⟨o,ho⟩
   rw [hap] at ho
   simp at ho
   have:=hnw6.size
   omega
 have hkall:Keep (λk=>k=b∨isB p.va k) w w8:=((Keep.of_new hnw6).trans hk7 (λk _ hk=>.inr hk)).trans hk8 (λk _ hk=>.inl hk)
 have hbap:¬ isB ap b:=by
  intro hc
  rcases hapb with he | he
  ·exact hbne (he▸hc)
  ·have:=he b hc;have:=h.blk.lt;omega
 refine ⟨rfl,{ v with Words:=a',Wc:=cap },ap,cap',λM' hM' hmine=>?_,hkall,hapb⟩
 refine ⟨?_,?_,?_,?_,h.client,h.inc,h.node,by simp [cX.post];omega,h.wlen,?_,?_,h.wwf,hmine⟩
 ·have e:(p.post { v with Words:=a',Wc:=cap } x ap cap').cells=p.cells.set 3 (.slice ap (p.verbs.length+1) cap'):=by
   simp only [cX.post,cX.cells,List.length_append,List.length_cons,List.length_nil]
   rfl
  rw [e]
  exact hb8
 ·show Owns w8 TV 9 ap (p.verbs++[x]).length cap' (eC (p.raw++[_])).flatten
  rw [qR,List.length_append]
  have:(eC [{ v with Words:=a',Wc:=cap }]).flatten=aJ.cells { v with Words:=a',Wc:=cap }:=by simp [eC]
  rw [this]
  exact hown7.keep hk8 λk hk he=>hbap (he▸hk)
 ·refine (hp6.wown.keep hk7 ?_).keep hk8 ?_
  ·rintro k hk hc
   rcases h.own.2 with ⟨he,_⟩ | ⟨g,cur,he,hg,_⟩
   ·obtain ⟨o,ho⟩:=hc;rw [he] at ho;cases ho
   rcases h.wown.2 with ⟨he',_⟩ | ⟨g',cur',he',hg',_⟩
   ·obtain ⟨o,ho⟩:=hk;rw [he'] at ho;cases ho
   obtain ⟨o,ho⟩:=hk;obtain ⟨o',ho'⟩:=hc
   rw [he'] at ho;rw [he] at ho'
   simp at ho ho'
   have:=Blk.typ (ho'.1▸hg) (ho.1▸hg')
   revert this;decide
  ·rintro k hk he
   rcases h.wown.2 with ⟨he',_⟩ | ⟨g',cur',he',hg',_⟩
   ·obtain ⟨o,ho⟩:=hk;rw [he'] at ho;cases ho
   obtain ⟨o,ho⟩:=hk
   rw [he'] at ho
   simp at ho
   have:=Blk.typ (ho.1▸hg') (he▸h.blk)
   revert this;decide
 ·show Vs M' w8 (p.raw++[_]) (p.verbs++[x])
  have hold:Vs M' w8 p.raw p.verbs:=h.vs.keep (hkall.mono λk _ hk=>h.mine k (hk.elim .inl λe=>.inr (.inl e))) λk hlt hm=>by
   rcases hM' k hm with hm | hm
   ·exact hm.2
   ·rcases hapb with he | he
    ·exact h.mine k (.inr (.inl (he▸hm)))
    ·have:=he k hm;omega
  refine ⟨by simp [h.vs.1],λi v' x' hv' hx'=>?_⟩
  rw [List.getElem?_append] at hv' hx'
  by_cases hlt:i<p.raw.length
  ·rw [if_pos hlt] at hv'
   rw [if_pos (h.vs.1▸hlt)] at hx'
   exact hold.2 i v' x' hv' hx'
  ·rw [if_neg hlt] at hv'
   rw [if_neg (h.vs.1▸hlt)] at hx'
   have hi0:i - p.raw.length=0:=by
    rcases Nat.eq_zero_or_pos (i - p.raw.length) with h0 | h0
    ·exact h0
    ·rw [List.getElem?_eq_none (by simp;omega)] at hv';cases hv'
   rw [hi0] at hv'
   rw [←h.vs.1,hi0] at hx'
   simp only [List.getElem?_cons_zero,Option.some.injEq] at hv' hx'
   subst hv' hx'
   have hwb:∀ k,isB a' k→w4.heap.size≤k∧∃ cs,Blk w8 k cs TU:=by
    intro k hk
    refine ⟨hf5 k hk,?_⟩
    rcases ho5.2 with ⟨he,_⟩ | ⟨g,cur,he,hg,_⟩
    ·obtain ⟨o,ho⟩:=hk;rw [he] at ho;cases ho
    ·obtain ⟨o,ho⟩:=hk
     rw [he] at ho
     simp at ho
     have hgs:=hf5 g ⟨0,he⟩
     have h4s:=hnw4.size
     refine ⟨cur,?_⟩
     rw [←ho.1]
     refine hk8.blk (hk7.blk (New.blk hn6 hg) ?_) ?_
     ·intro hc;have:=hvalt _ hc;omega
     ·intro hc;have:=h.blk.lt;omega
   refine ⟨?_,?_,?_,?_,hv.wf,hv.new,hv.old,hv.key,hv.boot,ho5.le,hv.wlen⟩
   ·have he:=hv.eq
    rw [he]
   ·refine ((ho5.rd.new hn6).keep hk7 ?_).keep hk8 ?_
    ·cases a' with
     |none=>exact .inr trivial
     |some a=>
      refine .inr λhc=>?_
      rcases ho5.2 with ⟨he,_⟩ | ⟨g,cur,he,hg,_⟩
      ·cases he
      ·simp at he
       subst he
       have:=hf5 g ⟨0,rfl⟩
       have:=hvalt _ hc
       have:=hnw4.size
       simp at *
       omega
    ·cases a' with
     |none=>exact .inr trivial
     |some a=>
      refine .inr λhc=>?_
      rcases ho5.2 with ⟨he,_⟩ | ⟨g,cur,he,hg,_⟩
      ·cases he
      ·simp at he
       subst he
       have:=hf5 g ⟨0,rfl⟩
       have:=h.blk.lt
       have:=hnw4.size
       simp at hc <;> omega
   ·intro hc
    exact hv.nil (hi5.1 hc)
   ·cases a' with
    |none=>exact .inr trivial
    |some a=>
     refine .inr λhm=>?_
     rcases ho5.2 with ⟨he,_⟩ | ⟨g,cur,he,hg,_⟩
     ·cases he
     simp at he
     subst he
     obtain ⟨hge,cs,hcs⟩:=hwb g ⟨0,rfl⟩
     have h4s:=hnw4.size
     rcases hM' g hm with hm | hm
     ·omega
     ·rcases hown7.2 with ⟨he,_⟩ | ⟨g',cur',he,hg',_⟩
      ·obtain ⟨o,ho⟩:=hm;rw [he] at ho;cases ho
      ·obtain ⟨o,ho⟩:=hm
       rw [he] at ho
       simp at ho
       have hg8:Blk w8 g' cur' TV:=hk8.blk hg' (λhc=>hbap (by rw [he,←hc];exact ⟨0,rfl⟩))
       have:=Blk.typ (ho.1▸hg8) hcs
       revert this;decide
 ·intro y hy
  simp only [cX.post,List.mem_append,List.mem_singleton] at hy
  rcases hy with hy | rfl
  ·exact h.vok y hy
  ·exact ⟨yB hval,hnode⟩
 ·have hex:=h.ex
  show match p.verbs++[x] with | []=>p.executed=0 | x::_=>p.executed≤x.v.pieces.length
  cases hp:p.verbs with
  |nil=>
   rw [hp] at hex
   simp only [List.nil_append]
   rw [hex]
   exact Nat.zero_le _
  |cons y ys=>
   rw [hp] at hex
   exact hex
structure j9 (M:Nat→Prop) (w:World) (d:aY) (x:Done):Prop where
 code:d.Code=x.code
 len:d.Wl=x.words.length
 rd:Rd w d.Words (us x.words)
 nil:d.Words=none→x.words=[]
 off:x.words=[]∨Off M d.Words
 wf:∀ u ∈ x.words,U64 u
 cap:d.Wl≤d.Wc
theorem j9.keep {M M':Nat→Prop} {w w':World} {v:aY} {x:Done} (h:j9 M w v x) (hk:Keep M w w') (hM:∀ k,k<w.heap.size→M' k→M k):j9 M' w' v x:=by
 refine ⟨h.code,h.len,h.rd.keep hk (h.off.imp (λe=>by rw [e];rfl) id),h.nil,?_,h.wf,h.cap⟩
 rcases h.off with ho | ho
 ·exact .inl ho
 ·by_cases hx:x.words=[]
  ·exact .inl hx
  ·refine .inr ?_
   cases ha:v.Words with
   |none=>trivial
   |some a=>
    rw [ha] at ho
    have hr:=h.rd
    rw [ha] at hr
    intro hm
    exact ho (hM _ (hr.lt (by simpa [us] using hx)) hm)
theorem dU {w:World} {e sz n cap:Nat} {a:Option Addr} {xs:List Value} (h:Owns w e sz a n cap xs) {k:Nat} (hk:isB a k):∃ cs,Blk w k cs e:=by
 rcases h.2 with ⟨he,_⟩ | ⟨g,cur,he,hg,_⟩
 ·obtain ⟨o,ho⟩:=hk;rw [he] at ho;cases ho
 ·obtain ⟨o,ho⟩:=hk
  rw [he] at ho
  simp at ho
  exact ⟨cur,ho.1▸hg⟩
def rm (M:Nat→Prop) (b nb nw:Nat) (p:cX) (n:aP) (w:World) (r:Value) (w':World):Prop:=
 ∃ (d:aY) (p':cX),r=.tuple #[d.val,.bool (p.pure.step n).2.2.isSome]∧p'.pure=(p.pure.step n).1∧bM w' nb nw (p.pure.step n).2.1∧
  (∀ x,(p.pure.step n).2.2=some x→d.Code=x.code∧d.Wl=x.words.length∧Rd w' d.Words (us x.words)∧(d.Words=none→x.words=[])∧(∀ u ∈ x.words,U64 u)∧d.Wl≤d.Wc∧p'.wa=none)∧
  (∀ k,isB d.Words k→isB p.wa k∨w.heap.size≤k)∧
  (∀ M':Nat→Prop,Ok M M' w (λk=>isB p'.va k∨isB p'.wa k)→(∀ k,p'.mut b k→M' k)→bS M' w' b p')∧
  Keep (λk=>k=b∨isB p.wa k∨k=nw) w w'∧(p'.va=p.va∨∀ k,isB p'.va k→w.heap.size≤k)∧(p'.wa=p.wa∨∀ k,isB p'.wa k→w.heap.size≤k)∧
  (∀ k,isB d.Words k→∃ cs,Blk w' k cs TU)
theorem nR {w:World} {b:Nat} {d:aY} (h:Blk w b d.cells TD):aC w ⟨b,0,none⟩ 0 d.cells:=aI h (by simp [aY.cells])
theorem zN {w:World} {ad:Addr} {d:aY} {K:Int→Option Addr→Nat→Nat→Prop} (h:aC w ad 0 d.cells) (hk:K d.Code d.Words d.Wl d.Wc) :
  ∃ (Code:Int) (Words:Option Addr) (Wl:Nat) (Wc:Nat),aC w ad 0 [.int .i64 Code,.slice Words Wl Wc]∧K Code Words Wl Wc:=⟨_,_,_,_,h,hk⟩
theorem BN {p:Pair} {n:aP} (h:p.verbs=[]):p.step n=(p,n,none):=by unfold Pair.step;rw [h]
theorem zO {p:Pair} {n:aP} {x:Verb} {xs:List Verb} (h:p.verbs=x::xs):p.step n =
  if p.refusal x n≠0 then (p.done,n,some ⟨p.refusal x n,[]⟩)
  else if p.executed+1<x.v.pieces.length then ({ p with executed:=p.executed+1,words:=p.words++(exec x (x.v.pieces.getD p.executed (0,0)) n).2 },(exec x (x.v.pieces.getD p.executed (0,0)) n).1,none)
   else (p.done,(exec x (x.v.pieces.getD p.executed (0,0)) n).1,some ⟨0,p.words++(exec x (x.v.pieces.getD p.executed (0,0)) n).2⟩):=by
 unfold Pair.step;rw [h]
theorem vm {p:Pair} {x:Verb} {n:aP} (h:p.refusal x n=0):n.down=false∧x.v.valid 5 (n.words.length / 8:Nat)=0:=by
 unfold Pair.refusal at h
 split at h
 ·omega
 rename_i hd
 split at h
 ·omega
 rename_i hv
 exact ⟨by simpa using hd,by simpa using hv⟩
theorem nS {v:aJ} {a b:Int} (h:v.valid a b=0):1≤v.count∧v.inside a b=true:=by
 unfold aJ.valid at h
 split at h
 ·omega
 rename_i hc
 split at h
 ·omega
 rename_i hi
 exact ⟨by omega,by simpa using hi⟩
theorem BO {x:Verb} {pc:Int×Int} {n:aP} (h:pc.2≤8) (h1:1≤pc.2):(exec x pc n).2.length≤8:=by
 unfold exec
 split
 ·simp [aP.read];omega
 split
 ·simp
 split
 ·simp
 split<;>simp
end Go.Proofs.YtgpmeaicjonenaaGreat
