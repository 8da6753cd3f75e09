import Derived.Test.YtegepanmkjemjaaGreatq07
import Derived.Test.YtegepanmkjemjaaGreatq03
set_option linter.unusedVariables false
namespace Go.Proofs.YtegepanmkjemjaaGreat
open Go.Eng
def aK.last (v:aK):Int:=if v.Kind=1 then 3 else 2
theorem pu (w:World) (v:aK):Does 112 [v.val] w λx w'=>x=.int .i64 v.last∧New w w':=by
 refine does Tryz.func112 ?_
 refine Eq.mpr (p5 v.Kind v.Node v.At v.N v.Old v.New v.Words v.Wl v.Wc v.Key v.Boot w _) ?_
 rintro b1 w1 rfl rfl
 have hb:=oh w v
 have hn:=dA w (.cells v.cells.toArray TV)
 refine ⟨_,hb.cell rfl,bI (λh1=>⟨?_,hn⟩) (λh1=>⟨?_,hn⟩)⟩<;>simp [aK.last,h1]
def aK.rets (v:aK):Int:=if v.Kind=1 then v.N else if v.Kind=3∨v.Kind=4 then 1 else 0
theorem xy (w:World) (v:aK):Does 194 [v.val] w λx w'=>x=.int .i64 v.rets∧New w w':=by
 refine does Tryz.func194 ?_
 refine Eq.mpr (qA v.Kind v.Node v.At v.N v.Old v.New v.Words v.Wl v.Wc v.Key v.Boot w _) ?_
 rintro b1 w1 rfl rfl
 have hb:=oh w v
 have hn:=dA w (.cells v.cells.toArray TV)
 refine ⟨_,hb.cell rfl,bI (λh1=>⟨_,hb.cell rfl,?_,hn⟩) (λh1=>bI (λh3=>bI (λ_=>⟨?_,hn⟩) (λh=>absurd h3 h)) (λh3=>bI (λh4=>⟨?_,hn⟩) (λh4=>⟨?_,hn⟩)))⟩
 ·simp [aK.rets,h1]
 ·simp [aK.rets,h3]
 ·simp [aK.rets,h4]
 ·simp [aK.rets,h1,h3,h4]
def aK.l0 (v:aK):Int:=v.At / 8
def aK.l1 (v:aK):Int:=(v.At+v.count - 1) / 8
theorem AE (w:World) (v:aK) (h0:0≤v.At) (h1:v.At≤1000000) (h2:1≤v.count) (h3:v.count≤1000000) :
  Does 111 [v.val] w λx w'=>x=.tuple #[.int .i64 v.l0,.int .i64 v.l1]∧New w w':=by
 refine does Tryz.func111 ?_
 refine Eq.mpr (sU v.Kind v.Node v.At v.N v.Old v.New v.Words v.Wl v.Wc v.Key v.Boot w _) ?_
 rintro b1 w1 rfl rfl w2 rfl
 have hb:Blk (w.alloc (.cells v.cells.toArray TV)).drew w.heap.size v.cells TV:=oh w v
 have hn:Go.Eng.New w (w.alloc (.cells v.cells.toArray TV)).drew:=(dA w (.cells v.cells.toArray TV)).drew
 refine ⟨λu=>Go.Eng.New (w.alloc (.cells v.cells.toArray TV)).drew u,Keep.refl _ _,_,λu hu=>(New.blk hu hb).cell rfl,_,λu hu=>(New.blk hu hb).cell rfl,lZ (λu hu=>vbox (New.blk hu hb)) ?_⟩
 refine aE (sh _ v) ?_
 rintro x w3 ⟨rfl,hk⟩
 refine ⟨_,rfl,hk,?_,hn.new hk⟩
 rw [w64 (x:=v.At+v.count) (by omega) (by omega),w64 (x:=v.At+v.count - 1) (by omega) (by omega),Int.tdiv_eq_ediv_of_nonneg h0,Int.tdiv_eq_ediv_of_nonneg (by omega),w64 (by omega) (by omega),w64 (by omega) (by omega)]
 rfl
def aK.inside (v:aK) (nodes lines:Int):Bool:=
 decide (1≤nodes∧nodes≤5∧1≤lines∧lines≤256∧0≤v.Node∧v.Node<nodes∧0≤v.At∧v.At<lines * 8∧v.count≤1024∧v.l1<lines∧v.l1 - v.l0<128)
theorem zc (w:World) (v:aK) (nodes lines:Int) (hc:1≤v.count):Does 110 [v.val,.int .i64 nodes,.int .i64 lines] w λx w'=>x=.bool (v.inside nodes lines)∧New w w':=by
 refine does Tryz.func110 ?_
 refine Eq.mpr (rm v.Kind v.Node v.At v.N v.Old v.New v.Words v.Wl v.Wc v.Key v.Boot nodes lines w _) ?_
 rintro b1 w1 rfl rfl
 have hb:=oh w v
 have hn:=dA w (.cells v.cells.toArray TV)
 have no:∀ {w'},Go.Eng.New w w'→¬ (1≤nodes∧nodes≤5∧1≤lines∧lines≤256∧0≤v.Node∧v.Node<nodes∧0≤v.At∧v.At<lines * 8∧v.count≤1024∧v.l1<lines∧v.l1 - v.l0<128)→
   (Value.bool false=.bool (v.inside nodes lines)∧Go.Eng.New w w'):=λhk h=>⟨by simp only [aK.inside,decide_eq_false h],hk⟩
 refine aH (λh1=>no hn (by omega)) (λh1=>aH (λh2=>no hn (by omega)) (λh2=>aH (λh3=>no hn (by omega)) (λh3=>aH (λh4=>no hn (by omega)) (λh4=>
  ⟨_,hb.cell rfl,aH (λh5=>no hn (by omega)) (λh5=>⟨_,hb.cell rfl,aH (λh6=>no hn (by omega)) (λh6=>⟨_,hb.cell rfl,aH (λh7=>no hn (by omega)) (λh7=>⟨_,hb.cell rfl,?_⟩)⟩)⟩)⟩))))
 rw [w64 (x:=lines * 8) (by omega) (by omega)]
 refine aH (λh8=>no hn (by omega)) (λh8=>lH (vbox hb) ?_)
 refine aE (sh _ v) ?_
 rintro x w2 ⟨rfl,hk⟩
 refine ⟨_,rfl,aH (λh9=>no (hn.new hk) (by omega)) (λh9=>lH (vbox (New.blk hk hb)) ?_)⟩
 refine aE (AE _ v (by omega) (by omega) hc (by omega)) ?_
 rintro x w3 ⟨rfl,hk2⟩
 have hl:v.l0=v.At / 8:=rfl
 have hl1:v.l1=(v.At+v.count - 1) / 8:=rfl
 refine ⟨_,_,rfl,aH (λha=>⟨?_,(hn.new hk).new hk2⟩) (λha=>no ((hn.new hk).new hk2) (by omega))⟩
 rw [w64 (x:=v.l1 - v.l0) (by omega) (by omega)]
 congr 1
 unfold aK.inside
 rw [decide_eq_decide]
 constructor
 ·intro h;exact ⟨by omega,by omega,by omega,by omega,by omega,by omega,by omega,by omega,by omega,ha,h⟩
 ·intro h;exact h.2.2.2.2.2.2.2.2.2.2
def aK.valid (v:aK) (nodes lines:Int):Int:=
 if v.count<1 then 1 else if v.inside nodes lines=false then 2 else if v.l0≤v.last∧v.last<v.l1 then 2 else 0
theorem eY {v:aK} {nodes lines:Int} (h:v.inside nodes lines=true):1≤nodes∧nodes≤5∧1≤lines∧lines≤256∧0≤v.Node∧v.Node<nodes∧0≤v.At∧v.At<lines * 8∧v.count≤1024∧v.l1<lines∧v.l1 - v.l0<128:=of_decide_eq_true h
theorem uG (w:World) (v:aK) (nodes lines:Int):Does 77 [v.val,.int .i64 nodes,.int .i64 lines] w λx w'=>x=.int .i64 (v.valid nodes lines)∧New w w':=by
 refine does Tryz.func77 ?_
 refine Eq.mpr (sj v.Kind v.Node v.At v.N v.Old v.New v.Words v.Wl v.Wc v.Key v.Boot nodes lines w _) ?_
 rintro b1 w1 rfl rfl
 have hb:=oh w v
 have hn:=dA w (.cells v.cells.toArray TV)
 refine lH (vbox hb) ?_
 refine aE (sh _ v) ?_
 rintro x w2 ⟨rfl,hk⟩
 have hb2:=New.blk hk hb
 have hn2:=hn.new hk
 refine ⟨_,rfl,aH (λh1=>⟨by simp [aK.valid,h1],hn2⟩) (λh1=>lH (vbox hb2) ?_)⟩
 refine aE (zc _ v nodes lines (by omega)) ?_
 rintro x w3 ⟨rfl,hk3⟩
 have hb3:=New.blk hk3 hb2
 have hn3:=hn2.new hk3
 refine ⟨_,rfl,dG (λh2=>⟨by simp [aK.valid,h1,h2],hn3⟩) (λh2=>lH (vbox hb3) ?_)⟩
 have hi:=eY h2
 refine aE (AE _ v (by omega) (by omega) (by omega) (by omega)) ?_
 rintro x w4 ⟨rfl,hk4⟩
 have hb4:=New.blk hk4 hb3
 have hn4:=hn3.new hk4
 refine ⟨_,_,rfl,lH (vbox hb4) ?_⟩
 refine aE (pu _ v) ?_
 rintro x w5 ⟨rfl,hk5⟩
 have hb5:=New.blk hk5 hb4
 have hn5:=hn4.new hk5
 refine ⟨_,rfl,aH (λh3=>lH (vbox hb5) ?_) (λh3=>⟨?_,hn5⟩)⟩
 ·refine aE (pu _ v) ?_
  rintro x w6 ⟨rfl,hk6⟩
  refine ⟨_,rfl,aH (λh4=>⟨?_,hn5.new hk6⟩) (λh4=>⟨?_,hn5.new hk6⟩)⟩
  ·simp [aK.valid,h1,h2,h3,h4]
  ·have:¬ v.last<v.l1:=by omega
   simp [aK.valid,h1,h2,h3,this]
 ·simp [aK.valid,h1,h2,h3]
def aK.cls (v:aK):Int:=if v.l0≤v.last then 1 else 2
theorem AX (w:World) (v:aK) (h0:0≤v.At) (h1:v.At≤1000000):Does 190 [v.val] w λx w'=>x=.int .i64 v.cls∧New w w':=by
 refine does Tryz.func190 ?_
 refine Eq.mpr (sl v.Kind v.Node v.At v.N v.Old v.New v.Words v.Wl v.Wc v.Key v.Boot w _) ?_
 rintro b1 w1 rfl rfl w2 rfl
 have hb:Blk (w.alloc (.cells v.cells.toArray TV)).drew w.heap.size v.cells TV:=oh w v
 have hn:Go.Eng.New w (w.alloc (.cells v.cells.toArray TV)).drew:=(dA w (.cells v.cells.toArray TV)).drew
 refine ⟨λu=>Go.Eng.New (w.alloc (.cells v.cells.toArray TV)).drew u,Keep.refl _ _,_,λu hu=>(New.blk hu hb).cell rfl,lZ (λu hu=>vbox (New.blk hu hb)) ?_⟩
 refine aE (pu _ v) ?_
 rintro x w3 ⟨rfl,hk⟩
 refine ⟨_,rfl,hk,?_⟩
 rw [Int.tdiv_eq_ediv_of_nonneg h0,w64 (by omega) (by omega)]
 have hl:v.l0=v.At / 8:=rfl
 refine aH (λh=>⟨?_,hn.new hk⟩) (λh=>⟨?_,hn.new hk⟩)
 ·rw [aK.cls,hl,if_pos h]
 ·rw [aK.cls,hl,if_neg h]
def aK.check (v:aK) (inc door key boot:Int):Int:=
 if v.cls=1∧v.Kind=1 then 0 else if inc<0∨inc<door then 5 else if v.cls=1 then 0 else if v.Boot<0∨v.Boot≠boot∨v.Key≠key then 5 else 0
theorem AY (w:World) (v:aK) (inc door key boot:Int) (h0:0≤v.At) (h1:v.At≤1000000) (hi:inc≤1000000) (hb1:v.Boot<9223372036854775808) :
  Does 153 [v.val,.int .i64 inc,.int .u64 door,.int .u64 key,.int .u64 boot] w λx w'=>x=.int .i64 (v.check inc door key boot)∧New w w':=by
 refine does Tryz.func153 ?_
 refine Eq.mpr (sk v.Kind v.Node v.At v.N v.Old v.New v.Words v.Wl v.Wc v.Key v.Boot inc door key boot w _) ?_
 rintro b1 w1 rfl rfl
 have hb:=oh w v
 have hn:=dA w (.cells v.cells.toArray TV)
 refine lH (vbox hb) ?_
 refine aE (AX _ v h0 h1) ?_
 rintro x w2 ⟨rfl,hk⟩
 have hb2:=New.blk hk hb
 have hn2:=hn.new hk
 refine ⟨_,rfl,bI (λhc=>?_) (λhc=>?_)⟩
 ·refine ⟨_,hb2.cell rfl,bI (λhk1=>⟨by simp [aK.check,hc,hk1],hn2⟩) (λhk1=>aH (λhx=>⟨by simp [aK.check,hk1,hx],hn2⟩) (λhx=>?_))⟩
  rw [wu64 (x:=inc) (by omega) (by omega)]
  refine aH (λhy=>⟨by simp [aK.check,hk1,hy],hn2⟩) (λhy=>bI (λ_=>⟨by simp [aK.check,hk1,hx,hy,hc],hn2⟩) (λh=>absurd hc h))
 ·refine aH (λhx=>⟨by simp [aK.check,hc,hx],hn2⟩) (λhx=>?_)
  rw [wu64 (x:=inc) (by omega) (by omega)]
  refine aH (λhy=>⟨by simp [aK.check,hc,hy],hn2⟩) (λhy=>bI (λh=>absurd h hc) (λ_=>⟨_,hb2.cell rfl,aH (λhz=>⟨by simp [aK.check,hc,hx,hy,hz],hn2⟩) (λhz=>⟨_,hb2.cell rfl,?_⟩)⟩))
  rw [wu64 (x:=v.Boot) (by omega) (by omega)]
  refine cF (λhu=>⟨by simp [aK.check,hc,hx,hy,hu],hn2⟩) (λhu=>⟨_,hb2.cell rfl,cF (λht=>⟨by simp [aK.check,hc,hx,hy,ht],hn2⟩) (λht=>⟨?_,hn2⟩)⟩)
  have:¬ boot<0:=by omega
  simp [aK.check,hc,hx,hy,hu,ht,this]
abbrev TD:TypeId:=171
def fits (v:aK) (d:bE):Bool:=
 if d.Code=0 then decide ((d.Wl:Int)=v.rets) else if d.Code=4∨d.Code=5 then decide (d.Wl=0) else false
theorem Cw (w:World) (v:aK) (d:bE):Does 163 [v.val,d.val] w λx w'=>x=.bool (fits v d)∧New w w':=by
 refine does Tryz.func163 ?_
 refine Eq.mpr (sV v.Kind v.Node v.At v.N v.Old v.New v.Words v.Wl v.Wc v.Key v.Boot d.Code d.Words d.Wl d.Wc w _) ?_
 rintro b1 w1 rfl rfl b2 w2 rfl rfl
 have hb:=(oh w v).alloc (.cells d.cells.toArray TD)
 have hd:=iJ (w.alloc (.cells v.cells.toArray TV)) d.cells TD
 have hn:=(dA w (.cells v.cells.toArray TV)).alloc (.cells d.cells.toArray TD)
 have e0:∀ x:Nat,(((x:Nat):Int) == 0)=decide (x=0):=λx=>by
  rw [Bool.eq_iff_iff];simp
 refine ⟨_,hd.cell rfl,bI (λh0=>?_) (λh0=>bI (λh4=>bI (λ_=>⟨_,_,_,hd.cell rfl,?_,hn⟩) (λh=>absurd h4 h)) (λh4=>bI (λh5=>⟨_,_,_,hd.cell rfl,?_,hn⟩) (λh5=>⟨?_,hn⟩)))⟩
 ·rintro w3 rfl
  refine ⟨λu=>Go.Eng.New ((w.alloc (.cells v.cells.toArray TV)).alloc (.cells d.cells.toArray TD)).drew u,Keep.refl _ _,_,_,_,λu hu=>(New.blk hu hd).cell rfl,lZ (λu hu=>vbox (New.blk hu hb)) ?_⟩
  refine aE (xy _ v) ?_
  rintro x w4 ⟨rfl,hk⟩
  refine ⟨_,rfl,hk,?_,hn.drew.new hk⟩
  rw [fits,if_pos h0]
  rfl
 ·rw [e0];simp [fits,h4]
 ·rw [e0];simp [fits,h5]
 ·simp [fits,h0,h4,h5]
def eh (vs:List aK):List (List Value):=vs.map aK.cells
def jv (ds:List bE):List (List Value):=ds.map bE.cells
theorem mq (vs:List aK):∀ r ∈ eh vs,r.length=9:=by
 intro r hr
 simp only [eh,List.mem_map] at hr
 obtain ⟨v,_,rfl⟩:=hr
 rfl
theorem oC (ds:List bE):∀ r ∈ jv ds,r.length=2:=by
 intro r hr
 simp only [jv,List.mem_map] at hr
 obtain ⟨v,_,rfl⟩:=hr
 rfl
theorem qD {vs:List aK} {i:Nat} {v:aK} (h:vs[i]?=some v):(eh vs)[i]?=some v.cells:=by simp [eh,h]
theorem ta {ds:List bE} {i:Nat} {d:bE} (h:ds[i]?=some d):(jv ds)[i]?=some d.cells:=by simp [jv,h]
def qE (vs:List aK) (ds:List bE):Bool:=decide (vs.length=ds.length) && (vs.zip ds).all λp=>fits p.1 p.2
theorem Dp {w:World} {a b:Option Addr} {ca cb:Nat} {vs:List aK} {ds:List bE} (ha:Rd w a (eh vs).flatten) (hb:Rd w b (jv ds).flatten) (hl:vs.length≤1000000) (hl2:ds.length≤1000000000) :
  Does 124 [.slice a vs.length ca,.slice b ds.length cb] w λx w'=>x=.bool (qE vs ds)∧New w w':=by
 refine does Tryz.func124 ?_
 rw [uy]
 refine cF (λh=>⟨?_,Keep.refl _ _⟩) (λh=>?_)
 ·have:¬ vs.length=ds.length:=by omega
  simp [qE,this]
 have hlen:vs.length=ds.length:=by omega
 refine aQ mix (λm env u=>∃ (i:Nat) (j:List Value),i≤vs.length∧m=vs.length - i∧env=jr b ds.length cb a vs.length ca vs.length i j∧New w u∧(∀ k,k<i→∀ v d,vs[k]?=some v→ds[k]?=some d→fits v d=true)) vs.length
  ⟨0,_,by omega,by omega,rfl,Keep.refl _ _,λk hk=>by omega⟩ ?_
 rintro m env u ⟨i,j,hi,rfl,rfl,hk,hall⟩
 rw [nK]
 refine aH (λhlt=>?_) (λhlt=>?_)
 ·have hlt':i<vs.length:=by omega
  have hv:vs[i]?=some vs[i]:=by simp [hlt']
  have hd:ds[i]?=some ds[i]:=by simp [hlen▸hlt']
  obtain ⟨ba,oa,rfl,hca,hcell⟩:=(ha.new hk).row (mq vs) (by omega) (qD hv)
  obtain ⟨bb,ob,rfl,_,_⟩:=(hb.new hk).row (oC ds) (by omega) (ta hd)
  refine aZ (by omega) (by omega) ?_
  refine lH (v:=vs[i]) (by simpa using hca) ?_
  rintro b1 w1 hb1 hw1
  obtain ⟨hz,hn1⟩:=aM hb1 hw1
  refine ⟨cB (vs:=aK.cells vs[i]) hz (by simp [aK.cells]) (aK.single vs[i]),?_⟩
  rintro w2 hw2 w3 rfl
  obtain ⟨hbox,hn2⟩:=lf (vs:=aK.cells vs[i]) hz (by simp [aK.cells]) hn1 (by omega) hw2
  clear hw1 hw2 hz hn1
  have hnw':Go.Eng.New w w2.drew:=(Keep.new hk hn2).drew
  refine ⟨λz=>Go.Eng.New w2.drew z,Keep.refl _ _,lZ (v:=vs[i]) (λz hz=>vbox (New.blk hz hbox)) ?_⟩
  refine aZ (by omega) (by omega) ?_
  refine ⟨ds[i].Code,ds[i].Words,ds[i].Wl,ds[i].Wc,λz hz=>?_,?_⟩
  ·obtain ⟨b',o',he,hc',_⟩:=(hb.new (Keep.new hnw' hz)).row (oC ds) (by omega) (ta hd)
   simp only [Option.some.injEq,Addr.mk.injEq,and_true] at he
   rw [he.1,he.2]
   exact hc'
  refine aE (Cw _ vs[i] ds[i]) ?_
  rintro x w4 ⟨rfl,hk4⟩
  refine ⟨_,rfl,dG (λhf=>?_) (λhf=>?_)⟩
  ·refine ⟨?_,Keep.new hnw' hk4⟩
   congr 1
   symm
   unfold qE
   rw [Bool.and_eq_false_iff]
   refine .inr ?_
   rw [List.all_eq_false]
   exact ⟨(vs[i],ds[i]),List.mem_of_getElem? (i:=i) (by simp [List.zip,List.getElem?_zipWith,hv,hd]),by simp [hf]⟩
  ·rw [show IntKind.i64.wrap ((i:Int)+1)=((i+1:Nat):Int) by rw [w64 (by omega) (by omega)];rfl]
   refine ⟨vs.length - (i+1),by omega,i+1,_,by omega,rfl,rfl,Keep.new hnw' hk4,?_⟩
   ·intro k hk v d hv' hd'
    by_cases he:k=i
    ·subst he
     rw [hv] at hv';rw [hd] at hd'
     cases hv';cases hd'
     exact hf
    ·exact hall k (by omega) v d hv' hd'
 ·have hi':i=vs.length:=by omega
  rw [p7]
  refine ⟨?_,hk⟩
  congr 1
  symm
  unfold qE
  rw [Bool.and_eq_true]
  refine ⟨by simp [hlen],?_⟩
  rw [List.all_eq_true]
  rintro ⟨v,d⟩ hm
  obtain ⟨k,hk',he⟩:=List.mem_iff_getElem.1 hm
  simp only [List.length_zip] at hk'
  simp only [List.getElem_zip,Prod.mk.injEq] at he
  exact hall k (by omega) v d (by rw [List.getElem?_eq_getElem (by omega),he.1]) (by rw [List.getElem?_eq_getElem (by omega),he.2])
end Go.Proofs.YtegepanmkjemjaaGreat
