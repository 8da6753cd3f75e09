import Derived.Test.YtgpmeaicjonenaaGreata15
import Derived.Test.YtgpmeaicjonenaaGreata04
set_option linter.unusedVariables false
namespace Go.Proofs.YtgpmeaicjonenaaGreat
open Go.Proofs.Tryz
open Go.Eng
theorem rn {k:Nat} (h:isB none k):False:=by obtain ⟨o,ho⟩:=h;cases ho
def lP (i:Nat) (inc:Int) (j:Nat):Lane:=⟨⟨i,inc,j,[],0,[]⟩,[]⟩
def dI (n i:Nat) (inc:Int):List Lane:=(List.range n).map (lP i inc)
def mc (pb i:Nat) (inc:Int) (j:Nat):cJ:=⟨pb,⟨i,inc,j,[],[],none,0,0,[],none,0⟩,[],none,0⟩
theorem yH (pb i:Nat) (inc:Int) (j:Nat):(mc pb i inc j).pure=lP i inc j:=rfl
def Fab.connect (F:Fab) (i:Nat) (C:Comp) (inc:Int):Fab:=F.setC i { C with alive:=true,inc:=inc,lanes:=dI F.nodes.length i inc }
theorem vy (a b:List cJ):(j4 (a++b)).flatten=(j4 a).flatten++(j4 b).flatten:=by simp [j4]
open Classical in
theorem aZ.addLane {A:Nat→Prop} {χ:Nat→Tag} {w w':World} {fb:Nat} {X:FabX} (h:aZ A χ w fb X) {i pb:Nat} {c:aW} {inc:Int} (hc:X.clients[i]?=some c) {la:Option Addr} {lc:Nat}
  (hk:Keep (λk=>χ k=.lanes i∨χ k=.clients) w w') (hpb:w.heap.size≤pb) (hla:∀ k,isB la k→χ k=.lanes i∨w.heap.size≤k) (hne:¬ isB la pb)
  (hpair:∀ M:Nat→Prop,M pb→bS M w' pb (mc pb i inc c.lanes.length).p) (hown:Owns w' TL 2 la (c.lanes++[mc pb i inc c.lanes.length]).length lc (j4 (c.lanes++[mc pb i inc c.lanes.length])).flatten)
  (hb:Blk w' X.cb (gG (X.clients.set i { c with lanes:=c.lanes++[mc pb i inc c.lanes.length],la:=la,lc:=lc })).flatten TC) :
  ∃ A' χ',Next A A' χ χ' w w'∧aZ A' χ' w' fb { X with clients:=X.clients.set i { c with lanes:=c.lanes++[mc pb i inc c.lanes.length],la:=la,lc:=lc } }:=by
 let χ':Nat→Tag:=λk=>if k=pb then .lane i c.lanes.length else if isB la k then .lanes i else χ k
 have t1:χ' pb=.lane i c.lanes.length:=if_pos rfl
 have t2:∀ k,isB la k→χ' k=.lanes i:=λk hk=>by
  show (if k=pb then Tag.lane i c.lanes.length else if isB la k then .lanes i else χ k)=_
  rw [if_neg (λe:k=pb=>hne (e▸hk)),if_pos hk]
 have t3:∀ k,k≠pb→¬ isB la k→χ' k=χ k:=λk h1 h2=>by
  show (if k=pb then Tag.lane i c.lanes.length else if isB la k then .lanes i else χ k)=_
  rw [if_neg h1,if_neg h2]
 have hs:∀ k,k<w.heap.size→χ' k=χ k:=by
  intro k hlt
  by_cases hb:isB la k
  ·rcases hla k hb with e | e
   ·rw [t2 k hb,e]
   ·omega
  ·exact t3 k (by omega) hb
 have hg:∀ k,k<w.heap.size→χ' k≠.imm→χ k≠.imm:=λk hlt hc=>by rw [hs k hlt] at hc;exact hc
 obtain ⟨m,_⟩:=h.move (T:=λt=>t=.lanes i∨t=.clients) (χ':=χ') hk (by simp) hg (λk hlt _ _=>hs k hlt)
 have hcx:=h.client i c hc
 have hpa:=hpair (iK A χ χ' w) (.inl (by rw [t1];simp))
 have q2:∀ k,χ' k≠.imm→k<w'.heap.size:=λk hc=>by
  by_cases hkb:k=pb
  ·rw [hkb];exact hpa.blk.lt
  ·by_cases hb:isB la k
   ·exact hown.lt hb
   ·rw [t3 k hkb hb] at hc
    exact Nat.lt_of_lt_of_le (h.lowt hc) hk.size
 have q1:kY (iK A χ χ' w) χ' w' i { c with lanes:=c.lanes++[mc pb i inc c.lanes.length],la:=la,lc:=lc }:=by
  refine ⟨hown,t2,λj l hl=>?_,hcx.none,λb hb=>Blk.moved m (hcx.batch b hb).1 (hcx.batch b hb).2 (by simp) (by simp),hcx.ds.keep m.keepA m.old⟩
  have hl':(c.lanes++[mc pb i inc c.lanes.length])[j]?=some l:=hl
  rw [List.getElem?_append] at hl'
  split at hl'
  ·exact (hcx.lane j l hl').moved m (by simp) (by simp)
  ·rename_i hj
   rw [List.getElem?_singleton] at hl'
   split at hl'
   ·rename_i hj2
    have hje:j=c.lanes.length:=by omega
    simp only [Option.some.injEq] at hl'
    subst hl'
    subst hje
    refine ⟨hpa,?_,Owns.nil _ _ _,λk ⟨o,ho⟩=>by cases ho⟩
    rintro k (hk | ⟨o,ho⟩ | ⟨o,ho⟩)
    ·rw [hk];exact t1
    ·cases ho
    ·cases ho
   ·cases hl'
 obtain ⟨nx,hF⟩:=h.setClient (χ':=χ') hc (hk.mono λk _ e=>e.elim (λe=>.inr (by rw [e];rfl)) .inl) hg (λk hlt _ _=>hs k hlt) q2 (by rw [lN];exact hb) (by rw [hs _ h.cls.lt];exact h.ctag) q1
 exact ⟨_,_,nx,hF⟩
theorem aZ.setRow {A:Nat→Prop} {χ:Nat→Tag} {w w':World} {fb:Nat} {X:FabX} (h:aZ A χ w fb X) {i:Nat} {c c':aW} (hc:X.clients[i]?=some c) (hk:Keep (λk=>χ k=.clients) w w') (hb:Blk w' X.cb (gG (X.clients.set i c')).flatten TC)
  (hc':∀ A' w',kY A' χ w' i c→kY A' χ w' i c'):∃ A',Next A A' χ χ w w'∧aZ A' χ w' fb { X with clients:=X.clients.set i c' }:=by
 obtain ⟨m,_⟩:=h.move (χ':=χ) (T:=λt=>t=.clients) hk (by simp) (λ_ _ h=>h) (λ_ _ _ _=>rfl)
 have hcx:=(h.client i c hc).moved m (λt ht e=>by rw [e] at ht;exact ht)
 obtain ⟨nx',hF⟩:=h.setClient (χ':=χ) (c':=c') hc (hk.mono λk _ e=>.inl e) (λ_ _ h=>h) (λ_ _ _ _=>rfl) (λk hc=>Nat.lt_of_lt_of_le (h.lowt hc) hk.size) (by rw [lN];exact hb) h.ctag (hc' _ _ hcx)
 exact ⟨_,nx',hF⟩
set_option maxHeartbeats 3200000 in
theorem Aa {A:Nat→Prop} {χ:Nat→Tag} {w:World} {fb:Nat} {X:FabX} (h:aZ A χ w fb X) (hn:X.nodes.length≤5) {i:Nat} {c:aW} (hc:X.clients[i]?=some c) (hi6:X.clients.length≤6) {inc:Int} (hinc:0≤inc∧inc≤59) :
  Does 58 [ptr fb,.int .i64 i,.int .i64 inc] w λv w'=>v=.tuple #[]∧dE A χ w fb (X.pure.connect i c.pure inc) w' λ_=>True:=by
 refine does Tryz.func58 ?_
 rw [ptr,lL]
 have hil:=aN hc
 refine ⟨_,_,_,h.fab.cell (i:=2) rfl,bE (by omega) (by omega) ?_⟩
 rw [Int.toNat_natCast]
 refine ⟨⟨_,h.ccell (k:=0) hc rfl⟩,h.cls.frozen,?_⟩
 intro w1 hw1
 obtain ⟨hcls1,hcl1⟩:=je (k:=0) (c':={ c with alive:=true }) h.cls hc (by omega) (v:=.bool true) (by simp [aW.cells])
 have hw1':w1=w.setCell ⟨X.cb,0+i * 7+0,none⟩ (.bool true):=hw1
 rw [←hw1'] at hcls1
 have hk1:Keep (λz=>z=X.cb) w w1:=by rw [hw1'];exact aR _ _ _ _
 clear hw1 hw1'
 refine ⟨⟨_,lO (k:=1) hcls1 hcl1 rfl⟩,hcls1.frozen,?_⟩
 intro w2 hw2
 obtain ⟨hcls2,hcl2⟩:=je (k:=1) (c':={ c with alive:=true,inc:=inc }) hcls1 hcl1 (by omega) (v:=.int .i64 inc) (by simp [aW.cells])
 rw [←hw2] at hcls2
 have hk2:Keep (λz=>z=X.cb) w1 w2:=by rw [hw2];exact aR _ _ _ _
 clear hw2
 refine ⟨⟨_,lO (k:=2) hcls2 hcl2 rfl⟩,hcls2.frozen,?_⟩
 intro w3 hw3
 obtain ⟨hcls3,hcl3⟩:=je (k:=2) (c':={ c with alive:=true,inc:=inc,lanes:=[],la:=none,lc:=0 }) hcls2 hcl2 (by omega) (v:=.slice none 0 0) (by simp [aW.cells])
 rw [←hw3] at hcls3
 have hk3:Keep (λz=>z=X.cb) w2 w3:=by rw [hw3];exact aR _ _ _ _
 clear hw3
 rw [bP,bP] at hcls3
 have hk13:Keep (λz=>χ z=.clients) w w3:=((hk1.trans hk2 λ_ _ h=>h).trans hk3 λ_ _ h=>h).mono λz _ e=>by rw [e];exact h.ctag
 obtain ⟨A3,nx3,hF3⟩:=h.setRow (c':={ c with alive:=true,inc:=inc,lanes:=[],la:=none,lc:=0 }) hc hk13 hcls3 (λA' w' H=>⟨Owns.nil _ _ _,(λk hk=>(rn hk).elim),(λj l hl=>by simp at hl),H.none,H.batch,H.ds⟩)
 refine ⟨_,_,_,hF3.fab.cell (i:=1) rfl,?_⟩
 show cQ _ _ (cI i inc ⟨X.cb,0+i * 7,none⟩ X.nodes.length 0 _) _ _
 refine aT mix (λm env u=>∃ (k:Nat) (jj:List Value) (A':Nat→Prop) (χ':Nat→Tag) (ls:List cJ) (la:Option Addr) (lc:Nat),k≤X.nodes.length∧m=X.nodes.length - k∧env=cI i inc ⟨X.cb,0+i * 7,none⟩ X.nodes.length k jj∧
   Next A A' χ χ' w u∧aZ A' χ' u fb { X with clients:=X.clients.set i { c with alive:=true,inc:=inc,lanes:=ls,la:=la,lc:=lc } }∧ls.length=k∧ls.map cJ.pure=dI k i inc) X.nodes.length
  ⟨0,_,A3,χ,[],none,0,by omega,by omega,rfl,nx3,hF3,rfl,rfl⟩ ?_
 rintro m env u ⟨k,jj,A',χ',ls,la,lc,hk,rfl,rfl,nx,hF,hlk,hlp⟩
 rw [iJ]
 refine aH (λhlt=>?_) (λhlt=>?_)
 ·have hkl:k<X.nodes.length:=by omega
  have hcu:(X.clients.set i { c with alive:=true,inc:=inc,lanes:=ls,la:=la,lc:=lc })[i]?=some { c with alive:=true,inc:=inc,lanes:=ls,la:=la,lc:=lc }:=by simp [hil]
  refine aF (EJ (w:=u) (c:=i) (i:=inc) (n:=k) (by omega) hinc (by omega)) ?_
  rintro v w4 ⟨rfl,hpair,hn4,hs4⟩
  have hF4:=hF.new hn4
  refine ⟨_,_,rfl,_,_,_,hF4.ccell (k:=2) hcu rfl,?_⟩
  rintro b5 w5 hb5 hw5
  obtain ⟨hz5,hn5⟩:=aO hb5 hw5
  have hs5:w5.heap.size=w4.heap.size+1:=by rw [hw5];simp
  clear hw5
  have hF5:=hF4.new hn5
  have hcx5:=hF5.client i _ hcu
  obtain ⟨ti,hti,hzz,hsz,hby⟩:=iF (T:=117) (z:=.agg #[.pointer none,.slice none 0 0]) (n:=2) (m:=32) (by kernel_rfl)
  have hown5:Owns w5 TL ti.size la ls.length lc (j4 ls).flatten:=by rw [hsz];exact hcx5.own
  obtain ⟨ap,apc,w6,hrun,hown6,hk6,hap⟩:=hown5.append (P:=prog) (t:=111) (ty:=111) Tryz.underlying111 hti hzz (by rw [hsz];rfl) (by omega)
   (s:=some ⟨b5,0,none⟩) (m:=1) (c:=1) (news:=(mc u.heap.size i inc k).cells) (by rw [hsz];rfl) (eQ hz5 (by simp [cJ.cells,mc])) (by simp [cJ.cells,single]) (by omega) (by rw [hby];omega)
  rw [hsz] at hown6
  have hk6':Keep (λz=>χ' z=.lanes i) w5 w6:=hk6.mono λz _ hz=>hcx5.tag z hz
  have hcls6:Blk w6 X.cb (gG (X.clients.set i { c with alive:=true,inc:=inc,lanes:=ls,la:=la,lc:=lc })).flatten TC:=hk6'.blk hF5.cls (by have:=hF5.ctag;rw [show χ' X.cb=.clients from this];simp)
  refine ⟨ap,_,apc,w6,hrun,⟨_,lO (k:=2) hcls6 hcu rfl⟩,hcls6.frozen,?_⟩
  intro w7 hw7
  obtain ⟨hcls7,hcl7⟩:=je (k:=2) (c':={ c with alive:=true,inc:=inc,lanes:=ls++[mc u.heap.size i inc ls.length],la:=ap,lc:=apc }) hcls6 hcu (by omega) (v:=.slice ap (ls.length+1) apc) (by simp [aW.cells])
  have hw7':w7=w6.setCell ⟨X.cb,0+i * 7+2,none⟩ (.slice ap (ls.length+1) apc):=hw7
  rw [←hw7'] at hcls7
  have hk7:Keep (λz=>z=X.cb) w6 w7:=by rw [hw7'];exact aR _ _ _ _
  clear hw7 hw7'
  have hn45:New u w5:=hn4.new hn5
  have hctag:χ' X.cb=.clients:=hF.ctag
  have hk57:Keep (λz=>χ' z=.lanes i∨χ' z=.clients) u w7:=((Keep.of_new hn45).trans hk6' λz _ e=>.inl e).trans hk7 λz _ e=>.inr (by rw [e];exact hctag)
  have hlow:∀ z,isB la z→z<u.heap.size:=λz hz=>(hF.client i _ hcu).own.lt hz
  have hapt:∀ z,isB ap z→χ' z=.lanes i∨w5.heap.size≤z:=by
   intro z hz
   rcases hap with e | e
   ·exact .inl (hcx5.tag z (e▸hz))
   ·obtain ⟨o,ho⟩:=hz
    rw [e] at ho
    simp at ho
    exact .inr (by omega)
  have hcbl:X.cb<u.heap.size:=hF.cls.lt
  have hapb:¬ isB ap u.heap.size:=λhb=>by
   rcases hap with e | e
   ·have:=hlow _ (e▸hb);omega
   ·obtain ⟨o,ho⟩:=hb
    rw [e] at ho
    simp at ho<;>omega
  have hpair7:∀ M:Nat→Prop,M u.heap.size→bS M w7 u.heap.size (mc u.heap.size i inc ls.length).p:=by
   intro M hM
   have hp4:bS (λk=>M k∨isB la k∨k=X.cb) w4 u.heap.size (mc u.heap.size i inc ls.length).p:=by
    have:=hpair (λk=>M k∨isB la k∨k=X.cb) (.inl hM)
    rw [hlk]
    exact this
   have hmut:∀ z,(mc u.heap.size i inc ls.length).p.mut u.heap.size z→z=u.heap.size:=by
    rintro z (hz | ⟨o,ho⟩ | ⟨o,ho⟩)
    ·exact hz
    ·cases ho
    ·cases ho
   have hp7:=((hp4.new hn5).keep hk6 (λz hz hb=>by rw [hmut z hz] at hb;have:=hlow _ hb;omega) (λz hb=>.inr (.inl hb))).keep hk7 (λz hz e=>by have:=hmut z hz;omega) (λz e=>.inr (.inr e))
   exact hp7.recolor (λz _ hz=>.inl hz) (λz hz=>by rw [hmut z hz];exact hM)
  have hown7:Owns w7 TL 2 ap (ls++[mc u.heap.size i inc ls.length]).length apc (j4 (ls++[mc u.heap.size i inc ls.length])).flatten:=by
   rw [vy,List.length_append]
   have e:(j4 [mc u.heap.size i inc ls.length]).flatten=(mc u.heap.size i inc k).cells:=by rw [hlk];rfl
   rw [e]
   refine hown6.keep hk7 λz hz e=>?_
   rcases hapt z hz with e' | e'
   ·rw [e,hctag] at e';cases e'
   ·have:=hn45.size;omega
  rw [bP] at hcls7
  obtain ⟨A7,χ7,nx7,hF7⟩:=hF.addLane (pb:=u.heap.size) (inc:=inc) (la:=ap) (lc:=apc) hcu hk57 (Nat.le_refl _) (λz hz=>(hapt z hz).imp id λe=>by have:=hn45.size;omega) hapb hpair7 hown7 (by rw [bP];exact hcls7)
  rw [bP] at hF7
  rw [show IntKind.i64.wrap ((k:Int)+1)=((k+1:Nat):Int) by rw [w64 (by omega) (by omega)];rfl]
  refine ⟨X.nodes.length - (k+1),by omega,k+1,_,A7,χ7,ls++[mc u.heap.size i inc ls.length],ap,apc,by omega,rfl,rfl,nx.trans nx7,hF7,by simp [hlk],?_⟩
  rw [List.map_append,hlp,hlk]
  simp [dI,List.range_succ,yH]
 ·have hke:k=X.nodes.length:=by omega
  subst hke
  refine ⟨rfl,A',χ',_,nx,hF,?_,trivial⟩
  refine (FabX.set_pure X i _).trans ?_
  simp [Fab.connect,aW.pure,hlp,FabX.pure]
open Classical in
theorem aZ.addNode {A:Nat→Prop} {χ:Nat→Tag} {w w':World} {fb:Nat} {X:FabX} (h:aZ A χ w fb X) {y:nm} {na:Option Addr} {nc:Nat}
  (hk:Keep (λk=>χ k=.nodes∨χ k=.fab) w w') (hy:bM w' y.b y.bw y.n) (hb1:w.heap.size≤y.b) (hb2:w.heap.size≤y.bw) (hna:∀ k,isB na k→χ k=.nodes∨w.heap.size≤k) (hne1:¬ isB na y.b) (hne2:¬ isB na y.bw)
  (hown:Owns w' TNP 1 na (X.nodes++[y]).length nc ((X.nodes++[y]).map λx=>ptr x.b)) (hf:Blk w' fb (X.cells.set 1 (.slice na (X.nodes++[y]).length nc)) TF) :
  ∃ A' χ',Next A A' χ χ' w w'∧aZ A' χ' w' fb { X with nodes:=X.nodes++[y],na:=na,nc:=nc }:=by
 have hbb:=hy.ne
 let χ':Nat→Tag:=λk=>if k=y.b then .node X.nodes.length else if k=y.bw then .word X.nodes.length else if isB na k then .nodes else χ k
 have t1:χ' y.b=.node X.nodes.length:=if_pos rfl
 have t1':χ' y.bw=.word X.nodes.length:=by
  show (if y.bw=y.b then Tag.node X.nodes.length else if y.bw=y.bw then .word X.nodes.length else if isB na y.bw then .nodes else χ y.bw)=_
  rw [if_neg (λe=>hbb e.symm),if_pos rfl]
 have t2:∀ k,isB na k→χ' k=.nodes:=λk hk=>by
  show (if k=y.b then Tag.node X.nodes.length else if k=y.bw then .word X.nodes.length else if isB na k then .nodes else χ k)=_
  rw [if_neg (λe:k=y.b=>hne1 (e▸hk)),if_neg (λe:k=y.bw=>hne2 (e▸hk)),if_pos hk]
 have t3:∀ k,k≠y.b→k≠y.bw→¬ isB na k→χ' k=χ k:=λk h1 h2 h3=>by
  show (if k=y.b then Tag.node X.nodes.length else if k=y.bw then .word X.nodes.length else if isB na k then .nodes else χ k)=_
  rw [if_neg h1,if_neg h2,if_neg h3]
 have hs:∀ k,k<w.heap.size→χ' k=χ k:=by
  intro k hlt
  by_cases hb:isB na k
  ·rcases hna k hb with e | e
   ·rw [t2 k hb,e]
   ·omega
  ·exact t3 k (by omega) (by omega) hb
 have hg:∀ k,k<w.heap.size→χ' k≠.imm→χ k≠.imm:=λk hlt hc=>by rw [hs k hlt] at hc;exact hc
 obtain ⟨m,nx⟩:=h.move (T:=λt=>t=.nodes∨t=.fab) (χ':=χ') hk (by simp) hg (λk hlt _ _=>hs k hlt)
 have f3:=Owns.moved m h.orphs h.otag (by simp) (by simp)
 have f4:=Blk.moved m h.cls h.ctag (by simp) (by simp)
 refine ⟨_,χ',nx,m.avoid',λk hc=>?_,?_,?_,hown,t2,λq z hz=>?_,f4.1,f4.2,λq z hz=>(h.client q z hz).moved m λt h1 h2=>?_,f3.1,f3.2,λx hx=>bS.moved m (h.orphan x hx).1 (h.orphan x hx).2 (by simp) (by simp),h.nodup⟩
 ·rcases hc with hc | hc
  ·by_cases e1:k=y.b
   ·rw [e1];exact hy.node.lt
   ·by_cases e2:k=y.bw
    ·rw [e2];exact hy.words.lt
    ·by_cases hb:isB na k
     ·exact hown.lt hb
     ·rw [t3 k e1 e2 hb] at hc
      exact Nat.lt_of_lt_of_le (h.lowt hc) hk.size
  ·exact Nat.lt_of_lt_of_le hc.1 hk.size
 ·simpa [FabX.cells] using hf
 ·rw [hs _ h.fab.lt];exact h.ftag
 ·have hz':(X.nodes++[y])[q]?=some z:=hz
  rw [List.getElem?_append] at hz'
  split at hz'
  ·exact (h.node q z hz').moved m (by simp) (by simp)
  ·rename_i hj
   rw [List.getElem?_singleton] at hz'
   split at hz'
   ·rename_i hj2
    have hje:q=X.nodes.length:=by omega
    simp only [Option.some.injEq] at hz'
    subst hz'
    subst hje
    exact ⟨hy,t1,t1'⟩
   ·cases hz'
 ·rcases h2 with e | e<;>(rw [e] at h1;cases h1)
def rY:aW:=⟨false,0,[],none,0,none,[],[],0,0,0⟩
def nT (lines:Nat):aP:=⟨List.replicate (8 * lines) 0,false⟩
def gI (n i:Nat):Comp:=⟨true,1,dI n i 1,none,0,0,0⟩
def Fab.init (n c lines:Nat):Fab:=⟨lines,List.replicate n (nT lines),(List.range c).map (gI n),[]⟩
theorem Ab (n:Nat):reps n [.bool false,.int .i64 0,.slice none 0 0,.slice none 0 0,.int .i64 0,.int .i64 0,.int .i64 0]=(gG (List.replicate n rY)).flatten:=by
 induction n with
 |zero=>rfl
 |succ n ih=>
  rw [List.replicate_succ,gG,List.map_cons,List.flatten_cons,←gG,←ih]
  rfl
theorem BV {n c k:Nat} (hk:k<c):((List.range k).map (gI n)++List.replicate (c - k) rY.pure).set k (gI n k)=(List.range (k+1)).map (gI n)++List.replicate (c - (k+1)) rY.pure:=by
 obtain ⟨d,rfl⟩:∃ d,c=k+1+d:=⟨c - (k+1),by omega⟩
 rw [show k+1+d - k=d+1 by omega,show k+1+d - (k+1)=d by omega,List.replicate_succ,List.set_append_right _ _ (by simp)]
 simp [List.range_succ]
open Classical in
set_option maxHeartbeats 3200000 in
theorem EN {w:World} {n c lines:Nat} (hn:1≤n∧n≤5) (hc:1≤c∧c≤6) (hl:1≤lines∧lines≤256):Does 51 [.int .i64 n,.int .i64 c,.int .i64 lines] w λv w'=>
  ∃ fb A χ X,v=.tuple #[ptr fb,.int .i64 0]∧aZ A χ w' fb X∧New w w'∧(∀ k,A k→w.heap.size≤k)∧X.pure=Fab.init n c lines:=by
 refine does Tryz.func51 ?_
 rw [t9]
 refine aH (λh=>by omega) (λ_=>aH (λh=>by omega) (λ_=>aH (λh=>by omega) (λ_=>aH (λh=>by omega) (λ_=>aH (λh=>by omega) (λ_=>aH (λh=>by omega) (λ_=>?_))))))
 refine ⟨by omega,by omega,by omega,by omega,?_⟩
 rintro cb w1 hcb hw1
 rw [Int.toNat_natCast,Ab] at hw1
 obtain ⟨hb1,hn1⟩:=aO hcb hw1
 have hs1:w1.heap.size=w.heap.size+1:=by rw [hw1];simp
 clear hw1
 rintro fb w2 hfb hw2
 obtain ⟨hb2,hn2⟩:=aO hfb hw2
 have hs2:w2.heap.size=w1.heap.size+1:=by rw [hw2];simp
 clear hw2
 let X0:FabX:=⟨lines,[],none,0,cb,List.replicate c rY,[],none,0⟩
 let χ0:Nat→Tag:=λk=>if k=fb then .fab else if k=cb then .clients else .imm
 have t1:χ0 fb=.fab:=if_pos rfl
 have t2:χ0 cb=.clients:=by
  show (if cb=fb then Tag.fab else if cb=cb then .clients else .imm)=_
  rw [if_neg (by omega),if_pos rfl]
 have t3:∀ k,χ0 k≠.imm→k=fb∨k=cb:=by
  intro k hk
  by_cases h1:k=fb
  ·exact .inl h1
  ·by_cases h2:k=cb
   ·exact .inr h2
   ·exact absurd (show (if k=fb then Tag.fab else if k=cb then .clients else .imm)=_ by rw [if_neg h1,if_neg h2]) hk
 have hF0:aZ (λk=>χ0 k≠.imm) χ0 w2 fb X0:=by
  refine ⟨λ_ h=>h,λk hk=>?_,?_,t1,Owns.nil _ _ _,(λk hk=>(rn hk).elim),(λi x hx=>by simp [X0] at hx),?_,t2,λi x hx=>?_,Owns.nil _ _ _,(λk hk=>(rn hk).elim),(λp hp=>by simp [X0] at hp),by simp [X0]⟩
  ·rcases t3 k hk with e | e<;>omega
  ·simpa [FabX.cells,X0] using hb2
  ·have:=New.blk hn2 hb1
   simpa [X0] using this
  ·have hx':(List.replicate c rY)[i]?=some x:=hx
   rw [List.getElem?_replicate] at hx'
   split at hx'
   ·simp only [Option.some.injEq] at hx'
    subst hx'
    exact ⟨Owns.nil _ _ _,(λk hk=>(rn hk).elim),(λj l hl=>by simp [rY] at hl),λ_=>⟨rfl,rfl⟩,(λb hb=>by simp [rY] at hb),⟨rfl,λ_ _ _ hc=>by simp [rY] at hc⟩⟩
   ·cases hx'
 refine aT mix (λm env u=>∃ (k:Nat) (jj:List Value) (A':Nat→Prop) (χ':Nat→Tag) (ns:List nm) (na:Option Addr) (nc:Nat),k≤n∧m=n - k∧env=ir lines ⟨fb,0,none⟩ n k jj∧
   Next (λk=>χ0 k≠.imm) A' χ0 χ' w2 u∧aZ A' χ' u fb { X0 with nodes:=ns,na:=na,nc:=nc }∧ns.length=k∧ns.map nm.n=List.replicate k (nT lines)) n
  ⟨0,_,_,χ0,[],none,0,by omega,by omega,rfl,hF0.refl (Keep.refl _ _),hF0,rfl,rfl⟩ ?_
 rintro m env u ⟨k,jj,A',χ',ns,na,nc,hk,rfl,rfl,nx,hF,hlk,hlp⟩
 rw [nh]
 refine aH (λhlt=>?_) (λhlt=>?_)
 ·refine aF (BK (w:=u) (lines:=lines) (by omega) (by omega)) ?_
  rintro v w3 ⟨rfl,hnode,hn3,hs3⟩
  rw [Int.toNat_natCast] at hnode
  have hF3:=hF.new hn3
  refine ⟨_,_,rfl,cU (λh=>absurd rfl h) (λ_=>⟨_,_,_,hF3.fab.cell (i:=1) rfl,?_⟩)⟩
  rintro b5 w5 hb5 hw5
  obtain ⟨hz5,hn5⟩:=aO hb5 hw5
  have hs5:w5.heap.size=w3.heap.size+1:=by rw [hw5];simp
  clear hw5
  have hF5:=hF3.new hn5
  obtain ⟨ti,hti,hzz,hsz,hby⟩:=iF (T:=104) (z:=.pointer none) (n:=1) (m:=8) (by kernel_rfl)
  have hown5:Owns w5 TNP ti.size na ns.length nc (ns.map λx=>ptr x.b):=by rw [hsz];exact hF5.nodes
  obtain ⟨ap,apc,w6,hrun,hown6,hk6,hap⟩:=hown5.append (P:=prog) (t:=119) (ty:=119) Tryz.underlying119 hti hzz (by rw [hsz];rfl) (by omega)
   (s:=some ⟨b5,0,none⟩) (m:=1) (c:=1) (news:=[ptr (u.heap.size+1)]) (by rw [hsz];rfl) (eQ hz5 (by simp [ptr])) (by simp [ptr,single]) (by omega) (by rw [hby];omega)
  rw [hsz] at hown6
  have hntag:∀ z,isB na z→χ' z=.nodes:=hF5.ntag
  have hk6':Keep (λz=>χ' z=.nodes) w5 w6:=hk6.mono λz _ hz=>hntag z hz
  have hfab6:=hk6'.blk hF5.fab (by rw [hF5.ftag];simp)
  refine ⟨ap,_,apc,w6,hrun,⟨_,hfab6.cell (i:=1) rfl⟩,hfab6.frozen,?_⟩
  intro w7 hw7
  have hk7:Keep (λz=>z=fb) w6 w7:=by rw [hw7];exact aR _ _ _ _
  have hfab7:=hfab6.setCell (i:=1) (.slice ap (ns.length+1) apc)
  have hw7':w7=w6.setCell ⟨fb,1,none⟩ (.slice ap (ns.length+1) apc):=hw7
  rw [←hw7'] at hfab7
  clear hw7 hw7'
  have hn35:New u w5:=hn3.new hn5
  have hk37:Keep (λz=>χ' z=.nodes∨χ' z=.fab) u w7:=((Keep.of_new hn35).trans hk6' λz _ e=>.inl e).trans hk7 λz _ e=>.inr (by rw [e];exact hF.ftag)
  have hlow:∀ z,isB na z→z<u.heap.size:=λz hz=>hF.nodes.lt hz
  have hfbl:fb<u.heap.size:=hF.fab.lt
  have hapt:∀ z,isB ap z→χ' z=.nodes∨w5.heap.size≤z:=by
   intro z hz
   rcases hap with e | e
   ·exact .inl (hntag z (e▸hz))
   ·obtain ⟨o,ho⟩:=hz
    rw [e] at ho
    simp at ho
    exact .inr (by omega)
  have hapn:∀ z,u.heap.size≤z→z<w5.heap.size→¬ isB ap z:=by
   intro z h1 h2 hz
   rcases hap with e | e
   ·have:=hlow z (e▸hz);omega
   ·obtain ⟨o,ho⟩:=hz
    rw [e] at ho
    simp at ho<;>omega
  have hnode7:bM w7 (u.heap.size+1) u.heap.size ⟨List.replicate (8 * lines) 0,false⟩:=((hnode.new hn5).keep hk6 (λhb=>by have:=hlow _ hb;omega) (λhb=>by have:=hlow _ hb;omega)).keep hk7 (by omega) (by omega)
  obtain ⟨A7,χ7,nx7,hF7⟩:=hF.addNode (y:=⟨u.heap.size+1,u.heap.size,nT lines⟩) (na:=ap) (nc:=apc) hk37 hnode7 (by show u.heap.size≤u.heap.size+1;omega) (Nat.le_refl _) (λz hz=>(hapt z hz).imp id λe=>by omega) (hapn _ (by show u.heap.size≤u.heap.size+1;omega) (by show u.heap.size+1<_;omega)) (hapn _ (Nat.le_refl _) (by show u.heap.size<_;omega))
   (by
    have:=hown6.keep hk7 (λz hz e=>by
     rcases hapt z hz with e' | e'
     ·have hft:χ' fb=.fab:=hF.ftag
      rw [e,hft] at e';cases e'
     ·omega)
    simpa using this) (by simpa [FabX.cells] using hfab7)
  rw [show IntKind.i64.wrap ((k:Int)+1)=((k+1:Nat):Int) by rw [w64 (by omega) (by omega)];rfl]
  refine ⟨n - (k+1),by omega,k+1,_,A7,χ7,ns++[⟨u.heap.size+1,u.heap.size,nT lines⟩],ap,apc,by omega,rfl,rfl,nx.trans nx7,hF7,by simp [hlk],?_⟩
  rw [List.map_append,hlp,List.replicate_succ']
  rfl
 ·have hke:k=n:=by omega
  subst hke
  rw [pD]
  refine ⟨_,_,_,hF.fab.cell (i:=2) rfl,?_⟩
  have hcl:({ X0 with nodes:=ns,na:=na,nc:=nc }:FabX).clients.length=c:=by simp [X0]
  rw [hcl]
  refine aT mix (λm env z=>∃ (i:Nat) (jj:List Value) (A':Nat→Prop) (χ':Nat→Tag) (X':FabX),i≤c∧m=c - i∧env=it ⟨fb,0,none⟩ c i jj∧
    Next (λk=>χ0 k≠.imm) A' χ0 χ' w2 z∧aZ A' χ' z fb X'∧X'.pure=⟨lines,List.replicate k (nT lines),(List.range i).map (gI k)++List.replicate (c - i) rY.pure,[]⟩) c
   ⟨0,_,_,χ',_,by omega,by omega,rfl,nx,hF,by simp [FabX.pure,X0,hlp]⟩ ?_
  rintro m env z ⟨i,jj,A1,χ1,X1,hi,rfl,rfl,nx1,hF1,hp1⟩
  rw [ni]
  refine aH (λhlt=>?_) (λhlt=>?_)
  ·have hpc:X1.clients.map aW.pure=(List.range i).map (gI k)++List.replicate (c - i) rY.pure:=congrArg Fab.clients hp1
   have hpn:X1.nodes.length=k:=by
    have:=congrArg (λF=>F.nodes.length) hp1
    simpa [FabX.pure] using this
   have hpl:X1.clients.length=c:=by
    have:=congrArg List.length hpc
    simp at this <;> omega
   obtain ⟨cx,hcx⟩:∃ cx,X1.clients[i]?=some cx:=⟨X1.clients[i],by simp [show i<X1.clients.length by omega]⟩
   have hcp:cx.pure=rY.pure:=by
    have:(X1.clients.map aW.pure)[i]?=some cx.pure:=by simp [hcx]
    rw [hpc,List.getElem?_append_right (by simp)] at this
    simp only [List.length_map,List.length_range,Nat.sub_self,List.getElem?_replicate] at this
    rw [if_pos (by omega)] at this
    simpa using this.symm
   refine aF (Aa hF1 (by omega) hcx (by omega) (inc:=1) (by omega)) ?_
   rintro v w5 ⟨rfl,A2,χ2,X2,nx2,hF2,hp2,_⟩
   refine ⟨rfl,?_⟩
   rw [show IntKind.i64.wrap ((i:Int)+1)=((i+1:Nat):Int) by rw [w64 (by omega) (by omega)];rfl]
   refine ⟨c - (i+1),by omega,i+1,_,A2,χ2,X2,by omega,rfl,rfl,nx1.trans nx2,hF2,?_⟩
   rw [hp2,hcp,hp1]
   simp only [Fab.connect,Fab.setC,Int.toNat_natCast,List.length_replicate]
   rw [←BV (by omega)]
   rfl
  ·have hie:i=c:=by omega
   subst hie
   rw [pE]
   refine ⟨fb,A1,χ1,X1,rfl,hF1,?_,λz hz=>?_,?_⟩
   ·refine (hn1.new hn2).trans nx1.keep λz hz hc=>?_
    rcases t3 z hc with e | e<;>omega
   ·rcases (nx1.iff z).1 hz with hz | hz
    ·by_cases hlt:z<w2.heap.size
     ·rcases t3 z (nx1.grow z hlt hz) with e | e<;>omega
     ·omega
    ·exact absurd hz.2.2 hz.2.1
   ·rw [hp1]
    simp [Fab.init]
end Go.Proofs.YtgpmeaicjonenaaGreat
namespace Go.Proofs.YtgpmeaicjonenaaGreat
open Go.Proofs.Tryz
open Go.Eng
def cw (p a v:Int):Int:=p * 4503599627370496+a * 1099511627776+v
theorem DA {p a v:Int} (hp:0≤p∧p<4096) (ha:0≤a∧a<4096) (hv:0≤v∧v<1099511627776):bor .u64 (bor .u64 (bshl .u64 p 52) (bshl .u64 a 40)) v=cw p a v:=by
 obtain ⟨p,rfl⟩:=Int.eq_ofNat_of_zero_le hp.1
 obtain ⟨a,rfl⟩:=Int.eq_ofNat_of_zero_le ha.1
 obtain ⟨v,rfl⟩:=Int.eq_ofNat_of_zero_le hv.1
 have e1:bshl .u64 (p:Int) 52=((p * 2 ^ 52:Nat):Int):=by
  show IntKind.u64.wrap ((p:Int) * 2 ^ 52)=_
  rw [rI (by omega) (by omega)];simp
 have e2:bshl .u64 (a:Int) 40=((a * 2 ^ 40:Nat):Int):=by
  show IntKind.u64.wrap ((a:Int) * 2 ^ 40)=_
  rw [rI (by omega) (by omega)];simp
 rw [e1,e2,wE _ _ (by omega) (by omega),CV _ _ 52 (by omega),show p * 2 ^ 52+a * 2 ^ 40=(p * 2 ^ 12+a) * 2 ^ 40 by omega,wE _ _ (by omega) (by omega),CV _ _ 40 (by omega)]
 unfold cw
 omega
theorem pO (w:World) (x a b:Int):Does 151 [.int .i64 x,.int .i64 a,.int .i64 b] w λv w'=>v=.bool (decide (a≤x∧x≤b))∧w'=w:=by
 refine does Tryz.func151 ?_
 rw [pz]
 refine aH (λh=>⟨?_,rfl⟩) (λh=>⟨?_,rfl⟩)
 ·have:a≤x:=h
  simp [this]
 ·have:¬ a≤x:=h
  simp [this]
theorem rZ (w:World) (x a b:Int):Does 153 [.int .u64 x,.int .u64 a,.int .u64 b] w λv w'=>v=.bool (decide (a≤x∧x≤b))∧w'=w:=by
 refine does Tryz.func153 ?_
 rw [m5]
 refine aH (λh=>⟨?_,rfl⟩) (λh=>⟨?_,rfl⟩)
 ·have:a≤x:=h
  simp [this]
 ·have:¬ a≤x:=h
  simp [this]
theorem yI (w:World) (x:Int):Does 173 [.int .i64 x] w λv w'=>v=.bool (decide (0≤x∧x≤5))∧w'=w:=by
 refine does Tryz.func173 ?_
 rw [q8]
 refine aF (pO _ _ _ _) ?_
 rintro v w1 ⟨rfl,rfl⟩
 exact ⟨_,rfl,rfl,rfl⟩
theorem EO (w:World):Does 111 [.int .i64 0,.bool true] w λv w'=>v=.tuple #[.int .u64 1,.int .i64 0]∧w'=w:=by
 refine does Tryz.func111 ?_
 rw [rO]
 refine aF (pO _ _ _ _) ?_
 rintro v w1 ⟨rfl,rfl⟩
 exact ⟨_,rfl,rfl,rfl⟩
theorem Ac (w:World):Does 115 [.int .u64 1,.int .i64 0] w λv w'=>v=.tuple #[.int .u64 256,.int .i64 0]∧w'=w:=by
 refine does Tryz.func115 ?_
 rw [sS]
 refine aF (rZ _ _ _ _) ?_
 rintro v w1 ⟨rfl,rfl⟩
 refine ⟨_,rfl,er rfl ?_⟩
 refine aF (pO _ _ _ _) ?_
 rintro v w1 ⟨rfl,rfl⟩
 refine ⟨_,rfl,er rfl ⟨?_,rfl⟩⟩
 rfl
def cwOf (p a v:Int):Int:=if p<4096∧a<4096∧v<1099511627776 then cw p a v else 0
theorem vz (w:World) {p a v:Int} (hp:0≤p) (ha:0≤a) (hv:0≤v):Does 112 [.int .u64 p,.int .u64 a,.int .u64 v] w λr w'=>∃ e,r=.tuple #[.int .u64 (cwOf p a v),.int .i64 e]∧w'=w:=by
 refine does Tryz.func112 ?_
 rw [qn]
 unfold cwOf
 refine aH (λh=>⟨2,?_,rfl⟩) (λh=>aH (λh2=>⟨2,?_,rfl⟩) (λh2=>aH (λh3=>⟨2,?_,rfl⟩) (λh3=>⟨0,?_,rfl⟩)))
 ·rw [if_neg (by omega)]
 ·rw [if_neg (by omega)]
 ·rw [if_neg (by omega)]
 ·rw [if_pos (by omega),DA (by omega) (by omega) (by omega)]
theorem uj (w:World) (a b:Int):Does 152 [.int .i64 a,.int .i64 b] w λv w'=>∃ c0 c1,v=.func (.func 201) #[] #[ptr c0,ptr c1]∧Blk w' c0 [.int .i64 b] TI∧Blk w' c1 [.int .i64 a] TI∧New w w':=by
 refine does Tryz.func152 ?_
 rw [q0]
 rintro b1 w1 hb1 hw1 b2 w2 hb2 hw2
 obtain ⟨hz1,hn1⟩:=aO hb1 hw1
 obtain ⟨hz2,hn2⟩:=aO hb2 hw2
 exact ⟨b2,b1,rfl,hz2,New.blk hn2 hz1,hn1.new hn2⟩
def uk (a b i:Int):Int:=if i<0∨b≤i then -1 else a * 8+i
theorem sd (w:World) {c0 c1:Nat} {a b:Int} (h0:Blk w c0 [.int .i64 b] TI) (h1:Blk w c1 [.int .i64 a] TI) (ha:0≤a∧a≤100000) (hb:b≤100000) (i:Int):Does 201 [.int .i64 i,ptr c0,ptr c1] w λv w'=>v=.int .i64 (uk a b i)∧w'=w:=by
 refine does Tryz.func201 ?_
 rw [ptr,ptr,pC]
 unfold uk
 refine aH (λh=>⟨by rw [if_pos (by omega)],rfl⟩) (λh=>⟨b,h0.cell rfl,aH (λh2=>⟨by rw [if_pos (by omega)],rfl⟩) (λh2=>⟨a,h1.cell rfl,?_,rfl⟩)⟩)
 rw [if_neg (by omega),w64 (x:=a * 8) (by omega) (by omega),w64 (x:=a * 8+i) (by omega) (by omega)]
attribute [local irreducible] l9 nU sL
theorem ul:l9 prog 201=true:=by kernel_rfl
theorem wQ (w:World) (i:Int):Does 113 [.int .i64 i] w λv w'=>v=.int .i64 (uk 1 16 i)∧New w w':=by
 refine does Tryz.func113 ?_
 rw [oO]
 refine aF (uj _ _ _) ?_
 rintro v w1 ⟨c0,c1,rfl,hb0,hb1,hn⟩
 have hok:=ul
 refine ⟨_,rfl,?_⟩
 have hx:(#[]++#[.int .i64 i]++#[ptr c0,ptr c1]:Array Value)=#[.int .i64 i,ptr c0,ptr c1]:=by simp
 refine nP hok hx ?_
 refine aF (sd w1 hb0 hb1 (by omega) (by omega) i) ?_
 rintro v w2 ⟨rfl,rfl⟩
 exact ⟨_,rfl,rfl,hn⟩
theorem EP (w:World) (i:Int):Does 114 [.int .i64 i] w λv w'=>v=.int .i64 (uk 3 6 i)∧New w w':=by
 refine does Tryz.func114 ?_
 rw [sR]
 refine aF (uj _ _ _) ?_
 rintro v w1 ⟨c0,c1,rfl,hb0,hb1,hn⟩
 have hok:=ul
 refine ⟨_,rfl,?_⟩
 have hx:(#[]++#[.int .i64 i]++#[ptr c0,ptr c1]:Array Value)=#[.int .i64 i,ptr c0,ptr c1]:=by simp
 refine nP hok hx ?_
 refine aF (sd w1 hb0 hb1 (by omega) (by omega) i) ?_
 rintro v w2 ⟨rfl,rfl⟩
 exact ⟨_,rfl,rfl,hn⟩
theorem vA (w:World) {i:Int} (h0:96≤i) (h1:i<256):Does 116 [.int .i64 i] w λv w'=>v=.int .i64 (i * 8)∧w'=w:=by
 refine does Tryz.func116 ?_
 rw [sT]
 refine aH (λh=>by omega) (λh=>aH (λh=>by omega) (λh=>⟨?_,rfl⟩))
 rw [w64 (by omega) (by omega)]
theorem DB (w:World) {i:Int} (h0:1≤i) (h1:i≤256):Does 110 [.int .i64 i] w λv w'=>v=.int .i64 (i * 8)∧w'=w:=by
 refine does Tryz.func110 ?_
 rw [rN]
 refine aH (λh=>by omega) (λh=>aH (λh=>by omega) (λh=>⟨?_,rfl⟩))
 rw [w64 (by omega) (by omega)]
def vB:Nat→Int→Int→Int
 | 0,_,s=>s
 |n+1,i,s=>vB n (i+1) (bor .u64 s (bshl .u64 7 (7 * i)))
def iv (n:Nat):Int:=vB n 0 549755813888
theorem IV_c (w:World) {n:Nat} (h0:1≤n) (h1:n≤5):Does 108 [.int .i64 n] w λv w'=>v=.tuple #[.int .u64 (iv n),.int .i64 0]∧w'=w:=by
 refine does Tryz.func108 ?_
 rw [mA]
 refine aH (λh=>by omega) (λh=>aH (λh=>by omega) (λh=>?_))
 refine aT mix (λm env u=>∃ (i:Nat) (s:Int) (jj:List Value),m=n - i∧i≤n∧env=dQ s n i jj∧u=w∧vB (n - i) i s=iv n) n ⟨0,_,_,rfl,by omega,rfl,rfl,rfl⟩ ?_
 rintro m env u ⟨i,s,jj,rfl,hi,rfl,rfl,hv⟩
 rw [jQ]
 refine aH (λhp=>?_) (λhp=>?_)
 ·rw [w64 (by omega) (by omega),rI (by omega) (by omega),w64 (by omega) (by omega)]
  refine ⟨by omega,n - (i+1),by omega,i+1,_,_,rfl,by omega,rfl,rfl,?_⟩
  rw [show n - i=n - (i+1)+1 by omega,vB] at hv
  exact hv
 ·rw [ky]
  have:i=n:=by omega
  subst this
  rw [Nat.sub_self,vB] at hv
  rw [hv]
  exact ⟨rfl,rfl⟩
theorem EQ {n:Nat} (h1:n≤5):0≤iv n∧iv n<1099511627776:=by
 rcases n with _ | _ | _ | _ | _ | _ | n
 all_goals first | decide | omega
end Go.Proofs.YtgpmeaicjonenaaGreat
namespace Go.Proofs.YtgpmeaicjonenaaGreat
open Go.Proofs.Tryz
open Go.Eng
theorem rd_i {u:World} {a:Option Addr} {l:List Int} (h:Rd u a (is l)) {i:Nat} {x:Int} (hx:l[i]?=some x) {z:Int} (hz:z=i) {n:Nat} (hn:n=l.length) {K:Addr→Prop}
  (hk:∀ b o,(∀ y,New u y→y.cell? ⟨b,o,none⟩=some (.int .i64 x))→K ⟨b,o,none⟩):idxS a n z 1 K:=by
 subst hz hn
 have hlt:=aN hx
 have hxx:(is l)[i]?=some (.int .i64 x):=by simp [is,hx]
 rcases h with he | ⟨b,o,rfl,hc⟩
 ·rw [he] at hxx;cases hxx
 ·refine bE (by omega) (by omega) ?_
  have:=hk b (o+i) λy hy=>(Rd.new hy (.inr ⟨b,o,rfl,hc⟩)).cell hxx
  simpa using this
def fR (line lines:Int):Bool:=decide (98≤lines∧lines≤256∧96≤line∧line<lines)
theorem xB (w:World) (line lines:Int):Does 184 [.int .i64 line,.int .i64 lines] w λv w'=>v=.bool (fR line lines)∧w'=w:=by
 refine does Tryz.func184 ?_
 rw [q9]
 have h1:Does 229 [.int .i64 lines] w λv w'=>v=.bool (decide (98≤lines∧lines≤256))∧w'=w:=by
  refine does Tryz.func229 ?_
  rw [qq]
  refine aH (λh=>⟨?_,rfl⟩) (λh=>⟨?_,rfl⟩)
  ·have h:98≤lines:=h;congr 1;simp [h]
  ·have h:¬ 98≤lines:=h;congr 1;simp [h]
 refine aF h1 ?_
 rintro v w1 ⟨rfl,rfl⟩
 unfold fR
 refine ⟨_,rfl,aH (λh=>aH (λh2=>⟨?_,rfl⟩) (λh2=>⟨?_,rfl⟩)) (λh=>⟨?_,rfl⟩)⟩
 ·have h2:96≤line:=h2;congr 1;simp [h.1,h.2,h2]
 ·have h2:¬ 96≤line:=h2;congr 1;simp [h2]
 ·congr 1;simp;intro a b;exact absurd ⟨a,b⟩ h
theorem DC {u:World} {a:Option Addr} {n cap:Nat} {L:List Int} (ho:Owns u 3 1 a n cap (is L)) {x:Int} (hb1:n≤1000000) {K:Nat→Option Addr→Nat→Nat→World→Prop}
  (hk:∀ b ap cap' w3,b=u.heap.size→Owns w3 3 1 ap (n+1) cap' (is (L++[x]))→Keep (isB a) u w3→(∀ k,isB ap k→isB a k∨u.heap.size≤k)→K b ap (n+1) cap' w3) :
  ∀ b1 w2,b1=u.heap.size→w2=u.alloc (.cells #[.int .i64 x] 3)→∃ (ap:Option Addr) (ap_len ap_cap:Nat),∃ w3,(Builtin.append_ #[22,22] 22 #[(.slice a n cap),(.slice (some ⟨b1,0,none⟩) 1 1)]).run prog w2=.ok (.slice ap ap_len ap_cap) w3∧K b1 ap ap_len ap_cap w3:=by
 obtain ⟨inf,hi,hz,hsz,hby⟩:=iF (T:=3) (z:=.int .i64 0) (n:=1) (m:=8) (by kernel_rfl)
 rw [←hsz] at ho
 refine push_k (vs:=[.int .i64 x]) Tryz.underlying22 hi hz (by rw [hsz];rfl) (by omega) ho (by rw [hsz];rfl) (by intro v hv;simp at hv;subst hv;rfl) (by omega) (by omega) ?_
 intro b ap cap' w3 h1 h2
 have e:is L++[Value.int .i64 x]=is (L++[x]):=by simp [is]
 rw [hsz,e] at h2
 exact hk b ap cap' w3 h1 h2
def bs (l:List Bool):List Value:=l.map .bool
end Go.Proofs.YtgpmeaicjonenaaGreat
