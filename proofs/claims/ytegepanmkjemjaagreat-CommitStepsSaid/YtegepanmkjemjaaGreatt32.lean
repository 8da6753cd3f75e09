import Derived.Test.YtegepanmkjemjaaGreatt03
import Derived.Test.YtegepanmkjemjaaGreatt30
import Derived.Test.YtegepanmkjemjaaGreatt31
import Derived.Test.YtegepanmkjemjaaGreatt29
set_option linter.unusedVariables false
namespace Go.Proofs.YtegepanmkjemjaaGreat
open Go.Proofs.Tryz
open Go.Eng
def exB (r x:Int):Int:=q9 8 (bxor .u64 r (IntKind.u64.wrap x))
def zt (s:Int) (l:List Int):Int:=bxor .u64 18446744073709551615 (l.foldl exB (bxor .u64 18446744073709551615 s))
theorem Hr {w:World} (s:Int) {a:Option Addr} {n c:Nat} {l:List Int} (hr:Rd w a (bys l)) (hn:n=l.length) (hf:n≤1000000) :
  Does 192 [.int .u64 s,.slice a n c] w λv w'=>v=.int .u64 (zt s l)∧w'=w:=by
 subst hn
 refine does Tryz.func192 ?_
 rw [qP]
 refine aR mix (λm env u=>∃ (i:Nat) (jj:List Value),m=l.length - i∧i≤l.length∧env=eS a l.length c ((l.take i).foldl exB (bxor .u64 18446744073709551615 s)) i jj∧u=w) l.length ⟨0,_,rfl,by omega,rfl,rfl⟩ ?_
 rintro m env u ⟨i,jj,rfl,hi,rfl,rfl⟩
 rw [lJ]
 refine aI (λhlt=>?_) (λhge=>?_)
 ·obtain ⟨x,hx⟩:∃ x,l[i]?=some x:=⟨_,List.getElem?_eq_getElem (by omega)⟩
  rcases hr with he | ⟨b,o,rfl,hc⟩
  ·have h0:l.length=0:=by
    have:=congrArg List.length he
    rwa [bys,List.length_map] at this
   omega
  refine bB (by omega) (by omega) ⟨x,by simpa using hc i _ (BK hx),?_⟩
  have e2:(l.take (i+1)).foldl exB (bxor .u64 18446744073709551615 s)=q9 8 (bxor .u64 ((l.take i).foldl exB (bxor .u64 18446744073709551615 s)) (IntKind.u64.wrap x)):=tj hx
  generalize bxor .u64 ((l.take i).foldl exB (bxor .u64 18446744073709551615 s)) (IntKind.u64.wrap x)=q at e2
  refine aR mix (λm2 env2 y=>∃ (k:Nat) (jj:List Value),m2=8 - k∧k≤8∧env2=dU (some ⟨b,o,none⟩) l.length c (q9 k q) i k jj∧y=u) 8 ⟨0,_,rfl,by omega,rfl,rfl⟩ ?_
  rintro m2 env2 y ⟨k,jj2,rfl,hk,rfl,rfl⟩
  rw [lK,w64 (x:=(k:Int)+1) (by omega) (by omega)]
  refine aI (λhk8=>?_) (λhk8=>?_)
  ·refine bG (λh1=>?_) (λh1=>?_)
   ·have e:q9 (k+1) q=bxor .u64 (bshr .u64 (q9 k q) 1) 14514072000185962306:=if_pos h1
    rw [←e]
    exact ⟨8 - (k+1),by omega,k+1,_,rfl,by omega,rfl,rfl⟩
   ·have e:q9 (k+1) q=bshr .u64 (q9 k q) 1:=if_neg h1
    rw [←e]
    exact ⟨8 - (k+1),by omega,k+1,_,rfl,by omega,rfl,rfl⟩
  ·have hk8:k=8:=by omega
   subst hk8
   rw [ny,w64 (x:=(i:Int)+1) (by omega) (by omega),←e2]
   exact ⟨l.length - (i+1),by omega,i+1,_,rfl,by omega,rfl,rfl⟩
 ·have hil:i=l.length:=by omega
  subst hil
  rw [nv,List.take_length]
  exact ⟨rfl,rfl⟩
def litM (v:Int):List Int:=(List.range 8).map λ(k:Nat)=>IntKind.u8.wrap (bshr .u64 v ((8 * k:Nat):Int))
def litL (v:Int) (i:Nat):List Int:=((List.range i).map λ(k:Nat)=>IntKind.u8.wrap (bshr .u64 v ((8 * k:Nat):Int)))++List.replicate (8 - i) 0
theorem Eo {v:Int} {i:Nat} (h:i<8):(litL v i).set i (IntKind.u8.wrap (bshr .u64 v ((8 * i:Nat):Int)))=litL v (i+1):=by
 unfold litL
 rw [List.range_succ,List.map_append,List.set_append]
 simp only [List.length_map,List.length_range,Nat.lt_irrefl,if_false,Nat.sub_self]
 obtain ⟨m,hm⟩:∃ m,8 - i=m+1:=⟨7 - i,by omega⟩
 have e:8 - (i+1)=m:=by omega
 rw [hm,e,List.replicate_succ,List.set_cons_zero]
 simp
theorem Ep {v:Int} {i:Nat} (h:i≤8):(litL v i).length=8:=by simp [litL];omega
theorem Gb (l:List Int) (i:Nat) (x:Int):(bys l).set i (.int .u8 x)=bys (l.set i x):=by simp [bys]
theorem Hs (w:World) (x:Int):Does 193 [.int .u64 x] w λv w'=>∃ b,v=.slice (some ⟨b,0,none⟩) 8 8∧New w w'∧Rd w' (some ⟨b,0,none⟩) (bys (litM x)):=by
 refine does Tryz.func193 ?_
 rw [qQ]
 refine ⟨by omega,by omega,by omega,by omega,λb w1 hb hw=>?_⟩
 obtain ⟨hz1,hn1⟩:=aO hb hw
 have hz1:Blk w1 b (bys (litL x 0)) 5:=hz1
 clear hw
 refine aR mix (λm env u=>∃ (i:Nat) (jj:List Value),m=8 - i∧i≤8∧env=eT x (some ⟨b,0,none⟩) (Int.toNat 8) (Int.toNat 8) i jj∧New w u∧Blk u b (bys (litL x i)) 5) 8 ⟨0,_,rfl,by omega,rfl,hn1,hz1⟩ ?_
 rintro m env u ⟨i,jj,rfl,hi,rfl,hnu,hzu⟩
 rw [lL]
 refine aI (λhlt=>?_) (λhge=>?_)
 ·have hi8:i<8:=by omega
  rw [w64 (x:=(8:Int) * i) (by omega) (by omega),wu64 (x:=(8:Int) * i) (by omega) (by omega),w64 (x:=(i:Int)+1) (by omega) (by omega)]
  refine ⟨by omega,bB (by omega) (by show (i:Int)<8;omega) ?_⟩
  have e2:0+(i:Int).toNat * 1=i:=by omega
  rw [e2]
  refine mb hzu (o:=i) (by rw [bys,List.length_map,Ep hi];exact hi8) λw2 hz2 hk2=>?_
  have e3:(8:Int) * i=((8 * i:Nat):Int):=by omega
  rw [e3,Gb,Eo hi8] at hz2
  have hs:=hn1.size
  exact ⟨8 - (i+1),by omega,i+1,_,rfl,by omega,rfl,hnu.trans hk2 λk hlt e=>by omega,hz2⟩
 ·have hi8:i=8:=by omega
  subst hi8
  rw [nz]
  refine ⟨b,rfl,hnu,?_⟩
  have e:litL x 8=litM x:=by simp [litL,litM]
  rw [e] at hzu
  exact fP hzu (by rw [List.drop_zero,List.take_of_length_le (Nat.le_refl _)])
def sumM (l:List Int):Int:=l.foldl (λs x=>zt s (litM x)) 0
theorem Er {w:World} {a:Option Addr} {n c:Nat} {l:List Int} (hr:Rd w a (us l)) (hn:n=l.length) (hf:n≤1000000) :
  Does 161 [.slice a n c] w λv w'=>v=.int .u64 (sumM l)∧New w w':=by
 subst hn
 refine does Tryz.func161 ?_
 rw [rF]
 refine aR mix (λm env u=>∃ (i:Nat) (jj:List Value),m=l.length - i∧i≤l.length∧env=fL a l.length c (sumM (l.take i)) i jj∧New w u) l.length ⟨0,_,rfl,by omega,rfl,Keep.refl _ _⟩ ?_
 rintro m env u ⟨i,jj,rfl,hi,rfl,hnu⟩
 rw [ms]
 refine aI (λhlt=>?_) (λhge=>?_)
 ·obtain ⟨x,hx⟩:∃ x,l[i]?=some x:=⟨_,List.getElem?_eq_getElem (by omega)⟩
  refine rd_u (hr.new hnu) hx rfl rfl λb o hc=>⟨_,hc u (Keep.refl _ _),?_⟩
  refine aG (Hs u x) ?_
  rintro v u1 ⟨b1,rfl,hn1,hr1⟩
  refine ⟨_,_,_,rfl,?_⟩
  refine aG (Hr _ hr1 (by simp [litM]) (by omega)) ?_
  rintro v u2 ⟨rfl,hu2⟩
  obtain rfl:u1=u2:=hu2.symm
  refine ⟨_,rfl,?_⟩
  rw [w64 (x:=(i:Int)+1) (by omega) (by omega)]
  have e:sumM (l.take (i+1))=zt (sumM (l.take i)) (litM x):=tj hx
  rw [←e]
  exact ⟨l.length - (i+1),by omega,i+1,_,rfl,by omega,rfl,hnu.new hn1⟩
 ·have hil:i=l.length:=by omega
  subst hil
  rw [oy,List.take_length]
  exact ⟨rfl,hnu⟩
theorem Es {w:World} {a a':Option Addr} {n n' c c':Nat} {l l':List Int} (hr:Rd w a (us l)) (hr':Rd w a' (us l')) (hn:n=l.length) (hn':n'=l'.length) (hf:n≤1000000) :
  Does 119 [.slice a n c,.slice a' n' c'] w λv w'=>v=.bool (decide (l=l'))∧New w w':=by
 subst hn hn'
 refine does Tryz.func119 ?_
 rw [oT]
 refine bY (λh=>⟨?_,Keep.refl _ _⟩) (λhl=>?_)
 ·have:l≠l':=λe=>h (by rw [e])
  rw [decide_eq_false this]
 have hl:l.length=l'.length:=by omega
 refine aR mix (λm env u=>∃ (i:Nat) (jj:List Value),m=l.length - i∧i≤l.length∧env=eg a l.length c a' l'.length c' i jj∧New w u∧l.take i=l'.take i) l.length ⟨0,_,rfl,by omega,rfl,Keep.refl _ _,rfl⟩ ?_
 rintro m env u ⟨i,jj,rfl,hi,rfl,hnu,htk⟩
 rw [jZ]
 refine aI (λhlt=>?_) (λhge=>?_)
 ·obtain ⟨x,hx⟩:∃ x,l[i]?=some x:=⟨_,List.getElem?_eq_getElem (by omega)⟩
  obtain ⟨x',hx'⟩:∃ x,l'[i]?=some x:=⟨_,List.getElem?_eq_getElem (by omega)⟩
  rintro u1 hu1
  have hn1:New u u1:=by rw [hu1];exact aW _
  clear hu1
  refine ⟨λy=>New u1 y,Keep.refl _ _,?_⟩
  refine rd_u (hr.new (hnu.new hn1)) hx rfl rfl λb o hc=>⟨_,λy hy=>hc y hy,?_⟩
  refine rd_u (hr'.new (hnu.new hn1)) hx' rfl rfl λb o hc=>⟨_,λy hy=>hc y hy,bY (λe=>⟨?_,hnu.new hn1⟩) (λe=>?_)⟩
  ·have:l≠l':=λe2=>e (by rw [e2,hx'] at hx;cases hx;rfl)
   rw [decide_eq_false this]
  ·rw [w64 (x:=(i:Int)+1) (by omega) (by omega)]
   refine ⟨l.length - (i+1),by omega,i+1,_,rfl,by omega,rfl,hnu.new hn1,?_⟩
   rw [List.take_add_one,List.take_add_one,htk,hx,hx',e]
 ·have hil:i=l.length:=by omega
  rw [lI]
  refine ⟨?_,hnu⟩
  rw [hil,List.take_length,List.take_of_length_le (by omega)] at htk
  rw [decide_eq_true htk]
theorem Et (r s:aD):Go.Mx.eqvL r.cells s.cells=true↔r=s:=by
 obtain ⟨a0,a1,a2,a3,a4,a5,a6,a7,a8⟩:=r
 obtain ⟨b0,b1,b2,b3,b4,b5,b6,b7,b8⟩:=s
 simp [aD.cells,Go.Mx.eqvL,Go.Mx.eqv1]
set_option maxRecDepth 20000 in
theorem zu (r s:aD) {K:Bool→Prop} (hk:∀ b,(b=true↔r=s)→K b):yS prog TPg r.val s.val K:=by
 refine ⟨Go.Mx.eqvL r.cells s.cells,λw=>?_,hk _ (Et r s)⟩
 have hc:Go.Mx.sN [false,false,false,false,false,false,false,false,false] r.cells s.cells:=by
  obtain ⟨a0,a1,a2,a3,a4,a5,a6,a7,a8⟩:=r
  obtain ⟨b0,b1,b2,b3,b4,b5,b6,b7,b8⟩:=s
  exact ⟨rfl,rfl,rfl,rfl,rfl,rfl,rfl,rfl,rfl,trivial⟩
 have hq:=Go.Mx.CO 8 TPg _ F8 10000 (by omega) r.cells s.cells hc w
 unfold Go.Mx.vY at hq
 rw [if_pos Hq] at hq
 generalize Go.Mx.eqvL r.cells s.cells=e at hq
 have hq':(Op.equalIn 10000 TPg (.agg r.cells.toArray) (.agg s.cells.toArray)).run prog w=.ok e w:=hq
 exact ⟨λop x y=>run_eqGuard_agg w op TPg x y _ _ En,by rw [aD.val,aD.val,run_eql_struct,hq'];rfl,by rw [aD.val,aD.val,run_neq_struct,hq'];rfl⟩
theorem Eu {w:World} {a a':Option Addr} {n n' c c':Nat} {l l':List aD} (hr:Rd w a (dF l).flatten) (hr':Rd w a' (dF l').flatten) (hn:n=l.length) (hn':n'=l'.length) (hf:n≤1000000) :
  Does 85 [.slice a n c,.slice a' n' c'] w λv w'=>(∃ b,v=.bool b∧(b=true↔l=l'))∧New w w':=by
 subst hn hn'
 refine does Tryz.func85 ?_
 rw [oS]
 refine bY (λh=>⟨⟨false,rfl,?_⟩,Keep.refl _ _⟩) (λhl=>?_)
 ·constructor
  ·intro e;cases e
  ·intro e;exact absurd (by rw [e]) h
 have hl:l.length=l'.length:=by omega
 refine aR mix (λm env u=>∃ (i:Nat) (jj:List Value),m=l.length - i∧i≤l.length∧env=ef a l.length c a' l'.length c' i jj∧New w u∧l.take i=l'.take i) l.length ⟨0,_,rfl,by omega,rfl,Keep.refl _ _,rfl⟩ ?_
 rintro m env u ⟨i,jj,rfl,hi,rfl,hnu,htk⟩
 rw [jY]
 refine aI (λhlt=>?_) (λhge=>?_)
 ·obtain ⟨x,hx⟩:∃ x,l[i]?=some x:=⟨_,List.getElem?_eq_getElem (by omega)⟩
  obtain ⟨x',hx'⟩:∃ x,l'[i]?=some x:=⟨_,List.getElem?_eq_getElem (by omega)⟩
  rintro u1 hu1
  have hn1:New u u1:=by rw [hu1];exact aW _
  clear hu1
  refine ⟨λy=>New u1 y,Keep.refl _ _,?_⟩
  refine iI (cells:=aD.cells) aD.len (by omega) (hr.new (hnu.new hn1)) hx rfl rfl λb o hc=>?_
  refine aD.mk_ex x ⟨λy hy=>gG (hc y hy),?_⟩
  refine iI (cells:=aD.cells) aD.len (by omega) (hr'.new (hnu.new hn1)) hx' rfl rfl λb o hc=>?_
  refine aD.mk_ex x' ⟨λy hy=>gG (hc y hy),?_⟩
  refine zu x x' λb hb=>?_
  refine jP (λhb2=>⟨⟨false,rfl,?_⟩,hnu.new hn1⟩) (λhb2=>?_)
  ·constructor
   ·intro e;cases e
   ·intro e
    rw [e,hx'] at hx
    cases hx
    rw [hb.2 rfl] at hb2
    cases hb2
  ·rw [w64 (x:=(i:Int)+1) (by omega) (by omega)]
   refine ⟨l.length - (i+1),by omega,i+1,_,rfl,by omega,rfl,hnu.new hn1,?_⟩
   have e:x=x':=hb.1 (by simpa using hb2)
   rw [List.take_add_one,List.take_add_one,htk,hx,hx',e]
 ·have hil:i=l.length:=by omega
  rw [lH]
  refine ⟨⟨true,rfl,?_⟩,hnu⟩
  rw [hil,List.take_length,List.take_of_length_le (by omega)] at htk
  exact ⟨λ_=>htk,λ_=>rfl⟩
end Go.Proofs.YtegepanmkjemjaaGreat
namespace Go.Proofs.YtegepanmkjemjaaGreat.C12
open Go.Eng
abbrev TR:=aC
abbrev TTa:TypeId:=49
abbrev TST:TypeId:=61
structure gz (A:Nat→Prop) (w:World) (r:TR) (t:Tk conv):Prop where
 kind:r.Kind=KIND
 client:r.Client=t.client
 over:r.Over=t.over
 bad:r.Bad=t.bad
 got:oF A w r.Got t.got
 gl:r.Got_l=t.got.length
 gc:r.Got_l≤r.Got_c
 job:JAt A w r t.job
 out:OAt A w r t.out
 len:t.got.length≤201
theorem gz.keep {A A':Nat→Prop} {w w':World} {r:TR} {t:Tk conv} (h:gz A w r t) (hk:Keep A w w') (hM:∀ k,k<w.heap.size→A' k→A k):gz A' w' r t:=
 ⟨h.kind,h.client,h.over,h.bad,h.got.keep hk hM,h.gl,h.gc,h.job.keep hk hM,h.out.keep hk hM,h.len⟩
theorem gz.fail {A:Nat→Prop} {w:World} {r:TR} {t:Tk conv} (h:gz A w r t):gz A w { r with Over:=true,Bad:=true } t.fail:=
 ⟨h.kind,h.client,rfl,rfl,h.got,h.gl,h.gc,h.job,h.out,h.len⟩
theorem wv {z:World} {b1 b2:Nat} {r:TR} {cs:List Value} {R:Value→World→Prop} (hb1:Blk z b1 r.cells TTa) (hb2:Blk z b2 cs TTa) (hc:cs.length=25) (hR:∀ w',Keep (λk=>k=b2) z w'→R r.val w') :
  aC.ex λx=>aF z ⟨b1,0,none⟩ 0 x.cells∧wrAt z ⟨b2,0,none⟩ 0 x.cells∧∀ w',w'=puts z ⟨b2,0,none⟩ 0 x.cells→aC.ex λy=>aF w' ⟨b2,0,none⟩ 0 y.cells∧w'=w'∧R y.val w':=by
 refine aC.mk_ex r ⟨aK hb1 rfl,?_⟩
 refine g8 (vs:=r.cells) hb2 (by rw [hc];rfl) (aC.single r) λw' hb' hk'=>?_
 exact aC.mk_ex r ⟨aK hb' rfl,rfl,hR w' hk'⟩
def Bl (A:Nat→Prop) (χ:Nat→Tag) (w:World) (fb:Nat) (x:Fab×Tk conv) (v:Value) (w':World):Prop:=
 dN A χ w fb x.1 w' λB=>∃ r:TR,v=r.val∧gz B w' r x.2
theorem Ev {A:Nat→Prop} {χ:Nat→Tag} {w z w':World} {fb b1 b2:Nat} {B:Nat→Prop} {ξ:Nat→Tag} {X:FabX} {r:TR} {t:Tk conv} (h:TW A χ w fb (λk=>k=b1∨k=b2) z B ξ X) (ht:gz (λk=>B k∨k=b1∨k=b2) z r t) (hk:Keep (λk=>k=b2) z w') :
  Bl A χ w fb (X.pure,t) r.val w':=
 (h.local hk λ_ e=>.inr e).done ⟨r,rfl,ht.keep (hk.mono λ_ _ e=>.inr (.inr e)) λk _ hb=>.inl hb⟩
def nA (ts:List (TR×Tk conv)):List (List Value):=ts.map λx=>x.1.cells
theorem jc (ts:List (TR×Tk conv)):∀ r ∈ nA ts,r.length=25:=by
 intro r hr
 simp only [nA,List.mem_map] at hr
 obtain ⟨x,_,rfl⟩:=hr
 rfl
theorem vt {ts:List (TR×Tk conv)} {i:Nat} {x:TR×Tk conv} (h:ts[i]?=some x):(nA ts)[i]?=some x.1.cells:=by simp [nA,h]
theorem tX (ts:List (TR×Tk conv)):∀ u ∈ (nA ts).flatten,single u=true:=by
 intro u hu
 obtain ⟨r,hr,hur⟩:=List.mem_flatten.1 hu
 simp only [nA,List.mem_map] at hr
 obtain ⟨x,_,rfl⟩:=hr
 exact aC.single _ u hur
end Go.Proofs.YtegepanmkjemjaaGreat.C12
namespace Go.Proofs.YtegepanmkjemjaaGreat.C12
open Go.Eng
set_option maxRecDepth 20000 in
set_option maxHeartbeats 4000000 in
theorem Ht {A:Nat→Prop} {z:World} {r:TR} {t:Tk conv} (h:gz A z r t) (hlow:∀ k,A k→k<z.heap.size) :
  Does 60 [r.val] z λv z1=>New z z1∧∃ (aa:Option Addr) (ac:Nat) (raws:List aN) (r':TR),v=.tuple #[.slice aa raws.length ac,r'.val]∧Rd z1 aa (fC raws).flatten∧(∀ k,isB aa k→z.heap.size≤k)∧Vs (λk=>k<z.heap.size) z1 raws (conv.next t.job t.got).1∧gz A z1 r' t.told:=by
 refine does Tryz.func60 ?_
 rw [rC]
 rintro b1 u1 hb1 hu1
 obtain ⟨hz1,hn1⟩:=aO hb1 hu1
 have hz1:Blk u1 b1 r.cells TTa:=hz1
 clear hu1
 rintro b2 u2 hb2 hu2
 obtain ⟨hz2,hn2⟩:=aO hb2 hu2
 obtain ⟨cs2,hz2,hcs2⟩:∃ cs,Blk u2 b2 cs TTa∧cs.length=r.cells.length:=⟨_,hz2,rfl⟩
 clear hu2
 have hn12:=hn1.new hn2
 have hs1:=hn1.size
 have hs2:=hn2.size
 have hl1:=hz1.lt
 have hl2:=hz2.lt
 have hz12:=New.blk hn2 hz1
 have hk:=h.kind
 refine ⟨_,hz12.cell (i:=0) rfl,eC (by rw [hk];rfl) (eC (by rw [hk];rfl) (ig (by rw [hk];rfl) ?_))⟩
 refine aM.mk_ex r.Commit ⟨aK hz12 rfl,_,_,_,hz12.cell (i:=15) rfl,?_⟩
 have hk12:Keep A z u2:=Keep.of_new hn12
 have hj:JAtC A u2 r.Commit t.job:=h.job.keep (A':=A) hk12 λ_ _ e=>e
 have hg:=h.got.keep (A':=A) hk12 λ_ _ e=>e
 have hcall:=F6 hj.at_ (λ_=>hj.dat) hg h.gl h.gc
 refine aG hcall ?_
 rintro v u3 ⟨aa,ac,raws,rfl,hn3,hrd,hfr,hvs⟩
 refine ⟨_,_,_,aA.mk_ex ⟨(jX t.job t.got).2.1.1,(jX t.job t.got).2.1.2⟩ ⟨(jX t.job t.got).2.2,rfl,?_⟩⟩
 refine ii (vs:=aA.cells ⟨(jX t.job t.got).2.1.1,(jX t.job t.got).2.1.2⟩) rfl (aA.single _) λb3 u4 hb3 hz4 hn4=>?_
 rintro u5 hu5
 have hn5:New u4 u5:=by rw [hu5];exact aW _
 clear hu5
 have hs3:=hn3.size
 have hs4:=hn4.size
 have hs5:=hn5.size
 have hz45:=New.blk hn5 hz4
 have hn25:=(hn3.new hn4).new hn5
 have hz15:=New.blk hn25 hz12
 have hz25:=New.blk hn25 hz2
 refine ⟨λy=>Blk y b3 (aA.cells ⟨(jX t.job t.got).2.1.1,(jX t.job t.got).2.1.2⟩) TCO,hz45,_,λy hy=>hy.cell (i:=0) rfl,_,λy hy=>hy.cell (i:=1) rfl,?_⟩
 refine xk hz15 (i:=16) rfl λu6 hz6 hk6=>⟨hk6.blk hz45 (by omega),?_⟩
 refine xk hz6 (i:=18) rfl λu7 hz7 hk7=>⟨hk7.blk (hk6.blk hz45 (by omega)) (by omega),?_⟩
 refine xk hz7 (i:=24) rfl λu8 hz8 hk8=>?_
 rintro u9 hu9
 have hn9:New u8 u9:=by rw [hu9];exact aW _
 clear hu9
 have hk58:Keep (λk=>k=b1) u5 u8:=(hk6.trans hk7 λ_ _ e=>e).trans hk8 λ_ _ e=>e
 have hz8:Blk u8 b1 (aC.cells { r with Over:=(jX t.job t.got).2.2,Code:=(jX t.job t.got).2.1.1,Fate:=(jX t.job t.got).2.1.2 }) TTa:=hz8
 have hz9:=New.blk hn9 hz8
 have hz29:Blk u9 b2 cs2 TTa:=New.blk hn9 (hk58.blk hz25 (by omega))
 have hk59:Keep (λk=>k=b1) u5 u9:=hk58.new hn9
 refine ⟨λy=>New u9 y,Keep.refl _ _,aC.mk_ex { r with Over:=(jX t.job t.got).2.2,Code:=(jX t.job t.got).2.1.1,Fate:=(jX t.job t.got).2.1.2 } ⟨λy hy=>aK (New.blk hy hz9) rfl,?_⟩⟩
 refine g8 hz29 (by rw [hcs2];rfl) (aC.single _) λuA hzA hkA=>?_
 refine aC.mk_ex { r with Over:=(jX t.job t.got).2.2,Code:=(jX t.job t.got).2.1.1,Fate:=(jX t.job t.got).2.1.2 } ⟨aK hzA rfl,rfl,?_⟩
 have hk5A:Keep (λk=>k=b1∨k=b2) u5 uA:=(hk59.mono λk _ e=>.inl e).trans (hkA.mono λk _ e=>.inr e) λ_ _ e=>e
 have hnA:New z uA:=(hn12.new hn25).trans hk5A λk hlt e=>by omega
 have hk3A:Keep (λk=>k=b1∨k=b2) u3 uA:=(Keep.of_new (hn4.new hn5)).trans hk5A λ_ _ e=>e
 refine ⟨hnA,aa,ac,raws,_,rfl,hrd.keep hk3A (tM hrd λk hk e=>by have:=hfr k hk;omega),λk hk=>by have:=hfr k hk;omega,?_,?_⟩
 ·exact hvs.keep (hk3A.mono λk _ e=>by show k<u2.heap.size;omega) λk _ e=>by show k<u2.heap.size;omega
 ·have hT:=h.keep (A':=A) (Keep.of_new hnA) λ_ _ e=>e
  exact ⟨hT.kind,hT.client,rfl,hT.bad,hT.got,hT.gl,hT.gc,hT.job,⟨rfl,rfl⟩,hT.len⟩
end Go.Proofs.YtegepanmkjemjaaGreat.C12
namespace Go.Proofs.YtegepanmkjemjaaGreat.C12
open Go.Proofs.Tryz
open Go.Eng
def Al (p0 b1 b2:Nat) (z:World) (R:Value→World→Prop):Prop:=
 ∃ (g:Option Addr) (gl gc:Nat),z.cell? ⟨b1,15,none⟩=some (.slice g gl gc)∧(bif (decide ((gl:Int)>200)) then
  ((∃ u,z.cell? ⟨b1,16,none⟩=some u)∧z.frozen? ⟨b1,16,none⟩=false∧∀ z1,z1=z.setCell ⟨b1,16,none⟩ (.bool true)→(∃ u,z1.cell? ⟨b1,17,none⟩=some u)∧z1.frozen? ⟨b1,17,none⟩=false∧∀ z2,z2=z1.setCell ⟨b1,17,none⟩ (.bool true)→
   aC.ex λx=>aF z2 ⟨b1,0,none⟩ 0 x.cells∧wrAt z2 ⟨b2,0,none⟩ 0 x.cells∧∀ w',w'=puts z2 ⟨b2,0,none⟩ 0 x.cells→aC.ex λy=>aF w' ⟨b2,0,none⟩ 0 y.cells∧w'=w'∧R y.val w')
  else (aC.ex λr=>aF z ⟨b1,0,none⟩ 0 r.cells∧Calls prog 60 #[r.val] z λe z3=>∃ (a:Option Addr) (al ac:Nat),aC.ex λr'=>e=.returned (.tuple #[.slice a al ac,r'.val])∧wrAt z3 ⟨b1,0,none⟩ 0 r'.cells∧∀ z4,z4=puts z3 ⟨b1,0,none⟩ 0 r'.cells→
   ∃ ov:Bool,z4.cell? ⟨b1,16,none⟩=some (.bool ov)∧(bif (!ov) then (∃ cl:Int,z4.cell? ⟨b1,1,none⟩=some (.int .i64 cl)∧Calls prog 61 #[.pointer (some ⟨p0,0,none⟩),.int .i64 cl,.slice a al ac] z4 λe z5=>∃ ec:Int,e=.returned (.int .i64 ec)∧(bif (ec != 0) then
     ((∃ u,z5.cell? ⟨b1,16,none⟩=some u)∧z5.frozen? ⟨b1,16,none⟩=false∧∀ z6,z6=z5.setCell ⟨b1,16,none⟩ (.bool true)→(∃ u,z6.cell? ⟨b1,17,none⟩=some u)∧z6.frozen? ⟨b1,17,none⟩=false∧∀ z7,z7=z6.setCell ⟨b1,17,none⟩ (.bool true)→
      aC.ex λx=>aF z7 ⟨b1,0,none⟩ 0 x.cells∧wrAt z7 ⟨b2,0,none⟩ 0 x.cells∧∀ w',w'=puts z7 ⟨b2,0,none⟩ 0 x.cells→aC.ex λy=>aF w' ⟨b2,0,none⟩ 0 y.cells∧w'=w'∧R y.val w')
     else (aC.ex λx=>aF z5 ⟨b1,0,none⟩ 0 x.cells∧wrAt z5 ⟨b2,0,none⟩ 0 x.cells∧∀ w',w'=puts z5 ⟨b2,0,none⟩ 0 x.cells→aC.ex λy=>aF w' ⟨b2,0,none⟩ 0 y.cells∧w'=w'∧R y.val w')))
    else (aC.ex λx=>aF z4 ⟨b1,0,none⟩ 0 x.cells∧wrAt z4 ⟨b2,0,none⟩ 0 x.cells∧∀ w',w'=puts z4 ⟨b2,0,none⟩ 0 x.cells→aC.ex λy=>aF w' ⟨b2,0,none⟩ 0 y.cells∧w'=w'∧R y.val w'))))
theorem E4 {A:Nat→Prop} {χ:Nat→Tag} {w z:World} {fb b1 b2:Nat} {B:Nat→Prop} {ξ:Nat→Tag} {X:FabX} {r:TR} {t:Tk conv} (h:TW A χ w fb (λk=>k=b1∨k=b2) z B ξ X) (hne:b1≠b2) (hb1:Blk z b1 r.cells TTa) {cs:List Value} (hb2:Blk z b2 cs TTa) (hcs:cs.length=25) (ht:gz (λk=>B k∨k=b1∨k=b2) z r t) :
  (∃ u,z.cell? ⟨b1,16,none⟩=some u)∧z.frozen? ⟨b1,16,none⟩=false∧∀ z1,z1=z.setCell ⟨b1,16,none⟩ (.bool true)→(∃ u,z1.cell? ⟨b1,17,none⟩=some u)∧z1.frozen? ⟨b1,17,none⟩=false∧∀ z2,z2=z1.setCell ⟨b1,17,none⟩ (.bool true)→
   aC.ex λx=>aF z2 ⟨b1,0,none⟩ 0 x.cells∧wrAt z2 ⟨b2,0,none⟩ 0 x.cells∧∀ w',w'=puts z2 ⟨b2,0,none⟩ 0 x.cells→aC.ex λy=>aF w' ⟨b2,0,none⟩ 0 y.cells∧w'=w'∧Bl A χ w fb (X.pure,t.fail) y.val w':=by
 refine ⟨⟨_,hb1.cell rfl⟩,hb1.frozen,?_⟩
 rintro z1 hz1
 have hk1:Keep (λk=>k=b1) z z1:=by rw [hz1];exact aS _ _ _ _
 have hb11:=hb1.setCell (i:=16) (.bool true)
 rw [←hz1] at hb11
 clear hz1
 refine ⟨⟨_,hb11.cell rfl⟩,hb11.frozen,?_⟩
 rintro z2 hz2
 have hk2:Keep (λk=>k=b1) z z2:=by rw [hz2];exact hk1.setCell (.inl rfl) _
 have hb12:=hb11.setCell (i:=17) (.bool true)
 rw [←hz2] at hb12
 clear hz2
 have hb12:Blk z2 b1 ({ r with Over:=true,Bad:=true }:TR).cells TTa:=hb12
 refine wv hb12 (hk2.blk hb2 λe=>hne e.symm) hcs λw' hk'=>?_
 exact Ev (h.local hk2 λ_ e=>.inl e) ((ht.keep (hk2.mono λ_ _ e=>.inr (.inl e)) λ_ _ hb=>hb).fail) hk'
set_option maxHeartbeats 2000000 in
theorem E5 {A:Nat→Prop} {χ:Nat→Tag} {w z:World} {fb b1 b2:Nat} {B:Nat→Prop} {ξ:Nat→Tag} {X:FabX} {r:TR} {t:Tk conv} (h:TW A χ w fb (λk=>k=b1∨k=b2) z B ξ X) (hok:Good X.pure) (hne:b1≠b2)
  (hb1:Blk z b1 r.cells TTa) {cs:List Value} (hb2:Blk z b2 cs TTa) (hcs:cs.length=25) (ht:gz (λk=>B k∨k=b1∨k=b2) z r t) :
  Al fb b1 b2 z (Bl A χ w fb (tB X.pure t)):=by
 unfold Al tB
 have hgl:=ht.gl
 refine ⟨_,_,_,hb1.cell rfl,aI (λhc=>?_) (λhc=>?_)⟩
 ·rw [if_pos (by omega)]
  exact E4 h hne hb1 hb2 hcs ht
 ·rw [if_neg (by omega)]
  refine aC.mk_ex r ⟨aK hb1 rfl,?_⟩
  refine aG (Ht ht (λk hk=>h.fab.low k hk)) ?_
  rintro v z1 ⟨hn1,aa,ac,raws,r',rfl,hrd,hfr,hvs,ht'⟩
  refine ⟨_,_,_,aC.mk_ex r' ⟨rfl,?_⟩⟩
  have hb1l:=hb1.lt
  have hb2l:=hb2.lt
  refine g8 (vs:=r'.cells) (New.blk hn1 hb1) rfl (aC.single r') λz2 hb22 hk2=>?_
  have hkz2:Keep (λk=>k=b1) z z2:=(Keep.of_new hn1).trans hk2 λ_ _ e=>e
  have h2:=(h.new hn1).local hk2 λ_ e=>.inl e
  have ht2:=ht'.keep (A':=λk=>B k∨k=b1∨k=b2) (hk2.mono λ_ _ e=>.inr (.inl e)) λ_ _ hb=>hb
  have hb2z:Blk z2 b2 cs TTa:=hkz2.blk hb2 λe=>hne e.symm
  have hrd2:Rd z2 aa (fC raws).flatten:=hrd.keep hk2 (tM hrd λk hk e=>by have:=hfr k hk;omega)
  refine ⟨_,hb22.cell rfl,dV (λho=>?_) (λho=>?_)⟩
  ·have ho':(conv.next t.job t.got).2.2=false:=by rw [←ho];exact ht'.over.symm
   rw [if_neg (by rw [ho'];simp)]
   refine ⟨_,hb22.cell rfl,?_⟩
   have hoff:((fC raws).flatten=[])∨Off (λk=>B k∨k=b1∨k=b2) aa:=tM hrd2 λk hk e=>by
    have h3:=hfr k hk
    have h4:=h.fab.low k e
    omega
   have hvs2:Vs (λk=>B k∨k=b1∨k=b2) z2 raws (conv.next t.job t.got).1:=hvs.keep (hk2.mono λk _ e=>by show k<z.heap.size;omega) λk _ hb=>h.fab.low k hb
   have hcl:r'.Client=t.client:=ht'.client
   rw [hcl]
   refine aG (GW h2.fab hok.ok t.client (lcap:=ac) hrd2 hoff hvs2) ?_
   rintro v z3 ⟨rfl,hp⟩
   obtain ⟨B',ξ',X',h3,hX3,_,hk3,hM3,hL3⟩:=h2.op hp
   have hb13:Blk z3 b1 r'.cells TTa:=(hL3 b1 (.inl rfl)).trans hb22
   have hb23:Blk z3 b2 cs TTa:=(hL3 b2 (.inr rfl)).trans hb2z
   have ht3:=ht2.keep (A':=λk=>B' k∨k=b1∨k=b2) hk3 hM3
   refine ⟨_,rfl,bY (λhc2=>?_) (λhc2=>?_)⟩
   ·rw [if_pos hc2,←hX3]
    exact E4 h3 hne hb13 hb23 hcs ht3
   ·rw [if_neg (λe=>e hc2)]
    refine wv hb13 hb23 hcs λw' hk'=>?_
    rw [←hX3]
    exact Ev h3 ht3 hk'
  ·have ho':(conv.next t.job t.got).2.2=true:=by rw [←ho];exact ht'.over.symm
   rw [if_pos ho']
   refine wv hb22 hb2z hcs λw' hk'=>?_
   exact Ev h2 ht2 hk'
set_option maxHeartbeats 2000000 in
theorem CP {A:Nat→Prop} {χ:Nat→Tag} {w:World} {fb:Nat} {X:FabX} (h:aZ A χ w fb X) (hok:Good X.pure) {r:TR} {t:Tk conv} (ht:gz A w r t) (hsh:vT t) :
  Does 44 [ptr fb,r.val] w (Bl A χ w fb (turn X.pure t)):=by
 refine does Tryz.func44 ?_
 rw [ptr,rB]
 rintro b1 w1 hb1 hw1 b2 w2 hb2 hw2
 obtain ⟨hz1,hn1⟩:=aO hb1 hw1
 obtain ⟨hz2,hn2⟩:=aO hb2 hw2
 have hz12:Blk w2 b1 r.cells TTa:=New.blk hn2 hz1
 have hs1:=hz1.lt
 have hs12:=hn1.size
 have hs2:=hz2.lt
 have hs22:=hn2.size
 clear hw1 hw2 hz1
 have hn02:=hn1.new hn2
 have hne:b1≠b2:=by omega
 have hT:TW A χ w fb (λk=>k=b1∨k=b2) w2 A χ X:=TW.start h hn02 λk hk=>by omega
 have ht2:gz (λk=>A k∨k=b1∨k=b2) w2 r t:=ht.keep (Keep.of_new hn02) λk hlt hc=>by
  rcases hc with hc | hc
  ·exact hc
  ·omega
 have hsame:∀ w',Keep (λk=>k=b2) w2 w'→Bl A χ w fb (X.pure,t) r.val w':=λw' hk'=>Ev hT ht2 hk'
 unfold turn
 have hcl:r.Client=t.client:=ht.client
 refine ⟨_,hz12.cell rfl,?_⟩
 rw [ht.over]
 cases hov:t.over with
 |true=>
  refine ig rfl ?_
  rw [if_pos (.inl rfl)]
  exact wv hz12 hz2 rfl hsame
 |false=>
  refine eC rfl ?_
  refine ⟨_,hz12.cell rfl,?_⟩
  rw [hcl]
  refine aG (zb hT.fab _) ?_
  rintro v w4 ⟨rfl,rfl⟩
  refine ⟨_,rfl,dV (λha=>?_) (λha=>?_)⟩
  ·rw [if_pos (.inr (.inl ha))]
   exact wv hz12 hz2 rfl hsame
  refine ⟨_,hz12.cell rfl,?_⟩
  rw [hcl]
  refine aG (B6 hT.fab _) ?_
  rintro v w6 ⟨rfl,rfl⟩
  refine ⟨_,rfl,aI (λhw=>?_) (λhw=>?_)⟩
  ·rw [if_pos (.inr (.inr (by omega)))]
   exact wv hz12 hz2 rfl hsame
  rw [if_neg (by rw [ha];simp;omega)]
  refine ⟨_,hz12.cell rfl,?_⟩
  rw [hcl]
  refine aG (GU hT.fab _) ?_
  rintro v w8 hp
  obtain ⟨B',ξ',X',h3,hX3,hK3,hk3,hM3,hL3⟩:=hT.op hp
  have hb13:Blk w8 b1 r.cells TTa:=(hL3 b1 (.inl rfl)).trans hz12
  have hb23:=(hL3 b2 (.inr rfl)).trans hz2
  have ht3:=ht2.keep (A':=λk=>B' k∨k=b1∨k=b2) hk3 hM3
  have hok3:Good X'.pure:=by rw [hX3];exact hok.take _
  have htl:∀ ds,(X.pure.take t.client).1=some ds→ds.length≤1024:=λds=>DR hok
  have hlen:=hsh hov
  rw [←hX3]
  generalize (X.pure.take t.client).1=od at hK3 htl ⊢
  cases od with
  |none=>
   have hK3:v=.tuple #[.slice none 0 0,.bool false]:=hK3
   subst hK3
   refine ⟨_,_,_,_,rfl,eC rfl ?_⟩
   exact E5 h3 hok3 hne hb13 hb23 rfl ht3
  |some ds=>
   obtain ⟨b,raw,rfl,hbb,hds,hnb⟩:=hK3
   refine ⟨_,_,_,_,rfl,ig rfl ?_⟩
   refine ⟨_,_,_,hb13.cell rfl,?_⟩
   rw [ht3.gl]
   refine DS ht3.got (by omega) hbb hds hnb (htl ds rfl) h3.fab.low (by rw [hds.1]) ?_
   intro b3 ap cap z hb3 hgz hcap hnz
   have hb14:=New.blk hnz hb13
   refine ⟨⟨_,hb14.cell rfl⟩,hb14.frozen,?_⟩
   rintro w12 hw12
   have hk12:Keep (λk=>k=b1) z w12:=by rw [hw12];exact aS _ _ _ _
   have hb15:=hb14.setCell (i:=15) (.slice ap (t.got.length+1) cap)
   rw [←hw12] at hb15
   clear hw12
   have hb15:Blk w12 b1 ({ r with Got:=ap,Got_l:=t.got.length+1,Got_c:=cap }:TR).cells TTa:=hb15
   refine E5 ((h3.new hnz).local hk12 λ_ e=>.inl e) hok3 hne hb15 (hk12.blk (New.blk hnz hb23) λe=>hne e.symm) rfl ?_
   have hkz:Keep (λk=>B' k∨k=b1∨k=b2) w8 w12:=(Keep.of_new hnz).trans hk12 λ_ _ e=>.inr (.inl e)
   have ht4:=ht3.keep (A':=λk=>B' k∨k=b1∨k=b2) hkz λ_ _ hb=>hb
   have hgl:(t.got++[ds]).length=t.got.length+1:=by simp
   exact ⟨ht4.kind,ht4.client,ht4.over,ht4.bad,hgz.keep (hk12.mono λ_ _ e=>.inr (.inl e)) λ_ _ hb=>hb,hgl.symm,hcap,ht4.job,ht4.out,by show (t.got++[ds]).length≤201;omega⟩
end Go.Proofs.YtegepanmkjemjaaGreat.C12
