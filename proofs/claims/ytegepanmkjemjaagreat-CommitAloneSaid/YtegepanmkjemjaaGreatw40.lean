import Derived.Test.YtegepanmkjemjaaGreatw39
import Derived.Test.YtegepanmkjemjaaGreatw37
set_option linter.unusedVariables false
namespace Go.Proofs.YtegepanmkjemjaaGreat.Pg
open Go.Proofs.Tryz
open Go.Eng C12
def kp (P Y:List aB):List aU:=(P.filter λq=>!has Y q.Line).map λq=>⟨q.Line,256⟩
theorem y0 {Y:List aB} {k:Nat} {y:aB} (h:Y[k]?=some y) (l:Int):has (Y.take (k+1)) l=(has (Y.take k) l || decide (y.Line=l)):=by
 unfold has
 rw [List.take_add_one,h,List.any_append]
 simp
theorem y5 {P Y:List aB} {i:Nat} {q:aB} (h:P[i]?=some q):kp (P.take (i+1)) Y=kp (P.take i) Y++if (!has Y q.Line)=true then [⟨q.Line,256⟩] else []:=by
 unfold kp
 rw [List.take_add_one,h,List.filter_append,List.map_append]
 congr 1
 cases hh:has Y q.Line<;>simp [hh]
structure ss (li:Int) (L:List aB):Prop where
 asc:Asc L
 ok:∀ p ∈ L,PgOk li p
 few:L.length≤4
def OfP (w:World) (p:aT) (x:Value) (u:World):Prop:=∃ (Y P:List aB) (cl sq:Int) (v:Vw),cl=p.Client % 6∧sq=p.Seq % 50+1∧ss 104 Y∧ss 104 P∧OfX w cl sq 104 v (kp P Y) (Y.map setH) x u
section
variable {w u u':World} {b1 b2 b3 B:Nat} {p:aT} {q:aH} {v:Vw} {X:List aU} {Y P:List aB}
set_option maxHeartbeats 2000000 in
theorem Fv {a7:Option Addr} {n7 c7:Nat} {cl sq li:Int} {vw:aM} {wa:Option Addr} {wl wc:Nat} (h:COf w u b1 b2 b3 B p ⟨cl,sq,li,vw,none,0,0,wa,wl,wc⟩ v [] Y) (he:p.Spoil=23) (hf:p.At=1) (h7:Owns u TPg 9 a7 n7 c7 (eI P).flatten) (hn7:n7=P.length) (hP:P.length≤800) (h7f:∀ k,isB a7 k→B≤k) (jj:List Value) {R:Value→World→Prop} (hR:∀ x u,OfX w cl sq li v (kp P Y) (Y.map setH) x u→R x u) :
  bS prog (.loop (sub (aD f14) [1,1,1,1,1,1,0,1,0,0])) (aX ⟨b1,0,none⟩ ⟨b2,0,none⟩ ⟨b3,0,none⟩ a7 n7 c7 0 jj) (aI 0 (seqQ (λenv z=>W prog (sub (aD f14) [1,1,1,1,1,1,1]) env (retQ prog f14 R) z) (retQ prog f14 R))) u:=by
 refine aQ mix (λm env z=>∃ (i:Nat) (a:Option Addr) (n c:Nat) (X:List aU) (jj:List Value),X=kp (P.take i) Y∧m=P.length - i∧i≤P.length∧env=aX ⟨b1,0,none⟩ ⟨b2,0,none⟩ ⟨b3,0,none⟩ a7 n7 c7 i jj∧COf w z b1 b2 b3 B p ⟨cl,sq,li,vw,a,n,c,wa,wl,wc⟩ v X Y∧Owns z TPg 9 a7 n7 c7 (eI P).flatten∧X.length≤i∧∀ k,isB a k→¬ isB a7 k) P.length
  ⟨0,none,0,0,[],_,rfl,by omega,by omega,rfl,h,h7,by simp,λk hk=>absurd hk (io k)⟩ ?_
 have hBs:=h.h3.lt
 clear h h7 jj
 rintro m env z ⟨i,a,n,c,X,jj,hX,rfl,hi,rfl,h,h7,hXi,hd7⟩
 have hwl:wl=Y.length:=h.wlen
 have hwf:=h.wfew
 rw [lX]
 refine aJ (λhq=>?_) (λhq=>?_)
 rotate_left
 ·have hie:i=P.length:=by omega
  rw [hie,List.take_length] at hX
  exact DH h he hf _ λx u hx=>hR x u (by rw [←hX];exact hx)
 have hlt:i<P.length:=by omega
 have hg:P[i]?=some P[i]:=List.getElem?_eq_getElem hlt
 refine aQ mix (λm env y=>∃ (k:Nat) (own:Bool) (jj:List Value),own=has (Y.take k) P[i].Line∧m=Y.length - k∧k≤Y.length∧env=eg ⟨b1,0,none⟩ ⟨b2,0,none⟩ ⟨b3,0,none⟩ a7 n7 c7 i own k jj∧New z y) Y.length
  ⟨0,false,_,rfl,by omega,by omega,rfl,Keep.refl _ _⟩ ?_
 rintro m env y ⟨k,own,jj2,hown,rfl,hk,rfl,hny⟩
 have hy:=h.nw hny
 have h7y:=Owns.new hny h7
 rw [lY]
 refine ⟨_,_,_,hy.h3.cell (i:=6) rfl,aJ (λhq2=>?_) (λhq2=>?_)⟩
 ·have hq2:(k:Int)<(wl:Nat):=hq2
  rintro y1 hy1
  have hn1:New y y1:=by rw [hy1];exact aV _
  clear hy1
  have hh1:=hy.nw hn1
  have h71:=Owns.new hn1 h7y
  have hgk:Y[k]?=some Y[k]:=List.getElem?_eq_getElem (by omega)
  refine ⟨λt=>New y1 t,Keep.refl _ _,rX (λho=>?_) (λho=>⟨_,_,_,λt ht=>(New.blk ht hh1.h3).cell (i:=6) rfl,?_⟩)⟩
  ·rw [w64 (by omega) (by omega)]
   exact ⟨Y.length - (k+1),by omega,k+1,true,_,by rw [y0 hgk,←hown,ho];rfl,rfl,by omega,rfl,hny.new hn1⟩
  ·refine kN (cells:=aB.cells) aB.len (by omega) hh1.wown.rd hgk rfl hh1.wlen λb o hc=>⟨_,λt ht=>hc t ht 0 _ rfl,?_⟩
   refine kN (cells:=aB.cells) aB.len (by omega) h71.rd hg rfl hn7 λb' o' hc'=>⟨_,λt ht=>hc' t ht 0 _ rfl,?_⟩
   rw [w64 (by omega) (by omega)]
   exact ⟨Y.length - (k+1),by omega,k+1,_,_,by rw [y0 hgk,←hown,ho];rfl,rfl,by omega,rfl,hny.new hn1⟩
 ·rw [nC]
  have hke:k=Y.length:=by have hq2:¬ (k:Int)<(wl:Nat):=hq2;omega
  rw [hke,List.take_length] at hown
  clear hq2 hk
  refine dN (λho=>?_) (λho=>?_)
  ·rintro y1 hy1
   have hn1:New y y1:=by rw [hy1];exact aV _
   clear hy1
   have hh1:=hy.nw hn1
   have h71:=Owns.new hn1 h7y
   have hro:∀ k,isB a k→B≤k:=hh1.roff
   have hlo:=hh1.lo
   have hrl:n=X.length:=hh1.rlen
   have hb3:¬ isB a b3:=λe=>by have:=hro _ e;omega
   refine ⟨λt=>Keep (isB a) y1 t,Keep.refl _ _,_,_,_,λt ht=>(Keep.blk ht hh1.h3 hb3).cell (i:=5) rfl,?_⟩
   refine Ft (cells:=aB.cells) aB.len (by omega) h71 (M:=isB a) (λk h1 h2=>hd7 k h2 h1) hg rfl hn7 λb o hc=>⟨_,λt ht=>hc t ht 0 _ rfl,?_⟩
   refine DF (x:=⟨P[i].Line,256⟩) hh1.rown (by show n≤_;omega) (λ_ h=>Keep.of_new h) ?_
   intro b' ap cap z3 hb' ho3 hk3 hap
   refine ⟨hk3,rN (b:=b3) (hk3.blk hh1.h3 hb3) (o:=5) (by simp [aH.cells]) λz4 h34 hk4=>?_⟩
   rw [w64 (by omega) (by omega)]
   refine ⟨P.length - (i+1),by omega,i+1,ap,n+1,cap,X++[⟨P[i].Line,256⟩],_,by rw [y5 hg,←hown,ho,hX];rfl,rfl,by omega,rfl,hh1.radd hk3 ho3 hap (by omega) hk4 h34,?_,by simp;omega,λk hk=>?_⟩
   ·exact Owns.keep hk4 (Owns.keep hk3 h71 λk h1 h2=>hd7 k h2 h1) λk h1 e=>by have:=h7f k h1;omega
   ·rcases hap k hk with h1 | h1
    ·exact hd7 k h1
    ·intro h2
     have:=B7 h71 h2
     omega
  ·rw [w64 (by omega) (by omega)]
   exact ⟨P.length - (i+1),by omega,i+1,a,n,c,X,_,by rw [y5 hg,←hown,ho,hX];simp,rfl,by omega,rfl,hy,h7y,by omega,hd7⟩
set_option maxHeartbeats 1000000 in
theorem DI {cl sq li:Int} {vw:aM} {rl wl:List Int} (h:COf w u b1 b2 b3 u.heap.size p ⟨cl,sq,li,vw,none,0,0,none,0,0⟩ v [] []) (he:p.Spoil=23) (hf:p.At=1) (hp:CRaw w p rl wl) (h98:98≤li) (h256:li≤256) (J:Option Addr→Nat→Nat→Option Addr→Nat→Nat→Option Addr→Nat→Nat→Option Addr→Nat→Nat→List Value) {R:Value→World→Prop} (hR:∀ Y P x u,ss li Y→ss li P→OfX w cl sq li v (kp P Y) (Y.map setH) x u→R x u) :
  ∃ (Wa:Option Addr) (Wl Wc:Nat),u.cell? ⟨b1,7,none⟩=some (.slice Wa Wl Wc)∧Calls prog 36 #[.slice Wa Wl Wc,.int .i64 li,.int .i64 4] u λe w13=>∃ (Pa:Option Addr) (Pl Pc:Nat),e=.returned (.slice Pa Pl Pc)∧(∃ x,w13.cell? ⟨b3,6,none⟩=some x)∧w13.frozen? ⟨b3,6,none⟩=false∧∀ w14,w14=w13.setCell ⟨b3,6,none⟩ (.slice Pa Pl Pc)→
   ∃ (Ra:Option Addr) (Rl Rc:Nat),w14.cell? ⟨b1,6,none⟩=some (.slice Ra Rl Rc)∧Calls prog 36 #[.slice Ra Rl Rc,.int .i64 li,.int .i64 4] w14 λe w15=>∃ (Qa:Option Addr) (Ql Qc:Nat),e=.returned (.slice Qa Ql Qc)∧
    bS prog (.loop (sub (aD f14) [1,1,1,1,1,1,0,1,0,0])) (aX ⟨b1,0,none⟩ ⟨b2,0,none⟩ ⟨b3,0,none⟩ Qa Ql Qc 0 (J Wa Wl Wc Pa Pl Pc Ra Rl Rc Qa Ql Qc)) (aI 0 (seqQ (λenv z=>W prog (sub (aD f14) [1,1,1,1,1,1,1]) env (retQ prog f14 R) z) (retQ prog f14 R))) w15:=by
 refine ⟨_,_,_,h.h1.cell (i:=7) rfl,?_⟩
 refine aE (B6 u (hp.new h.new).wd hp.wlen (by have:=hp.wfew;omega) hp.wi h98 h256 (by omega) (by omega)) ?_
 rintro x w13 ⟨a,c,L,rfl,hown,hn13,hfr,hmost,hok,hasc⟩
 have hu64:∀ x ∈ L,U64 x.Head:=λx hx=>(hok x hx).1
 have h13:=h.nw hn13
 have hlo:=h.lo
 refine ⟨_,_,_,rfl,rN (b:=b3) h13.h3 (o:=6) (by simp [aH.cells]) λw14 h34 hk4=>?_⟩
 have h14:COf w w14 b1 b2 b3 u.heap.size p ⟨cl,sq,li,vw,none,0,0,a,L.length,c⟩ v [] L:=
  ⟨h13.new.trans hk4 λk hlt e=>by omega,hk4.blk h13.h1 (by omega),hk4.blk h13.h2 (by omega),h34,h.lo,h13.view.keep hk4 λk e=>.inr (.inr (.inl e)),Owns.nil _ _ _,rfl,by simp,λk hk=>absurd hk (io k),
   Owns.keep hk4 hown λk hk e=>by have:=hfr k hk;omega,rfl,by omega,hfr,hu64,λk hk=>absurd hk (io k),Nat.le_trans h13.big hk4.size⟩
 refine ⟨_,_,_,h14.h1.cell (i:=6) rfl,?_⟩
 refine aE (B6 w14 (hp.new h14.new).rd hp.rlen (by have:=hp.rfew;omega) hp.ri h98 h256 (by omega) (by omega)) ?_
 rintro x w15 ⟨a',c',L',rfl,hown',hn15,hfr',hmost',hok',hasc'⟩
 have h15:=h14.nw hn15
 exact ⟨_,_,_,rfl,Fv h15 he hf hown' rfl (by omega) (λk hk=>by have:=hfr' k hk;have:=h14.big;omega) _ λx u hx=>hR L L' x u ⟨hasc,hok,by omega⟩ ⟨hasc',hok',by omega⟩ hx⟩
set_option maxHeartbeats 4000000 in
set_option maxRecDepth 100000 in
theorem Of_c (w:World) {p:aT} {rl wl:List Int} (hp:CRaw w p rl wl) {n:Int} (h1n:1≤n) (h5n:n≤5) (hm0:p.Mask=0) (he:p.Spoil=23) (hf:p.At=1) (hl6:p.Lines=6):Does 14 [p.val,.int .i64 n] w (OfP w p):=by
 refine does Tryz.func14 ?_
 rw [rJ]
 rintro b1 w1 hb1 hw1
 obtain ⟨hz1,hn1⟩:=aN hb1 hw1
 have hz1:Blk w1 b1 p.cells TR12:=hz1
 clear hw1
 rintro b2 w2 hb2 hw2
 obtain ⟨hz2,hn2⟩:=aN hb2 hw2
 have hz2:Blk w2 b2 zj TCJ:=hz2
 clear hw2
 have hz12:=New.blk hn2 hz1
 have hl1:=hz1.lt
 have hl2:=hz2.lt
 have hs1:=hn1.size
 refine ⟨_,hz12.cell (i:=2) rfl,?_⟩
 refine aE (xG w2 hp.c) ?_
 rintro x w3 ⟨rfl,hw3⟩
 obtain rfl:w2=w3:=hw3.symm
 obtain ⟨li,hli⟩:∃ li,98+p.Lines % 7=li:=⟨_,rfl⟩
 have hn98:98≤li:=by omega
 have hn104:li=104:=by omega
 rw [hli]
 refine ⟨_,rfl,?_⟩
 rintro w4 hw4
 have hn4:New w2 w4:=by rw [hw4];exact aV _
 clear hw4
 have hz14:=New.blk hn4 hz12
 have hz24:=New.blk hn4 hz2
 have hn04:=(hn1.new hn2).new hn4
 have hs4:=hn4.size
 have hb12:w.heap.size≤b1∧b1<b2∧b2<w4.heap.size:=⟨by omega,by omega,by omega⟩
 clear hb1 hb2 hz1 hz2 hz12 hl1 hl2 hs1 hn1 hn2 hn4 hs4
 have Hmk:∀ (u:World) (b3:Nat) (cl sq:Int) (rv:aM) (v:Vw),New w u→Blk u b1 p.cells TR12→Blk u b2 zj TCJ→b2<b3→Blk u b3 (aH.cells ⟨cl,sq,li,rv,none,0,0,none,0,0⟩) TCJ→ViewAt (λk=>k=b1∨k=b2∨k=b3∨u.heap.size≤k) u rv v→COf w u b1 b2 b3 u.heap.size p ⟨cl,sq,li,rv,none,0,0,none,0,0⟩ v [] []:=by
  intro u b3 cl sq rv v hn a1 a2 h23 a3 hv
  have hl3:=a3.lt
  exact ⟨hn,a1,a2,a3,⟨by omega,by omega,by omega,by omega⟩,hv,Owns.nil _ _ _,rfl,by simp,(λk hk=>absurd hk (io k)),Owns.nil _ _ _,rfl,by simp,(λk hk=>absurd hk (io k)),by simp,(λk hk=>absurd hk (io k)),Nat.le_refl _⟩
 refine ⟨λy=>New w4 y,Keep.refl _ _,_,λy hy=>(New.blk hy hz14).cell (i:=0) rfl,_,λy hy=>(New.blk hy hz14).cell (i:=1) rfl,aE (fS w4 p.Client 6 hp.a (by omega)) ?_,?_⟩
 ·rintro x w5 ⟨rfl,rfl⟩
  refine ⟨_,rfl,Keep.refl _ _,aE (fS w5 p.Seq 50 hp.b (by omega)) ?_,?_⟩
  ·rintro x w6 ⟨rfl,rfl⟩
   refine ⟨_,rfl,Keep.refl _ _,aE (q8 w6 (n:=n) h1n h5n) ?_,?_⟩
   ·rintro x w7 ⟨rs,vs,rfl,hvs,hn7,hgs,hvv⟩
    refine aM.mk_ex rs ⟨rfl,hn7,?_⟩
    have hs7:=hn7.size
    rintro b3 w8 hb3 hw8
    obtain ⟨hz8,hn8'⟩:=aN hb3 hw8
    clear hw8
    refine ⟨hn7.new hn8',?_⟩
    have hz8:Blk w8 b3 zj TCJ:=hz8
    have hs8:=hn8'.size
    have hn8:New w w8:=hn04.new (hn7.new hn8')
    have hz18:=New.blk (hn7.new hn8') hz14
    have hz28:=New.blk (hn7.new hn8') hz24
    have hb23:b2<b3:=by omega
    have hv8:ViewAt (λk=>k=b1∨k=b2∨k=b3∨w8.heap.size≤k) w8 rs vs:=(hvs.mono λk hlt hm=>by
     show k<_
     rcases hm with e | e | e | e<;>omega).new hn8'
    generalize hcl:(if (6:Int)<1 then 0 else p.Client % 6)=cl
    generalize hsq:(IntKind.i64.wrap ((if (50:Int)<1 then 0 else p.Seq % 50)+1))=sq
    refine gJ (vs:=aH.cells ⟨cl,sq,li,rs,none,0,0,none,0,0⟩) hz8 rfl (aH.single _) λw9 hz9 hk9=>?_
    have hC9:COf w w9 b1 b2 b3 w9.heap.size p ⟨cl,sq,li,rs,none,0,0,none,0,0⟩ vs [] []:=Hmk w9 b3 cl sq rs vs (hn8.trans hk9 λk hlt e=>by omega) (hk9.blk hz18 (by omega)) (hk9.blk hz28 (by omega)) hb23 hz9 ((hv8.keep hk9 λk e=>.inr (.inr (.inl e))).mono λk hlt hm=>by
     have:=hk9.size
     rcases hm with e | e | e | e
     ·exact .inl e
     ·exact .inr (.inl e)
     ·exact .inr (.inr (.inl e))
     ·omega)
    refine ⟨_,hC9.h1.cell (i:=3) rfl,?_⟩
    rw [hm0]
    refine aE (fS w9 0 3 ⟨by omega,by omega⟩ (by omega)) ?_
    rintro x w10 ⟨rfl,rfl⟩
    refine ⟨_,rfl,cU (by decide) (DI hC9 he hf hp hn98 (by omega) _ λY P x u hY hP hx=>⟨Y,P,cl,sq,vs,?_,?_,by rw [←hn104];exact hY,by rw [←hn104];exact hP,by rw [←hn104];exact hx⟩)⟩
    ·rw [←hcl,if_neg (by omega)]
    ·rw [←hsq,if_neg (by omega),w64 (by omega) (by omega)]
   ·rintro b3 w7 hb3 hw7
    obtain ⟨hz7,hn7⟩:=aN hb3 hw7
    clear hw7
    have hl7:=hz7.lt
    have hs7:=hn7.size
    refine ⟨hn7,aE (q8 w7 (n:=n) h1n h5n) ?_⟩
    rintro x w8 ⟨rs,vs,rfl,hvs,hn8',hgs,hvv⟩
    refine aM.mk_ex rs ⟨rfl,hn7.new hn8',?_⟩
    have hz8:Blk w8 b3 zj TCJ:=New.blk hn8' hz7
    have hs8:=hn8'.size
    have hn8:New w w8:=hn04.new (hn7.new hn8')
    have hz18:=New.blk (hn7.new hn8') hz14
    have hz28:=New.blk (hn7.new hn8') hz24
    have hb23:b2<b3:=by omega
    have hv8:ViewAt (λk=>k=b1∨k=b2∨k=b3∨w8.heap.size≤k) w8 rs vs:=hvs.mono λk hlt hm=>by
     show k<_
     rcases hm with e | e | e | e<;>omega
    generalize hcl:(if (6:Int)<1 then 0 else p.Client % 6)=cl
    generalize hsq:(IntKind.i64.wrap ((if (50:Int)<1 then 0 else p.Seq % 50)+1))=sq
    refine gJ (vs:=aH.cells ⟨cl,sq,li,rs,none,0,0,none,0,0⟩) hz8 rfl (aH.single _) λw9 hz9 hk9=>?_
    have hC9:COf w w9 b1 b2 b3 w9.heap.size p ⟨cl,sq,li,rs,none,0,0,none,0,0⟩ vs [] []:=Hmk w9 b3 cl sq rs vs (hn8.trans hk9 λk hlt e=>by omega) (hk9.blk hz18 (by omega)) (hk9.blk hz28 (by omega)) hb23 hz9 ((hv8.keep hk9 λk e=>.inr (.inr (.inl e))).mono λk hlt hm=>by
     have:=hk9.size
     rcases hm with e | e | e | e
     ·exact .inl e
     ·exact .inr (.inl e)
     ·exact .inr (.inr (.inl e))
     ·omega)
    refine ⟨_,hC9.h1.cell (i:=3) rfl,?_⟩
    rw [hm0]
    refine aE (fS w9 0 3 ⟨by omega,by omega⟩ (by omega)) ?_
    rintro x w10 ⟨rfl,rfl⟩
    refine ⟨_,rfl,cU (by decide) (DI hC9 he hf hp hn98 (by omega) _ λY P x u hY hP hx=>⟨Y,P,cl,sq,vs,?_,?_,by rw [←hn104];exact hY,by rw [←hn104];exact hP,by rw [←hn104];exact hx⟩)⟩
    ·rw [←hcl,if_neg (by omega)]
    ·rw [←hsq,if_neg (by omega),w64 (by omega) (by omega)]
  ·rintro b3 w6 hb3 hw6
   obtain ⟨hz7,hn7⟩:=aN hb3 hw6
   clear hw6
   have hl7:=hz7.lt
   have hs7:=hn7.size
   refine ⟨hn7,aE (fS w6 p.Seq 50 hp.b (by omega)) ?_⟩
   rintro x w7 ⟨rfl,rfl⟩
   refine ⟨_,rfl,hn7,aE (q8 w7 (n:=n) h1n h5n) ?_⟩
   rintro x w8 ⟨rs,vs,rfl,hvs,hn8',hgs,hvv⟩
   refine aM.mk_ex rs ⟨rfl,hn7.new hn8',?_⟩
   have hz8:Blk w8 b3 zj TCJ:=New.blk hn8' hz7
   have hs8:=hn8'.size
   have hn8:New w w8:=hn04.new (hn7.new hn8')
   have hz18:=New.blk (hn7.new hn8') hz14
   have hz28:=New.blk (hn7.new hn8') hz24
   have hb23:b2<b3:=by omega
   have hv8:ViewAt (λk=>k=b1∨k=b2∨k=b3∨w8.heap.size≤k) w8 rs vs:=hvs.mono λk hlt hm=>by
    show k<_
    rcases hm with e | e | e | e<;>omega
   generalize hcl:(if (6:Int)<1 then 0 else p.Client % 6)=cl
   generalize hsq:(IntKind.i64.wrap ((if (50:Int)<1 then 0 else p.Seq % 50)+1))=sq
   refine gJ (vs:=aH.cells ⟨cl,sq,li,rs,none,0,0,none,0,0⟩) hz8 rfl (aH.single _) λw9 hz9 hk9=>?_
   have hC9:COf w w9 b1 b2 b3 w9.heap.size p ⟨cl,sq,li,rs,none,0,0,none,0,0⟩ vs [] []:=Hmk w9 b3 cl sq rs vs (hn8.trans hk9 λk hlt e=>by omega) (hk9.blk hz18 (by omega)) (hk9.blk hz28 (by omega)) hb23 hz9 ((hv8.keep hk9 λk e=>.inr (.inr (.inl e))).mono λk hlt hm=>by
    have:=hk9.size
    rcases hm with e | e | e | e
    ·exact .inl e
    ·exact .inr (.inl e)
    ·exact .inr (.inr (.inl e))
    ·omega)
   refine ⟨_,hC9.h1.cell (i:=3) rfl,?_⟩
   rw [hm0]
   refine aE (fS w9 0 3 ⟨by omega,by omega⟩ (by omega)) ?_
   rintro x w10 ⟨rfl,rfl⟩
   refine ⟨_,rfl,cU (by decide) (DI hC9 he hf hp hn98 (by omega) _ λY P x u hY hP hx=>⟨Y,P,cl,sq,vs,?_,?_,by rw [←hn104];exact hY,by rw [←hn104];exact hP,by rw [←hn104];exact hx⟩)⟩
   ·rw [←hcl,if_neg (by omega)]
   ·rw [←hsq,if_neg (by omega),w64 (by omega) (by omega)]
 ·rintro b3 w5 hb3 hw5
  obtain ⟨hz7,hn7⟩:=aN hb3 hw5
  clear hw5
  have hl7:=hz7.lt
  have hs7:=hn7.size
  refine ⟨hn7,aE (fS w5 p.Client 6 hp.a (by omega)) ?_⟩
  rintro x w6 ⟨rfl,rfl⟩
  refine ⟨_,rfl,hn7,aE (fS w6 p.Seq 50 hp.b (by omega)) ?_⟩
  rintro x w7 ⟨rfl,rfl⟩
  refine ⟨_,rfl,hn7,aE (q8 w7 (n:=n) h1n h5n) ?_⟩
  rintro x w8 ⟨rs,vs,rfl,hvs,hn8',hgs,hvv⟩
  refine aM.mk_ex rs ⟨rfl,hn7.new hn8',?_⟩
  have hz8:Blk w8 b3 zj TCJ:=New.blk hn8' hz7
  have hs8:=hn8'.size
  have hn8:New w w8:=hn04.new (hn7.new hn8')
  have hz18:=New.blk (hn7.new hn8') hz14
  have hz28:=New.blk (hn7.new hn8') hz24
  have hb23:b2<b3:=by omega
  have hv8:ViewAt (λk=>k=b1∨k=b2∨k=b3∨w8.heap.size≤k) w8 rs vs:=hvs.mono λk hlt hm=>by
   show k<_
   rcases hm with e | e | e | e<;>omega
  generalize hcl:(if (6:Int)<1 then 0 else p.Client % 6)=cl
  generalize hsq:(IntKind.i64.wrap ((if (50:Int)<1 then 0 else p.Seq % 50)+1))=sq
  refine gJ (vs:=aH.cells ⟨cl,sq,li,rs,none,0,0,none,0,0⟩) hz8 rfl (aH.single _) λw9 hz9 hk9=>?_
  have hC9:COf w w9 b1 b2 b3 w9.heap.size p ⟨cl,sq,li,rs,none,0,0,none,0,0⟩ vs [] []:=Hmk w9 b3 cl sq rs vs (hn8.trans hk9 λk hlt e=>by omega) (hk9.blk hz18 (by omega)) (hk9.blk hz28 (by omega)) hb23 hz9 ((hv8.keep hk9 λk e=>.inr (.inr (.inl e))).mono λk hlt hm=>by
   have:=hk9.size
   rcases hm with e | e | e | e
   ·exact .inl e
   ·exact .inr (.inl e)
   ·exact .inr (.inr (.inl e))
   ·omega)
  refine ⟨_,hC9.h1.cell (i:=3) rfl,?_⟩
  rw [hm0]
  refine aE (fS w9 0 3 ⟨by omega,by omega⟩ (by omega)) ?_
  rintro x w10 ⟨rfl,rfl⟩
  refine ⟨_,rfl,cU (by decide) (DI hC9 he hf hp hn98 (by omega) _ λY P x u hY hP hx=>⟨Y,P,cl,sq,vs,?_,?_,by rw [←hn104];exact hY,by rw [←hn104];exact hP,by rw [←hn104];exact hx⟩)⟩
  ·rw [←hcl,if_neg (by omega)]
  ·rw [←hsq,if_neg (by omega),w64 (by omega) (by omega)]end
end Go.Proofs.YtegepanmkjemjaaGreat.Pg
namespace Go.Proofs.YtegepanmkjemjaaGreat.Pg
open Go.Eng C12
def jobA (i n:Nat) (sq:Int) (P Y:List aB):CJob:=⟨(i:Int),sq,104,vA n,kp P Y,Y.map setH⟩
theorem DJ {Y:List aB} (h:Asc Y):Asc (Y.map setH):=by
 show List.Pairwise _ _
 rw [List.pairwise_map]
 exact h
theorem DK (Y:List aB) (l:Int):has (Y.map setH) l=has Y l:=by
 unfold has
 rw [List.any_map]
 rfl
theorem Fw {P Y:List aB} (h:Asc P):(kp P Y).Pairwise λa b=>a.Line<b.Line:=by
 unfold kp
 rw [List.pairwise_map]
 exact List.Pairwise.filter _ h
theorem vK {P Y:List aB} {s:aU} (h:s ∈ kp P Y):∃ q ∈ P,s=⟨q.Line,256⟩∧has Y q.Line=false:=by
 unfold kp at h
 obtain ⟨q,hq,rfl⟩:=List.mem_map.1 h
 obtain ⟨h1,h2⟩:=List.mem_filter.1 hq
 exact ⟨q,h1,rfl,by simpa using h2⟩
theorem yg (P Y:List aB):(kp P Y).length≤P.length:=by
 unfold kp
 rw [List.length_map]
 exact List.length_filter_le _ _
theorem uO {i n:Nat} {sq:Int} {P Y:List aB} (hi:i<6) (hn:1≤n∧n≤5) (hs:1≤sq∧sq<1073741824) (hY:ss 104 Y) (hP:ss 104 P):(jobA i n sq P Y).valid=0:=by
 have hYf:=hY.few
 have hPf:=hP.few
 have hrl:=yg P Y
 have hin:∀ (l:Int),96≤l∧l<104→g8 l 104=true:=λl h=>decide_eq_true (by omega)
 unfold jobA CJob.valid
 simp only
 rw [if_neg (by omega),if_neg (by rw [ye hn];simp),if_neg (by omega),if_neg,if_neg (by omega),if_neg,if_neg]
 ·rw [Bool.not_eq_false,List.all_eq_true]
  intro k hk
  have hk:=List.mem_range.1 hk
  obtain ⟨q,hq,e,hno⟩:=vK (List.getElem_mem hk)
  unfold m8
  rw [Bool.and_eq_true,Bool.and_eq_true,List.getD_eq_getElem?_getD,List.getElem?_eq_getElem hk]
  refine ⟨⟨?_,?_⟩,?_⟩
  ·unfold ascS
   rw [Bool.or_eq_true]
   cases k with
   |zero=>exact .inl rfl
   |succ k=>
    right
    rw [List.getD_eq_getElem?_getD,List.getD_eq_getElem?_getD,Nat.add_sub_cancel,List.getElem?_eq_getElem (by omega),List.getElem?_eq_getElem hk]
    exact decide_eq_true (List.pairwise_iff_getElem.1 (Fw hP.asc) k (k+1) (by omega) hk (by omega))
  ·show unl (kp P Y)[k].Head=true
   rw [e]
   show unl 256=true
   decide
  ·show (!has (Y.map setH) (kp P Y)[k].Line)=true
   rw [DK,e]
   simpa using hno
 ·rw [Bool.not_eq_false,List.all_eq_true]
  intro s hs
  obtain ⟨q,hq,rfl,_⟩:=vK hs
  exact hin _ (hP.ok q hq).2.1
 ·rintro ⟨h0,h1⟩
  refine h1 (B5 (by omega) hs (by omega) (by rw [List.length_map];omega) (λp hp=>?_) (DJ hY.asc) λp hp=>?_)
  ·obtain ⟨y,hy,rfl⟩:=List.mem_map.1 hp
   exact hin _ (hY.ok y hy).2.1
  ·obtain ⟨y,hy,rfl⟩:=List.mem_map.1 hp
   exact B4 (a:=1) rfl (by omega) (by omega)
def alE (i n:Nat) (sq:Int) (P Y:List aB):Env:=⟨n,104,Ab,λ_=>0,[i],λ_=>jobA i n sq P Y,true⟩
theorem GD {i n:Nat} {sq:Int} {P Y:List aB} (hi:i<6) (hn:1≤n∧n≤5) (hs:1≤sq∧sq<1073741824) (hY:ss 104 Y) (hP:ss 104 P) (hne:Y≠[]):fK (alE i n sq P Y):=by
 refine ⟨hn,⟨by show 98≤104;omega,by show 104≤256;omega⟩,by show [i].Nodup;simp,λk hk=>?_⟩
 have hk:k=i:=List.mem_singleton.1 hk
 subst hk
 refine cB.of_valid (uO hi hn hs hY hP) rfl hi rfl rfl (λe=>hne ?_) (λp hp=>?_) λs hs=>?_
 ·have e:Y.map setH=[]:=e
  simpa using e
 ·obtain ⟨y,hy,rfl⟩:=List.mem_map.1 hp
  rfl
 ·obtain ⟨q,hq,rfl,_⟩:=vK hs
  rfl
theorem GE {p:aB} {li:Int} (h:PgOk li p):PgU (setH p):=by
 refine ⟨⟨by show (0:Int)≤256;omega,by show (256:Int)<_;omega⟩,λx hx=>?_⟩
 obtain ⟨l,hd,d0,d1,d2,d3,d4,d5,d6⟩:=p
 have hD:=h.2.2
 simp only [datL,setH,List.mem_cons,List.not_mem_nil,or_false] at hx
 have g:∀ (k:Nat) (y:Int),k<7→(aB.cells ⟨l,hd,d0,d1,d2,d3,d4,d5,d6⟩)[2+k]?=some (.int .u64 y)→U64 y:=λk y hk hy=>by
  obtain ⟨x,h1,h2⟩:=hD k hk
  rw [hy] at h1
  cases h1
  exact h2
 rcases hx with rfl | rfl | rfl | rfl | rfl | rfl | rfl
 ·exact g 0 _ (by omega) rfl
 ·exact g 1 _ (by omega) rfl
 ·exact g 2 _ (by omega) rfl
 ·exact g 3 _ (by omega) rfl
 ·exact g 4 _ (by omega) rfl
 ·exact g 5 _ (by omega) rfl
 ·exact g 6 _ (by omega) rfl
end Go.Proofs.YtegepanmkjemjaaGreat.Pg
namespace Go.Proofs.YtegepanmkjemjaaGreat.Pg
open Go.Eng C12
def su (Y:List aB) (l:Nat):aB:=match Y.find? λy=>y.Line.toNat == l with
 |some y=>{ y with Head:=512 }
 |none=>⟨l,256,0,0,0,0,0,0,0⟩
structure AlR (n i:Nat) (sq:Int) (P Y:List aB) (r:Fab×List (Tk conv)):Prop where
 still:∃ base bc,nA n 104 base bc r.1∧(∀ l:Nat,96≤l→l<104→pgOf base l=su Y l∧base l 0 % 256=0)∧bc i=if Y=[] then 0 else sq
 talk:∃ t,r.2=[t]∧t.bad=false∧t.over=true∧t.out=((0:Int),(3:Int))
 trips:∃ C,r.1.clients[i]?=some C∧C.trips=if Y=[] then (if kp P Y=[] then 0 else 1) else if n=1 then 4 else 5
theorem B8 (Y:List aB) (l:Nat):((Y.map setH).find? λp=>p.Line.toNat == l)=(Y.find? λp=>p.Line.toNat == l).map setH:=by
 rw [List.find?_map]
 rfl
theorem Fx {n i:Nat} {sq:Int} {P Y:List aB} (hi:i<6) (hn:1≤n∧n≤5) (hs:1≤sq∧sq<1073741824) (hY:ss 104 Y) (hP:ss 104 P) {t:Tk conv} (h1:t.client=(i:Int)) (h2:t.job=jobA i n sq P Y) (h3:t.bad=false) (h4:t.over=false) (h5:t.got=[]):AlR n i sq P Y (alone (Fab.fresh n 6 104) t):=by
 have hst:=tO (n:=n) (L:=104) hn (by omega) (tQ hn)
 unfold alone
 by_cases hne:Y=[]
 ·have hj:RdJ n 104 Ab i (jobA i n sq P Y):=by
   refine ⟨hn,by omega,hi,uO hi hn hs hY hP,by show Y.map setH=[];rw [hne];rfl,rfl,?_,λs hs=>?_⟩
   ·have:=yg P Y
    have:=hP.few
    show (kp P Y).length≤24
    omega
   ·obtain ⟨q,hq,rfl,_⟩:=vK hs
    have hl:=(hP.ok q hq).2.1
    exact ⟨q.Line.toNat,by show q.Line=_;omega,by omega,by omega,rfl⟩
  obtain ⟨t',dn',e,g⟩:=DC hj hst h1 h2 h3 h4 h5 tP [] (most:=20000) (by omega)
  obtain ⟨C,hC,hc⟩:=g.cli
  obtain ⟨k1,k2,k3,k4,k5⟩:=hc.p2 rfl
  refine ⟨⟨Ab,λ_=>0,g.still,λl _ _=>⟨?_,rfl⟩,by rw [if_pos hne]⟩,⟨t',e,hc.bad,k1,k4⟩,C,hC,?_⟩
  ·unfold su
   rw [hne]
   rfl
  ·rw [if_pos hne,k5]
   rfl
 ·have hE:=GD hi hn hs hY hP hne
  obtain ⟨dn,hR⟩:=nA.drive hE (F:=Fab.fresh n 6 104) hst (ts:=[t]) rfl (λk q hk=>by
   have hk:[i][k]?=some q:=hk
   cases k with
   |zero=>cases hk;exact ⟨t,rfl,h1,h2,h3,h4,h5⟩
   |succ k=>simp at hk) (λ_=>tP) [] (most:=20000) (by show 1≤6;omega) (by omega)
  have hd:dn i=true:=hR.one i rfl
  obtain ⟨t',g1,g2⟩:=hR.left 0 i rfl
  have hlen:(drive (Fab.fresh n 6 104) [t] [] [] 20000).2.length=1:=hR.len
  have he:(drive (Fab.fresh n 6 104) [t] [] [] 20000).2=[t']:=by
   obtain ⟨a,ha⟩:=List.length_eq_one_iff.1 hlen
   rw [ha] at g1 ⊢
   cases g1
   rfl
  have hw:∀ l:Nat,yc (alE i n sq P Y) dn l=(Y.find? λp=>p.Line.toNat == l).map setH:=λl=>by
   unfold yc
   have e:(alE i n sq P Y).ids.filter dn=[i]:=by
    show [i].filter dn=[i]
    rw [List.filter_cons,hd]
    rfl
   rw [e,←B8]
   rw [List.findSome?_cons]
   have e2:((alE i n sq P Y).J i).writes=Y.map setH:=rfl
   rw [e2]
   cases hf:(Y.map setH).find? λp=>p.Line.toNat == l<;>rfl
  refine ⟨⟨_,_,hR.still,λl l1 l2=>?_,?_⟩,⟨t',he,g2.bad,g2.over,by rw [g2.out,if_pos hd]⟩,?_⟩
  ·unfold yd
   have hwl:=hw l
   unfold su
   cases hf:Y.find? λp=>p.Line.toNat == l with
   |none=>
    rw [hf] at hwl
    unfold pgOf
    simp only [hwl,Option.map_none]
    exact ⟨rfl,rfl⟩
   |some y=>
    rw [hf] at hwl
    have hy:=List.mem_of_find?_eq_some hf
    have hyl:y.Line.toNat=l:=by simpa using List.find?_some hf
    have hyr:=(hY.ok y hy).2.1
    have hlne:((l:Nat):Int)=y.Line:=by omega
    have hnx:sl (setH y).Head=512:=xq (a:=1) (by omega)
    unfold pgOf
    simp only [hwl,Option.map_some]
    refine ⟨?_,?_⟩
    ·show (⟨(l:Int),sl (setH y).Head,_,_,_,_,_,_,_⟩:aB)=_
     rw [hnx,hlne]
     rfl
    ·show sl (setH y).Head % 256=0
     rw [hnx]
     rfl
  ·unfold Fl
   rw [if_neg hne,if_pos]
   ·rfl
   ·rw [hd,Bool.and_true]
    exact List.contains_iff_mem.2 (List.mem_singleton_self i)
  ·obtain ⟨C,c1,c2⟩:=g2.trips rfl hd
   exact ⟨C,c1,by rw [if_neg hne];exact c2⟩
end Go.Proofs.YtegepanmkjemjaaGreat.Pg
