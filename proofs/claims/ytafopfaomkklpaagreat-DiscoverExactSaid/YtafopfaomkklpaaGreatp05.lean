/- A part of the proof. -/
import Derived.Test.YtafopfaomkklpaaGreatp03
import Derived.Test.YtafopfaomkklpaaGreatp04
import Derived.Test.YtafopfaomkklpaaGreatProg
set_option linter.unusedVariables false
namespace Go.Proofs.YtafopfaomkklpaaGreat
open Go.Proofs.Tryz
open Go.Eng
abbrev NoM:Nat→Prop:=λ_=>False
theorem H6 (a:Option Addr):Off NoM a:=by cases a with
 |none=>exact trivial
 |some a=>exact id
theorem oK {x n:Int} (hn:1≤n):0≤(if n<1 then 0 else x % n)∧(if n<1 then 0 else x % n)<n:=by
 rw [if_neg (by omega)]
 exact ⟨Int.emod_nonneg x (by omega),Int.emod_lt_of_pos x (by omega)⟩
structure GX (v:Vw):Prop where
 num:0≤v.number∧v.number<16
 boot:∀ m ∈ v.mem,1≤m.Boot
 ne:v.mem≠[]
 few:v.mem.length≤5
abbrev FO (A:Nat):Nat→Prop:=λk=>k<A
theorem H7 {w:World} {n:Int} {a:Option Addr} {c A:Nat} {L:List aC} (ho:Owns w TMb 3 a L.length c (jV L).flatten) (hl:L.length≤1000000) (hf:∀ k,isB a k→A≤k):eX (FO A) w ⟨n,a,L.length,c⟩ ⟨n,L⟩:=
 ⟨rfl,rfl,ho.le,ho.rd,yw ho.rd λk hk h=>Nat.lt_irrefl _ (Nat.lt_of_lt_of_le h (hf k hk)),hl⟩
theorem AL {u:World} {b1 b2:Nat} {r:aF} {zs:List Value} (h1:Blk u b1 zs TVw) (hl:zs.length=2) (h2:Blk u b2 r.cells TVw) {K:aF→World→Prop} (hk:∀ w',Keep (λk=>k=b1) u w'→K r w') :
  aF.ex λr=>aH u ⟨b2,0,none⟩ 0 r.cells∧wrAt u ⟨b1,0,none⟩ 0 r.cells∧∀ w4,w4=puts u ⟨b1,0,none⟩ 0 r.cells→aF.ex λres=>aH w4 ⟨b1,0,none⟩ 0 res.cells∧w4=w4∧K res w4:=by
 refine aF.mk_ex r ⟨aK h2 rfl,eZ h1 (by rw [hl];exact Nat.le_refl _) (aF.single _),λw4 hw=>?_⟩
 have hk4:Keep (λk=>k=b1) u w4:=by rw [hw];exact dU _ _ _ _ _
 have hz:Blk w4 b1 r.cells TVw:=by
  rw [hw]
  have:=h1.puts (o:=0) (i:=0) (vs:=r.cells)
  rw [Nat.add_zero,pA (by rw [hl];rfl)] at this
  exact this
 exact aF.mk_ex r ⟨aK hz rfl,rfl,hk w4 hk4⟩
theorem GY {u:World} {b2 bm:Nat} {num:Int} {a:Option Addr} {n c:Nat} {L:List aC} (h2:Blk u b2 (aF.cells ⟨num,a,n,c⟩) TVw) (hown:Owns u TMb 3 a n c (jV L).flatten) (hn:n=L.length) (hfr:∀ k,isB a k→b2<k) {m:aC} (hm:Blk u bm m.cells TMb) (hb:n≤1000000)
  {K:Option Addr→Nat→Nat→aC→Nat→Option Addr→Nat→Nat→World→Prop}
  (hk:∀ x b3 ap cap w9,Blk w9 b2 (aF.cells ⟨num,ap,n+1,cap⟩) TVw→Owns w9 TMb 3 ap (n+1) cap (jV (L++[m])).flatten→Keep (λk=>k=b2∨isB a k) u w9→(∀ k,isB ap k→b2<k)→K a n c x b3 ap (n+1) cap w9) :
  ∃ (Mm:Option Addr) (Ml Mc:Nat),u.cell? ⟨b2,0+1,none⟩=some (.slice Mm Ml Mc)∧aC.ex λr=>aH u ⟨bm,0,none⟩ 0 r.cells∧∀ b3 w7,b3=u.heap.size→w7=u.alloc (.cells r.cells.toArray TMb)→∃ (ap:Option Addr) (al ac:Nat),∃ w8,(Builtin.append_ #[TSM,TSM] TSM #[(.slice Mm Ml Mc),(.slice (some ⟨b3,0,none⟩) 1 1)]).run prog w7=.ok (.slice ap al ac) w8∧
   (∃ x,w8.cell? ⟨b2,0+1,none⟩=some x)∧w8.frozen? ⟨b2,0+1,none⟩=false∧∀ w9,w9=w8.setCell ⟨b2,0+1,none⟩ (.slice ap al ac)→K Mm Ml Mc r b3 ap al ac w9:=by
 refine ⟨a,n,c,h2.cell (i:=1) rfl,aC.mk_ex m ⟨aK hm rfl,?_⟩⟩
 refine CC hown hn hb ?_
 intro b3 ap cap u3 hb3 ho3 hk3 hap
 have hu23:=hk3.blk h2 λe=>by have:=hfr b2 e;omega
 have hus:=h2.lt
 have hfr3:∀ k,isB ap k→b2<k:=λk hk=>by
  rcases hap k hk with h1 | h1
  ·exact hfr k h1
  ·omega
 refine yv (b:=b2) hu23 (o:=0+1) (by simp [aF.cells]) λu4 hu24 hk4=>?_
 refine hk m b3 ap cap u4 hu24 ?_ (((hk3.mono λ_ _ h=>.inr h).trans hk4 λ_ _ h=>.inl h)) hfr3
 exact Owns.keep hk4 ho3 λk hk e=>by have:=hfr3 k hk;omega
set_option maxHeartbeats 1000000 in
theorem zA (w:World) {number mask full n:Int} {a3:Option Addr} {n3 c3:Nat} {boots:List Int} (h1:I64 number) (h2:I64 mask) (h3:I64 full) (hr:Rd w a3 (is boots)) (hb:n3=boots.length) (hbs:boots.length≤1000) (hbi:∀ x ∈ boots,I64 x) (hn:1≤n) (hn5:n≤5) :
  Does 58 [.int .i64 number,.int .i64 mask,.int .i64 full,.slice a3 n3 c3,.int .i64 n] w λx w'=>∃ r v,x=aF.val r∧eX (FO w.heap.size) w' r v∧New w w'∧GX v:=by
 refine does Tryz.func58 ?_
 rw [tA]
 rintro b1 w1 hb1 hw1
 obtain ⟨hz1,hn1⟩:=aR hb1 hw1
 have hz1:Blk w1 b1 (aF.cells ⟨0,none,0,0⟩) TVw:=hz1
 clear hw1
 refine aG (eW w1 number 16 h1 (by omega)) ?_
 rintro v w2 ⟨rfl,rfl⟩
 have hnum:=oK (x:=number) (n:=16) (by omega)
 generalize (if (16:Int)<1 then 0 else number % 16)=num at hnum
 refine ⟨_,rfl,?_⟩
 refine kE (vs:=aF.cells ⟨num,none,0,0⟩) rfl (aF.single _) λb2 w3 hb2 hz3 hn3=>?_
 have hz13:=New.blk hn3 hz1
 have hn03:=hn1.new hn3
 have hs1:=hn1.size
 have hs1':=hz1.lt
 refine aS mix (λm env u=>∃ (i:Nat) (any:Bool) (a:Option Addr) (nn c:Nat) (L:List aC) (jj:List Value),m=n.toNat - i∧i≤n.toNat∧env=cA mask full a3 n3 c3 n ⟨b1,0,none⟩ ⟨b2,0,none⟩ any i jj∧New w u∧Blk u b1 (aF.cells ⟨0,none,0,0⟩) TVw∧Blk u b2 (aF.cells ⟨num,a,nn,c⟩) TVw∧Owns u TMb 3 a nn c (jV L).flatten∧(∀ k,isB a k→b2<k)∧(∀ m ∈ L,1≤m.Boot)∧nn=L.length∧L.length≤i) n.toNat
  ⟨0,false,none,0,0,[],_,by omega,by omega,rfl,hn03,hz13,hz3,Owns.nil _ _ _,(λk hk=>by obtain ⟨o,ho⟩:=hk;cases ho),by simp,rfl,by simp⟩ ?_
 rintro m env u ⟨i,any,a,nn,c,L,jj,rfl,hi,rfl,hnu,hu1,hu2,hown,hfr,hbt,rfl,hLi⟩
 rw [nF]
 refine aE (λhq=>?_) (λhq=>?_)
 ·refine aG (eW u mask 32 h2 (by omega)) ?_
  rintro v u2 ⟨rfl,rfl⟩
  have hwi:IntKind.u64.wrap (i:Int)=i:=yt (by omega) (by omega)
  refine ⟨_,rfl,by rw [hwi];omega,bC (λhe=>?_) (λhe=>?_)⟩
  ·rw [w64 (by omega) (by omega)]
   exact ⟨n.toNat - (i+1),by omega,i+1,any,a,L.length,c,L,_,rfl,by omega,rfl,hnu,hu1,hu2,hown,hfr,hbt,rfl,by omega⟩
  ·refine aG (eW u2 full 32 h3 (by omega)) ?_
   rintro v u3 ⟨rfl,rfl⟩
   refine ⟨_,rfl,by rw [hwi];omega,?_⟩
   generalize (band IntKind.i64 (bshr IntKind.i64 (if (32:Int)<1 then 0 else full % 32) (IntKind.u64.wrap (i:Int))) 1 == 1)=fl
   refine kE (vs:=aC.cells ⟨i,1,fl⟩) rfl (aC.single _) λbm u4 hbm hzm hn4=>?_
   have hu14:=New.blk hn4 hu1
   have hu24:=New.blk hn4 hu2
   have hown4:=Owns.new hn4 hown
   have hus:=hu2.lt
   have hus1:=hu1.lt
   have hnu4:=hnu.new hn4
   have next:∀ (any':Bool) (bt:Int) (u5:World) (jj':Option Addr→Nat→Nat→aC→Nat→Option Addr→Nat→Nat→List Value),1≤bt→Blk u5 bm (aC.cells ⟨i,bt,fl⟩) TMb→Keep (λk=>k=bm) u4 u5→
     ∃ (Mm:Option Addr) (Ml Mc:Nat),u5.cell? ⟨b2,0+1,none⟩=some (.slice Mm Ml Mc)∧aC.ex λr=>aH u5 ⟨bm,0,none⟩ 0 r.cells∧∀ b3 w7,b3=u5.heap.size→w7=u5.alloc (.cells r.cells.toArray TMb)→∃ (ap:Option Addr) (al ac:Nat),∃ w8,(Builtin.append_ #[TSM,TSM] TSM #[(.slice Mm Ml Mc),(.slice (some ⟨b3,0,none⟩) 1 1)]).run prog w7=.ok (.slice ap al ac) w8∧
      (∃ x,w8.cell? ⟨b2,0+1,none⟩=some x)∧w8.frozen? ⟨b2,0+1,none⟩=false∧∀ w9,w9=w8.setCell ⟨b2,0+1,none⟩ (.slice ap al ac)→∃ m',m'<n.toNat - i∧∃ (i':Nat) (any'':Bool) (a:Option Addr) (nn c:Nat) (L:List aC) (jj:List Value),m'=n.toNat - i'∧i'≤n.toNat∧cA mask full a3 n3 c3 n ⟨b1,0,none⟩ ⟨b2,0,none⟩ any' (IntKind.i64.wrap ((i:Int)+1)) (jj' Mm Ml Mc r b3 ap al ac)=cA mask full a3 n3 c3 n ⟨b1,0,none⟩ ⟨b2,0,none⟩ any'' i' jj∧New w w9∧Blk w9 b1 (aF.cells ⟨0,none,0,0⟩) TVw∧Blk w9 b2 (aF.cells ⟨num,a,nn,c⟩) TVw∧Owns w9 TMb 3 a nn c (jV L).flatten∧(∀ k,isB a k→b2<k)∧(∀ m ∈ L,1≤m.Boot)∧nn=L.length∧L.length≤i':=by
    intro any' bt u5 jj' hbt1 hzm5 hk5
    have hne:∀ k,k=bm→b2<k:=λk e=>by omega
    have hfr4:∀ k,isB a k→k≠bm:=λk hk e=>by
     have:=Owns.lt hown hk
     omega
    refine GY (hk5.blk hu24 (by omega)) (Owns.keep hk5 hown4 hfr4) rfl hfr hzm5 (by omega) ?_
    intro x b3 ap cap w9 hz9 ho9 hk9 hf9
    rw [w64 (by omega) (by omega)]
    refine ⟨n.toNat - (i+1),by omega,i+1,any',ap,L.length+1,cap,L++[⟨i,bt,fl⟩],_,rfl,by omega,rfl,?_,?_,hz9,ho9,hf9,?_,by simp,by simp;omega⟩
    ·refine (hnu4.trans hk5 λk hlt e=>by omega).trans hk9 λk hlt e=>?_
     rcases e with e | e
     ·omega
     ·have:=hfr k e;omega
    ·refine hk9.blk (hk5.blk hu14 (by omega)) λe=>?_
     rcases e with e | e
     ·omega
     ·have:=hfr b1 e;omega
    ·intro m hm
     rcases List.mem_append.1 hm with h | h
     ·exact hbt m h
     ·simp at h;subst h;exact hbt1
   refine aE (λhlt=>?_) (λhlt=>?_)
   ·have hil:i<boots.length:=by omega
    have hg:boots[i]?=some boots[i]:=List.getElem?_eq_getElem hil
    rcases hr.new hnu4 with he | ⟨b,o,ha3,hcell⟩
    ·have:boots=[]:=by simpa [is] using he
     rw [this] at hil
     simp at hil
    ·subst ha3
     refine bG (by omega) (by omega) ⟨boots[i],?_,?_⟩
     ·have:=hcell i (.int .i64 boots[i]) (by simp [is,hg])
      simpa using this
     refine aG (eW u4 boots[i] 31 (hbi _ (List.getElem_mem hil)) (by omega)) ?_
     rintro v u5 ⟨rfl,rfl⟩
     have hp:=oK (x:=boots[i]) (n:=31) (by omega)
     generalize (if (31:Int)<1 then 0 else boots[i] % 31)=p at hp
     refine ⟨_,rfl,?_⟩
     refine yv (b:=bm) hzm (o:=1) (by simp [aC.cells]) λu6 hzm6 hk6=>?_
     rw [w64 (x:=p+1) (by omega) (by omega)] at hzm6
     refine iL (λha=>?_) (λha=>⟨_,hzm6.cell (i:=2) rfl,?_⟩)
     ·exact next true (p+1) u6 _ (by omega) hzm6 hk6
     ·exact next fl (p+1) u6 _ (by omega) hzm6 hk6
   ·refine iL (λha=>?_) (λha=>⟨_,hzm.cell (i:=2) rfl,?_⟩)
    ·exact next true 1 u4 _ (by omega) hzm (Keep.refl _ _)
    ·exact next fl 1 u4 _ (by omega) hzm (Keep.refl _ _)
 ·rw [qb]
  have fin:∀ (r:aF) (L':List aC) (u' w':World),New w u'→r=⟨num,r.Members,L'.length,r.Members_c⟩→Owns u' TMb 3 r.Members L'.length r.Members_c (jV L').flatten→(∀ k,isB r.Members k→b2<k)→(∀ m ∈ L',1≤m.Boot)→L'≠[]→L'.length≤5→Keep (λk=>k=b1) u' w'→
    ∃ r' v,aF.val r=aF.val r'∧eX (FO w.heap.size) w' r' v∧New w w'∧GX v:=by
   intro r L' u' w' hn' hr' ho' hf' hb' hne' h5' hk'
   have ho2:=Owns.keep hk' ho' λk hk e=>by have:=hf' k hk;omega
   exact ⟨_,⟨num,L'⟩,by rw [hr'],H7 (c:=r.Members_c) (a:=r.Members) ho2 (by omega) (λk hk=>by have:=hf' k hk;omega),hn'.trans hk' λk hlt e=>by omega,⟨hnum,hb',hne',h5'⟩⟩
  refine ⟨_,_,_,hu2.cell (i:=1) rfl,bC (λh0=>?_) (λh0=>?_)⟩
  ·rintro b4 w4 hb4 hw4
   obtain ⟨hz4,hn4⟩:=aR hb4 hw4
   have hz4:Blk w4 b4 (aC.cells ⟨0,1,false⟩) TMb:=hz4
   clear hw4
   have hus:=hu2.lt
   have hus1:=hu1.lt
   refine yv (b:=b2) (New.blk hn4 hu2) (o:=0+1) (by simp [aF.cells]) λu5 hu25 hk5=>?_
   have hu25:Blk u5 b2 (aF.cells ⟨num,some ⟨b4,0,none⟩,1,1⟩) TVw:=hu25
   have hz45:=hk5.blk hz4 (by omega)
   have hu15:=hk5.blk (New.blk hn4 hu1) (by omega)
   have hn5:New w u5:=(hnu.new hn4).trans hk5 λk hlt e=>by omega
   have hfr5:∀ k,isB (some ⟨b4,0,none⟩) k→b2<k:=λk hk=>by obtain ⟨o,ho⟩:=hk;simp at ho;omega
   refine ri (λha=>?_) (λha=>?_)
   ·refine ⟨some ⟨b4,0,none⟩,1,1,hu25.cell (i:=1) rfl,bG (by decide) (by decide) ?_⟩
    refine yv (b:=b4) hz45 (o:=0+Int.toNat 0 * 3+2) (by simp [aC.cells]) λu6 hz46 hk6=>?_
    have hz46:Blk u6 b4 (aC.cells ⟨0,1,true⟩) TMb:=hz46
    refine AL (hk6.blk hu15 (by omega)) rfl (hk6.blk hu25 (by omega)) λw' hk'=>?_
    exact fin ⟨num,some ⟨b4,0,none⟩,1,1⟩ [⟨0,1,true⟩] u6 w' (hn5.trans hk6 λk hlt e=>by omega) rfl ⟨rfl,.inr ⟨b4,_,rfl,hz46,Nat.le_refl _,by simp [maxLen],rfl,rfl⟩⟩ hfr5 (by simp) (by simp) (by simp) hk'
   ·refine AL hu15 rfl hu25 λw' hk'=>?_
    exact fin ⟨num,some ⟨b4,0,none⟩,1,1⟩ [⟨0,1,false⟩] u5 w' hn5 rfl ⟨rfl,.inr ⟨b4,_,rfl,hz45,Nat.le_refl _,by simp [maxLen],rfl,rfl⟩⟩ hfr5 (by simp) (by simp) (by simp) hk'
  ·have hne:L≠[]:=λe=>by subst e;simp at h0
   refine ri (λha=>?_) (λha=>?_)
   ·refine ⟨_,_,_,hu2.cell (i:=1) rfl,?_⟩
    rcases hown.2 with ⟨_,e,_⟩ | ⟨g,cur,rfl,hg,hnc,hcm,hcl,htk⟩
    ·exact absurd (List.eq_nil_of_length_eq_zero e) hne
    ·have hpos:0<L.length:=List.length_pos_iff.2 hne
     refine bG (by omega) (by omega) ?_
     have hlt:2<cur.length:=by omega
     have e2:0+Int.toNat 0 * 3+2=2:=rfl
     have hcell:u.cell? ⟨g,0+Int.toNat 0 * 3+2,none⟩=some cur[2]:=hg.cell (List.getElem?_eq_getElem hlt)
     refine ⟨⟨_,hcell⟩,hg.frozen,λu6 hu6=>?_⟩
     have hk6:Keep (λk=>k=g) u u6:=by rw [hu6];exact aN _ _ _ _
     have ho6:=Owns.setCell hown (i:=2) (by omega) (.bool true)
     obtain ⟨m,L',rfl⟩:∃ m L',L=m::L':=by
      cases L with
      |nil=>exact absurd rfl hne
      |cons m L'=>exact ⟨m,L',rfl⟩
     have hset:(jV (m::L')).flatten.set 2 (.bool true)=(jV (⟨m.Node,m.Boot,true⟩::L')).flatten:=rfl
     rw [hset] at ho6
     have ho6:Owns u6 TMb 3 (some ⟨g,0,none⟩) (m::L').length c (jV (⟨m.Node,m.Boot,true⟩::L')).flatten:=by rw [hu6];exact ho6
     have hgb:b2<g:=hfr g ⟨0,rfl⟩
     refine AL (hk6.blk hu1 (by omega)) rfl (hk6.blk hu2 (by omega)) λw' hk'=>?_
     refine fin ⟨num,some ⟨g,0,none⟩,(m::L').length,c⟩ (⟨m.Node,m.Boot,true⟩::L') u6 w' (hnu.trans hk6 λk hlt e=>by omega) rfl ho6 hfr (λx hx=>?_) (by simp) (by simp at hLi ⊢;omega) hk'
     rcases List.mem_cons.1 hx with rfl | hx
     ·exact hbt m (by simp)
     ·exact hbt x (List.mem_cons_of_mem _ hx)
   ·refine AL hu1 rfl hu2 λw' hk'=>?_
    exact fin ⟨num,a,L.length,c⟩ L u w' hnu rfl hown hfr hbt hne (by omega) hk'
end Go.Proofs.YtafopfaomkklpaaGreat
namespace Go.Proofs.YtafopfaomkklpaaGreat
open Go.Eng
end Go.Proofs.YtafopfaomkklpaaGreat
namespace Go.Proofs.YtafopfaomkklpaaGreat
open Go.Proofs.Tryz
open Go.ChangeShapes Go.WideShapes Go.ChangeAt Go.RowKit Go.Eng
section
variable {H:Type} {enc:TypeId×Value→H} {W:World} {held:Bool}
theorem fld {P:Program} {fs:Array Field} {xs:List (DataW H×List MemPlace)} {cs:List Value} {n:Nat} (hfs:∀ (i:Nat) (f:Field),fs[i]?=some f→DataW.trod enc P W 0 (λ_=>true) held n f.type ((cs.drop f.offset).take (P.cellsOf f.type))=xs[i]?) (hlen:xs.length=fs.size) (i T off k:Nat) (h:(fs[i]?.map λf=>(f.type,f.offset))=some (T,off)) (hk:P.cellsOf T=k) :
  ∃ x,DataW.trod enc P W 0 (λ_=>true) held n T ((cs.drop off).take k)=some x:=by
 cases hf:fs[i]? with
 |none=>rw [hf] at h;cases h
 |some f=>
  rw [hf] at h
  simp at h
  obtain ⟨rfl,rfl⟩:=h
  subst hk
  have hi:i<xs.length:=by rw [hlen];exact (Array.getElem?_eq_some_iff.1 hf).1
  have:=hfs i f hf
  rw [List.getElem?_eq_getElem hi] at this
  exact ⟨_,this⟩
abbrev TIo:TypeId:=3
theorem cI:prog.cellsOf TIo=1:=by kernel_rfl
end
end Go.Proofs.YtafopfaomkklpaaGreat
namespace Go.Proofs.YtafopfaomkklpaaGreat
open Go.Proofs.Tryz
open Go.Eng IntKind
variable (w:World) (R:Value→World→Prop)
theorem sm (p0 p1:Int):fnW prog f109 [.int .i64 p0,.int .i64 p1] R w=((bif (decide ((p1:Int)≥98)) then ((bif (decide ((p1:Int)≤256)) then ((bif (decide ((p0:Int)≥96)) then (R (.bool (decide ((p0:Int)<p1))) w) else (R (.bool false) w))) else (R (.bool false) w))) else (R (.bool false) w))):=by kernel_rfl
end Go.Proofs.YtafopfaomkklpaaGreat
namespace Go.Proofs.YtafopfaomkklpaaGreat
open Go.Eng
theorem rd_i {u:World} {a:Option Addr} {l:List Int} (h:Rd u a (is l)) {i:Nat} {x:Int} (hx:l[i]?=some x) {z:Int} (hz:z=i) {n:Nat} (hn:n=l.length) {K:Addr→Prop}
  (hk:∀ b o,(∀ y,New u y→y.cell? ⟨b,o,none⟩=some (.int .i64 x))→K ⟨b,o,none⟩):idxS a n z 1 K:=by
 subst hz hn
 have hlt:=dF hx
 have hxx:(is l)[i]?=some (.int .i64 x):=by simp [is,hx]
 rcases h with he | ⟨b,o,rfl,hc⟩
 ·rw [he] at hxx;cases hxx
 ·refine bG (by omega) (by omega) ?_
  have:=hk b (o+i) λy hy=>(Rd.new hy (.inr ⟨b,o,rfl,hc⟩)).cell hxx
  simpa using this
def AM (line lines:Int):Bool:=decide (98≤lines∧lines≤256∧96≤line∧line<lines)
theorem CD (w:World) (line lines:Int):Does 109 [.int .i64 line,.int .i64 lines] w λv w'=>v=.bool (AM line lines)∧w'=w:=by
 refine does Tryz.func109 ?_
 rw [sm]
 unfold AM
 refine aE (λh=>aE (λh1=>aE (λh2=>⟨?_,rfl⟩) (λh2=>⟨?_,rfl⟩)) (λh1=>⟨?_,rfl⟩)) (λh=>⟨?_,rfl⟩)
 ·have h:98≤lines:=h;have h2:96≤line:=h2;congr 1;simp [h,h1,h2]
 ·have h2:¬ 96≤line:=h2;congr 1;simp [h2]
 ·congr 1;simp [h1]
 ·have h:¬ 98≤lines:=h;congr 1;simp [h]
theorem rq {w:World} {e sz n cap:Nat} {a:Option Addr} {xs:List Value} (h:Owns w e sz a n cap xs) (hn:0<n):∃ g cur,a=some ⟨g,0,none⟩∧Blk w g cur e∧n * sz≤cur.length:=by
 rcases h.2 with ⟨_,e,_⟩ | ⟨g,cur,rfl,hg,hnc,_,hcl,_⟩
 ·omega
 ·exact ⟨g,cur,rfl,hg,by rw [hcl];exact Nat.mul_le_mul_right _ hnc⟩
def bs (l:List Bool):List Value:=l.map .bool
theorem lg (x:Int):I64 (IntKind.i64.wrap x):=by
 unfold I64
 simp only [IntKind.wrap,IntKind.bits,IntKind.signed]
 simp
 omega
theorem GZ (B:List Bool) (i:Nat) (x:Bool):(bs B).set i (.bool x)=bs (B.set i x):=by simp [bs]
end Go.Proofs.YtafopfaomkklpaaGreat
namespace Go.Proofs.YtafopfaomkklpaaGreat
open Go.Proofs.Tryz
open Go.Eng IntKind
variable (w:World) (R:Value→World→Prop)
def gJ (s0:Int) (s4 s5:Addr) (s6:Int) (j:LV):LV:=[(.int .i64 s0),jg j 0,jg j 1,jg j 2,(.pointer (some s4)),(.pointer (some s5)),(.int .i64 s6),jg j 3,jg j 4,jg j 5,jg j 6,jg j 7,jg j 8,jg j 9,jg j 10,jg j 11,jg j 12,jg j 13,jg j 14,jg j 15,jg j 16,jg j 17,jg j 18,jg j 19,jg j 20,jg j 21,jg j 22,jg j 23,jg j 24,jg j 25,jg j 26,jg j 27,jg j 28,jg j 29]
def l8 (a b:Addr) (j:LV):LV:=jq j 0 4 (.pointer (some a)::.pointer (some b)::jq j 4 28 [])
theorem tB (p0 p1:Int):fnW prog f73 [.int .i64 p0,.int .i64 p1] R w=(∀ b1 w1,b1=w.heap.size→w1=w.alloc (.cells #[.int .i64 0,.int .u64 0,.int .u64 0,.int .u64 0,.int .u64 0,.int .u64 0,.int .u64 0,.int .u64 0,.int .u64 0] 140)→Calls prog 6 #[.int .i64 p0,.int .i64 (i64.wrap (p1 - 96))] w1 λe w2=>∃ a,e=.returned (.int .i64 a)∧Calls prog 6 #[.int .i64 (i64.wrap (Int.tdiv p0 64)),.int .i64 4] w2 λe w3=>∃ b,e=.returned (.int .i64 b)∧∀ b2 w4,b2=w3.heap.size→w4=w3.alloc (.cells #[.int .i64 0,.int .u64 0,.int .u64 0,.int .u64 0,.int .u64 0,.int .u64 0,.int .u64 0,.int .u64 0,.int .u64 0] 140)→wrAt w4 ⟨b2,0,none⟩ 0 [.int .i64 (i64.wrap (96+a)),.int .u64 (bshl .u64 (u64.wrap (i64.wrap (b+1))) 8),.int .u64 0,.int .u64 0,.int .u64 0,.int .u64 0,.int .u64 0,.int .u64 0,.int .u64 0]∧∀ w5,w5=puts w4 ⟨b2,0,none⟩ 0 [.int .i64 (i64.wrap (96+a)),.int .u64 (bshl .u64 (u64.wrap (i64.wrap (b+1))) 8),.int .u64 0,.int .u64 0,.int .u64 0,.int .u64 0,.int .u64 0,.int .u64 0,.int .u64 0]→bT prog (.loop (sub (aA f73) [1,1,0,1,0,0])) (gJ p0 ⟨b1,0,none⟩ ⟨b2,0,none⟩ 0 (ji p1::uq 2 (ji p0::ji p1::ji (i64.wrap (p1 - 96))::ji a::ji (i64.wrap (96+a))::ji p0::ji (i64.wrap (Int.tdiv p0 64))::ji b::ji (i64.wrap (b+1))::ju (u64.wrap (i64.wrap (b+1)))::ju (bshl .u64 (u64.wrap (i64.wrap (b+1))) 8)::.agg #[.int .i64 (i64.wrap (96+a)),.int .u64 (bshl .u64 (u64.wrap (i64.wrap (b+1))) 8),.int .u64 0,.int .u64 0,.int .u64 0,.int .u64 0,.int .u64 0,.int .u64 0,.int .u64 0]::uq 15 []))) (aI 0 (nx f73 [1,1,1] R)) w5):=by kernel_rfl
theorem nG (s0:Int) (s4 s5:Addr) (s6:Int) (j:LV) (N1:LV→World→Prop):W prog (sub (aA f73) [1,1,0,1,0,0]) (gJ s0 s4 s5 s6 j) (seqQ N1 (aI 0 (nx f73 [1,1,1] R))) w=((bif (decide ((s6:Int)<7)) then (Calls prog 6 #[.int .i64 s0,.int .i64 1048576] w λe w1=>∃ a,e=.returned (.int .i64 a)∧idxA ⟨s5.block,s5.off+2,none⟩ 7 s6 1 λad=>(∃ u,w1.cell? ad=some u)∧w1.frozen? ad=false∧∀ w2,w2=w1.setCell ad (.int .u64 (u64.wrap ((u64.wrap a) * (u64.wrap (i64.wrap (s6+3))))))→N1 (gJ s0 s4 s5 (i64.wrap (s6+1)) (jq j 0 15 [ji s6,jb (decide ((s6:Int)<7)),ji s6,ji (i64.wrap (s6+1)),ji s6,ji s0,ji a,ju (u64.wrap a),ji s6,ji (i64.wrap (s6+3)),ju (u64.wrap (i64.wrap (s6+3))),ju (u64.wrap ((u64.wrap a) * (u64.wrap (i64.wrap (s6+3))))),jf s5 2,jp ad,jg j 29])) w2) else (W prog (sub (aA f73) [1,1,1]) (l8 s4 s5 (ji s0::jg j 0::jg j 1::jg j 2::ji s6::jq j 3 12 (ji s6::jb (decide ((s6:Int)<7))::jq j 17 13 []))) (retQ prog f73 R) w))):=by kernel_rfl
theorem qd (a b:Addr) (j:LV):W prog (sub (aA f73) [1,1,1]) (l8 a b j) (retQ prog f73 R) w=(aP.ex λr=>aH w b 0 r.cells∧wrAt w a 0 r.cells∧∀ w1,w1=puts w a 0 r.cells→aP.ex λc=>aH w1 a 0 c.cells∧w1=w1∧R c.val w1):=by kernel_rfl
def dV (s0:Option Addr) (a b:Nat) (s1 s2:Int) (s7:Option Addr) (c d:Nat) (s8:Int) (j:LV):LV:=.slice s0 a b::.int .i64 s1::.int .i64 s2::jq j 0 4 (.slice s7 c d::.int .i64 s8::jq j 4 62 [])
def ll (s7:Option Addr) (a b:Nat) (j:LV):LV:=jq j 0 7 (.slice s7 a b::jq j 7 63 [])
def fZ (s0:Option Addr) (a b:Nat) (s1 s2:Int) (s7:Option Addr) (c d:Nat) (s8:Int) (s9:Addr) (f:Int) (j:LV):LV:=.slice s0 a b::.int .i64 s1::.int .i64 s2::jq j 0 4 (.slice s7 c d::.int .i64 s8::.pointer (some s9)::.int .i64 f::jq j 4 60 [])
def iQ (s0:Option Addr) (a b:Nat) (s1 s2:Int) (s7:Option Addr) (c d:Nat) (s8:Int) (f:Addr) (g:Int) (h:Bool) (j:LV):LV:=.slice s0 a b::.int .i64 s1::.int .i64 s2::jq j 0 4 (.slice s7 c d::.int .i64 s8::.pointer (some f)::.int .i64 g::jq j 4 25 (.bool h::jq j 29 34 []))
def lm (s0:Option Addr) (a b:Nat) (s1 s2:Int) (s7:Option Addr) (c d:Nat) (s8:Int) (f:Addr) (g:Int) (j:LV):LV:=.slice s0 a b::.int .i64 s1::.int .i64 s2::jq j 0 4 (.slice s7 c d::.int .i64 s8::.pointer (some f)::.int .i64 g::jq j 4 60 [])
def lp (s0:Option Addr) (a b:Nat) (s1 s2:Int) (s7:Option Addr) (c d:Nat) (s8:Int) (f:Addr) (g:Int) (j:LV):LV:=.slice s0 a b::.int .i64 s1::.int .i64 s2::jq j 0 4 (.slice s7 c d::.int .i64 s8::.pointer (some f)::.int .i64 g::jq j 4 60 [])
def gA (s0:Option Addr) (a b:Nat) (s1 s2:Int) (s7:Option Addr) (c d:Nat) (s8:Int) (f:Addr) (g:Int) (h:Bool) (j:LV):LV:=.slice s0 a b::.int .i64 s1::.int .i64 s2::jq j 0 4 (.slice s7 c d::.int .i64 s8::.pointer (some f)::.int .i64 g::jq j 4 47 (.bool h::jq j 51 12 []))
def gB (s0:Option Addr) (a b:Nat) (s1 s2:Int) (s7:Option Addr) (c d:Nat) (s8:Int) (j:LV):LV:=.slice s0 a b::.int .i64 s1::.int .i64 s2::jq j 0 4 (.slice s7 c d::.int .i64 s8::jq j 4 62 [])
def lq (s0:Option Addr) (a b:Nat) (s1 s2:Int) (s7:Option Addr) (c d:Nat) (s8:Int) (f:Addr) (g:Int) (j:LV):LV:=.slice s0 a b::.int .i64 s1::.int .i64 s2::jq j 0 4 (.slice s7 c d::.int .i64 s8::.pointer (some f)::.int .i64 g::jq j 4 60 [])
theorem sL (p0:Option Addr) (a b:Nat) (p1 p2:Int):fnW prog f113 [.slice p0 a b,.int .i64 p1,.int .i64 p2] R w=(bT prog (.loop (sub (aA f113) [1,1,0,1,0,0])) (dV p0 a b p1 p2 none 0 0 0 (uq 3 (jz::uq 62 []))) (aI 0 (nx f113 [1,1,1] R)) w):=by kernel_rfl
theorem mR (s0:Option Addr) (a b:Nat) (s1 s2:Int) (s7:Option Addr) (c d:Nat) (s8:Int) (j:LV) (QX:Exit→LV→World→Prop):W prog (sub (aA f113) [1,1,0,1,0,0]) (dV s0 a b s1 s2 s7 c d s8 j) (Qr prog f113 R QX) w=((bif (decide ((s8:Int)<(a:Nat))) then (idxS s0 a s8 1 λad=>∃ x,w.cell? ad=some (.int .i64 x)∧Calls prog 73 #[.int .i64 x,.int .i64 s1] w λe w1=>aP.ex λf=>e=.returned f.val∧∀ b1 w2,b1=w1.heap.size→w2=w1.alloc (.cells #[.int .i64 0,.int .u64 0,.int .u64 0,.int .u64 0,.int .u64 0,.int .u64 0,.int .u64 0,.int .u64 0,.int .u64 0] 140)→wrAt w2 ⟨b1,0,none⟩ 0 f.cells∧∀ w3,w3=puts w2 ⟨b1,0,none⟩ 0 f.cells→bT prog (.loop (sub (aA f113) [1,1,0,1,0,0,1,0,0,1,1,0,0,0])) (fZ s0 a b s1 s2 s7 c d s8 ⟨b1,0,none⟩ 0 (jq j 0 4 (ji s8::js s0 a b::jn a::jb (decide ((s8:Int)<(a:Nat)))::jg j 10::jg j 11::js s0 a b::ji s8::jp ad::ji x::ji s1::f.val::jq j 18 48 []))) (aI 2 (seqQ (λenv w=>W prog (sub (aA f113) [1,1,0,1,0,0,1,0,0,1,1,1]) env (aI 1 (seqQ (λenv w=>W prog (sub (aA f113) [1,1,0,1,0,0,1,1]) env (Qr prog f113 R QX) w) (Qr prog f113 R QX))) w) (aI 1 (seqQ (λenv w=>W prog (sub (aA f113) [1,1,0,1,0,0,1,1]) env (Qr prog f113 R QX) w) (Qr prog f113 R QX))))) w3) else (QX (.exit 0) (ll s7 c d (js s0 a b::ji s1::ji s2::jq j 0 4 (ji s8::jg j 4::jg j 5::ji s8::js s0 a b::jn a::jb (decide ((s8:Int)<(a:Nat)))::jq j 10 56 []))) w))):=by kernel_rfl
theorem pB (s7:Option Addr) (a b:Nat) (j:LV) (QX:Exit→LV→World→Prop):W prog (sub (aA f113) [1,1,1]) (ll s7 a b j) (Qr prog f113 R QX) w=(R (.slice s7 a b) w):=by kernel_rfl
theorem mS (s0:Option Addr) (a b:Nat) (s1 s2:Int) (s7:Option Addr) (c d:Nat) (s8:Int) (s9:Addr) (f:Int) (j:LV) (QX:Exit→LV→World→Prop):W prog (sub (aA f113) [1,1,0,1,0,0,1,0,0,1,1,0,0,0]) (fZ s0 a b s1 s2 s7 c d s8 s9 f j) (Qr prog f113 R QX) w=(∀ w1,w1=w.drew→∃ Sx:World→Prop,Sx w1∧(bif (decide ((f:Int)<(c:Nat))) then (idxS s7 c f 9 λad=>∃ g,(∀ u,Sx u→u.cell? ad=some (.int .i64 g))∧∃ h,(∀ u,Sx u→u.cell? s9=some (.int .i64 h))∧W prog (sub (aA f113) [1,1,0,1,0,0,1,0,0,1,1,0,0,0,0,1]) (iQ s0 a b s1 s2 s7 c d s8 s9 f (decide ((g:Int)<h)) (jq j 0 16 (ji f::js s7 c d::jn c::jb (decide ((f:Int)<(c:Nat)))::jb true::js s7 c d::ji f::jp ad::jp ad::ji g::jp s9::ji h::jb (decide ((g:Int)<h))::jq j 30 34 []))) (seqQ (λenv w=>W prog (sub (aA f113) [1,1,0,1,0,0,1,0,0,1,1,0,0,0,1]) env (Qr prog f113 R QX) w) (Qr prog f113 R QX)) w1) else (W prog (sub (aA f113) [1,1,0,1,0,0,1,0,0,1,1,0,0,0,0,1]) (iQ s0 a b s1 s2 s7 c d s8 s9 f false (jq j 0 16 (ji f::js s7 c d::jn c::jb (decide ((f:Int)<(c:Nat)))::jb false::uq 8 (jq j 30 34 [])))) (seqQ (λenv w=>W prog (sub (aA f113) [1,1,0,1,0,0,1,0,0,1,1,0,0,0,1]) env (Qr prog f113 R QX) w) (Qr prog f113 R QX)) w1))):=by kernel_rfl
theorem pC (s0:Option Addr) (a b:Nat) (s1 s2:Int) (s7:Option Addr) (c d:Nat) (s8:Int) (f:Addr) (g:Int) (h:Bool) (j:LV) (QX:Exit→LV→World→Prop):W prog (sub (aA f113) [1,1,0,1,0,0,1,0,0,1,1,0,0,0,0,1]) (iQ s0 a b s1 s2 s7 c d s8 f g h j) (Qr prog f113 R QX) w=((bif h then (QX .normal (lm s0 a b s1 s2 s7 c d s8 f g (jq j 0 29 (jb h::jq j 29 34 []))) w) else (QX (.exit 2) (lp s0 a b s1 s2 s7 c d s8 f g (jq j 0 29 (jb h::jq j 29 34 []))) w))):=by kernel_rfl
theorem pD (s0:Option Addr) (a b:Nat) (s1 s2:Int) (s7:Option Addr) (c d:Nat) (s8:Int) (f:Addr) (g:Int) (j:LV) (QX:Exit→LV→World→Prop):W prog (sub (aA f113) [1,1,0,1,0,0,1,0,0,1,1,0,0,0,1]) (lm s0 a b s1 s2 s7 c d s8 f g j) (Qr prog f113 R QX) w=(QX .normal (fZ s0 a b s1 s2 s7 c d s8 f (i64.wrap (g+1)) (jq j 0 30 (ji g::ji (i64.wrap (g+1))::jq j 32 32 []))) w):=by kernel_rfl
theorem mT (env:LV) (w:World) (Q:Exit→LV→World→Prop):W prog (sub (aA f113) [1,1,0,1,0,0,1,0,0,1,1,1]) env Q w=W prog (sub (aA f113) [1,1,0,1,0,0,1,0,0,1,1,1,0]) env (seqQ (λenv w=>W prog (sub (aA f113) [1,1,0,1,0,0,1,0,0,1,1,1,1]) env Q w) Q) w:=by
 rw [show sub (aA f113) [1,1,0,1,0,0,1,0,0,1,1,1]=.seq (sub (aA f113) [1,1,0,1,0,0,1,0,0,1,1,1,0]) (sub (aA f113) [1,1,0,1,0,0,1,0,0,1,1,1,1]) by kernel_rfl]
 generalize sub (aA f113) [1,1,0,1,0,0,1,0,0,1,1,1,0]=a
 generalize sub (aA f113) [1,1,0,1,0,0,1,0,0,1,1,1,1]=b
 kernel_rfl
theorem pE (s0:Option Addr) (a b:Nat) (s1 s2:Int) (s7:Option Addr) (c d:Nat) (s8:Int) (f:Addr) (g:Int) (j:LV) (QX:Exit→LV→World→Prop):W prog (sub (aA f113) [1,1,0,1,0,0,1,0,0,1,1,1,0]) (lp s0 a b s1 s2 s7 c d s8 f g j) (Qr prog f113 R QX) w=(∀ w1,w1=w.drew→∃ Sx:World→Prop,Sx w1∧(bif (decide ((g:Int)<(c:Nat))) then (idxS s7 c g 9 λad=>∃ h,(∀ u,Sx u→u.cell? ad=some (.int .i64 h))∧∃ i,(∀ u,Sx u→u.cell? f=some (.int .i64 i))∧(bif ((h:Int) == i) then (W prog (sub (aA f113) [1,1,0,1,0,0,1,0,0,1,1,1,0,1]) (gA s0 a b s1 s2 s7 c d s8 f g true (jq j 0 32 (ji g::js s7 c d::jn c::jb (decide ((g:Int)<(c:Nat)))::jb true::js s7 c d::ji g::jp ad::jp ad::ji h::jp f::ji i::jb ((h:Int) == i)::jb ((h:Int) == i)::jb true::uq 4 (jq j 52 12 [])))) (Qr prog f113 R QX) w1) else (W prog (sub (aA f113) [1,1,0,1,0,0,1,0,0,1,1,1,0,1]) (gA s0 a b s1 s2 s7 c d s8 f g (decide (((c:Nat):Int)≥s2)) (jq j 0 32 (ji g::js s7 c d::jn c::jb (decide ((g:Int)<(c:Nat)))::jb true::js s7 c d::ji g::jp ad::jp ad::ji h::jp f::ji i::jb ((h:Int) == i)::jb ((h:Int) == i)::jb false::js s7 c d::jn c::ji s2::jb (decide (((c:Nat):Int)≥s2))::jq j 52 12 []))) (Qr prog f113 R QX) w1))) else (W prog (sub (aA f113) [1,1,0,1,0,0,1,0,0,1,1,1,0,1]) (gA s0 a b s1 s2 s7 c d s8 f g (decide (((c:Nat):Int)≥s2)) (jq j 0 32 (ji g::js s7 c d::jn c::jb (decide ((g:Int)<(c:Nat)))::jb false::uq 8 (jb false::jb false::js s7 c d::jn c::ji s2::jb (decide (((c:Nat):Int)≥s2))::jq j 52 12 [])))) (Qr prog f113 R QX) w1))):=by kernel_rfl
theorem pF (s0:Option Addr) (a b:Nat) (s1 s2:Int) (s7:Option Addr) (c d:Nat) (s8:Int) (f:Addr) (g:Int) (h:Bool) (j:LV) (QX:Exit→LV→World→Prop):W prog (sub (aA f113) [1,1,0,1,0,0,1,0,0,1,1,1,0,1]) (gA s0 a b s1 s2 s7 c d s8 f g h j) (Qr prog f113 R QX) w=((bif h then (QX (.exit 1) (gB s0 a b s1 s2 s7 c d s8 (jq j 0 4 (jp f::ji g::jq j 4 47 (jb h::jq j 51 12 [])))) w) else (QX .normal (lq s0 a b s1 s2 s7 c d s8 f g (jq j 0 51 (jb h::jq j 51 12 []))) w))):=by kernel_rfl
theorem gP (s0:Option Addr) (a b:Nat) (s1 s2:Int) (s7:Option Addr) (c d:Nat) (s8:Int) (j:LV) (QX:Exit→LV→World→Prop):W prog (sub (aA f113) [1,1,0,1,0,0,1,1]) (gB s0 a b s1 s2 s7 c d s8 j) (Qr prog f113 R QX) w=(QX .normal (dV s0 a b s1 s2 s7 c d (i64.wrap (s8+1)) (jq j 0 10 (ji s8::ji (i64.wrap (s8+1))::jq j 12 54 []))) w):=by kernel_rfl
theorem pG (s0:Option Addr) (a b:Nat) (s1 s2:Int) (s7:Option Addr) (c d:Nat) (s8:Int) (f:Addr) (g:Int) (j:LV) (QX:Exit→LV→World→Prop):W prog (sub (aA f113) [1,1,0,1,0,0,1,0,0,1,1,1,1]) (lq s0 a b s1 s2 s7 c d s8 f g j) (Qr prog f113 R QX) w=(∀ w1,w1=w.drew→∃ Sx:World→Prop,Sx w1∧sl3 s7 c d 0 g (d:Nat) 9 λxa xl xc=>aP.ex λr=>(∀ u,Sx u→aH u f 0 r.cells)∧sl3 s7 c d g (c:Nat) (d:Nat) 9 λac ad ae=>(∃ (ap:Option Addr) (h i:Nat),∃ w2,(Builtin.append_ #[62,62] 62 #[.slice none 0 0,.slice xa xl xc]).run prog w1=.ok (.slice ap h i) w2∧Sx w2∧∀ b1 w3,b1=w2.heap.size→w3=w2.alloc (.cells r.cells.toArray 140)→Sx w3∧∃ (k:Option Addr) (l m:Nat),∃ w4,(Builtin.append_ #[62,62] 62 #[.slice ap h i,.slice (some ⟨b1,0,none⟩) 1 1]).run prog w3=.ok (.slice k l m) w4∧Sx w4∧∃ (n:Option Addr) (o p:Nat),∃ w5,(Builtin.append_ #[62,62] 62 #[.slice k l m,.slice ac ad ae]).run prog w4=.ok (.slice n o p) w5∧Sx w5∧QX .normal (gB s0 a b s1 s2 n o p s8 (jq j 0 4 (jp f::ji g::jq j 4 48 [js s7 c d,ji g,js xa xl xc,js ap h i,r.val,js (some ⟨b1,0,none⟩) 1 1,js k l m,js s7 c d,ji g,js ac ad ae,js n o p,jg j 63]))) w5)∧(∀ b2 w6,b2=w1.heap.size→w6=w1.alloc (.cells r.cells.toArray 140)→Sx w6∧∃ (q:Option Addr) (s t:Nat),∃ w7,(Builtin.append_ #[62,62] 62 #[.slice none 0 0,.slice xa xl xc]).run prog w6=.ok (.slice q s t) w7∧Sx w7∧∃ (v:Option Addr) (x y:Nat),∃ w8,(Builtin.append_ #[62,62] 62 #[.slice q s t,.slice (some ⟨b2,0,none⟩) 1 1]).run prog w7=.ok (.slice v x y) w8∧Sx w8∧∃ (z:Option Addr) (aa ab:Nat),∃ w9,(Builtin.append_ #[62,62] 62 #[.slice v x y,.slice ac ad ae]).run prog w8=.ok (.slice z aa ab) w9∧Sx w9∧QX .normal (gB s0 a b s1 s2 z aa ab s8 (jq j 0 4 (jp f::ji g::jq j 4 48 [js s7 c d,ji g,js xa xl xc,js q s t,r.val,js (some ⟨b2,0,none⟩) 1 1,js v x y,js s7 c d,ji g,js ac ad ae,js z aa ab,jg j 63]))) w9)):=by kernel_rfl
theorem sn (p0:Int):fnW prog f119 [.int .i64 p0] R w=((bif (decide ((p0:Int)≥0)) then (R (.bool (decide ((p0:Int)<6))) w) else (R (.bool false) w))):=by kernel_rfl
def ef (s1:Int) (s2:Addr) (s5:Int) (j:LV):LV:=jq j 0 1 (.int .i64 s1::.pointer (some s2)::jq j 1 2 (.int .i64 s5::jq j 3 94 []))
def iR (a:Addr) (j:LV):LV:=jq j 0 2 (.pointer (some a)::jq j 2 97 [])
def cU (s2:Addr) (s6:Int) (j:LV):LV:=jq j 0 2 (.pointer (some s2)::jq j 2 3 (.int .i64 s6::jq j 5 93 []))
def iS  (j:LV):LV:=jq j 0 100 []
theorem oL (p0:aO) (p1:Int):fnW prog f146 [p0.val,.int .i64 p1] R w=(∀ b1 w1,b1=w.heap.size→w1=w.alloc (.cells p0.cells.toArray 210)→(bif (decide ((p1:Int)<98)) then (R (.int .i64 18) w1) else ((bif (decide ((p1:Int)>256)) then (R (.int .i64 18) w1) else (∃ a,w1.cell? ⟨b1,0,none⟩=some (.int .i64 a)∧(bif (decide ((a:Int)<1)) then (R (.int .i64 1) w1) else (∃ b,w1.cell? ⟨b1,0,none⟩=some (.int .i64 b)∧(bif (decide ((b:Int)≥1073741824)) then (R (.int .i64 1) w1) else (∃ c d f,w1.cell? ⟨b1,1,none⟩=some (.slice c d f)∧(bif (decide (((d:Nat):Int)<1)) then (R (.int .i64 1) w1) else (∃ g h i,w1.cell? ⟨b1,1,none⟩=some (.slice g h i)∧(bif (decide (((h:Nat):Int)>12)) then (R (.int .i64 1) w1) else (bT prog (.loop (sub (aA f146) [1,1,1,0,1,0,0])) (ef p1 ⟨b1,0,none⟩ 0 (p0.val::undef::ji 0::uq 3 (ji p1::jb (decide ((p1:Int)<98))::jb false::ji p1::jb (decide ((p1:Int)>256))::jb (decide ((p1:Int)>256))::jp ⟨b1,0,none⟩::ji a::jb (decide ((a:Int)<1))::jb false::jp ⟨b1,0,none⟩::ji b::jb (decide ((b:Int)≥1073741824))::jb (decide ((b:Int)≥1073741824))::jb false::jp ⟨b1,1,none⟩::js c d f::jn d::jb (decide (((d:Nat):Int)<1))::jb (decide (((d:Nat):Int)<1))::jb false::jp ⟨b1,1,none⟩::js g h i::jn h::jb (decide (((h:Nat):Int)>12))::jb (decide (((h:Nat):Int)>12))::uq 65 []))) (aI 0 (nx f146 [1,1,1,1] R)) w1))))))))))))):=by kernel_rfl
theorem jW (s1:Int) (s2:Addr) (s5:Int) (j:LV) (N1:LV→World→Prop):W prog (sub (aA f146) [1,1,1,0,1,0,0]) (ef s1 s2 s5 j) (seqQ N1 (aI 0 (nx f146 [1,1,1,1] R))) w=(∃ a b c,w.cell? ⟨s2.block,s2.off+1,none⟩=some (.slice a b c)∧(bif (decide ((s5:Int)<(b:Nat))) then (∃ d f g,w.cell? ⟨s2.block,s2.off+1,none⟩=some (.slice d f g)∧idxS d f s5 9 λad=>∃ h,w.cell? ad=some (.int .i64 h)∧Calls prog 109 #[.int .i64 h,.int .i64 s1] w λe w1=>∃ i,e=.returned (.bool i)∧(bif (!i) then (R (.int .i64 2) w1) else (N1 (ef s1 s2 (i64.wrap (s5+1)) (jq j 0 32 (ji s5::jf s2 1::js a b c::jn b::jb (decide ((s5:Int)<(b:Nat)))::ji s5::ji (i64.wrap (s5+1))::jf s2 1::js d f g::ji s5::jp ad::jp ad::ji h::ji s1::jb i::jb (!i)::jq j 48 49 []))) w1))) else (W prog (sub (aA f146) [1,1,1,1]) (iR s2 (jg j 0::ji s1::jg j 1::jg j 2::ji s5::jq j 3 29 (ji s5::jf s2 1::js a b c::jn b::jb (decide ((s5:Int)<(b:Nat)))::jq j 37 60 []))) (retQ prog f146 R) w))):=by kernel_rfl
theorem lr (a:Addr) (j:LV):W prog (sub (aA f146) [1,1,1,1]) (iR a j) (retQ prog f146 R) w=(bT prog (.loop (sub (aA f146) [1,1,1,1,0,1,0,0])) (cU a 0 (jq j 0 5 (jq j 6 93 []))) (aI 2 (nx f146 [1,1,1,1,1] R)) w):=by kernel_rfl
set_option maxHeartbeats 4000000 in
theorem jX (s2:Addr) (s6:Int) (j:LV) (N2:LV→World→Prop):W prog (sub (aA f146) [1,1,1,1,0,1,0,0]) (cU s2 s6 j) (seqQ N2 (aI 2 (nx f146 [1,1,1,1,1] R))) w=(∃ a b c,w.cell? ⟨s2.block,s2.off+1,none⟩=some (.slice a b c)∧(bif (decide ((s6:Int)<(b:Nat))) then (∃ d f g,w.cell? ⟨s2.block,s2.off+1,none⟩=some (.slice d f g)∧idxS d f s6 9 λad=>∃ h,w.cell? ⟨ad.block,ad.off+1,none⟩=some (.int .u64 h)∧Calls prog 174 #[.int .u64 h] w λe w1=>∃ (i k:Int),e=.returned (.tuple #[.int .u64 i,.int .i64 k])∧∀ w2,w2=w1.drew→∃ Sx:World→Prop,Sx w2∧(bif (decide ((s6:Int)>0)) then (∃ l m n,(∀ u,Sx u→u.cell? ⟨s2.block,s2.off+1,none⟩=some (.slice l m n))∧idxS l m (i64.wrap (s6 - 1)) 9 λag=>∃ o,(∀ u,Sx u→u.cell? ag=some (.int .i64 o))∧∃ p q r,(∀ u,Sx u→u.cell? ⟨s2.block,s2.off+1,none⟩=some (.slice p q r))∧idxS p q s6 9 λah=>∃ s,(∀ u,Sx u→u.cell? ah=some (.int .i64 s))∧(bif (decide ((o:Int)≥s)) then (R (.int .i64 1) w2) else (∃ t v x,(∀ u,Sx u→u.cell? ⟨s2.block,s2.off+1,none⟩=some (.slice t v x))∧idxS t v s6 9 λai=>∃ y,(∀ u,Sx u→u.cell? ⟨ai.block,ai.off+1,none⟩=some (.int .u64 y))∧Calls prog 175 #[.int .u64 y] w2 λe w3=>∃ (z:Bool),e=.returned (.bool z)∧Sx w3∧(bif (!z) then (R (.int .i64 1) w3) else ((bif ((k:Int) != 0) then (R (.int .i64 1) w3) else (N2 (cU s2 (i64.wrap (s6+1)) (jq j 0 5 (ju i::ji k::jq j 7 42 [ji s6,jf s2 1,js a b c,jn b,jb (decide ((s6:Int)<(b:Nat))),ji s6,ji (i64.wrap (s6+1)),.tuple #[.int .u64 i,.int .i64 k],jf s2 1,js d f g,ji s6,jp ad,jf ad 1,ju h,.tuple #[.int .u64 i,.int .i64 k],ju i,ji k,ji s6,jb (decide ((s6:Int)>0)),jb true,jf s2 1,js l m n,ji s6,ji (i64.wrap (s6 - 1)),jp ag,jp ag,ji o,jf s2 1,js p q r,ji s6,jp ah,jp ah,ji s,jb (decide ((o:Int)≥s)),jb (decide ((o:Int)≥s)),jb false,jf s2 1,js t v x,ji s6,jp ai,jf ai 1,ju y,jb z,jb (!z),jb (!z),jb false,ji k,jb ((k:Int) != 0),jb ((k:Int) != 0)]))) w3))))))) else (∃ aa ab ac,(∀ u,Sx u→u.cell? ⟨s2.block,s2.off+1,none⟩=some (.slice aa ab ac))∧idxS aa ab s6 9 λaj=>∃ ae,(∀ u,Sx u→u.cell? ⟨aj.block,aj.off+1,none⟩=some (.int .u64 ae))∧Calls prog 175 #[.int .u64 ae] w2 λe w4=>∃ (af:Bool),e=.returned (.bool af)∧Sx w4∧(bif (!af) then (R (.int .i64 1) w4) else ((bif ((k:Int) != 0) then (R (.int .i64 1) w4) else (N2 (cU s2 (i64.wrap (s6+1)) (jq j 0 5 (ju i::ji k::jq j 7 42 (ji s6::jf s2 1::js a b c::jn b::jb (decide ((s6:Int)<(b:Nat)))::ji s6::ji (i64.wrap (s6+1))::.tuple #[.int .u64 i,.int .i64 k]::jf s2 1::js d f g::ji s6::jp ad::jf ad 1::ju h::.tuple #[.int .u64 i,.int .i64 k]::ju i::ji k::ji s6::jb (decide ((s6:Int)>0))::jb false::uq 14 [jb false,jb false,jf s2 1,js aa ab ac,ji s6,jp aj,jf aj 1,ju ae,jb af,jb (!af),jb (!af),jb false,ji k,jb ((k:Int) != 0),jb ((k:Int) != 0)])))) w4))))))) else (W prog (sub (aA f146) [1,1,1,1,1]) (iS  (jg j 0::jg j 1::jp s2::jg j 2::jg j 3::jg j 4::ji s6::jq j 5 44 (ji s6::jf s2 1::js a b c::jn b::jb (decide ((s6:Int)<(b:Nat)))::jq j 54 44 []))) (retQ prog f146 R) w))):=by kernel_rfl
theorem lu  (j:LV):W prog (sub (aA f146) [1,1,1,1,1]) (iS  j) (retQ prog f146 R) w=(R (.int .i64 0) w):=by kernel_rfl
theorem tC (p0:Int):fnW prog f174 [.int .u64 p0] R w=((bif (decide (((bshr .u64 p0 8):Int)<1)) then (R (.tuple #[.int .u64 0,.int .i64 2]) w) else ((bif (decide (((u64.wrap ((bshr .u64 p0 8)+1)):Int)≥281474976710656)) then (R (.tuple #[.int .u64 0,.int .i64 2]) w) else (R (.tuple #[.int .u64 (bshl .u64 (u64.wrap ((bshr .u64 p0 8)+1)) 8),.int .i64 0]) w))))):=by kernel_rfl
theorem qM (p0:Int):fnW prog f175 [.int .u64 p0] R w=(R (.bool (((band .u64 p0 255):Int) == 0)) w):=by kernel_rfl
end Go.Proofs.YtafopfaomkklpaaGreat
