/- This claim proves that the law DiscoverJudges returns true for every input: replies are judged as the reference judges them. -/
import Derived.Test.YtafopfaomkklpaaGreatp03
import Derived.Test.YtafopfaomkklpaaGreatp04
import Derived.Test.YtafopfaomkklpaaGreatProg
set_option linter.unusedVariables false
namespace Go.Proofs.YtafopfaomkklpaaGreat
open Go.Proofs.Tryz
open Go.Eng
abbrev NoM:Nat→Prop:=λ_=>False
theorem Gz (a:Option Addr):Off NoM a:=by cases a with
 |none=>exact trivial
 |some a=>exact id
theorem qq {x n:Int} (hn:1≤n):0≤(if n<1 then 0 else x % n)∧(if n<1 then 0 else x % n)<n:=by
 rw [if_neg (by omega)]
 exact ⟨Int.emod_nonneg x (by omega),Int.emod_lt_of_pos x (by omega)⟩
structure FC (v:Vw):Prop where
 num:0≤v.number∧v.number<16
 boot:∀ m ∈ v.mem,1≤m.Boot
 ne:v.mem≠[]
 few:v.mem.length≤5
abbrev Er (A:Nat):Nat→Prop:=λk=>k<A
theorem GA {w:World} {n:Int} {a:Option Addr} {c A:Nat} {L:List aB} (ho:Owns w TMb 3 a L.length c (jL L).flatten) (hl:L.length≤1000000) (hf:∀ k,isB a k→A≤k):eO (Er A) w ⟨n,a,L.length,c⟩ ⟨n,L⟩:=
 ⟨rfl,rfl,ho.le,ho.rd,xj ho.rd λk hk h=>Nat.lt_irrefl _ (Nat.lt_of_lt_of_le h (hf k hk)),hl⟩
theorem zu {u:World} {b1 b2:Nat} {r:aF} {zs:List Value} (h1:Blk u b1 zs TVw) (hl:zs.length=2) (h2:Blk u b2 r.cells TVw) {K:aF→World→Prop} (hk:∀ w',Keep (λk=>k=b1) u w'→K r w') :
  aF.ex λr=>aG u ⟨b2,0,none⟩ 0 r.cells∧wrAt u ⟨b1,0,none⟩ 0 r.cells∧∀ w4,w4=puts u ⟨b1,0,none⟩ 0 r.cells→aF.ex λres=>aG w4 ⟨b1,0,none⟩ 0 res.cells∧w4=w4∧K res w4:=by
 refine aF.mk_ex r ⟨aN h2 rfl,eQ h1 (by rw [hl];exact Nat.le_refl _) (aF.single _),λw4 hw=>?_⟩
 have hk4:Keep (λk=>k=b1) u w4:=by rw [hw];exact dO _ _ _ _ _
 have hz:Blk w4 b1 r.cells TVw:=by
  rw [hw]
  have:=h1.puts (o:=0) (i:=0) (vs:=r.cells)
  rw [Nat.add_zero,oC (by rw [hl];rfl)] at this
  exact this
 exact aF.mk_ex r ⟨aN hz rfl,rfl,hk w4 hk4⟩
theorem FD {u:World} {b2 bm:Nat} {num:Int} {a:Option Addr} {n c:Nat} {L:List aB} (h2:Blk u b2 (aF.cells ⟨num,a,n,c⟩) TVw) (hown:Owns u TMb 3 a n c (jL L).flatten) (hn:n=L.length) (hfr:∀ k,isB a k→b2<k) {m:aB} (hm:Blk u bm m.cells TMb) (hb:n≤1000000)
  {K:Option Addr→Nat→Nat→aB→Nat→Option Addr→Nat→Nat→World→Prop}
  (hk:∀ x b3 ap cap w9,Blk w9 b2 (aF.cells ⟨num,ap,n+1,cap⟩) TVw→Owns w9 TMb 3 ap (n+1) cap (jL (L++[m])).flatten→Keep (λk=>k=b2∨isB a k) u w9→(∀ k,isB ap k→b2<k)→K a n c x b3 ap (n+1) cap w9) :
  ∃ (Mm:Option Addr) (Ml Mc:Nat),u.cell? ⟨b2,0+1,none⟩=some (.slice Mm Ml Mc)∧aB.ex λr=>aG u ⟨bm,0,none⟩ 0 r.cells∧∀ b3 w7,b3=u.heap.size→w7=u.alloc (.cells r.cells.toArray TMb)→∃ (ap:Option Addr) (al ac:Nat),∃ w8,(Builtin.append_ #[TSM,TSM] TSM #[(.slice Mm Ml Mc),(.slice (some ⟨b3,0,none⟩) 1 1)]).run prog w7=.ok (.slice ap al ac) w8∧
   (∃ x,w8.cell? ⟨b2,0+1,none⟩=some x)∧w8.frozen? ⟨b2,0+1,none⟩=false∧∀ w9,w9=w8.setCell ⟨b2,0+1,none⟩ (.slice ap al ac)→K Mm Ml Mc r b3 ap al ac w9:=by
 refine ⟨a,n,c,h2.cell (i:=1) rfl,aB.mk_ex m ⟨aN hm rfl,?_⟩⟩
 refine Bd hown hn hb ?_
 intro b3 ap cap u3 hb3 ho3 hk3 hap
 have hu23:=hk3.blk h2 λe=>by have:=hfr b2 e;omega
 have hus:=h2.lt
 have hfr3:∀ k,isB ap k→b2<k:=λk hk=>by
  rcases hap k hk with h1 | h1
  ·exact hfr k h1
  ·omega
 refine xi (b:=b2) hu23 (o:=0+1) (by simp [aF.cells]) λu4 hu24 hk4=>?_
 refine hk m b3 ap cap u4 hu24 ?_ (((hk3.mono λ_ _ h=>.inr h).trans hk4 λ_ _ h=>.inl h)) hfr3
 exact Owns.keep hk4 ho3 λk hk e=>by have:=hfr3 k hk;omega
set_option maxHeartbeats 1000000 in
theorem yu (w:World) {number mask full n:Int} {a3:Option Addr} {n3 c3:Nat} {boots:List Int} (h1:I64 number) (h2:I64 mask) (h3:I64 full) (hr:Rd w a3 (is boots)) (hb:n3=boots.length) (hbs:boots.length≤1000) (hbi:∀ x ∈ boots,I64 x) (hn:1≤n) (hn5:n≤5) :
  Does 58 [.int .i64 number,.int .i64 mask,.int .i64 full,.slice a3 n3 c3,.int .i64 n] w λx w'=>∃ r v,x=aF.val r∧eO (Er w.heap.size) w' r v∧New w w'∧FC v:=by
 refine does Tryz.func58 ?_
 rw [sr]
 rintro b1 w1 hb1 hw1
 obtain ⟨hz1,hn1⟩:=aW hb1 hw1
 have hz1:Blk w1 b1 (aF.cells ⟨0,none,0,0⟩) TVw:=hz1
 clear hw1
 refine aH (fO w1 number 16 h1 (by omega)) ?_
 rintro v w2 ⟨rfl,rfl⟩
 have hnum:=qq (x:=number) (n:=16) (by omega)
 generalize (if (16:Int)<1 then 0 else number % 16)=num at hnum
 refine ⟨_,rfl,?_⟩
 refine mg (vs:=aF.cells ⟨num,none,0,0⟩) rfl (aF.single _) λb2 w3 hb2 hz3 hn3=>?_
 have hz13:=New.blk hn3 hz1
 have hn03:=hn1.new hn3
 have hs1:=hn1.size
 have hs1':=hz1.lt
 refine aS mix (λm env u=>∃ (i:Nat) (any:Bool) (a:Option Addr) (nn c:Nat) (L:List aB) (jj:List Value),m=n.toNat - i∧i≤n.toNat∧env=bX mask full a3 n3 c3 n ⟨b1,0,none⟩ ⟨b2,0,none⟩ any i jj∧New w u∧Blk u b1 (aF.cells ⟨0,none,0,0⟩) TVw∧Blk u b2 (aF.cells ⟨num,a,nn,c⟩) TVw∧Owns u TMb 3 a nn c (jL L).flatten∧(∀ k,isB a k→b2<k)∧(∀ m ∈ L,1≤m.Boot)∧nn=L.length∧L.length≤i) n.toNat
  ⟨0,false,none,0,0,[],_,by omega,by omega,rfl,hn03,hz13,hz3,Owns.nil _ _ _,(λk hk=>by obtain ⟨o,ho⟩:=hk;cases ho),by simp,rfl,by simp⟩ ?_
 rintro m env u ⟨i,any,a,nn,c,L,jj,rfl,hi,rfl,hnu,hu1,hu2,hown,hfr,hbt,rfl,hLi⟩
 rw [mU]
 refine aE (λhq=>?_) (λhq=>?_)
 ·refine aH (fO u mask 32 h2 (by omega)) ?_
  rintro v u2 ⟨rfl,rfl⟩
  have hwi:IntKind.u64.wrap (i:Int)=i:=xg (by omega) (by omega)
  refine ⟨_,rfl,by rw [hwi];omega,bI (λhe=>?_) (λhe=>?_)⟩
  ·rw [w64 (by omega) (by omega)]
   exact ⟨n.toNat - (i+1),by omega,i+1,any,a,L.length,c,L,_,rfl,by omega,rfl,hnu,hu1,hu2,hown,hfr,hbt,rfl,by omega⟩
  ·refine aH (fO u2 full 32 h3 (by omega)) ?_
   rintro v u3 ⟨rfl,rfl⟩
   refine ⟨_,rfl,by rw [hwi];omega,?_⟩
   generalize (band IntKind.i64 (bshr IntKind.i64 (if (32:Int)<1 then 0 else full % 32) (IntKind.u64.wrap (i:Int))) 1 == 1)=fl
   refine mg (vs:=aB.cells ⟨i,1,fl⟩) rfl (aB.single _) λbm u4 hbm hzm hn4=>?_
   have hu14:=New.blk hn4 hu1
   have hu24:=New.blk hn4 hu2
   have hown4:=Owns.new hn4 hown
   have hus:=hu2.lt
   have hus1:=hu1.lt
   have hnu4:=hnu.new hn4
   have next:∀ (any':Bool) (bt:Int) (u5:World) (jj':Option Addr→Nat→Nat→aB→Nat→Option Addr→Nat→Nat→List Value),1≤bt→Blk u5 bm (aB.cells ⟨i,bt,fl⟩) TMb→Keep (λk=>k=bm) u4 u5→
     ∃ (Mm:Option Addr) (Ml Mc:Nat),u5.cell? ⟨b2,0+1,none⟩=some (.slice Mm Ml Mc)∧aB.ex λr=>aG u5 ⟨bm,0,none⟩ 0 r.cells∧∀ b3 w7,b3=u5.heap.size→w7=u5.alloc (.cells r.cells.toArray TMb)→∃ (ap:Option Addr) (al ac:Nat),∃ w8,(Builtin.append_ #[TSM,TSM] TSM #[(.slice Mm Ml Mc),(.slice (some ⟨b3,0,none⟩) 1 1)]).run prog w7=.ok (.slice ap al ac) w8∧
      (∃ x,w8.cell? ⟨b2,0+1,none⟩=some x)∧w8.frozen? ⟨b2,0+1,none⟩=false∧∀ w9,w9=w8.setCell ⟨b2,0+1,none⟩ (.slice ap al ac)→∃ m',m'<n.toNat - i∧∃ (i':Nat) (any'':Bool) (a:Option Addr) (nn c:Nat) (L:List aB) (jj:List Value),m'=n.toNat - i'∧i'≤n.toNat∧bX mask full a3 n3 c3 n ⟨b1,0,none⟩ ⟨b2,0,none⟩ any' (IntKind.i64.wrap ((i:Int)+1)) (jj' Mm Ml Mc r b3 ap al ac)=bX mask full a3 n3 c3 n ⟨b1,0,none⟩ ⟨b2,0,none⟩ any'' i' jj∧New w w9∧Blk w9 b1 (aF.cells ⟨0,none,0,0⟩) TVw∧Blk w9 b2 (aF.cells ⟨num,a,nn,c⟩) TVw∧Owns w9 TMb 3 a nn c (jL L).flatten∧(∀ k,isB a k→b2<k)∧(∀ m ∈ L,1≤m.Boot)∧nn=L.length∧L.length≤i':=by
    intro any' bt u5 jj' hbt1 hzm5 hk5
    have hne:∀ k,k=bm→b2<k:=λk e=>by omega
    have hfr4:∀ k,isB a k→k≠bm:=λk hk e=>by
     have:=Owns.lt hown hk
     omega
    refine FD (hk5.blk hu24 (by omega)) (Owns.keep hk5 hown4 hfr4) rfl hfr hzm5 (by omega) ?_
    intro x b3 ap cap w9 hz9 ho9 hk9 hf9
    rw [w64 (by omega) (by omega)]
    refine ⟨n.toNat - (i+1),by omega,i+1,any',ap,L.length+1,cap,L++[⟨i,bt,fl⟩],_,rfl,by omega,rfl,?_,?_,hz9,ho9,hf9,?_,by simp,by simp;omega⟩
    ·refine (hnu4.trans hk5 λk hlt e=>by omega).trans hk9 λk hlt e=>?_
     rcases e with e | e
     ·omega
     ·have:=hfr k e;omega
    ·refine hk9.blk (hk5.blk hu14 (by omega)) λe=>?_
     rcases e with e | e
     ·omega
     ·have:=hfr b1 e;omega
    ·intro m hm
     rcases List.mem_append.1 hm with h | h
     ·exact hbt m h
     ·simp at h;subst h;exact hbt1
   refine aE (λhlt=>?_) (λhlt=>?_)
   ·have hil:i<boots.length:=by omega
    have hg:boots[i]?=some boots[i]:=List.getElem?_eq_getElem hil
    rcases hr.new hnu4 with he | ⟨b,o,ha3,hcell⟩
    ·have:boots=[]:=by simpa [is] using he
     rw [this] at hil
     simp at hil
    ·subst ha3
     refine bE (by omega) (by omega) ⟨boots[i],?_,?_⟩
     ·have:=hcell i (.int .i64 boots[i]) (by simp [is,hg])
      simpa using this
     refine aH (fO u4 boots[i] 31 (hbi _ (List.getElem_mem hil)) (by omega)) ?_
     rintro v u5 ⟨rfl,rfl⟩
     have hp:=qq (x:=boots[i]) (n:=31) (by omega)
     generalize (if (31:Int)<1 then 0 else boots[i] % 31)=p at hp
     refine ⟨_,rfl,?_⟩
     refine xi (b:=bm) hzm (o:=1) (by simp [aB.cells]) λu6 hzm6 hk6=>?_
     rw [w64 (x:=p+1) (by omega) (by omega)] at hzm6
     refine iS (λha=>?_) (λha=>⟨_,hzm6.cell (i:=2) rfl,?_⟩)
     ·exact next true (p+1) u6 _ (by omega) hzm6 hk6
     ·exact next fl (p+1) u6 _ (by omega) hzm6 hk6
   ·refine iS (λha=>?_) (λha=>⟨_,hzm.cell (i:=2) rfl,?_⟩)
    ·exact next true 1 u4 _ (by omega) hzm (Keep.refl _ _)
    ·exact next fl 1 u4 _ (by omega) hzm (Keep.refl _ _)
 ·rw [ph]
  have fin:∀ (r:aF) (L':List aB) (u' w':World),New w u'→r=⟨num,r.Members,L'.length,r.Members_c⟩→Owns u' TMb 3 r.Members L'.length r.Members_c (jL L').flatten→(∀ k,isB r.Members k→b2<k)→(∀ m ∈ L',1≤m.Boot)→L'≠[]→L'.length≤5→Keep (λk=>k=b1) u' w'→
    ∃ r' v,aF.val r=aF.val r'∧eO (Er w.heap.size) w' r' v∧New w w'∧FC v:=by
   intro r L' u' w' hn' hr' ho' hf' hb' hne' h5' hk'
   have ho2:=Owns.keep hk' ho' λk hk e=>by have:=hf' k hk;omega
   exact ⟨_,⟨num,L'⟩,by rw [hr'],GA (c:=r.Members_c) (a:=r.Members) ho2 (by omega) (λk hk=>by have:=hf' k hk;omega),hn'.trans hk' λk hlt e=>by omega,⟨hnum,hb',hne',h5'⟩⟩
  refine ⟨_,_,_,hu2.cell (i:=1) rfl,bI (λh0=>?_) (λh0=>?_)⟩
  ·rintro b4 w4 hb4 hw4
   obtain ⟨hz4,hn4⟩:=aW hb4 hw4
   have hz4:Blk w4 b4 (aB.cells ⟨0,1,false⟩) TMb:=hz4
   clear hw4
   have hus:=hu2.lt
   have hus1:=hu1.lt
   refine xi (b:=b2) (New.blk hn4 hu2) (o:=0+1) (by simp [aF.cells]) λu5 hu25 hk5=>?_
   have hu25:Blk u5 b2 (aF.cells ⟨num,some ⟨b4,0,none⟩,1,1⟩) TVw:=hu25
   have hz45:=hk5.blk hz4 (by omega)
   have hu15:=hk5.blk (New.blk hn4 hu1) (by omega)
   have hn5:New w u5:=(hnu.new hn4).trans hk5 λk hlt e=>by omega
   have hfr5:∀ k,isB (some ⟨b4,0,none⟩) k→b2<k:=λk hk=>by obtain ⟨o,ho⟩:=hk;simp at ho;omega
   refine qi (λha=>?_) (λha=>?_)
   ·refine ⟨some ⟨b4,0,none⟩,1,1,hu25.cell (i:=1) rfl,bE (by decide) (by decide) ?_⟩
    refine xi (b:=b4) hz45 (o:=0+Int.toNat 0 * 3+2) (by simp [aB.cells]) λu6 hz46 hk6=>?_
    have hz46:Blk u6 b4 (aB.cells ⟨0,1,true⟩) TMb:=hz46
    refine zu (hk6.blk hu15 (by omega)) rfl (hk6.blk hu25 (by omega)) λw' hk'=>?_
    exact fin ⟨num,some ⟨b4,0,none⟩,1,1⟩ [⟨0,1,true⟩] u6 w' (hn5.trans hk6 λk hlt e=>by omega) rfl ⟨rfl,.inr ⟨b4,_,rfl,hz46,Nat.le_refl _,by simp [maxLen],rfl,rfl⟩⟩ hfr5 (by simp) (by simp) (by simp) hk'
   ·refine zu hu15 rfl hu25 λw' hk'=>?_
    exact fin ⟨num,some ⟨b4,0,none⟩,1,1⟩ [⟨0,1,false⟩] u5 w' hn5 rfl ⟨rfl,.inr ⟨b4,_,rfl,hz45,Nat.le_refl _,by simp [maxLen],rfl,rfl⟩⟩ hfr5 (by simp) (by simp) (by simp) hk'
  ·have hne:L≠[]:=λe=>by subst e;simp at h0
   refine qi (λha=>?_) (λha=>?_)
   ·refine ⟨_,_,_,hu2.cell (i:=1) rfl,?_⟩
    rcases hown.2 with ⟨_,e,_⟩ | ⟨g,cur,rfl,hg,hnc,hcm,hcl,htk⟩
    ·exact absurd (List.eq_nil_of_length_eq_zero e) hne
    ·have hpos:0<L.length:=List.length_pos_iff.2 hne
     refine bE (by omega) (by omega) ?_
     have hlt:2<cur.length:=by omega
     have e2:0+Int.toNat 0 * 3+2=2:=rfl
     have hcell:u.cell? ⟨g,0+Int.toNat 0 * 3+2,none⟩=some cur[2]:=hg.cell (List.getElem?_eq_getElem hlt)
     refine ⟨⟨_,hcell⟩,hg.frozen,λu6 hu6=>?_⟩
     have hk6:Keep (λk=>k=g) u u6:=by rw [hu6];exact aQ _ _ _ _
     have ho6:=Owns.setCell hown (i:=2) (by omega) (.bool true)
     obtain ⟨m,L',rfl⟩:∃ m L',L=m::L':=by
      cases L with
      |nil=>exact absurd rfl hne
      |cons m L'=>exact ⟨m,L',rfl⟩
     have hset:(jL (m::L')).flatten.set 2 (.bool true)=(jL (⟨m.Node,m.Boot,true⟩::L')).flatten:=rfl
     rw [hset] at ho6
     have ho6:Owns u6 TMb 3 (some ⟨g,0,none⟩) (m::L').length c (jL (⟨m.Node,m.Boot,true⟩::L')).flatten:=by rw [hu6];exact ho6
     have hgb:b2<g:=hfr g ⟨0,rfl⟩
     refine zu (hk6.blk hu1 (by omega)) rfl (hk6.blk hu2 (by omega)) λw' hk'=>?_
     refine fin ⟨num,some ⟨g,0,none⟩,(m::L').length,c⟩ (⟨m.Node,m.Boot,true⟩::L') u6 w' (hnu.trans hk6 λk hlt e=>by omega) rfl ho6 hfr (λx hx=>?_) (by simp) (by simp at hLi ⊢;omega) hk'
     rcases List.mem_cons.1 hx with rfl | hx
     ·exact hbt m (by simp)
     ·exact hbt x (List.mem_cons_of_mem _ hx)
   ·refine zu hu1 rfl hu2 λw' hk'=>?_
    exact fin ⟨num,a,L.length,c⟩ L u w' hnu rfl hown hfr hbt hne (by omega) hk'
end Go.Proofs.YtafopfaomkklpaaGreat
namespace Go.Proofs.YtafopfaomkklpaaGreat
open Go.Eng
end Go.Proofs.YtafopfaomkklpaaGreat
namespace Go.Proofs.YtafopfaomkklpaaGreat
open Go.Proofs.Tryz
open Go.ChangeShapes Go.WideShapes Go.ChangeAt Go.RowKit Go.Eng
section
variable {H:Type} {enc:TypeId×Value→H} {W:World} {held:Bool}
theorem len2 {cs:List Value} (h:cs.length=2):∃ a b,cs=[a,b]:=by
 match cs,h with
 | [a,b],_=>exact ⟨a,b,rfl⟩
theorem fld {P:Program} {fs:Array Field} {xs:List (DataW H×List MemPlace)} {cs:List Value} {n:Nat} (hfs:∀ (i:Nat) (f:Field),fs[i]?=some f→DataW.trod enc P W 0 (λ_=>true) held n f.type ((cs.drop f.offset).take (P.cellsOf f.type))=xs[i]?) (hlen:xs.length=fs.size) (i T off k:Nat) (h:(fs[i]?.map λf=>(f.type,f.offset))=some (T,off)) (hk:P.cellsOf T=k) :
  ∃ x,DataW.trod enc P W 0 (λ_=>true) held n T ((cs.drop off).take k)=some x:=by
 cases hf:fs[i]? with
 |none=>rw [hf] at h;cases h
 |some f=>
  rw [hf] at h
  simp at h
  obtain ⟨rfl,rfl⟩:=h
  subst hk
  have hi:i<xs.length:=by rw [hlen];exact (Array.getElem?_eq_some_iff.1 hf).1
  have:=hfs i f hf
  rw [List.getElem?_eq_getElem hi] at this
  exact ⟨_,this⟩
abbrev TIo:TypeId:=3
theorem cI:prog.cellsOf TIo=1:=by kernel_rfl
theorem zv {P:Program} {e:TypeId} (he:P.underlying e=some (.int .u64)):∀ rows:List (List Value),(∀ r ∈ rows,∃ fuel x,DataW.trod enc P W 0 (λ_=>true) held fuel e r=some x)→∃ xs:List Int,rows.length=xs.length∧rows.flatten=us xs∧∀ x ∈ xs,U64 x
 | [],_=>⟨[],rfl,rfl,λx hx=>by cases hx⟩
 |r::rows,h=>by
  obtain ⟨fuel,x,hx⟩:=h r List.mem_cons_self
  obtain ⟨n,rfl,_,w⟩:=DataW.trod_int he hx
  obtain ⟨xs,g1,g2,g3⟩:=zv he rows λr hr=>h r (List.mem_cons_of_mem _ hr)
  refine ⟨n::xs,by simp [g1],by simp [us,g2],λx hx=>?_⟩
  rcases List.mem_cons.1 hx with rfl | hx
  ·exact D2 w
  ·exact g3 x hx
end
end Go.Proofs.YtafopfaomkklpaaGreat
namespace Go.Proofs.YtafopfaomkklpaaGreat
open Go.Proofs.Tryz
open Go.Eng IntKind
variable (w:World) (R:Value→World→Prop)
theorem rh (p0 p1:Int):fnW prog f109 [.int .i64 p0,.int .i64 p1] R w=((bif (decide ((p1:Int)≥98)) then ((bif (decide ((p1:Int)≤256)) then ((bif (decide ((p0:Int)≥96)) then (R (.bool (decide ((p0:Int)<p1))) w) else (R (.bool false) w))) else (R (.bool false) w))) else (R (.bool false) w))):=by kernel_rfl
end Go.Proofs.YtafopfaomkklpaaGreat
namespace Go.Proofs.YtafopfaomkklpaaGreat
open Go.Eng
theorem rd_i {u:World} {a:Option Addr} {l:List Int} (h:Rd u a (is l)) {i:Nat} {x:Int} (hx:l[i]?=some x) {z:Int} (hz:z=i) {n:Nat} (hn:n=l.length) {K:Addr→Prop}
  (hk:∀ b o,(∀ y,New u y→y.cell? ⟨b,o,none⟩=some (.int .i64 x))→K ⟨b,o,none⟩):idxS a n z 1 K:=by
 subst hz hn
 have hlt:=dH hx
 have hxx:(is l)[i]?=some (.int .i64 x):=by simp [is,hx]
 rcases h with he | ⟨b,o,rfl,hc⟩
 ·rw [he] at hxx;cases hxx
 ·refine bE (by omega) (by omega) ?_
  have:=hk b (o+i) λy hy=>(Rd.new hy (.inr ⟨b,o,rfl,hc⟩)).cell hxx
  simpa using this
def zw (line lines:Int):Bool:=decide (98≤lines∧lines≤256∧96≤line∧line<lines)
theorem Be (w:World) (line lines:Int):Does 109 [.int .i64 line,.int .i64 lines] w λv w'=>v=.bool (zw line lines)∧w'=w:=by
 refine does Tryz.func109 ?_
 rw [rh]
 unfold zw
 refine aE (λh=>aE (λh1=>aE (λh2=>⟨?_,rfl⟩) (λh2=>⟨?_,rfl⟩)) (λh1=>⟨?_,rfl⟩)) (λh=>⟨?_,rfl⟩)
 ·have h:98≤lines:=h;have h2:96≤line:=h2;congr 1;simp [h,h1,h2]
 ·have h2:¬ 96≤line:=h2;congr 1;simp [h2]
 ·congr 1;simp [h1]
 ·have h:¬ 98≤lines:=h;congr 1;simp [h]
def bs (l:List Bool):List Value:=l.map .bool
theorem lM (x:Int):I64 (IntKind.i64.wrap x):=by
 unfold I64
 simp only [IntKind.wrap,IntKind.bits,IntKind.signed]
 simp
 omega
theorem FE (B:List Bool) (i:Nat) (x:Bool):(bs B).set i (.bool x)=bs (B.set i x):=by simp [bs]
end Go.Proofs.YtafopfaomkklpaaGreat
