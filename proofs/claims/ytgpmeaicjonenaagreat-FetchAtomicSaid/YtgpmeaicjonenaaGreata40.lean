import Derived.Test.YtgpmeaicjonenaaGreata39
import Derived.Test.YtgpmeaicjonenaaGreata01
import Derived.Laws.StructEq
import Derived.Test.YtgpmeaicjonenaaGreatProg
import Derived.Test.YtgpmeaicjonenaaGreata03
set_option linter.unusedVariables false
namespace Go.Proofs.YtgpmeaicjonenaaGreat.C16
open Go.Proofs.Tryz
open Go.Eng
structure DW (A:Nat→Prop) (χ:Nat→Tag) (w:World) (fb:Nat) (la:Option Addr) (lc:Nat) (ds:List (Option Addr×List Value)) (u:World) (B:Nat→Prop) (ξ:Nat→Tag) (X:FabX) (ts:List (TR×Tk conv)):Prop where
 tw:TW A χ w fb (isB la) u B ξ X
 own:Owns u TTa 46 la ts.length lc (nL ts).flatten
 tx:∀ x ∈ ts,fL (λk=>B k∨isB la k) u x.1 x.2∧tc x.2
 dat:∀ d ∈ ds,Dat (λk=>B k∨isB la k) u d.1 d.2
 fine:Fine X.pure
theorem DW.new {A:Nat→Prop} {χ:Nat→Tag} {w u u':World} {fb:Nat} {la:Option Addr} {lc:Nat} {ds:List (Option Addr×List Value)} {B:Nat→Prop} {ξ:Nat→Tag} {X:FabX} {ts:List (TR×Tk conv)} (h:DW A χ w fb la lc ds u B ξ X ts) (hn:New u u'):DW A χ w fb la lc ds u' B ξ X ts:=
 ⟨h.tw.new hn,Owns.new hn h.own,λx hx=>⟨(h.tx x hx).1.keep (Keep.of_new hn) λ_ _ e=>e,(h.tx x hx).2⟩,λd hd=>(h.dat d hd).keep (Keep.of_new hn) λ_ _ e=>e,h.fine⟩
theorem DW.op {A:Nat→Prop} {χ:Nat→Tag} {w u u':World} {fb:Nat} {la:Option Addr} {lc:Nat} {ds:List (Option Addr×List Value)} {B:Nat→Prop} {ξ:Nat→Tag} {X:FabX} {ts:List (TR×Tk conv)} (h:DW A χ w fb la lc ds u B ξ X ts) {F:Fab} {K:(Nat→Prop)→Prop} (p:dE (λk=>B k∨isB la k) ξ u fb F u' K) (hF:Fine F) :
  ∃ B' ξ' X',DW A χ w fb la lc ds u' B' ξ' X' ts∧X'.pure=F∧K (λk=>B' k∨isB la k):=by
 obtain ⟨B',ξ',X',h3,hX3,hK3,hk3,hM3,hL3⟩:=h.tw.op p
 refine ⟨B',ξ',X',⟨h3,?_,λx hx=>⟨(h.tx x hx).1.keep hk3 hM3,(h.tx x hx).2⟩,λd hd=>(h.dat d hd).keep hk3 hM3,by rw [hX3];exact hF⟩,hX3,hK3⟩
 refine ⟨h.own.1,?_⟩
 rcases h.own.2 with hn | ⟨g,cur,hg,hb,rest⟩
 ·exact .inl hn
 ·exact .inr ⟨g,cur,hg,(hL3 g ⟨0,hg⟩).trans hb,rest⟩
theorem DW.turned {A:Nat→Prop} {χ:Nat→Tag} {w u w1:World} {fb lb:Nat} {lc:Nat} {ds:List (Option Addr×List Value)} {B:Nat→Prop} {ξ:Nat→Tag} {X:FabX} {ts:List (TR×Tk conv)} (h:DW A χ w fb (some ⟨lb,0,none⟩) lc ds u B ξ X ts) {i:Nat} {x:TR×Tk conv} (hx:ts[i]?=some x) {v:Value}
  (hp:ze (λk=>B k∨isB (some ⟨lb,0,none⟩) k) ξ u fb (turn X.pure x.2) v w1) :
  ∃ B' ξ' X' r',v=r'.val∧wrAt w1 ⟨lb,i * 46,none⟩ 0 r'.cells∧
   DW A χ w fb (some ⟨lb,0,none⟩) lc ds (puts w1 ⟨lb,i * 46,none⟩ 0 r'.cells) B' ξ' X' (ts.set i (r',(turn X.pure x.2).2))∧X'.pure=(turn X.pure x.2).1:=by
 obtain ⟨B',ξ',X',h3,hX3,r',hv,ht'⟩:=h.op hp (h.fine.turn _)
 have hlt:=(List.getElem?_eq_some_iff.1 hx).1
 obtain ⟨hw,ho⟩:=Owns.putRow h3.own (l7 ts) (by simp [nL]) hlt (vs:=r'.cells) rfl (aB.single r')
 have hk:Keep (λk=>k=lb) w1 (puts w1 ⟨lb,i * 46,none⟩ 0 r'.cells):=dD _ _ _ _ _
 have hS:∀ k,k=lb→isB (some ⟨lb,0,none⟩) k:=λk e=>⟨0,by rw [e]⟩
 have hkA:Keep (λk=>B' k∨isB (some ⟨lb,0,none⟩) k) w1 (puts w1 ⟨lb,i * 46,none⟩ 0 r'.cells):=hk.mono λk _ e=>.inr (hS k e)
 refine ⟨B',ξ',X',r',hv,hw,⟨h3.tw.local hk hS,?_,λy hy=>?_,λd hd=>(h3.dat d hd).keep hkA λ_ _ e=>e,h3.fine⟩,hX3⟩
 ·rw [List.length_set]
  have e:nL (ts.set i (r',(turn X.pure x.2).2))=(nL ts).set i r'.cells:=by simp [nL,List.map_set]
  rw [e]
  exact ho
 ·rcases List.mem_or_eq_of_mem_set hy with h4 | rfl
  ·exact ⟨(h3.tx y h4).1.keep hkA λ_ _ e=>e,(h3.tx y h4).2⟩
  ·exact ⟨ht'.keep hkA λ_ _ e=>e,yY (h.tx x (List.mem_of_getElem? hx)).2⟩
theorem DW.la {A:Nat→Prop} {χ:Nat→Tag} {w u:World} {fb:Nat} {la:Option Addr} {lc:Nat} {ds:List (Option Addr×List Value)} {B:Nat→Prop} {ξ:Nat→Tag} {X:FabX} {ts:List (TR×Tk conv)} (h:DW A χ w fb la lc ds u B ξ X ts) (hl:0<ts.length):∃ lb,la=some ⟨lb,0,none⟩:=by
 rcases h.own.2 with ⟨_,hn,_⟩ | ⟨g,cur,hg,_⟩
 ·omega
 ·exact ⟨g,hg⟩
def wv (A:Nat→Prop) (χ:Nat→Tag) (w:World) (fb:Nat) (r:Fab×List (Tk conv)) (v:Value) (w':World):Prop:=
 dE A χ w fb r.1 w' λB=>∃ la lc ts',v=.slice la r.2.length lc∧ts'.map Prod.snd=r.2∧Owns w' TTa 46 la r.2.length lc (nL ts').flatten∧(∀ k,isB la k→¬ B k)∧∀ x ∈ ts',fL B w' x.1 x.2
theorem Bc (ts:List (TR×Tk conv)) (i:Nat) (r:TR) (t:Tk conv):(ts.set i (r,t)).map Prod.snd=(ts.map Prod.snd).set i t:=by simp [List.map_set]
set_option maxHeartbeats 4000000 in
theorem Bd {A:Nat→Prop} {χ:Nat→Tag} {w:World} {fb:Nat} {X:FabX} (h:aZ A χ w fb X) (hf:Fine X.pure) {ts:List (TR×Tk conv)} {pa:Option Addr} {pc:Nat} (hts:Rd w pa (nL ts).flatten) (htx:∀ x ∈ ts,fL A w x.1 x.2∧tc x.2) (htl:ts.length≤1000)
  {sch:List Int} {sa:Option Addr} {sc:Nat} (hsd:Dat A w sa (is sch)) (hsi:∀ x ∈ sch,I64 x) {es:List j8} {ea:Option Addr} {ec:Nat} (hed:Dat A w ea (qF es).flatten) (hei:∀ e ∈ es,e.Ok) (hel:es.length≤1000000) {most:Nat} (hm:most≤1000000) :
  Does 35 [ptr fb,.slice pa ts.length pc,.slice sa sch.length sc,.slice ea es.length ec,.int .i64 most] w (wv A χ w fb (drive X.pure (ts.map Prod.snd) sch es most)):=by
 refine does Tryz.func35 ?_
 rw [ptr,ox]
 obtain ⟨inf,hi,hz,hsz,hby⟩:=iF (T:=TTa) (z:=.agg #[(.int .i64 0),(.int .i64 0),(.int .i64 0),(.int .i64 0),(.int .i64 0),(.int .i64 0),(.int .i64 0),(.int .u64 0),(.int .i64 0),(.int .i64 0),(.int .i64 0),(.int .i64 0),(.slice none 0 0),(.slice none 0 0),(.slice none 0 0),(.int .i64 0),(.int .i64 0),(.int .i64 0),(.int .i64 0),(.slice none 0 0),(.int .i64 0),(.int .i64 0),(.int .u64 0),(.int .i64 0),(.int .i64 0),(.int .i64 0),(.int .i64 0),(.int .i64 0),(.int .i64 0),(.slice none 0 0),(.slice none 0 0),(.slice none 0 0),(.bool false),(.bool false),(.int .i64 0),(.int .i64 0),(.slice none 0 0),(.int .i64 0),(.slice none 0 0),(.int .u64 0),(.int .i64 0),(.int .i64 0),(.int .i64 0),(.int .i64 0),(.bool false),(.slice none 0 0)]) (n:=46) (m:=520) (by kernel_rfl)
 have hon:Owns w TTa inf.size none 0 0 []:=Owns.nil _ _ _
 obtain ⟨ap,apc,w1,hrun,hown,hk1,hap⟩:=Owns.append (P:=prog) (t:=TST) (ty:=TST) Tryz.underlying81 hi hz (by rw [hsz];rfl) (by omega) hon (s:=pa) (m:=ts.length) (c:=pc) (news:=(nL ts).flatten) (by rw [hsz,ee (l7 ts)];simp [nL]) hts (wu ts) (by omega) (by rw [hby];omega)
 rw [Nat.zero_add,List.nil_append,hsz] at hown
 rw [Nat.zero_add] at hrun
 have hn1:New w w1:=hk1.mono λk _ hb=>by obtain ⟨o,ho⟩:=hb;cases ho
 have hfr1:∀ k,isB ap k→w.heap.size≤k:=λk hk=>by
  rcases hap with e | e
  ·rw [e] at hk;obtain ⟨o,ho⟩:=hk;cases ho
  ·rw [e] at hk;obtain ⟨o,ho⟩:=hk;simp at ho <;> omega
 have hmono:∀ k,k<w.heap.size→A k∨isB ap k→A k:=λk hlt hc=>hc.elim id λhb=>by have:=hfr1 k hb;omega
 have hT:TW A χ w fb (isB ap) w1 A χ X:=TW.start h hn1 λk hk=>⟨hfr1 k hk,hown.lt hk⟩
 have hD0:DW A χ w fb ap apc [(sa,is sch),(ea,(qF es).flatten)] w1 A χ X ts:=by
  refine ⟨hT,hown,λx hx=>⟨(htx x hx).1.keep (Keep.of_new hn1) hmono,(htx x hx).2⟩,λd hd=>?_,hf⟩
  simp at hd
  rcases hd with rfl | rfl
  ·exact hsd.keep (Keep.of_new hn1) hmono
  ·exact hed.keep (Keep.of_new hn1) hmono
 refine ⟨ap,ts.length,apc,w1,hrun,?_⟩
 clear hrun hk1 hT hon hz hby hsz hi inf hap
 obtain ⟨inf,hi,hz,hsz,hby⟩:=iF (T:=TI) (z:=.int .i64 0) (n:=1) (m:=8) (by kernel_rfl)
 generalize hcs:(ts.map Prod.snd).map Tk.client=cs
 refine aT mix (λm env u=>∃ (i:Nat) (ca:Option Addr) (cc:Nat) (jj:List Value),m=ts.length - i∧i≤ts.length∧env=ei ⟨fb,0,none⟩ ap ts.length apc sa sch.length sc ea es.length ec most ca i cc i jj∧New w1 u∧Owns u TI 1 ca i cc (is (cs.take i))∧(∀ k,isB ca k→w1.heap.size≤k)) ts.length
  ⟨0,none,0,_,rfl,by omega,rfl,Keep.refl _ _,Owns.nil _ _ _,λk hk=>by obtain ⟨o,ho⟩:=hk;cases ho⟩ ?_
 rintro m env u ⟨i,ca,cc,jj,rfl,hile,rfl,hnu,hoc,hfc⟩
 rw [kk]
 refine aH (λhp=>?_) (λhp=>?_)
 ·have hlt:i<ts.length:=by omega
  have hg:ts[i]?=some ts[i]:=List.getElem?_eq_getElem hlt
  obtain ⟨ba,oa,hae,hca,hcell⟩:=(Owns.new hnu hown).rd.row (l7 ts) (by omega) (sF hg)
  have hcsi:cs[i]?=some ts[i].2.client:=by rw [←hcs];simp [hg]
  rw [hae]
  refine bE (by omega) (by omega) ⟨ts[i].2.client,by rw [←(htx _ (List.getElem_mem hlt)).1.client];simpa using hcell 1 _ rfl,?_⟩
  have hoc':Owns u TI inf.size ca i cc (is (cs.take i)):=by rw [hsz];exact hoc
  refine push_k Tryz.underlying22 hi hz (by rw [hsz];rfl) (by omega) hoc' (vs:=[.int .i64 ts[i].2.client]) (by rw [hsz];rfl) (by intro v hv;simp at hv;subst hv;rfl) (by omega) (by omega) ?_
  intro b3 ap1 cap1 u2 hb3 ho2 hk2 hap1
  rw [hsz] at ho2
  rw [w64 (by omega) (by omega),←hae]
  refine ⟨ts.length - (i+1),by omega,i+1,ap1,cap1,_,rfl,by omega,rfl,pk hnu hk2 hfc,?_,?_⟩
  ·have e:is (cs.take (i+1))=is (cs.take i)++[.int .i64 ts[i].2.client]:=by
    rw [List.take_add_one,hcsi]
    simp [is]
   rw [e]
   exact ho2
  ·intro k hk
   rcases hap1 k hk with h1 | h1
   ·exact hfc k h1
   ·have:=hnu.size
    omega
 have hin:i=ts.length:=by omega
 subst hin
 have hcl:cs.length=ts.length:=by rw [←hcs];simp
 rw [List.take_of_length_le (by omega)] at hoc
 rw [lx]
 clear hp hile
 have hD1:DW A χ w fb ap apc [(ca,is cs),(sa,is sch),(ea,(qF es).flatten)] u A χ X ts:=by
  have hd:=hD0.new hnu
  refine ⟨hd.tw,hd.own,hd.tx,λd hdm=>?_,hf⟩
  rcases List.mem_cons.1 hdm with rfl | hdm
  ·refine ⟨hoc.rd,lD hoc.rd λk hk e=>?_⟩
   have h1:=hfc k hk
   rcases e with e | e
   ·have:=h.low k e
    have:=hn1.size
    omega
   ·have:=hown.lt e
    omega
  ·exact hd.dat d hdm
 have hdrive:drive X.pure (ts.map Prod.snd) sch es most=turns (driveGo cs sch es most 0 X.pure (ts.map Prod.snd)).1 (driveGo cs sch es most 0 X.pure (ts.map Prod.snd)).2:=by unfold drive;rw [hcs]
 rw [hdrive]
 generalize hGo:driveGo cs sch es most 0 X.pure (ts.map Prod.snd)=GG
 have hGo':=hGo
 clear hdrive hD0 hoc hfc hnu hts htx hsd hed
 have hcl1:cs.length≤1000:=by omega
 have hlast:∀ (z:World) (B:Nat→Prop) (ξ:Nat→Tag) (Y:FabX) (ys:List (TR×Tk conv)) (jj:List Value),DW A χ w fb ap apc [(ca,is cs),(sa,is sch),(ea,(qF es).flatten)] z B ξ Y ys→ys.length=ts.length→(Y.pure,ys.map Prod.snd)=GG→
   W prog (sub (aD f35) [1,1,1,1,1]) (el ⟨fb,0,none⟩ ap ts.length apc jj) (retQ prog f35 (wv A χ w fb (turns GG.1 GG.2))) z:=by
  intro z B ξ Y ys jj hD hyl hYG
  rw [ly]
  rw [←hYG]
  dsimp only
  refine aT mix (λm env z=>∃ (i:Nat) (B:Nat→Prop) (ξ:Nat→Tag) (Z:FabX) (zs:List (TR×Tk conv)) (jj:List Value),m=ts.length - i∧i≤ts.length∧env=em ⟨fb,0,none⟩ ap ts.length apc i jj∧DW A χ w fb ap apc [(ca,is cs),(sa,is sch),(ea,(qF es).flatten)] z B ξ Z zs∧zs.length=ts.length∧TRo Y.pure (ys.map Prod.snd) i Z.pure (zs.map Prod.snd)) ts.length
   ⟨0,B,ξ,Y,ys,_,rfl,by omega,rfl,hD,hyl,TRo.start _ _⟩ ?_
  clear hD hYG
  rintro m env z ⟨i,B,ξ,Z,zs,jj,rfl,hile,rfl,hD,hzl,hTR⟩
  rw [kp]
  refine aH (λhp=>?_) (λhp=>?_)
  ·have hlt:i<zs.length:=by omega
   have hg:zs[i]?=some zs[i]:=List.getElem?_eq_getElem hlt
   obtain ⟨lb,hla⟩:=hD.la (by omega)
   rw [hla] at hD ⊢
   obtain ⟨ba,oa,hae,hca,hcell⟩:=hD.own.rd.row (l7 zs) (by omega) (sF hg)
   simp at hae
   obtain ⟨rfl,rfl⟩:=hae
   have hx:=hD.tx _ (List.mem_of_getElem? hg)
   refine bE (by omega) (by omega) ?_
   refine aB.mk_ex zs[i].1 ⟨by simpa using hca,?_⟩
   refine aF (Dg hD.tw.fab hD.fine.good hx.1 hx.2) ?_
   rintro v z1 hp1
   obtain ⟨B',ξ',Z',r',rfl,hw,hD',hZ'⟩:=hD.turned hg hp1
   refine aB.mk_ex r' ⟨rfl,?_⟩
   refine bE (by omega) (by omega) ?_
   have e12:0+Int.toNat (i:Int) * 46=i * 46:=by omega
   rw [e12]
   refine ⟨hw,?_⟩
   rintro z2 hz2
   rw [w64 (by omega) (by omega)]
   refine ⟨ts.length - (i+1),by omega,i+1,B',ξ',Z',_,_,rfl,by omega,rfl,by rw [hz2];exact hD',by simpa using hzl,?_⟩
   rw [Bc,hZ']
   exact hTR.step (by simp [hg])
  ·have hin:i=ts.length:=by omega
   rw [lA]
   have hdone:=hTR.done (by simp;omega)
   rw [hdone]
   refine hD.tw.done ⟨ap,apc,zs,by simp [hzl],rfl,by simpa using hD.own,λk hk hb=>?_,λx hx=>(hD.tx x hx).1.keep (Keep.refl _ _) λ_ _ e=>.inl e⟩
   obtain ⟨l1,l2,l3⟩:=hD.tw.loc k hk
   rcases (hD.tw.next.iff k).1 hb with hc | hc
   ·exact hc l3
   ·omega
 refine aT mix (λm env z=>∃ (n:Nat) (B:Nat→Prop) (ξ:Nat→Tag) (Y:FabX) (ys:List (TR×Tk conv)) (jj:List Value),m=most - n∧n≤most∧env=ej ⟨fb,0,none⟩ ap ts.length apc sa sch.length sc ea es.length ec most ca ts.length cc n jj∧DW A χ w fb ap apc [(ca,is cs),(sa,is sch),(ea,(qF es).flatten)] z B ξ Y ys∧ys.length=ts.length∧driveGo cs sch es (most - n) n Y.pure (ys.map Prod.snd)=GG) most
  ⟨0,A,χ,X,ts,_,rfl,by omega,rfl,hD1,rfl,hGo⟩ ?_
 clear hD1 hGo hGo'
 rintro m env z ⟨n,B,ξ,Y,ys,jj,rfl,hnm,rfl,hD,hyl,hG⟩
 rw [kn]
 refine aH (λhp=>?_) (λhp=>?_)
 ·have hms:most - n=(most - (n+1))+1:=by omega
  rw [hms,driveGo] at hG
  refine aT mix (λm env z=>∃ (k:Nat) (B:Nat→Prop) (ξ:Nat→Tag) (Z:FabX) (jj:List Value),m=es.length - k∧k≤es.length∧env=dF ⟨fb,0,none⟩ ap ts.length apc sa sch.length sc ea es.length ec most ca ts.length cc n k jj∧DW A χ w fb ap apc [(ca,is cs),(sa,is sch),(ea,(qF es).flatten)] z B ξ Z ys∧Z.pure=happens Y.pure cs n (es.take k)) es.length
   ⟨0,B,ξ,Y,_,rfl,by omega,rfl,hD,rfl⟩ ?_
  clear hD
  rintro m env z ⟨k,B,ξ,Z,jj,rfl,hke,rfl,hD,hZ⟩
  rw [ko]
  refine aH (λhq=>?_) (λhq=>?_)
  ·have hlt:k<es.length:=by omega
   have hg:es[k]?=some es[k]:=List.getElem?_eq_getElem hlt
   have hok:=hei _ (List.mem_of_getElem? hg)
   have hsn:=vZ (F:=Y.pure) (cs:=cs) (n:=n) (es.take k) es[k]
   rw [←List.take_succ_eq_append_getElem hlt,←hZ] at hsn
   have hed:=(hD.dat (ea,(qF es).flatten) (by simp)).1
   obtain ⟨ba,oa,hae,hca,hcell⟩:=hed.row (Az es) (by omega) (AA hg)
   have hae':ea=some ⟨ba,oa,none⟩:=hae
   rw [hae']
   refine bE (by omega) (by omega) ⟨es[k].at_,by simpa using hcell 0 _ rfl,?_⟩
   refine aF (po _ _ _ hok.at_ (by omega)) ?_
   rintro v z1 ⟨rfl,rfl⟩
   rw [if_neg (by omega)]
   refine ⟨_,rfl,bK (λhe=>?_) (λhe=>?_)⟩
   ·refine bE (by omega) (by omega) (bD.mk_ex ⟨es[k].at_,es[k].kind,es[k].a⟩ ⟨by simpa [j8.cells,bD.cells] using hca,?_⟩)
    have hcr:=(hD.dat (ca,is cs) (by simp)).1
    have hhc:=Ch hD.tw.fab hD.fine hcr (cc:=cc) hcl1 hok
    rw [hcl] at hhc
    refine aF hhc ?_
    rintro v z2 ⟨rfl,hp2⟩
    obtain ⟨B',ξ',Z',hD',hZ',_⟩:=hD.op hp2 (hD.fine.happen _ _)
    refine ⟨rfl,?_⟩
    rw [w64 (by omega) (by omega),←hae']
    rw [if_pos he] at hsn
    exact ⟨es.length - (k+1),by omega,k+1,B',ξ',Z',_,rfl,by omega,rfl,hD',by rw [hZ',hsn]⟩
   ·rw [w64 (by omega) (by omega),←hae']
    rw [if_neg he] at hsn
    exact ⟨es.length - (k+1),by omega,k+1,B,ξ,Z,_,rfl,by omega,rfl,hD,hsn.symm⟩
  have hke':k=es.length:=by omega
  subst hke'
  rw [List.take_of_length_le (Nat.le_refl _)] at hZ
  rw [lz]
  rw [←hZ] at hG
  refine aT mix (λm env z=>∃ (i:Nat) (B:Nat→Prop) (ξ:Nat→Tag) (V:FabX) (zs:List (TR×Tk conv)) (jj:List Value),m=ts.length - i∧i≤ts.length∧env=ep ⟨fb,0,none⟩ ap ts.length apc sa sch.length sc ea es.length ec most ca ts.length cc n i jj∧DW A χ w fb ap apc [(ca,is cs),(sa,is sch),(ea,(qF es).flatten)] z B ξ V zs∧zs.length=ts.length∧TRo Z.pure (ys.map Prod.snd) i V.pure (zs.map Prod.snd)) ts.length
   ⟨0,B,ξ,Z,ys,_,rfl,by omega,rfl,hD,hyl,TRo.start _ _⟩ ?_
  clear hD hq hke
  rintro m env z ⟨i,B,ξ,V,zs,jj,rfl,hile,rfl,hD,hzl,hTR⟩
  rw [kq]
  refine aH (λhq=>?_) (λhq=>?_)
  ·have hlt:i<zs.length:=by omega
   have hg:zs[i]?=some zs[i]:=List.getElem?_eq_getElem hlt
   obtain ⟨lb,hla⟩:=hD.la (by omega)
   rw [hla] at hD ⊢
   obtain ⟨ba,oa,hae,hca,hcell⟩:=hD.own.rd.row (l7 zs) (by omega) (sF hg)
   simp at hae
   obtain ⟨rfl,rfl⟩:=hae
   have hx:=hD.tx _ (List.mem_of_getElem? hg)
   refine bE (by omega) (by omega) ?_
   refine aB.mk_ex zs[i].1 ⟨by simpa using hca,?_⟩
   refine aF (Dg hD.tw.fab hD.fine.good hx.1 hx.2) ?_
   rintro v z1 hp1
   obtain ⟨B',ξ',Z',r',rfl,hw,hD',hZ'⟩:=hD.turned hg hp1
   refine aB.mk_ex r' ⟨rfl,?_⟩
   refine bE (by omega) (by omega) ?_
   have e12:0+Int.toNat (i:Int) * 46=i * 46:=by omega
   rw [e12]
   refine ⟨hw,?_⟩
   rintro z2 hz2
   rw [w64 (by omega) (by omega)]
   refine ⟨ts.length - (i+1),by omega,i+1,B',ξ',Z',_,_,rfl,by omega,rfl,by rw [hz2];exact hD',by simpa using hzl,?_⟩
   rw [Bc,hZ']
   exact hTR.step (by simp [hg])
  ·have hin:i=ts.length:=by omega
   have hdone:=hTR.done (by simp;omega)
   rw [hdone] at hG
   rw [lB]
   have hsr:=(hD.dat (sa,is sch) (by simp)).1
   refine aF (D7 hD.tw.fab hD.fine hsr hsi n) ?_
   rintro v z1 ⟨rfl,hp1⟩
   obtain ⟨B',ξ',V',hD',hV',_⟩:=hD.op hp1 (hD.fine.rstep _ _)
   refine ⟨_,rfl,dG (λhb=>?_) (λhb=>?_)⟩
   ·rw [if_neg (by rw [hb];simp)] at hG
    exact hlast z1 B' ξ' V' zs _ hD' hzl (by rw [hV'];exact hG)
   ·rw [if_pos hb] at hG
    rw [w64 (by omega) (by omega)]
    exact ⟨most - (n+1),by omega,n+1,B',ξ',V',zs,_,rfl,by omega,rfl,hD',hzl,by rw [hV'];exact hG⟩
 ·have hnm':most - n=0:=by omega
  rw [hnm',driveGo] at hG
  exact hlast z B ξ Y ys _ hD hyl hG
theorem Ep {l:List (TR×Tk conv)} {t:Tk conv} (h:l.map Prod.snd=[t]):∃ r,l=[(r,t)]:=by
 cases l with
 |nil=>cases h
 |cons x l=>
  rw [List.map_cons] at h
  obtain ⟨h1,h2⟩:=List.cons.inj h
  have h3:l=[]:=List.map_eq_nil_iff.1 h2
  subst h3
  exact ⟨x.1,by rw [←h1]⟩
theorem Be (F:Fab) (r:TR) (t:Tk conv):drive F ([(r,t)].map Prod.snd) [] [] 20000=alone F t:=rfl
section
attribute [local irreducible] drive alone
set_option maxHeartbeats 2000000 in
theorem Bf {A:Nat→Prop} {χ:Nat→Tag} {w:World} {fb:Nat} {X:FabX} (h:aZ A χ w fb X) (hf:Fine X.pure) {r:TR} {t:Tk conv} (hx:fL A w r t) (hsh:tc t) :
  Does 37 [ptr fb,r.val] w λv w'=>dE A χ w fb (alone X.pure t).1 w' λB=>∃ t' r',(alone X.pure t).2=[t']∧v=r'.val∧fL B w' r' t':=by
 refine does Tryz.func37 ?_
 rw [ptr,oy]
 rintro b1 w1 hb1 hw1 b2 w2 hb2 hw2
 obtain ⟨hz1,hn1⟩:=aO hb1 hw1
 obtain ⟨hz2,hn2⟩:=aO hb2 hw2
 have hz12:Blk w2 b1 r.cells TTa:=New.blk hn2 hz1
 have hs12:=hn1.size
 have hs2:=hz2.lt
 clear hw1 hw2 hz1
 refine aB.mk_ex r ⟨aI hz12 rfl,?_⟩
 rintro b3 w3 hb3 hw3
 obtain ⟨hz3,hn3⟩:=aO hb3 hw3
 have hz3:Blk w3 b3 r.cells TTa:=hz3
 clear hw3
 have hn03:=(hn1.new hn2).new hn3
 have hs3:=hn3.size
 have hT:TW A χ w fb (λk=>k=b2) w3 A χ X:=TW.start h hn03 λk hk=>by omega
 have hmono:∀ k,k<w.heap.size→A k∨k=b2→A k:=λk hlt hc=>hc.elim id λe=>by omega
 have hdn:Dat (λk=>A k∨k=b2) w3 none ([]:List Value):=⟨.inl rfl,.inl rfl⟩
 have hrd:Rd w3 (some ⟨b3,0,none⟩) (nL [(r,t)]).flatten:=eQ hz3 (by simp [nL,aB.cells])
 have hdr:=Bd hT.fab hf (ts:=[(r,t)]) (pc:=1) hrd (λx hxm=>by simp at hxm;rw [hxm];exact ⟨hx.keep (Keep.of_new hn03) hmono,hsh⟩) (by simp) (sch:=[]) (sa:=none) (sc:=0) hdn (λx hx=>by cases hx) (es:=[]) (ea:=none) (ec:=0) hdn (λx hx=>by cases hx) (by simp) (most:=20000) (by omega)
 refine aF hdr ?_
 rintro v w4 hp
 obtain ⟨B',ξ',X',h3,hX3,hK3,hk3,hM3,hL3⟩:=hT.op hp
 obtain ⟨la,lc,ts',rfl,hts',how,hnB,htx'⟩:=hK3
 have hal:=Be X.pure r t
 rw [hal] at hX3 hts' how ⊢
 obtain ⟨t',ht'⟩:=Ay X.pure t
 rw [ht'] at hts' how ⊢
 obtain ⟨r',rfl⟩:=Ep hts'
 refine ⟨_,_,_,rfl,?_⟩
 obtain ⟨ba,oa,hae,hca,hcell⟩:=how.rd.row (l7 [(r',t')]) (by omega) (i:=0) rfl
 have hoa:oa=0:=by
  rcases how.2 with ⟨he,_⟩ | ⟨g,cur,hg,_⟩
  ·rw [he] at hae;cases hae
  ·rw [hg] at hae;simp at hae <;> omega
 subst hoa
 rw [hae]
 refine bE (by omega) (by simp) ?_
 have hb24:=(hL3 b2 rfl).trans (New.blk hn3 hz2)
 refine aB.mk_ex r' ⟨by simpa using hca,?_⟩
 refine il (vs:=r'.cells) hb24 rfl (aB.single r') λw5 hb5 hk5=>?_
 refine aB.mk_ex r' ⟨aI hb5 rfl,rfl,?_⟩
 rw [←hX3]
 refine (h3.local hk5 λ_ e=>e).done ⟨t',r',rfl,rfl,?_⟩
 exact (htx' (r',t') (by simp)).keep (hk5.mono λ_ _ e=>.inr e) λk _ e=>.inl e
end
end Go.Proofs.YtgpmeaicjonenaaGreat.C16
namespace Go.Mx
open Go.Eng
def ye (sz:TypeId→Nat) (f:TypeId→Option (List Bool)):List Field→Nat→Option (List Bool)
 | [],off=>some []
 |fd::fs,off=>match f fd.type with
  |some ks=>match fd.name != "_" && (Nat.beq fd.offset off && Nat.beq (sz fd.type) ks.length) with
   |true=>match ye sz f fs (off+ks.length) with
    |some r=>some (ks++r)
    |none=>none
   |false=>none
  |none=>none
def te (P:Program):Nat→TypeId→Option (List Bool)
 | 0,_=>none
 |d+1,t=>match P.underlying t with
  |some (.int _)=>some [false]
  |some .bool=>some [true]
  |some (.struct fs)=>match P.stoodInHeld t with
   |true=>none
   |false=>ye (wy P) (te P d) fs.toList 0
  |some (.array len e)=>match te P d e with
   |some ks=>match Nat.beq (wy P e) ks.length with
    |true=>some (List.replicate len ks).flatten
    |false=>none
   |none=>none
  | _=>none
def cmp1:Bool→Value→Value→Prop
 |false,.int k _,.int j _=>k=j
 |true,.bool _,.bool _=>True
 | _,_,_=>False
def qg:List Bool→List Value→List Value→Prop
 | [],[],[]=>True
 |k::ks,x::xs,y::ys=>cmp1 k x y∧qg ks xs ys
 | _,_,_=>False
def eqv1:Value→Value→Bool
 | .int _ a,.int _ b=>a == b
 | .bool a,.bool b=>a == b
 | _,_=>true
def eqvL:List Value→List Value→Bool
 |x::xs,y::ys=>eqv1 x y && eqvL xs ys
 | _,_=>true
theorem qg.len:∀ {ks:List Bool} {xs ys:List Value},qg ks xs ys→xs.length=ks.length∧ys.length=ks.length
 | [],[],[],_=>⟨rfl,rfl⟩
 | _::_,_::_,_::_,⟨_,h⟩=>by simp [qg.len h]
theorem qg.split:∀ {ks ls:List Bool} {xs ys:List Value},qg (ks++ls) xs ys→qg ks (xs.take ks.length) (ys.take ks.length)∧qg ls (xs.drop ks.length) (ys.drop ks.length)∧
  eqvL xs ys=(eqvL (xs.take ks.length) (ys.take ks.length) && eqvL (xs.drop ks.length) (ys.drop ks.length))
 | [],ls,xs,ys,h=>⟨trivial,h,rfl⟩
 |k::ks,ls,x::xs,y::ys,⟨a,h⟩=>by
  obtain ⟨h1,h2,h3⟩:=qg.split h
  refine ⟨⟨a,h1⟩,h2,?_⟩
  show (eqv1 x y && eqvL xs ys)=((eqv1 x y && eqvL (xs.take ks.length) (ys.take ks.length)) && eqvL (xs.drop ks.length) (ys.drop ks.length))
  rw [h3,Bool.and_assoc]
theorem Bg {k:Bool}:∀ {xs ys:List Value},qg [k] xs ys→∃ x y,xs=[x]∧ys=[y]∧cmp1 k x y
 | [],[],h=>h.elim
 | [],_::_,h=>h.elim
 | _::_,[],h=>h.elim
 | [x],[y],h=>⟨x,y,rfl,rfl,h.1⟩
 | _::_::_,[_],h=>h.2.elim
 | [_],_::_::_,h=>h.2.elim
 | _::_::_,_::_::_,h=>h.2.elim
section
variable {P:Program}
def tf (P:Program) (t:TypeId) (xs:List Value):Value:=if isAgg? P t=true then .agg xs.toArray else xs.headD undef
theorem yf {t:TypeId} {i:TypeInfo} {dsc:TypeDesc} (hi:P.info? t=some i) (hd:P.underlying t=some dsc) {cs:List Value} {off n:Nat} (hn:i.size=n) (hl:off+n≤cs.length) (h1:isAgg? P t=false→n=1) (w:World) :
  (part t cs.toArray off).run P w=.ok (tf P t ((cs.drop off).take n)) w:=by
 unfold part tf
 rw [Sem.run_bind,jJ hd]
 simp only [Result.andThen_ok]
 split
 ·simp only [Sem.run_bind,Eng.run_sizeOf hi,Result.andThen_ok,Sem.run_pure,hn]
  congr 2
  apply Array.ext'
  simp [List.extract]
 ·rename_i ha
  have hn1:=h1 (by simpa using ha)
  subst hn1
  have hlt:off<cs.length:=by omega
  have hx:(cs.drop off).take 1=[cs[off]]:=by
   rw [List.drop_eq_getElem_cons hlt]
   rfl
  have hg:cs.toArray[off]?=some cs[off]:=by simp [hlt]
  rw [hx]
  simp only [hg]
  rfl
theorem ww {d:Nat} {t:TypeId} {n:List Bool} (h:te P d t=some n):∃ i dsc,P.info? t=some i∧P.underlying t=some dsc:=by
 cases d with
 |zero=>cases h
 |succ d=>
  unfold te at h
  cases hu:P.underlying t with
  |none=>rw [hu] at h;cases h
  |some dsc=>
   cases hi:P.info? t with
   |some i=>exact ⟨i,dsc,rfl,rfl⟩
   |none=>simp [Program.underlying,hi] at hu
theorem sG {d:Nat} {t:TypeId} {n:List Bool} (h:te P d t=some n) (ha:isAgg? P t=false):n.length=1:=by
 cases d with
 |zero=>cases h
 |succ d=>
  unfold te at h
  unfold isAgg? at ha
  split at h
  ·cases h;rfl
  ·cases h;rfl
  ·rename_i hu;rw [hu] at ha;cases ha
  ·rename_i hu;rw [hu] at ha;cases ha
  ·cases h
def EqOk (P:Program) (D:Nat) (t:TypeId) (ks:List Bool):Prop:=∀ xs ys:List Value,qg ks xs ys→∀ w,(Op.equalIn D t (tf P t xs) (tf P t ys)).run P w=.ok (eqvL xs ys) w
theorem Bh {t:TypeId} {ks:List Bool} {D off:Nat} {xs ys:List Value} (hE:EqOk P D t ks) {i:TypeInfo} {dsc:TypeDesc} (hi:P.info? t=some i) (hd:P.underlying t=some dsc) (hn:i.size=ks.length) (h1:isAgg? P t=false→ks.length=1)
  (hc:qg ks ((xs.drop off).take ks.length) ((ys.drop off).take ks.length)) (w:World) {α:Type} (K:Bool→Sem α) :
  ((do K (← Op.equalIn D t (← part t xs.toArray off) (← part t ys.toArray off))):Sem α).run P w=(K (eqvL ((xs.drop off).take ks.length) ((ys.drop off).take ks.length))).run P w:=by
 obtain ⟨l1,l2⟩:=hc.len
 rw [List.length_take,List.length_drop] at l1 l2
 cases hk:ks.length with
 |zero=>
  have:i.size=0:=by omega
  cases ha:isAgg? P t with
  |false=>have:=h1 ha;omega
  |true=>
   have run0:∀ cs:List Value,(part t cs.toArray off).run P w=.ok (tf P t []) w:=by
    intro cs
    unfold part tf
    rw [Sem.run_bind,jJ hd,ha]
    simp only [Result.andThen_ok,if_true,Sem.run_bind,Eng.run_sizeOf hi,Sem.run_pure,this]
    congr 2
    apply Array.ext'
    simp [List.extract]
   rw [hk] at hc
   simp only [Sem.run_bind,run0,Result.andThen_ok]
   rw [hE [] [] hc]
   rfl
 |succ n=>
  rw [←hk]
  simp only [Sem.run_bind,yf (cs:=xs) (off:=off) hi hd hn (by omega) h1 w,yf (cs:=ys) (off:=off) hi hd hn (by omega) h1 w,Result.andThen_ok]
  rw [hE _ _ hc]
  rfl
theorem wx {d D:Nat} (hE:∀ t ks,te P d t=some ks→EqOk P D t ks) {xs ys:List Value}:∀ (fs:List Field) (off:Nat) (ks:List Bool),ye (wy P) (te P d) fs off=some ks→qg ks (xs.drop off) (ys.drop off)→
  ∀ w,(Op.eqFields D xs.toArray ys.toArray fs).run P w=.ok (eqvL (xs.drop off) (ys.drop off)) w
 | [],off,ks,h,hc=>by
  cases h
  intro w
  have h0:=hc.len
  rw [List.eq_nil_of_length_eq_zero h0.1]
  simp [Op.eqFields,eqvL]
 |fd::fs,off,ks,h,hc=>by
  unfold ye at h
  split at h
  rotate_left
  ·cases h
  rename_i ks1 hm
  split at h
  rotate_left
  ·cases h
  rename_i hb
  split at h
  rotate_left
  ·cases h
  rename_i ks2 hr
  cases h
  simp only [Bool.and_eq_true,bne_iff_ne,ne_eq] at hb
  obtain ⟨hnm,ho,hs⟩:=hb
  have ho:fd.offset=off:=Nat.eq_of_beq_eq_true ho
  have hs:wy P fd.type=ks1.length:=Nat.eq_of_beq_eq_true hs
  obtain ⟨c1,c2,c3⟩:=hc.split
  rw [List.drop_drop,List.drop_drop] at c2 c3
  have ih:=wx hE fs (off+ks1.length) ks2 hr c2
  intro w
  obtain ⟨i,dsc,hi,hd⟩:=ww hm
  have hsz:i.size=ks1.length:=by unfold wy at hs;rw [hi] at hs;exact hs
  unfold Op.eqFields
  rw [if_pos (by simpa using hnm),ho]
  have:=Bh (K:=λr=>if (!r)=true then pure false else Op.eqFields D xs.toArray ys.toArray fs) (hE _ _ hm) hi hd hsz (sG hm) c1 w
  refine Eq.trans this ?_
  rw [c3]
  cases hq:eqvL ((xs.drop off).take ks1.length) ((ys.drop off).take ks1.length) with
  |false=>rfl
  |true=>
   simp only [Bool.not_true,Bool.false_eq_true,if_false,Bool.true_and]
   exact ih w
theorem yg {D:Nat} {e:TypeId} {ks:List Bool} (hE:EqOk P D e ks) {i:TypeInfo} {dsc:TypeDesc} (hi:P.info? e=some i) (hd:P.underlying e=some dsc) (hn:i.size=ks.length) (h1:isAgg? P e=false→ks.length=1) {xs ys:List Value} (w:World) :
  ∀ (l:List Nat) (a:Nat),l=List.range' a l.length→qg (List.replicate l.length ks).flatten (xs.drop (a * ks.length)) (ys.drop (a * ks.length))→
   (forIn l ((none,()):Option Bool×Unit) (λi _=>do
    let r ← Op.equalIn D e (← part e xs.toArray (i * ks.length)) (← part e ys.toArray (i * ks.length))
    if (!r)=true then pure (ForInStep.done (some false,())) else pure (ForInStep.yield (none,()))):Sem (Option Bool×Unit)).run P w=.ok ((if eqvL (xs.drop (a * ks.length)) (ys.drop (a * ks.length))=true then none else some false),()) w
 | [],a,_,hc=>by
  have h0:=hc.len
  rw [List.eq_nil_of_length_eq_zero h0.1]
  simp [eqvL]
 |j::l,a,hr,hc=>by
  rw [List.length_cons,List.range'_succ] at hr
  simp only [List.cons.injEq] at hr
  obtain ⟨rfl,hr⟩:=hr
  rw [List.length_cons,List.replicate_succ,List.flatten_cons] at hc
  obtain ⟨c1,c2,c3⟩:=hc.split
  rw [List.drop_drop,List.drop_drop,←Nat.succ_mul] at c2 c3
  rw [List.forIn_cons,Sem.run_bind]
  have:=Bh (K:=λr=>if (!r)=true then (pure (ForInStep.done (some false,())):Sem (ForInStep (Option Bool×Unit))) else pure (ForInStep.yield (none,()))) hE hi hd hn h1 c1 w
  rw [this,c3]
  have ih:=yg hE hi hd hn h1 w l (j+1) hr c2
  cases hq:eqvL ((xs.drop (j * ks.length)).take ks.length) ((ys.drop (j * ks.length)).take ks.length) with
  |false=>rfl
  |true=>
   simp only [Bool.not_true,Bool.false_eq_true,if_false,Bool.true_and]
   exact ih
theorem Bi:∀ (d:Nat) (t:TypeId) (ks:List Bool),te P d t=some ks→∀ D,d≤D→EqOk P D t ks
 | 0,_,_,h=>by cases h
 |d+1,t,ks,h=>by
  intro D hD xs ys hc w
  obtain ⟨D,rfl⟩:∃ D',D=D'+1:=⟨D - 1,by omega⟩
  have hD':d≤D:=by omega
  unfold te at h
  split at h
  ·rename_i k hu
   cases h
   have ha:isAgg? P t=false:=by unfold isAgg?;rw [hu]
   obtain ⟨x,y,rfl,rfl,hxy⟩:=Bg hc
   unfold tf
   rw [ha]
   cases x<;>cases y<;>first | exact hxy.elim | skip
   have hk:_=_:=hxy
   subst hk
   refine (run_equalIn_int w D t _ k _ _ hu).trans ?_
   simp [eqvL,eqv1]
  ·rename_i hu
   cases h
   have ha:isAgg? P t=false:=by unfold isAgg?;rw [hu]
   obtain ⟨x,y,rfl,rfl,hxy⟩:=Bg hc
   unfold tf
   rw [ha]
   cases x<;>cases y<;>first | exact hxy.elim | skip
   refine (run_equalIn_bool' w D t _ _ hu).trans ?_
   simp [eqvL,eqv1]
  ·rename_i fs hu
   split at h
   ·cases h
   rename_i hst
   have ha:isAgg? P t=true:=by unfold isAgg?;rw [hu]
   have hf:P.fieldsOf t=fs:=by unfold Program.fieldsOf;rw [hu]
   have:=wx (λt ks h=>Bi d t ks h D hD') fs.toList 0 ks h hc w
   unfold tf
   rw [if_pos ha,if_pos ha,run_equalIn_struct w D t _ _ (by rw [hf];exact hu) hst,hf]
   exact this
  ·rename_i len e hu
   split at h
   rotate_left
   ·cases h
   rename_i ks1 hm
   split at h
   rotate_left
   ·cases h
   rename_i hs
   cases h
   have hs:wy P e=ks1.length:=Nat.eq_of_beq_eq_true hs
   obtain ⟨i,dsc,hi,hd⟩:=ww hm
   have hsz:i.size=ks1.length:=by unfold wy at hs;rw [hi] at hs;exact hs
   have ha:isAgg? P t=true:=by unfold isAgg?;rw [hu]
   have:=yg (Bi d e ks1 hm D hD') hi hd hsz (sG hm) (xs:=xs) (ys:=ys) w (List.range' 0 len) 0 (by simp) (by simpa using hc)
   unfold tf
   rw [if_pos ha,if_pos ha]
   simp only [Op.equalIn,Sem.run_bind,run_underlying hu,Result.andThen_ok,Eng.run_sizeOf hi,hsz]
   simp only [Nat.zero_mul,List.drop_zero] at this
   rw [Std.Legacy.Range.forIn_eq_forIn_range']
   simp only [Std.Legacy.Range.size,Nat.sub_zero,Nat.add_one_sub_one,Nat.div_one]
   rw [this]
   cases eqvL xs ys<;>rfl
  ·cases h
end
end Go.Mx
namespace Go.Proofs.YtgpmeaicjonenaaGreat
open Go.Proofs.Tryz
open Go.Eng IntKind
variable (w:World) (R:Value→World→Prop)
def iD (s4:Option Addr) (a b:Nat) (s7:Option Addr) (c d:Nat) (s8 s9:Int) (j:LV):LV:=[jg j 0,jg j 1,jg j 2,jg j 3,(.slice s4 a b),jg j 4,jg j 5,(.slice s7 c d),(.int .i64 s8),(.int .i64 s9),jg j 6,jg j 7,jg j 8,jg j 9,jg j 10,jg j 11,jg j 12,jg j 13,jg j 14,jg j 15,jg j 16,jg j 17,jg j 18,jg j 19,jg j 20,jg j 21,jg j 22]
def nM (s4:Option Addr) (a b:Nat) (j:LV):LV:=jq j 0 4 (.slice s4 a b::jq j 4 22 [])
theorem uK (p0:Option Addr) (a b:Nat):fnW prog f36 [.slice p0 a b] R w=(cQ prog (.loop (sub (aD f36) [1,1,0,1,0,0])) (iD none 0 0 p0 a b (a:Nat) 0 (js p0 a b::undef::jz::ji 0::uq 19 [])) (aK 0 (nx f36 [1,1,1] R)) w):=by kernel_rfl
theorem nN (s4:Option Addr) (a b:Nat) (s7:Option Addr) (c d:Nat) (s8 s9:Int) (j:LV) (N1:LV→World→Prop):W prog (sub (aD f36) [1,1,0,1,0,0]) (iD s4 a b s7 c d s8 s9 j) (seqQ N1 (aK 0 (nx f36 [1,1,1] R))) w=((bif (decide ((s9:Int)<s8)) then (idxS s7 c s9 9 λad=>aG.ex λr=>aC w ad 0 r.cells∧∀ b1 w1,b1=w.heap.size→w1=w.alloc (.cells #[.int .i64 0,.int .u64 0,.int .u64 0,.int .u64 0,.int .u64 0,.int .u64 0,.int .u64 0,.int .u64 0,.int .u64 0] 73)→wrAt w1 ⟨b1,0,none⟩ 0 r.cells∧∀ w2,w2=puts w1 ⟨b1,0,none⟩ 0 r.cells→∃ f,w2.cell? ⟨b1,1,none⟩=some (.int .u64 f)∧Calls prog 66 #[.int .u64 f] w2 λe w3=>∃ g,e=.returned (.bool g)∧(bif (!g) then (R (.tuple #[.slice none 0 0,.int .i64 3]) w3) else (∃ h,w3.cell? ⟨b1,0,none⟩=some (.int .i64 h)∧∃ i,w3.cell? ⟨b1,1,none⟩=some (.int .u64 i)∧∀ b2 w4,b2=w3.heap.size→w4=w3.alloc (.cells #[.int .i64 h,.int .u64 i] 137)→∃ ap k l,∃ w5,(Builtin.append_ #[36,36] 36 #[.slice s4 a b,.slice (some ⟨b2,0,none⟩) 1 1]).run prog w4=.ok (.slice ap k l) w5∧N1 (iD ap k l s7 c d s8 (i64.wrap (s9+1)) (jq j 0 5 [jp ⟨b1,0,none⟩,jb (decide ((s9:Int)<s8)),jp ad,r.val,jp ⟨b1,1,none⟩,ju f,jb g,jb (!g),js s4 a b,jp ⟨b1,0,none⟩,ji h,jp ⟨b1,1,none⟩,ju i,.agg #[.int .i64 h,.int .u64 i],js (some ⟨b2,0,none⟩) 1 1,js ap k l,ji (i64.wrap (s9+1)),jg j 22])) w5))) else (W prog (sub (aD f36) [1,1,1]) (nM s4 a b (jq j 0 6 (js s7 c d::ji s8::ji s9::jb (decide ((s9:Int)<s8))::jq j 7 16 []))) (retQ prog f36 R) w))):=by kernel_rfl
theorem qh (s4:Option Addr) (a b:Nat) (j:LV):W prog (sub (aD f36) [1,1,1]) (nM s4 a b j) (retQ prog f36 R) w=(R (.tuple #[.slice s4 a b,.int .i64 0]) w):=by kernel_rfl
end Go.Proofs.YtgpmeaicjonenaaGreat
