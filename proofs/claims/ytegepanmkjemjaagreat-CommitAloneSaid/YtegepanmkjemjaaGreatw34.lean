import Derived.Test.YtegepanmkjemjaaGreatw33
import Derived.Test.YtegepanmkjemjaaGreatw28
import Derived.Test.YtegepanmkjemjaaGreatw30
import Derived.Test.YtegepanmkjemjaaGreatProg
import Derived.Test.YtegepanmkjemjaaGreatw03
import Derived.Test.YtegepanmkjemjaaGreatw29
set_option linter.unusedVariables false
namespace Go.Proofs.YtegepanmkjemjaaGreat.C12
open Go.Proofs.Tryz
open Go.Eng
structure DW (A:Nat→Prop) (χ:Nat→Tag) (w:World) (fb:Nat) (la:Option Addr) (lc:Nat) (ds:List (Option Addr×List Value)) (u:World) (B:Nat→Prop) (ξ:Nat→Tag) (X:FabX) (ts:List (TR×Tk conv)):Prop where
 tw:TW A χ w fb (isB la) u B ξ X
 own:Owns u TTa 25 la ts.length lc (oD ts).flatten
 tx:∀ x ∈ ts,fL (λk=>B k∨isB la k) u x.1 x.2∧uf x.2
 dat:∀ d ∈ ds,Dat (λk=>B k∨isB la k) u d.1 d.2
 fine:Fine X.pure
theorem DW.new {A:Nat→Prop} {χ:Nat→Tag} {w u u':World} {fb:Nat} {la:Option Addr} {lc:Nat} {ds:List (Option Addr×List Value)} {B:Nat→Prop} {ξ:Nat→Tag} {X:FabX} {ts:List (TR×Tk conv)} (h:DW A χ w fb la lc ds u B ξ X ts) (hn:New u u'):DW A χ w fb la lc ds u' B ξ X ts:=
 ⟨h.tw.new hn,Owns.new hn h.own,λx hx=>⟨(h.tx x hx).1.keep (Keep.of_new hn) λ_ _ e=>e,(h.tx x hx).2⟩,λd hd=>(h.dat d hd).keep (Keep.of_new hn) λ_ _ e=>e,h.fine⟩
theorem DW.op {A:Nat→Prop} {χ:Nat→Tag} {w u u':World} {fb:Nat} {la:Option Addr} {lc:Nat} {ds:List (Option Addr×List Value)} {B:Nat→Prop} {ξ:Nat→Tag} {X:FabX} {ts:List (TR×Tk conv)} (h:DW A χ w fb la lc ds u B ξ X ts) {F:Fab} {K:(Nat→Prop)→Prop} (p:dD (λk=>B k∨isB la k) ξ u fb F u' K) (hF:Fine F) :
  ∃ B' ξ' X',DW A χ w fb la lc ds u' B' ξ' X' ts∧X'.pure=F∧K (λk=>B' k∨isB la k):=by
 obtain ⟨B',ξ',X',h3,hX3,hK3,hk3,hM3,hL3⟩:=h.tw.op p
 refine ⟨B',ξ',X',⟨h3,?_,λx hx=>⟨(h.tx x hx).1.keep hk3 hM3,(h.tx x hx).2⟩,λd hd=>(h.dat d hd).keep hk3 hM3,by rw [hX3];exact hF⟩,hX3,hK3⟩
 refine ⟨h.own.1,?_⟩
 rcases h.own.2 with hn | ⟨g,cur,hg,hb,rest⟩
 ·exact .inl hn
 ·exact .inr ⟨g,cur,hg,(hL3 g ⟨0,hg⟩).trans hb,rest⟩
theorem DW.turned {A:Nat→Prop} {χ:Nat→Tag} {w u w1:World} {fb lb:Nat} {lc:Nat} {ds:List (Option Addr×List Value)} {B:Nat→Prop} {ξ:Nat→Tag} {X:FabX} {ts:List (TR×Tk conv)} (h:DW A χ w fb (some ⟨lb,0,none⟩) lc ds u B ξ X ts) {i:Nat} {x:TR×Tk conv} (hx:ts[i]?=some x) {v:Value}
  (hp:zX (λk=>B k∨isB (some ⟨lb,0,none⟩) k) ξ u fb (turn X.pure x.2) v w1) :
  ∃ B' ξ' X' r',v=r'.val∧wrAt w1 ⟨lb,i * 25,none⟩ 0 r'.cells∧
   DW A χ w fb (some ⟨lb,0,none⟩) lc ds (puts w1 ⟨lb,i * 25,none⟩ 0 r'.cells) B' ξ' X' (ts.set i (r',(turn X.pure x.2).2))∧X'.pure=(turn X.pure x.2).1:=by
 obtain ⟨B',ξ',X',h3,hX3,r',hv,ht'⟩:=h.op hp (h.fine.turn _)
 have hlt:=(List.getElem?_eq_some_iff.1 hx).1
 obtain ⟨hw,ho⟩:=Owns.putRow h3.own (mC ts) (by simp [oD]) hlt (vs:=r'.cells) rfl (aC.single r')
 have hk:Keep (λk=>k=lb) w1 (puts w1 ⟨lb,i * 25,none⟩ 0 r'.cells):=cT _ _ _ _ _
 have hS:∀ k,k=lb→isB (some ⟨lb,0,none⟩) k:=λk e=>⟨0,by rw [e]⟩
 have hkA:Keep (λk=>B' k∨isB (some ⟨lb,0,none⟩) k) w1 (puts w1 ⟨lb,i * 25,none⟩ 0 r'.cells):=hk.mono λk _ e=>.inr (hS k e)
 refine ⟨B',ξ',X',r',hv,hw,⟨h3.tw.local hk hS,?_,λy hy=>?_,λd hd=>(h3.dat d hd).keep hkA λ_ _ e=>e,h3.fine⟩,hX3⟩
 ·rw [List.length_set]
  have e:oD (ts.set i (r',(turn X.pure x.2).2))=(oD ts).set i r'.cells:=by simp [oD,List.map_set]
  rw [e]
  exact ho
 ·rcases List.mem_or_eq_of_mem_set hy with h4 | rfl
  ·exact ⟨(h3.tx y h4).1.keep hkA λ_ _ e=>e,(h3.tx y h4).2⟩
  ·exact ⟨ht'.keep hkA λ_ _ e=>e,zP (h.tx x (List.mem_of_getElem? hx)).2⟩
theorem DW.la {A:Nat→Prop} {χ:Nat→Tag} {w u:World} {fb:Nat} {la:Option Addr} {lc:Nat} {ds:List (Option Addr×List Value)} {B:Nat→Prop} {ξ:Nat→Tag} {X:FabX} {ts:List (TR×Tk conv)} (h:DW A χ w fb la lc ds u B ξ X ts) (hl:0<ts.length):∃ lb,la=some ⟨lb,0,none⟩:=by
 rcases h.own.2 with ⟨_,hn,_⟩ | ⟨g,cur,hg,_⟩
 ·omega
 ·exact ⟨g,hg⟩
def xj (A:Nat→Prop) (χ:Nat→Tag) (w:World) (fb:Nat) (r:Fab×List (Tk conv)) (v:Value) (w':World):Prop:=
 dD A χ w fb r.1 w' λB=>∃ la lc ts',v=.slice la r.2.length lc∧ts'.map Prod.snd=r.2∧Owns w' TTa 25 la r.2.length lc (oD ts').flatten∧(∀ k,isB la k→¬ B k)∧∀ x ∈ ts',fL B w' x.1 x.2
theorem BM (ts:List (TR×Tk conv)) (i:Nat) (r:TR) (t:Tk conv):(ts.set i (r,t)).map Prod.snd=(ts.map Prod.snd).set i t:=by simp [List.map_set]
set_option maxHeartbeats 4000000 in
theorem Fc {A:Nat→Prop} {χ:Nat→Tag} {w:World} {fb:Nat} {X:FabX} (h:aY A χ w fb X) (hf:Fine X.pure) {ts:List (TR×Tk conv)} {pa:Option Addr} {pc:Nat} (hts:Rd w pa (oD ts).flatten) (htx:∀ x ∈ ts,fL A w x.1 x.2∧uf x.2) (htl:ts.length≤1000)
  {sch:List Int} {sa:Option Addr} {sc:Nat} (hsd:Dat A w sa (is sch)) (hsi:∀ x ∈ sch,I64 x) {es:List ko} {ea:Option Addr} {ec:Nat} (hed:Dat A w ea (rA es).flatten) (hei:∀ e ∈ es,e.Ok) (hel:es.length≤1000000) {most:Nat} (hm:most≤1000000) :
  Does 23 [ptr fb,.slice pa ts.length pc,.slice sa sch.length sc,.slice ea es.length ec,.int .i64 most] w (xj A χ w fb (drive X.pure (ts.map Prod.snd) sch es most)):=by
 refine does Tryz.func23 ?_
 rw [ptr,pp]
 obtain ⟨inf,hi,hz,hsz,hby⟩:=j8 (T:=TTa) (z:=.agg #[(.int .i64 0),(.int .i64 0),(.int .i64 0),(.int .i64 0),(.int .i64 0),(.int .i64 0),(.int .i64 0),(.int .u64 0),(.int .i64 0),(.int .i64 0),(.int .i64 0),(.int .i64 0),(.slice none 0 0),(.slice none 0 0),(.slice none 0 0),(.slice none 0 0),(.bool false),(.bool false),(.int .i64 0),(.int .i64 0),(.slice none 0 0),(.int .i64 0),(.slice none 0 0),(.int .u64 0),(.int .i64 0)]) (n:=25) (m:=288) (by kernel_rfl)
 have hon:Owns w TTa inf.size none 0 0 []:=Owns.nil _ _ _
 obtain ⟨ap,apc,w1,hrun,hown,hk1,hap⟩:=Owns.append (P:=prog) (t:=TST) (ty:=TST) Tryz.underlying61 hi hz (by rw [hsz];rfl) (by omega) hon (s:=pa) (m:=ts.length) (c:=pc) (news:=(oD ts).flatten) (by rw [hsz,dQ (mC ts)];simp [oD]) hts (xi ts) (by omega) (by rw [hby];omega)
 rw [Nat.zero_add,List.nil_append,hsz] at hown
 rw [Nat.zero_add] at hrun
 have hn1:New w w1:=hk1.mono λk _ hb=>by obtain ⟨o,ho⟩:=hb;cases ho
 have hfr1:∀ k,isB ap k→w.heap.size≤k:=λk hk=>by
  rcases hap with e | e
  ·rw [e] at hk;obtain ⟨o,ho⟩:=hk;cases ho
  ·rw [e] at hk;obtain ⟨o,ho⟩:=hk;simp at ho <;> omega
 have hmono:∀ k,k<w.heap.size→A k∨isB ap k→A k:=λk hlt hc=>hc.elim id λhb=>by have:=hfr1 k hb;omega
 have hT:TW A χ w fb (isB ap) w1 A χ X:=TW.start h hn1 λk hk=>⟨hfr1 k hk,hown.lt hk⟩
 have hD0:DW A χ w fb ap apc [(sa,is sch),(ea,(rA es).flatten)] w1 A χ X ts:=by
  refine ⟨hT,hown,λx hx=>⟨(htx x hx).1.keep (Keep.of_new hn1) hmono,(htx x hx).2⟩,λd hd=>?_,hf⟩
  simp at hd
  rcases hd with rfl | rfl
  ·exact hsd.keep (Keep.of_new hn1) hmono
  ·exact hed.keep (Keep.of_new hn1) hmono
 refine ⟨ap,ts.length,apc,w1,hrun,?_⟩
 clear hrun hk1 hT hon hz hby hsz hi inf hap
 obtain ⟨inf,hi,hz,hsz,hby⟩:=j8 (T:=TI) (z:=.int .i64 0) (n:=1) (m:=8) (by kernel_rfl)
 generalize hcs:(ts.map Prod.snd).map Tk.client=cs
 refine aQ mix (λm env u=>∃ (i:Nat) (ca:Option Addr) (cc:Nat) (jj:List Value),m=ts.length - i∧i≤ts.length∧env=el ⟨fb,0,none⟩ ap ts.length apc sa sch.length sc ea es.length ec most ca i cc i jj∧New w1 u∧Owns u TI 1 ca i cc (is (cs.take i))∧(∀ k,isB ca k→w1.heap.size≤k)) ts.length
  ⟨0,none,0,_,rfl,by omega,rfl,Keep.refl _ _,Owns.nil _ _ _,λk hk=>by obtain ⟨o,ho⟩:=hk;cases ho⟩ ?_
 rintro m env u ⟨i,ca,cc,jj,rfl,hile,rfl,hnu,hoc,hfc⟩
 rw [kE]
 refine aJ (λhp=>?_) (λhp=>?_)
 ·have hlt:i<ts.length:=by omega
  have hg:ts[i]?=some ts[i]:=List.getElem?_eq_getElem hlt
  obtain ⟨ba,oa,hae,hca,hcell⟩:=(Owns.new hnu hown).rd.row (mC ts) (by omega) (tK hg)
  have hcsi:cs[i]?=some ts[i].2.client:=by rw [←hcs];simp [hg]
  rw [hae]
  refine bB (by omega) (by omega) ⟨ts[i].2.client,by rw [←(htx _ (List.getElem_mem hlt)).1.client];simpa using hcell 1 _ rfl,?_⟩
  have hoc':Owns u TI inf.size ca i cc (is (cs.take i)):=by rw [hsz];exact hoc
  refine push_k Tryz.underlying22 hi hz (by rw [hsz];rfl) (by omega) hoc' (vs:=[.int .i64 ts[i].2.client]) (by rw [hsz];rfl) (by intro v hv;simp at hv;subst hv;rfl) (by omega) (by omega) ?_
  intro b3 ap1 cap1 u2 hb3 ho2 hk2 hap1
  rw [hsz] at ho2
  rw [w64 (by omega) (by omega),←hae]
  refine ⟨ts.length - (i+1),by omega,i+1,ap1,cap1,_,rfl,by omega,rfl,qd hnu hk2 hfc,?_,?_⟩
  ·have e:is (cs.take (i+1))=is (cs.take i)++[.int .i64 ts[i].2.client]:=by
    rw [List.take_add_one,hcsi]
    simp [is]
   rw [e]
   exact ho2
  ·intro k hk
   rcases hap1 k hk with h1 | h1
   ·exact hfc k h1
   ·have:=hnu.size
    omega
 have hin:i=ts.length:=by omega
 subst hin
 have hcl:cs.length=ts.length:=by rw [←hcs];simp
 rw [List.take_of_length_le (by omega)] at hoc
 rw [lR]
 clear hp hile
 have hD1:DW A χ w fb ap apc [(ca,is cs),(sa,is sch),(ea,(rA es).flatten)] u A χ X ts:=by
  have hd:=hD0.new hnu
  refine ⟨hd.tw,hd.own,hd.tx,λd hdm=>?_,hf⟩
  rcases List.mem_cons.1 hdm with rfl | hdm
  ·refine ⟨hoc.rd,qg hoc.rd λk hk e=>?_⟩
   have h1:=hfc k hk
   rcases e with e | e
   ·have:=h.low k e
    have:=hn1.size
    omega
   ·have:=hown.lt e
    omega
  ·exact hd.dat d hdm
 have hdrive:drive X.pure (ts.map Prod.snd) sch es most=turns (driveGo cs sch es most 0 X.pure (ts.map Prod.snd)).1 (driveGo cs sch es most 0 X.pure (ts.map Prod.snd)).2:=by unfold drive;rw [hcs]
 rw [hdrive]
 generalize hGo:driveGo cs sch es most 0 X.pure (ts.map Prod.snd)=GG
 have hGo':=hGo
 clear hdrive hD0 hoc hfc hnu hts htx hsd hed
 have hcl1:cs.length≤1000:=by omega
 have hlast:∀ (z:World) (B:Nat→Prop) (ξ:Nat→Tag) (Y:FabX) (ys:List (TR×Tk conv)) (jj:List Value),DW A χ w fb ap apc [(ca,is cs),(sa,is sch),(ea,(rA es).flatten)] z B ξ Y ys→ys.length=ts.length→(Y.pure,ys.map Prod.snd)=GG→
   W prog (sub (aD f23) [1,1,1,1,1]) (ep ⟨fb,0,none⟩ ap ts.length apc jj) (retQ prog f23 (xj A χ w fb (turns GG.1 GG.2))) z:=by
  intro z B ξ Y ys jj hD hyl hYG
  rw [lS]
  rw [←hYG]
  dsimp only
  refine aQ mix (λm env z=>∃ (i:Nat) (B:Nat→Prop) (ξ:Nat→Tag) (Z:FabX) (zs:List (TR×Tk conv)) (jj:List Value),m=ts.length - i∧i≤ts.length∧env=er ⟨fb,0,none⟩ ap ts.length apc i jj∧DW A χ w fb ap apc [(ca,is cs),(sa,is sch),(ea,(rA es).flatten)] z B ξ Z zs∧zs.length=ts.length∧TRo Y.pure (ys.map Prod.snd) i Z.pure (zs.map Prod.snd)) ts.length
   ⟨0,B,ξ,Y,ys,_,rfl,by omega,rfl,hD,hyl,TRo.start _ _⟩ ?_
  clear hD hYG
  rintro m env z ⟨i,B,ξ,Z,zs,jj,rfl,hile,rfl,hD,hzl,hTR⟩
  rw [kH]
  refine aJ (λhp=>?_) (λhp=>?_)
  ·have hlt:i<zs.length:=by omega
   have hg:zs[i]?=some zs[i]:=List.getElem?_eq_getElem hlt
   obtain ⟨lb,hla⟩:=hD.la (by omega)
   rw [hla] at hD ⊢
   obtain ⟨ba,oa,hae,hca,hcell⟩:=hD.own.rd.row (mC zs) (by omega) (tK hg)
   simp at hae
   obtain ⟨rfl,rfl⟩:=hae
   have hx:=hD.tx _ (List.mem_of_getElem? hg)
   refine bB (by omega) (by omega) ?_
   refine aC.mk_ex zs[i].1 ⟨by simpa using hca,?_⟩
   refine aE (D7 hD.tw.fab hD.fine.good hx.1 hx.2) ?_
   rintro v z1 hp1
   obtain ⟨B',ξ',Z',r',rfl,hw,hD',hZ'⟩:=hD.turned hg hp1
   refine aC.mk_ex r' ⟨rfl,?_⟩
   refine bB (by omega) (by omega) ?_
   have e12:0+Int.toNat (i:Int) * 25=i * 25:=by omega
   rw [e12]
   refine ⟨hw,?_⟩
   rintro z2 hz2
   rw [w64 (by omega) (by omega)]
   refine ⟨ts.length - (i+1),by omega,i+1,B',ξ',Z',_,_,rfl,by omega,rfl,by rw [hz2];exact hD',by simpa using hzl,?_⟩
   rw [BM,hZ']
   exact hTR.step (by simp [hg])
  ·have hin:i=ts.length:=by omega
   rw [lU]
   have hdone:=hTR.done (by simp;omega)
   rw [hdone]
   refine hD.tw.done ⟨ap,apc,zs,by simp [hzl],rfl,by simpa using hD.own,λk hk hb=>?_,λx hx=>(hD.tx x hx).1.keep (Keep.refl _ _) λ_ _ e=>.inl e⟩
   obtain ⟨l1,l2,l3⟩:=hD.tw.loc k hk
   rcases (hD.tw.next.iff k).1 hb with hc | hc
   ·exact hc l3
   ·omega
 refine aQ mix (λm env z=>∃ (n:Nat) (B:Nat→Prop) (ξ:Nat→Tag) (Y:FabX) (ys:List (TR×Tk conv)) (jj:List Value),m=most - n∧n≤most∧env=em ⟨fb,0,none⟩ ap ts.length apc sa sch.length sc ea es.length ec most ca ts.length cc n jj∧DW A χ w fb ap apc [(ca,is cs),(sa,is sch),(ea,(rA es).flatten)] z B ξ Y ys∧ys.length=ts.length∧driveGo cs sch es (most - n) n Y.pure (ys.map Prod.snd)=GG) most
  ⟨0,A,χ,X,ts,_,rfl,by omega,rfl,hD1,rfl,hGo⟩ ?_
 clear hD1 hGo hGo'
 rintro m env z ⟨n,B,ξ,Y,ys,jj,rfl,hnm,rfl,hD,hyl,hG⟩
 rw [kF]
 refine aJ (λhp=>?_) (λhp=>?_)
 ·have hms:most - n=(most - (n+1))+1:=by omega
  rw [hms,driveGo] at hG
  refine aQ mix (λm env z=>∃ (k:Nat) (B:Nat→Prop) (ξ:Nat→Tag) (Z:FabX) (jj:List Value),m=es.length - k∧k≤es.length∧env=dE ⟨fb,0,none⟩ ap ts.length apc sa sch.length sc ea es.length ec most ca ts.length cc n k jj∧DW A χ w fb ap apc [(ca,is cs),(sa,is sch),(ea,(rA es).flatten)] z B ξ Z ys∧Z.pure=happens Y.pure cs n (es.take k)) es.length
   ⟨0,B,ξ,Y,_,rfl,by omega,rfl,hD,rfl⟩ ?_
  clear hD
  rintro m env z ⟨k,B,ξ,Z,jj,rfl,hke,rfl,hD,hZ⟩
  rw [kG]
  refine aJ (λhq=>?_) (λhq=>?_)
  ·have hlt:k<es.length:=by omega
   have hg:es[k]?=some es[k]:=List.getElem?_eq_getElem hlt
   have hok:=hei _ (List.mem_of_getElem? hg)
   have hsn:=wU (F:=Y.pure) (cs:=cs) (n:=n) (es.take k) es[k]
   rw [←List.take_succ_eq_append_getElem hlt,←hZ] at hsn
   have hed:=(hD.dat (ea,(rA es).flatten) (by simp)).1
   obtain ⟨ba,oa,hae,hca,hcell⟩:=hed.row (Bq es) (by omega) (Br hg)
   have hae':ea=some ⟨ba,oa,none⟩:=hae
   rw [hae']
   refine bB (by omega) (by omega) ⟨es[k].at_,by simpa using hcell 0 _ rfl,?_⟩
   refine aE (fS _ _ _ hok.at_ (by omega)) ?_
   rintro v z1 ⟨rfl,rfl⟩
   rw [if_neg (by omega)]
   refine ⟨_,rfl,bH (λhe=>?_) (λhe=>?_)⟩
   ·refine bB (by omega) (by omega) (bE.mk_ex ⟨es[k].at_,es[k].kind,es[k].a⟩ ⟨by simpa [ko.cells,bE.cells] using hca,?_⟩)
    have hcr:=(hD.dat (ca,is cs) (by simp)).1
    have hhc:=C8 hD.tw.fab hD.fine hcr (cc:=cc) hcl1 hok
    rw [hcl] at hhc
    refine aE hhc ?_
    rintro v z2 ⟨rfl,hp2⟩
    obtain ⟨B',ξ',Z',hD',hZ',_⟩:=hD.op hp2 (hD.fine.happen _ _)
    refine ⟨rfl,?_⟩
    rw [w64 (by omega) (by omega),←hae']
    rw [if_pos he] at hsn
    exact ⟨es.length - (k+1),by omega,k+1,B',ξ',Z',_,rfl,by omega,rfl,hD',by rw [hZ',hsn]⟩
   ·rw [w64 (by omega) (by omega),←hae']
    rw [if_neg he] at hsn
    exact ⟨es.length - (k+1),by omega,k+1,B,ξ,Z,_,rfl,by omega,rfl,hD,hsn.symm⟩
  have hke':k=es.length:=by omega
  subst hke'
  rw [List.take_of_length_le (Nat.le_refl _)] at hZ
  rw [lT]
  rw [←hZ] at hG
  refine aQ mix (λm env z=>∃ (i:Nat) (B:Nat→Prop) (ξ:Nat→Tag) (V:FabX) (zs:List (TR×Tk conv)) (jj:List Value),m=ts.length - i∧i≤ts.length∧env=et ⟨fb,0,none⟩ ap ts.length apc sa sch.length sc ea es.length ec most ca ts.length cc n i jj∧DW A χ w fb ap apc [(ca,is cs),(sa,is sch),(ea,(rA es).flatten)] z B ξ V zs∧zs.length=ts.length∧TRo Z.pure (ys.map Prod.snd) i V.pure (zs.map Prod.snd)) ts.length
   ⟨0,B,ξ,Z,ys,_,rfl,by omega,rfl,hD,hyl,TRo.start _ _⟩ ?_
  clear hD hq hke
  rintro m env z ⟨i,B,ξ,V,zs,jj,rfl,hile,rfl,hD,hzl,hTR⟩
  rw [kI]
  refine aJ (λhq=>?_) (λhq=>?_)
  ·have hlt:i<zs.length:=by omega
   have hg:zs[i]?=some zs[i]:=List.getElem?_eq_getElem hlt
   obtain ⟨lb,hla⟩:=hD.la (by omega)
   rw [hla] at hD ⊢
   obtain ⟨ba,oa,hae,hca,hcell⟩:=hD.own.rd.row (mC zs) (by omega) (tK hg)
   simp at hae
   obtain ⟨rfl,rfl⟩:=hae
   have hx:=hD.tx _ (List.mem_of_getElem? hg)
   refine bB (by omega) (by omega) ?_
   refine aC.mk_ex zs[i].1 ⟨by simpa using hca,?_⟩
   refine aE (D7 hD.tw.fab hD.fine.good hx.1 hx.2) ?_
   rintro v z1 hp1
   obtain ⟨B',ξ',Z',r',rfl,hw,hD',hZ'⟩:=hD.turned hg hp1
   refine aC.mk_ex r' ⟨rfl,?_⟩
   refine bB (by omega) (by omega) ?_
   have e12:0+Int.toNat (i:Int) * 25=i * 25:=by omega
   rw [e12]
   refine ⟨hw,?_⟩
   rintro z2 hz2
   rw [w64 (by omega) (by omega)]
   refine ⟨ts.length - (i+1),by omega,i+1,B',ξ',Z',_,_,rfl,by omega,rfl,by rw [hz2];exact hD',by simpa using hzl,?_⟩
   rw [BM,hZ']
   exact hTR.step (by simp [hg])
  ·have hin:i=ts.length:=by omega
   have hdone:=hTR.done (by simp;omega)
   rw [hdone] at hG
   rw [lV]
   have hsr:=(hD.dat (sa,is sch) (by simp)).1
   refine aE (E1 hD.tw.fab hD.fine hsr hsi n) ?_
   rintro v z1 ⟨rfl,hp1⟩
   obtain ⟨B',ξ',V',hD',hV',_⟩:=hD.op hp1 (hD.fine.rstep _ _)
   refine ⟨_,rfl,dN (λhb=>?_) (λhb=>?_)⟩
   ·rw [if_neg (by rw [hb];simp)] at hG
    exact hlast z1 B' ξ' V' zs _ hD' hzl (by rw [hV'];exact hG)
   ·rw [if_pos hb] at hG
    rw [w64 (by omega) (by omega)]
    exact ⟨most - (n+1),by omega,n+1,B',ξ',V',zs,_,rfl,by omega,rfl,hD',hzl,by rw [hV'];exact hG⟩
 ·have hnm':most - n=0:=by omega
  rw [hnm',driveGo] at hG
  exact hlast z B ξ Y ys _ hD hyl hG
theorem Fd {l:List (TR×Tk conv)} {t:Tk conv} (h:l.map Prod.snd=[t]):∃ r,l=[(r,t)]:=by
 cases l with
 |nil=>cases h
 |cons x l=>
  rw [List.map_cons] at h
  obtain ⟨h1,h2⟩:=List.cons.inj h
  have h3:l=[]:=List.map_eq_nil_iff.1 h2
  subst h3
  exact ⟨x.1,by rw [←h1]⟩
theorem BN (F:Fab) (r:TR) (t:Tk conv):drive F ([(r,t)].map Prod.snd) [] [] 20000=alone F t:=rfl
section
attribute [local irreducible] drive alone
set_option maxHeartbeats 2000000 in
theorem x8 {A:Nat→Prop} {χ:Nat→Tag} {w:World} {fb:Nat} {X:FabX} (h:aY A χ w fb X) (hf:Fine X.pure) {r:TR} {t:Tk conv} (hx:fL A w r t) (hsh:uf t) :
  Does 15 [ptr fb,r.val] w λv w'=>dD A χ w fb (alone X.pure t).1 w' λB=>∃ t' r',(alone X.pure t).2=[t']∧v=r'.val∧fL B w' r' t':=by
 refine does Tryz.func15 ?_
 rw [ptr,po]
 rintro b1 w1 hb1 hw1 b2 w2 hb2 hw2
 obtain ⟨hz1,hn1⟩:=aN hb1 hw1
 obtain ⟨hz2,hn2⟩:=aN hb2 hw2
 have hz12:Blk w2 b1 r.cells TTa:=New.blk hn2 hz1
 have hs12:=hn1.size
 have hs2:=hz2.lt
 clear hw1 hw2 hz1
 refine aC.mk_ex r ⟨aK hz12 rfl,?_⟩
 rintro b3 w3 hb3 hw3
 obtain ⟨hz3,hn3⟩:=aN hb3 hw3
 have hz3:Blk w3 b3 r.cells TTa:=hz3
 clear hw3
 have hn03:=(hn1.new hn2).new hn3
 have hs3:=hn3.size
 have hT:TW A χ w fb (λk=>k=b2) w3 A χ X:=TW.start h hn03 λk hk=>by omega
 have hmono:∀ k,k<w.heap.size→A k∨k=b2→A k:=λk hlt hc=>hc.elim id λe=>by omega
 have hdn:Dat (λk=>A k∨k=b2) w3 none ([]:List Value):=⟨.inl rfl,.inl rfl⟩
 have hrd:Rd w3 (some ⟨b3,0,none⟩) (oD [(r,t)]).flatten:=fG hz3 (by simp [oD,aC.cells])
 have hdr:=Fc hT.fab hf (ts:=[(r,t)]) (pc:=1) hrd (λx hxm=>by simp at hxm;rw [hxm];exact ⟨hx.keep (Keep.of_new hn03) hmono,hsh⟩) (by simp) (sch:=[]) (sa:=none) (sc:=0) hdn (λx hx=>by cases hx) (es:=[]) (ea:=none) (ec:=0) hdn (λx hx=>by cases hx) (by simp) (most:=20000) (by omega)
 refine aE hdr ?_
 rintro v w4 hp
 obtain ⟨B',ξ',X',h3,hX3,hK3,hk3,hM3,hL3⟩:=hT.op hp
 obtain ⟨la,lc,ts',rfl,hts',how,hnB,htx'⟩:=hK3
 have hal:=BN X.pure r t
 rw [hal] at hX3 hts' how ⊢
 obtain ⟨t',ht'⟩:=Bp X.pure t
 rw [ht'] at hts' how ⊢
 obtain ⟨r',rfl⟩:=Fd hts'
 refine ⟨_,_,_,rfl,?_⟩
 obtain ⟨ba,oa,hae,hca,hcell⟩:=how.rd.row (mC [(r',t')]) (by omega) (i:=0) rfl
 have hoa:oa=0:=by
  rcases how.2 with ⟨he,_⟩ | ⟨g,cur,hg,_⟩
  ·rw [he] at hae;cases hae
  ·rw [hg] at hae;simp at hae <;> omega
 subst hoa
 rw [hae]
 refine bB (by omega) (by simp) ?_
 have hb24:=(hL3 b2 rfl).trans (New.blk hn3 hz2)
 refine aC.mk_ex r' ⟨by simpa using hca,?_⟩
 refine gJ (vs:=r'.cells) hb24 rfl (aC.single r') λw5 hb5 hk5=>?_
 refine aC.mk_ex r' ⟨aK hb5 rfl,rfl,?_⟩
 rw [←hX3]
 refine (h3.local hk5 λ_ e=>e).done ⟨t',r',rfl,rfl,?_⟩
 exact (htx' (r',t') (by simp)).keep (hk5.mono λ_ _ e=>.inr e) λk _ e=>.inl e
end
end Go.Proofs.YtegepanmkjemjaaGreat.C12
namespace Go.Proofs.YtegepanmkjemjaaGreat
open Go.Eng C12
def ui (c seq lines:Int) (n:Nat) (R:List aU) (W:List aB):Tk conv:=⟨c,⟨c,seq,lines,vA n,R,W⟩,[],false,false,((0,0):Int×Int)⟩
def Fe (c seq lines:Int) (rv:aM) (ra:Option Addr) (rl rc:Nat) (wa:Option Addr) (wl wc:Nat):aC:=
 ⟨3,c,⟨0⟩,⟨0,0,0,0,0⟩,⟨c,seq,lines,rv,ra,rl,rc,wa,wl,wc⟩,none,0,0,false,false,0,⟨0,none,0,0⟩,0,none,0,0,0,0⟩
structure PgU (p:aB):Prop where
 head:U64 p.Head
 data:∀ x ∈ datL p,U64 x
theorem xk {A:Nat→Prop} {u:World} {c seq lines:Int} {n:Nat} {rv:aM} {ra:Option Addr} {rl rc:Nat} {wa:Option Addr} {wl wc:Nat} {R:List aU} {W:List aB} (hv:ViewAt A u rv (vA n))
  (hr:Rd u ra (lF R).flatten) (hrl:rl=R.length) (hrf:R.length≤1000000) (hro:(lF R).flatten=[]∨Off A ra) (hw:Rd u wa (eI W).flatten) (hwl:wl=W.length) (hwf:W.length≤1000000) (hwo:(eI W).flatten=[]∨Off A wa) (hu:∀ p ∈ W,PgU p) :
  fL A u (Fe c seq lines rv ra rl rc wa wl wc) (ui c seq lines n R W):=
 ⟨rfl,rfl,rfl,rfl,mS.nil _ _ _,rfl,Nat.le_refl _,⟨⟨rfl,rfl,rfl,⟨A,hv⟩,hr,hrl,hrf,⟨hw,hwl,hwf,λp hp=>(hu p hp).head⟩⟩,hv,hro,hwo,λp hp=>(hu p hp).data⟩,⟨rfl,rfl⟩,by show ([]:List (List Done)).length≤201;simp⟩
theorem pW (c seq lines:Int) (n:Nat) (R:List aU) (W:List aB):uf (ui c seq lines n R W):=λ_=>by show ([]:List (List Done)).length≤200;simp
def rW:aB:=⟨96,256,7,0,0,0,0,0,0⟩
def outM (t:Tk conv):Int×Int:=t.out
def D8:Bool:=yG (Fab.fresh 1 1 98) && match yH 0 (Fab.fresh 1 1 98) (ui 0 1 98 1 [] [rW]) with
 |some e=>decide (e.1.nodes.length=1∧e.1.lines=98) && (e.2.over && (!e.2.bad && ((outM e.2).1 == 0 && ((outM e.2).2 == 3 && ((zV e.1 0).down == false && ((zV e.1 0).get 769 == 7 && ((zV e.1 0).get 768 == 512 && (e.1.trips 0 == 4 && match e.1.clients[0]? with
  |some C=>C.posted == 5
  |none=>false))))))))
 |none=>false
set_option maxRecDepth 100000 in
theorem BO:D8=true:=by kernel_rfl
theorem x9 (F:Fab) (t:Tk conv):alone F t=drive F [t] [] [] 20000:=rfl
theorem Ff {X:FabX} {F:Fab} (h:X.pure=F):X.nodes.length=F.nodes.length:=by rw [←h];simp [FabX.pure]
theorem Fg {X:FabX} {F:Fab} (h:X.pure=F) {i:Nat} (hi:i<F.nodes.length):∃ x,X.nodes[i]?=some x∧zV F i=x.n:=by
 obtain ⟨x,hx⟩:∃ x,X.nodes[i]?=some x:=⟨_,List.getElem?_eq_getElem (by rw [Ff h];exact hi)⟩
 exact ⟨x,hx,by rw [←h];exact Fa hx⟩
theorem Gy {X:FabX} {F:Fab} (h:X.pure=F) (hf:Fine F) {i:Nat} {x:kg} (hx:X.nodes[i]?=some x):x.n.words.length=F.lines * 8:=by
 refine hf.good.ok.words _ ?_
 rw [←h]
 simp only [FabX.pure,List.mem_map]
 exact ⟨x,List.mem_of_getElem? hx,rfl⟩
section
attribute [local irreducible] drive alone
set_option maxRecDepth 20000 in
set_option maxHeartbeats 2000000 in
theorem Fh (w:World):Does 13 [] w λv u=>v=.bool true∧New w u:=by
 have hr:=BO
 unfold D8 at hr
 rw [Bool.and_eq_true] at hr
 obtain ⟨hq,hr⟩:=hr
 have hf:Fine (Fab.fresh 1 1 98):=Fine.fresh (by omega) (by omega) (by omega)
 cases hd:yH 0 (Fab.fresh 1 1 98) (ui 0 1 98 1 [] [rW]) with
 |none=>rw [hd] at hr;cases hr
 |some e=>
 rw [hd] at hr
 have hdr:=Bz hf hq rfl hd [] (most:=20000) (by omega)
 rw [←x9] at hdr
 simp only [Bool.and_eq_true,decide_eq_true_eq,beq_iff_eq,Bool.not_eq_true'] at hr
 obtain ⟨⟨hn1,hl98⟩,hover,hbad,hcode,hfate,hup,hdat,hhead,htrips,hposted⟩:=hr
 have hfe:Fine e.1:=by
  have:=Fine.alone hf (ui 0 1 98 1 [] [rW])
  rw [hdr] at this
  exact this
 obtain ⟨C,hC⟩:∃ C,e.1.clients[0]?=some C:=by
  cases hC:e.1.clients[0]? with
  |none=>rw [hC] at hposted;cases hposted
  |some C=>exact ⟨C,rfl⟩
 rw [hC] at hposted
 have hposted:C.posted=5:=by simpa using hposted
 refine does Tryz.func13 ?_
 rw [pm]
 refine aE (A8 (n:=1) (c:=1) (lines:=98) (by omega) (by omega) (by omega)) ?_
 rintro v u1 ⟨fb,A,χ,X,rfl,hF,hnw1,hA,hX⟩
 refine ⟨_,_,rfl,cU rfl ?_⟩
 refine aE (q8 _ (n:=1) (by omega) (by omega)) ?_
 rintro v u2 ⟨rv,vw,rfl,hv,hn2,_,rfl⟩
 refine aM.mk_ex rv ⟨rfl,?_⟩
 rintro b1 u3 hb1 hu3
 obtain ⟨hz3,hn3⟩:=aN hb1 hu3
 have hz3:Blk u3 b1 rW.cells 55:=hz3
 clear hu3
 have hs2:=hn2.size
 have hT:TW A χ u1 fb (λ_=>False) u3 A χ X:=TW.start hF (hn2.new hn3) λk h=>h.elim
 have hlow:∀ k,A k∨False→k<u1.heap.size:=λk hk=>hk.elim (hF.low k) False.elim
 have htk:fL (λk=>A k∨False) u3 (Fe 0 1 98 rv none 0 0 (some ⟨b1,0,none⟩) 1 1) (ui 0 1 98 1 [] [rW]):=by
  refine xk ?_ (.inl rfl) rfl (by simp) (.inl rfl) (fG hz3 (by simp [eI])) rfl (by simp) (.inr λh=>?_) ?_
  ·have h1:ViewAt (λk=>A k∨False) u2 rv ⟨0,stM (1:Int).toNat⟩:=hv.mono λk _ hk=>hlow k hk
   exact h1.new hn3
  ·have:=hlow _ h
   have:b1<u1.heap.size:=this
   omega
  ·intro p hp
   simp at hp
   subst hp
   exact ⟨⟨by simp [rW],by simp [rW]⟩,by intro x hx;simp [datL,rW] at hx;rcases hx with rfl | rfl<;>exact ⟨by omega,by omega⟩⟩
 have hcall:=x8 hT.fab (by rw [hX];exact hf) htk (pW _ _ _ _ _ _)
 refine aE hcall ?_
 rintro v u4 hp
 obtain ⟨B',ξ',X',h4,hX4,hK4,hk4,hM4,hL4⟩:=hT.op hp
 obtain ⟨t',r',ht',rfl,htx⟩:=hK4
 rw [hX,hdr] at hX4 ht'
 have hX4:X'.pure=e.1:=hX4
 have ht':t'=e.2:=by simpa using ht'.symm
 subst ht'
 refine aC.mk_ex r' ⟨rfl,?_⟩
 refine gX (vs:=r'.cells) rfl (aC.single _) λb2 u5 hb2 hz5 hn5=>?_
 obtain ⟨x,hx,hxm⟩:=Fg hX4 (i:=0) (by omega)
 have hlen:=Gy hX4 hfe hx
 rw [hl98] at hlen
 rw [hxm] at hup hdat hhead
 have h5:=h4.new hn5
 refine aE (yF h5.fab hx (l:=96) (by omega) (by omega) hup) ?_
 rintro v u6 ⟨rfl,hn6⟩
 refine aB.mk_ex (x.n.page 96) ⟨true,rfl,?_⟩
 refine gX (vs:=(x.n.page 96).cells) rfl (aB.single _) λb3 u7 hb3 hz7 hn7=>?_
 have hz57:=New.blk (hn6.new hn7) hz5
 have h7:=(h5.new hn6).new hn7
 refine ⟨_,hz57.cell (i:=16) rfl,jt (by rw [htx.over];exact hover) ⟨_,hz57.cell (i:=17) rfl,jt (by rw [htx.bad,hbad];rfl) ⟨_,hz57.cell (i:=18) rfl,jt ?_ ⟨_,hz57.cell (i:=24) rfl,jt ?_ (jt rfl ⟨_,hz7.cell (i:=1) rfl,jt ?_ ?_⟩)⟩⟩⟩⟩
 ·have:r'.Code=(outM e.2).1:=htx.out.1
  rw [this,hcode]
  rfl
 ·have:r'.Fate=(outM e.2).2:=htx.out.2
  rw [this,hfate]
  rfl
 ·have:(x.n.page 96).Head=x.n.get 768:=rfl
  rw [this,hhead]
  rfl
 ·refine sN (by omega) (by omega) ⟨_,hz7.cell (i:=2) rfl,jt ?_ ?_⟩
  ·have:(x.n.page 96).Data0=x.n.get 769:=rfl
   rw [this,hdat]
   rfl
  ·refine aE (AO h7.fab 0) ?_
   rintro v u8 ⟨rfl,rfl⟩
   rw [hX4,htrips]
   refine ⟨_,rfl,jt rfl ?_⟩
   refine aE (Dh h7.fab (c:=0) (by rw [hX4];exact hC)) ?_
   rintro v u9 ⟨rfl,rfl⟩
   rw [hposted]
   exact ⟨_,rfl,rfl,h7.mine hF hnw1 hA⟩
end
end Go.Proofs.YtegepanmkjemjaaGreat
namespace Go.Proofs.YtegepanmkjemjaaGreat
open Go.Eng C12
end Go.Proofs.YtegepanmkjemjaaGreat
namespace Go.Proofs.YtegepanmkjemjaaGreat
open Go.Eng C12
theorem oF {α:Type} {cells:α→List Value} {sz:Nat} (hsz:∀ x,(cells x).length=sz):∀ (l:List α) (i j:Nat) (r r':α) (v:Value),l[i]?=some r→j<sz→(cells r).set j v=cells r'→((l.map cells).flatten).set (i * sz+j) v=((l.set i r').map cells).flatten
 | [],i,j,r,r',v,h,_,_=>by simp at h
 |x::l,0,j,r,r',v,h,hj,hv=>by
  simp only [List.getElem?_cons_zero,Option.some.injEq] at h
  subst h
  rw [List.map_cons,List.flatten_cons,List.set_append_left _ _ (by rw [hsz];omega),Nat.zero_mul,Nat.zero_add,hv]
  rfl
 |x::l,i+1,j,r,r',v,h,hj,hv=>by
  rw [List.getElem?_cons_succ] at h
  have hx:=hsz x
  have e:(i+1) * sz+j=(cells x).length+(i * sz+j):=by rw [hx,Nat.succ_mul];omega
  rw [List.map_cons,List.flatten_cons,e,List.set_append_right _ _ (by omega),Nat.add_sub_cancel_left,oF hsz l i j r r' v h hj hv]
  rfl
attribute [local irreducible] drive
end Go.Proofs.YtegepanmkjemjaaGreat
namespace Go.Proofs.YtegepanmkjemjaaGreat
open Go.Eng
end Go.Proofs.YtegepanmkjemjaaGreat
namespace Go.Proofs.YtegepanmkjemjaaGreat
open Go.Eng C12
section
variable {cv:Conv}
end
end Go.Proofs.YtegepanmkjemjaaGreat
namespace Go.Proofs.YtegepanmkjemjaaGreat
open Go.Eng C12
end Go.Proofs.YtegepanmkjemjaaGreat
namespace Go.Proofs.YtegepanmkjemjaaGreat
open Go.Eng IntKind
end Go.Proofs.YtegepanmkjemjaaGreat
namespace Go.Proofs.YtegepanmkjemjaaGreat
open Go.Eng C12
attribute [local irreducible] drive
theorem lu {P:Program} {fn:Func} {R:Value→World→Prop} {Q:Exit→List Value→World→Prop} {c:Code} {env:List Value} {w:World} (h':∀ env w,Q .ret env w=retQ P fn R .ret env w) (h:Go.Eng.W P c env (Qr P fn R Q) w):Go.Eng.W P c env Q w:=(W_qr h').mp h
end Go.Proofs.YtegepanmkjemjaaGreat
namespace Go.Proofs.YtegepanmkjemjaaGreat
open Go.Eng
end Go.Proofs.YtegepanmkjemjaaGreat
namespace Go.Proofs.YtegepanmkjemjaaGreat
open Go.Eng
end Go.Proofs.YtegepanmkjemjaaGreat
namespace Go.Proofs.YtegepanmkjemjaaGreat
open Go.Eng
end Go.Proofs.YtegepanmkjemjaaGreat
namespace Go.Proofs.YtegepanmkjemjaaGreat
open Go.Eng IntKind
end Go.Proofs.YtegepanmkjemjaaGreat
namespace Go.Proofs.YtegepanmkjemjaaGreat
open Go.Eng
end Go.Proofs.YtegepanmkjemjaaGreat
namespace Go.Proofs.YtegepanmkjemjaaGreat
open Go.Eng
end Go.Proofs.YtegepanmkjemjaaGreat
namespace Go.Proofs.YtegepanmkjemjaaGreat
open Go.Eng
end Go.Proofs.YtegepanmkjemjaaGreat
namespace Go.Proofs.YtegepanmkjemjaaGreat
open Go.Eng IntKind
end Go.Proofs.YtegepanmkjemjaaGreat
namespace Go.Proofs.YtegepanmkjemjaaGreat
open Go.Eng
end Go.Proofs.YtegepanmkjemjaaGreat
namespace Go.Proofs.YtegepanmkjemjaaGreat
open Go.Eng
end Go.Proofs.YtegepanmkjemjaaGreat
namespace Go.Proofs.YtegepanmkjemjaaGreat
open Go.Eng IntKind
end Go.Proofs.YtegepanmkjemjaaGreat
namespace Go.Proofs.YtegepanmkjemjaaGreat
open Go.Eng IntKind
end Go.Proofs.YtegepanmkjemjaaGreat
namespace Go.Proofs.YtegepanmkjemjaaGreat
open Go.Eng IntKind
end Go.Proofs.YtegepanmkjemjaaGreat
namespace Go.Proofs.YtegepanmkjemjaaGreat
open Go.Eng
end Go.Proofs.YtegepanmkjemjaaGreat
namespace Go.Proofs.YtegepanmkjemjaaGreat
open Go.Eng
end Go.Proofs.YtegepanmkjemjaaGreat
namespace Go.Proofs.YtegepanmkjemjaaGreat
open Go.Eng C12
section
variable {cv:Conv}
variable {c i:Nat} {chk:Fab×Tk cv→Prop}
end
end Go.Proofs.YtegepanmkjemjaaGreat
namespace Go.Proofs.YtegepanmkjemjaaGreat
open Go.Eng
section
variable {cv:Conv} {chk:List aP→Prop} {fin:Fab×Tk cv→Prop} {c:Nat}
end
end Go.Proofs.YtegepanmkjemjaaGreat
namespace Go.Proofs.YtegepanmkjemjaaGreat
open Go.Eng C12
section
variable {cv:Conv}
end
end Go.Proofs.YtegepanmkjemjaaGreat
namespace Go.Proofs.YtegepanmkjemjaaGreat
open Go.Eng C12
section
variable {cv:Conv}
end
end Go.Proofs.YtegepanmkjemjaaGreat
namespace Go.Proofs.YtegepanmkjemjaaGreat
open Go.Eng C12
end Go.Proofs.YtegepanmkjemjaaGreat
namespace Go.Proofs.YtegepanmkjemjaaGreat
open Go.Eng C12
theorem ya (C:Comp) (j:Nat) (l:Lane) (p:Pair) (d:Option Done):(C.comes j l p d).alive=C.alive:=by cases d<;>rfl
end Go.Proofs.YtegepanmkjemjaaGreat
