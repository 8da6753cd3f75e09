import Derived.Test.YtegepanmkjemjaaGreatv30
import Derived.Test.YtegepanmkjemjaaGreatv28
import Derived.Test.YtegepanmkjemjaaGreatProg
import Derived.Test.YtegepanmkjemjaaGreatv03
import Derived.Test.YtegepanmkjemjaaGreatv20
import Derived.Test.YtegepanmkjemjaaGreatv18
set_option linter.unusedVariables false
namespace Go.Proofs.YtegepanmkjemjaaGreat
open Go.Eng
theorem sV {n:aO} {a:Nat} {ws:List Int} (h:a+ws.length≤n.words.length):(n.write a ws).words.length=n.words.length:=by
 unfold aO.write
 simp
 omega
theorem sW {n:aO} {a:Nat} {ws:List Int} (h:a+ws.length≤n.words.length) (i:Nat):(n.write a ws).get i=if a≤i∧i<a+ws.length then ws.getD (i - a) 0 else n.get i:=by
 unfold aO.write aO.get
 simp only [List.getD_eq_getElem?_getD]
 by_cases h1:i<a
 ·rw [if_neg (by omega),List.append_assoc,List.getElem?_append_left (by simp;omega),List.getElem?_take_of_lt h1]
 ·by_cases h2:i<a+ws.length
  ·rw [if_pos ⟨by omega,h2⟩,List.append_assoc,List.getElem?_append_right (by simp;omega),List.getElem?_append_left (by simp;omega)]
   congr 2
   simp
   omega
  ·rw [if_neg (by omega),List.getElem?_append_right (by simp;omega),List.getElem?_drop]
   congr 2
   simp
   omega
theorem A8 {n:aO} {a:Nat} (h:a<n.words.length) (v:Int) (i:Nat):({ n with words:=n.words.set a v }:aO).get i=if i=a then v else n.get i:=by
 unfold aO.get
 simp only [List.getD_eq_getElem?_getD]
 by_cases e:i=a
 ·subst e
  rw [if_pos rfl,List.getElem?_set_self h]
  rfl
 ·rw [if_neg e,List.getElem?_set_ne (λe2=>e e2.symm)]
theorem CR {n:aO} {a:Nat} (h:a<n.words.length):n.read a 1=[n.get a]:=by
 unfold aO.read
 simp only [Int.toNat_natCast]
 rw [List.drop_eq_getElem_cons h]
 have hs:=aO.get_some h
 rw [List.getElem?_eq_getElem h] at hs
 simp at hs
 simp [hs]
theorem jJ {v:aK} (h1:1≤v.count) (h2:v.At % 8+v.count≤8) (h0:0≤v.At):v.pieces=[(v.At,v.count)]:=by
 unfold aK.pieces
 obtain ⟨f,hf⟩:∃ f,v.count.toNat=f+1:=⟨v.count.toNat - 1,by omega⟩
 rw [hf,bZ,if_neg (by omega)]
 have e:(if 8 - v.At % 8<v.count then 8 - v.At % 8 else v.count)=v.count:=by
  split
  ·omega
  ·rfl
 rw [e]
 cases f with
 |zero=>rfl
 |succ f=>rw [bZ,if_pos (by omega)]
structure NFix (L:Nat) (n:aO):Prop where
 up:n.down=false
 len:n.words.length=L * 8
 key:n.get 0=1
 boot:n.get 1=1
 door:∀ c:Nat,c<6→n.get (24+c)=1
structure VGo (N L:Nat) (x:Verb):Prop where
 valid:∀ m:Int,N≤m→m≤5→x.v.valid m L=0
 node:0≤x.node∧x.node<N
 key:x.key=1
 boot:x.boot=1
theorem kT {N L:Nat} {n:aO} (hn:NFix L n) (hN:N≤5) {x:Verb} (hx:VGo N L x) {p:Pair} {c:Nat} (hc:c<6) (hp:p.client=c) (hi:p.inc=1):p.refusal x n=0:=by
 unfold Pair.refusal
 rw [if_neg (by rw [hn.up];simp),hn.len,show L * 8 / 8=L by omega,if_neg (by rw [hx.valid 5 (by omega) (by omega)];simp)]
 have hd:=hn.door c hc
 have e:(24+p.client).toNat=24+c:=by rw [hp];omega
 rw [e,hn.key,hn.boot,hi]
 unfold aK.check
 split
 ·rfl
 ·rw [if_neg (by omega)]
  split
  ·rfl
  ·rw [if_neg]
   show ¬ (x.boot<0∨x.boot≠1∨x.key≠1)
   rw [hx.key,hx.boot]
   omega
theorem xD {p:Pair} {n:aO} {x:Verb} {xs:List Verb} (hv:p.verbs=x::xs) (hr:p.refusal x n=0) :
  p.step n=if p.executed+1<x.v.pieces.length then ({ p with executed:=p.executed+1,words:=p.words++(exec x (x.v.pieces.getD p.executed (0,0)) n).2 },(exec x (x.v.pieces.getD p.executed (0,0)) n).1,none)
   else (p.done,(exec x (x.v.pieces.getD p.executed (0,0)) n).1,some ⟨0,p.words++(exec x (x.v.pieces.getD p.executed (0,0)) n).2⟩):=by
 unfold Pair.step
 rw [hv]
 simp only
 rw [if_neg (by rw [hr];simp)]
theorem ve {p:Pair} {n:aO} {x:Verb} {xs:List Verb} (hP:bU p) (hv:p.verbs=x::xs) (hr:p.refusal x n=0) {pc:Int×Int} (h1:x.v.pieces=[pc]):p.step n=(p.done,(exec x pc n).1,some ⟨0,(exec x pc n).2⟩):=by
 have hl:=hP.rdy x xs hv
 rw [h1] at hl
 have he:p.executed=0:=by simp at hl;exact hl
 rw [xD hv hr,h1,he]
 simp [hP.zero he]
structure NFr (a k:Nat) (n n':aO):Prop where
 len:n'.words.length=n.words.length
 down:n'.down=n.down
 get:∀ i,i<a∨a+k≤i→n'.get i=n.get i
theorem NFr.fix {a k L:Nat} {n n':aO} (h:NFr a k n n') (hn:NFix L n) (ha:30≤a):NFix L n':=
 ⟨h.down.trans hn.up,h.len.trans hn.len,(h.get 0 (by omega)).trans hn.key,(h.get 1 (by omega)).trans hn.boot,λc hc=>by rw [h.get (24+c) (by omega)];exact hn.door c hc⟩
theorem zt {x:Verb} (hk:x.kind=2) (h0:0≤x.at_) {n:aO} (hl:x.at_+x.words.length≤n.words.length) {pc:Int×Int} (hpc:pc ∈ x.v.pieces):NFr x.at_.toNat x.words.length n (exec x pc n).1∧(exec x pc n).2=[]:=by
 have hcount:x.v.count=x.words.length:=by
  unfold aK.count
  have:x.v.Kind=2:=hk
  simp [this]
  rfl
 have hin:=kp _ _ _ (show 0≤x.v.At from h0) pc hpc
 rw [hcount] at hin
 have hAt:x.v.At=x.at_:=rfl
 rw [hAt] at hin
 have e:exec x pc n=(n.write pc.1.toNat ((x.words.drop (pc.1 - x.at_).toNat).take pc.2.toNat),[]):=by
  unfold exec
  rw [if_neg (by omega),if_pos hk]
 rw [e]
 have hwl:((x.words.drop (pc.1 - x.at_).toNat).take pc.2.toNat).length=pc.2.toNat:=by simp;omega
 refine ⟨⟨sV (by rw [hwl];omega),rfl,λi hi=>?_⟩,rfl⟩
 rw [sW (by rw [hwl];omega),hwl,if_neg (by omega)]
theorem CT {x:Verb} (hk:x.kind=2) {n:aO}:exec x (x.at_,(x.words.length:Int)) n=(n.write x.at_.toNat x.words,[]):=by
 unfold exec
 rw [if_neg (by omega),if_pos hk]
 simp
theorem CU {x:Verb} (hk:x.kind=3) {n:aO} (pc:Int×Int):exec x pc n=(n.cas x.at_ x.old x.new,[n.get x.at_.toNat]):=by
 unfold exec
 rw [if_neg (by omega),if_neg (by omega),if_pos hk]
theorem zu {x:Verb} (hk:x.kind=1) (h0:0≤x.at_) {n:aO} (hl:x.at_.toNat<n.words.length):exec x (x.at_,1) n=(n,[n.get x.at_.toNat]):=by
 unfold exec
 rw [if_pos hk]
 have:n.read x.at_ 1=[n.get x.at_.toNat]:=by
  have h:=CR hl
  rw [show ((x.at_.toNat:Nat):Int)=x.at_ by omega] at h
  exact h
 simp only [this]
end Go.Proofs.YtegepanmkjemjaaGreat
namespace Go.Proofs.YtegepanmkjemjaaGreat
open Go.Eng
def fI (j:CJob):List Verb:=logV j (q8 j.client+8) (oQ j.seq j.writes)
def ja (j:CJob):List Verb:=logV j (q8 j.client) [xv j.seq]
structure Fit (vs:List Verb) (ds:List Done):Prop where
 len:ds.length=vs.length
 each:∀ (q:Nat) (v:Verb) (d:Done),vs[q]?=some v→ds[q]?=some d→d.code=0∧(d.words.length:Int)=v.v.rets
theorem t8:∀ {ds:List Done},(∀ d ∈ ds,d.code=0)→oe ds=0
 | [],_=>rfl
 |d::ds,h=>by
  unfold oe
  rw [if_pos (h d List.mem_cons_self)]
  exact t8 λx hx=>h x (List.mem_cons_of_mem _ hx)
theorem Fit.codes {vs:List Verb} {ds:List Done} (h:Fit vs ds):oe ds=0:=t8 λd hd=>by
 obtain ⟨q,hq⟩:=List.mem_iff_getElem?.1 hd
 have hlt:=aP hq
 have hlt':q<vs.length:=by rw [←h.len];exact hlt
 exact (h.each q vs[q] d (List.getElem?_eq_getElem hlt') hq).1
theorem Fit.fitL {vs:List Verb} {ds:List Done} (h:Fit vs ds):Go.Proofs.YtegepanmkjemjaaGreat.fitL vs ds=true:=by
 unfold Go.Proofs.YtegepanmkjemjaaGreat.fitL
 rw [Bool.and_eq_true,decide_eq_true_eq,List.all_eq_true]
 refine ⟨h.len.symm,λp hp=>?_⟩
 obtain ⟨q,hq⟩:=List.mem_iff_getElem?.1 hp
 obtain ⟨h1,h2⟩:=List.getElem?_zip_eq_some.1 hq
 obtain ⟨g1,g2⟩:=h.each q p.1 p.2 h1 h2
 unfold fitP
 rw [if_pos g1]
 exact decide_eq_true g2
theorem jK {vs:List Verb} (h:vs≠[]) (fate:Int):bK [] vs fate=⟨false,[],(0,0),[],some vs,false⟩:=by
 have hl:vs.length≠0:=λe=>h (List.length_eq_zero_iff.1 e)
 have hb:batch [] vs=⟨[],false,[],some vs,false⟩:=by unfold batch;rw [if_neg hl]
 unfold bK
 rw [hb]
 rfl
theorem iH {vs:List Verb} {d:List Done} (G:List (List Done)) (hv:vs≠[]) (h:Fit vs d) (fate:Int):bK (d::G) vs fate=⟨true,d,(0,0),G,none,false⟩:=by
 have hl:vs.length≠0:=λe=>hv (List.length_eq_zero_iff.1 e)
 have hb:batch (d::G) vs=⟨d,true,G,none,false⟩:=by unfold batch;rw [if_neg hl];simp only [h.fitL,if_true]
 unfold bK
 rw [hb]
 simp only [h.codes]
 rfl
theorem sX (G:List (List Done)) (fate:Int):bK G [] fate=⟨true,[],(0,0),G,none,false⟩:=by
 have hb:batch G []=⟨[],true,G,none,false⟩:=if_pos rfl
 unfold bK
 rw [hb]
 rfl
set_option linter.unusedSectionVars false
section
variable {j:CJob} (hv:j.valid=0) (hW:j.writes≠[])
include hv hW
theorem rf (hm:j.v.mem≠[]):fI j≠[]∧ja j≠[]:=by
 unfold fI ja logV
 simp [hm]
theorem wx (G:List (List Done)):AN j G=bK G (fI j) 1:=by
 unfold AN logM fI
 rw [if_neg hW]
theorem wy (G:List (List Done)):zh j G=bK G (ja j) 2:=by
 unfold zh logM ja
 rw [if_neg hW]
theorem rU (G:List (List Done)):finM j G=bK G (finV j) 3:=by
 unfold finM
 rw [if_neg hW]
theorem vf:bF j≠[]:=by
 unfold bF
 cases h:j.writes with
 |nil=>exact absurd h hW
 |cons p l=>simp
theorem FK (hm:j.v.mem≠[]):dG j []=(fI j,(0,0),false):=by
 have hr:runM j []=⟨false,[],(0,0),[],some (fI j),false⟩:=by
  unfold runM rz runL lO
  rw [wx hv hW,jK (rf hv hW hm).1]
  rfl
 unfold dG
 rw [if_neg (by rw [hv];simp),hr]
theorem A9 (hm:j.v.mem≠[]) {d0:List Done} (h0:Fit (fI j) d0) (G:List (List Done)):runM j (d0::G)=runL [qA j,zh j,oS j,finM j] G:=by
 unfold runM rz
 rw [runL]
 unfold lO
 rw [wx hv hW,iH G (rf hv hW hm).1 h0]
 simp only [if_true]
theorem FL (hm:j.v.mem≠[]) {d0:List Done} (h0:Fit (fI j) d0):dG j [d0]=(bF j,(0,0),false):=by
 have hr:runM j [d0]=⟨false,[],(0,0),[],some (bF j),false⟩:=by
  rw [A9 hv hW hm h0,runL]
  unfold lO qA
  rw [jK (vf hv hW)]
  rfl
 unfold dG
 rw [if_neg (by rw [hv];simp),hr]
theorem EI {D:List Done} (hD:Fit (bF j) D) (hc:fH (ez j) D=false) (G:List (List Done)):qA j (D::G)=⟨true,[],(0,0),G,none,false⟩:=by
 unfold qA
 rw [iH G (vf hv hW) hD]
 simp only [hc,if_true]
 rfl
def jc (j:CJob) (D:List Done):List Verb:=fQ (bF j) (ez j) D
theorem vg {D:List Done} (hD:Fit (bF j) D) (hc:fH (ez j) D=true) (G:List (List Done)):qA j (D::G)=if (bK G (jc j D) 1).ok=true then ⟨false,[],(7,1),(bK G (jc j D) 1).got,none,false⟩ else bK G (jc j D) 1:=by
 unfold qA jc
 rw [iH G (vf hv hW) hD]
 simp only [hc]
 rfl
theorem FM (hm:j.v.mem≠[]) {d0 D:List Done} (h0:Fit (fI j) d0) (hD:Fit (bF j) D) (hc:fH (ez j) D=true) (hu:jc j D≠[]):dG j [d0,D]=(jc j D,(0,0),false):=by
 have hr:runM j [d0,D]=⟨false,[],(0,0),[],some (jc j D),false⟩:=by
  rw [A9 hv hW hm h0,runL]
  unfold lO
  rw [vg hv hW hD hc,jK hu]
  rfl
 unfold dG
 rw [if_neg (by rw [hv];simp),hr]
theorem FN (hm:j.v.mem≠[]) {d0 D:List Done} (h0:Fit (fI j) d0) (hD:Fit (bF j) D) (hc:fH (ez j) D=true) (hu:jc j D=[]):dG j [d0,D]=([],(7,1),true):=by
 have hr:runM j [d0,D]=⟨false,[],(7,1),[],none,false⟩:=by
  rw [A9 hv hW hm h0,runL]
  unfold lO
  rw [vg hv hW hD hc,hu,sX]
  rfl
 unfold dG
 rw [if_neg (by rw [hv];simp),hr]
 rfl
theorem FO (hm:j.v.mem≠[]) {d0 D d5:List Done} (h0:Fit (fI j) d0) (hD:Fit (bF j) D) (hc:fH (ez j) D=true) (hu:jc j D≠[]) (h5:Fit (jc j D) d5):dG j [d0,D,d5]=([],(7,1),true):=by
 have hr:runM j [d0,D,d5]=⟨false,[],(7,1),[],none,false⟩:=by
  rw [A9 hv hW hm h0,runL]
  unfold lO
  rw [vg hv hW hD hc,iH [] hu h5]
  rfl
 unfold dG
 rw [if_neg (by rw [hv];simp),hr]
 rfl
theorem FP (hm:j.v.mem≠[]) {d0 D:List Done} (h0:Fit (fI j) d0) (hD:Fit (bF j) D) (hc:fH (ez j) D=false) (G:List (List Done)):runM j (d0::D::G)=runL [zh j,oS j,finM j] G:=by
 rw [A9 hv hW hm h0,runL]
 unfold lO
 rw [EI hv hW hD hc]
 simp only [if_true]
theorem FQ (hm:j.v.mem≠[]) {d0 D:List Done} (h0:Fit (fI j) d0) (hD:Fit (bF j) D) (hc:fH (ez j) D=false):dG j [d0,D]=(ja j,(0,0),false):=by
 have hr:runM j [d0,D]=⟨false,[],(0,0),[],some (ja j),false⟩:=by
  rw [FP hv hW hm h0 hD hc,runL]
  unfold lO
  rw [wy hv hW,jK (rf hv hW hm).2]
  rfl
 unfold dG
 rw [if_neg (by rw [hv];simp),hr]
theorem Ba (hm:j.v.mem≠[]) {d0 D d2:List Done} (h0:Fit (fI j) d0) (hD:Fit (bF j) D) (hc:fH (ez j) D=false) (h2:Fit (ja j) d2) (G:List (List Done)):runM j (d0::D::d2::G)=runL [oS j,finM j] G:=by
 rw [FP hv hW hm h0 hD hc,runL]
 unfold lO
 rw [wy hv hW,iH G (rf hv hW hm).2 h2]
 simp only [if_true]
theorem FR (hm:j.v.mem≠[]) {d0 D d2:List Done} (h0:Fit (fI j) d0) (hD:Fit (bF j) D) (hc:fH (ez j) D=false) (h2:Fit (ja j) d2) (hb:gM j≠[]):dG j [d0,D,d2]=(gM j,(0,0),false):=by
 have hr:runM j [d0,D,d2]=⟨false,[],(0,0),[],some (gM j),false⟩:=by
  rw [Ba hv hW hm h0 hD hc h2,runL]
  unfold lO oS
  rw [jK hb]
  rfl
 unfold dG
 rw [if_neg (by rw [hv];simp),hr]
theorem t9 (hm:j.v.mem≠[]):finV j≠[]:=by
 unfold finV
 cases h:j.v.mem with
 |nil=>exact absurd h hm
 |cons m l=>simp
theorem FT (hm:j.v.mem≠[]) {d0 D d2 d3:List Done} (h0:Fit (fI j) d0) (hD:Fit (bF j) D) (hc:fH (ez j) D=false) (h2:Fit (ja j) d2) (hb:gM j≠[]) (h3:Fit (gM j) d3):dG j [d0,D,d2,d3]=(finV j,(0,0),false):=by
 have hr:runM j [d0,D,d2,d3]=⟨false,[],(0,0),[],some (finV j),false⟩:=by
  rw [Ba hv hW hm h0 hD hc h2,runL]
  unfold lO oS
  rw [iH [] hb h3]
  simp only [if_true]
  rw [runL]
  unfold lO
  rw [rU hv hW,jK (t9 hv hW hm)]
  rfl
 unfold dG
 rw [if_neg (by rw [hv];simp),hr]
theorem EJ (hm:j.v.mem≠[]) {d0 D d2:List Done} (h0:Fit (fI j) d0) (hD:Fit (bF j) D) (hc:fH (ez j) D=false) (h2:Fit (ja j) d2) (hb:gM j=[]):dG j [d0,D,d2]=(finV j,(0,0),false):=by
 have hr:runM j [d0,D,d2]=⟨false,[],(0,0),[],some (finV j),false⟩:=by
  rw [Ba hv hW hm h0 hD hc h2,runL]
  unfold lO oS
  rw [hb,sX]
  simp only [if_true]
  rw [runL]
  unfold lO
  rw [rU hv hW,jK (t9 hv hW hm)]
  rfl
 unfold dG
 rw [if_neg (by rw [hv];simp),hr]
theorem FU (hm:j.v.mem≠[]) {d0 D d2 d3 d4:List Done} (h0:Fit (fI j) d0) (hD:Fit (bF j) D) (hc:fH (ez j) D=false) (h2:Fit (ja j) d2) (hb:gM j≠[]) (h3:Fit (gM j) d3) (h4:Fit (finV j) d4):dG j [d0,D,d2,d3,d4]=([],(0,3),true):=by
 have hr:runM j [d0,D,d2,d3,d4]=wg []:=by
  rw [Ba hv hW hm h0 hD hc h2,runL]
  unfold lO oS
  rw [iH [d4] hb h3]
  simp only [if_true]
  rw [runL]
  unfold lO
  rw [rU hv hW,iH [] (t9 hv hW hm) h4]
  rfl
 unfold dG
 rw [if_neg (by rw [hv];simp),hr]
 rfl
theorem EK (hm:j.v.mem≠[]) {d0 D d2 d4:List Done} (h0:Fit (fI j) d0) (hD:Fit (bF j) D) (hc:fH (ez j) D=false) (h2:Fit (ja j) d2) (hb:gM j=[]) (h4:Fit (finV j) d4):dG j [d0,D,d2,d4]=([],(0,3),true):=by
 have hr:runM j [d0,D,d2,d4]=wg []:=by
  rw [Ba hv hW hm h0 hD hc h2,runL]
  unfold lO oS
  rw [hb,sX]
  simp only [if_true]
  rw [runL]
  unfold lO
  rw [rU hv hW,iH [] (t9 hv hW hm) h4]
  rfl
 unfold dG
 rw [if_neg (by rw [hv];simp),hr]
 rfl
end
end Go.Proofs.YtegepanmkjemjaaGreat
namespace Go.Proofs.YtegepanmkjemjaaGreat
open Go.Proofs.Tryz
open Go.Eng IntKind
variable (w:World) (R:Value→World→Prop)
def eO (s0:Addr) (s1:Option Addr) (a b:Nat) (s2 s7:Int) (j:LV):LV:=[(.pointer (some s0)),(.slice s1 a b),(.int .i64 s2),jg j 0,jg j 1,jg j 2,jg j 3,(.int .i64 s7),jg j 4,jg j 5,jg j 6,jg j 7,jg j 8,jg j 9,jg j 10,jg j 11,jg j 12,jg j 13,jg j 14,jg j 15,jg j 16,jg j 17,jg j 18,jg j 19,jg j 20,jg j 21,jg j 22,jg j 23,jg j 24,jg j 25,jg j 26,jg j 27,jg j 28,jg j 29,jg j 30,jg j 31,jg j 32,jg j 33,jg j 34,jg j 35,jg j 36,jg j 37,jg j 38,jg j 39,jg j 40,jg j 41,jg j 42,jg j 43,jg j 44,jg j 45,jg j 46,jg j 47,jg j 48,jg j 49,jg j 50,jg j 51,jg j 52,jg j 53,jg j 54,jg j 55,jg j 56,jg j 57,jg j 58,jg j 59,jg j 60,jg j 61,jg j 62,jg j 63,jg j 64,jg j 65,jg j 66,jg j 67,jg j 68,jg j 69,jg j 70,jg j 71,jg j 72,jg j 73,jg j 74,jg j 75,jg j 76,jg j 77,jg j 78,jg j 79,jg j 80,jg j 81,jg j 82,jg j 83,jg j 84,jg j 85,jg j 86,jg j 87,jg j 88,jg j 89,jg j 90,jg j 91,jg j 92,jg j 93,jg j 94,jg j 95,jg j 96,jg j 97,jg j 98,jg j 99,jg j 100,jg j 101,jg j 102,jg j 103,jg j 104,jg j 105,jg j 106,jg j 107,jg j 108,jg j 109,jg j 110,jg j 111,jg j 112,jg j 113,jg j 114,jg j 115,jg j 116,jg j 117,jg j 118,jg j 119,jg j 120,jg j 121,jg j 122,jg j 123,jg j 124,jg j 125,jg j 126,jg j 127,jg j 128,jg j 129,jg j 130,jg j 131,jg j 132,jg j 133,jg j 134,jg j 135,jg j 136,jg j 137,jg j 138,jg j 139,jg j 140]
def kj  (j:LV):LV:=jq j 0 145 []
def eP (s0:Addr) (s1:Option Addr) (a b:Nat) (s2 s7 s8:Int) (j:LV):LV:=.pointer (some s0)::.slice s1 a b::.int .i64 s2::jq j 0 4 (.int .i64 s7::.int .i64 s8::jq j 4 136 [])
def kk (a:Addr) (s1:Option Addr) (b c:Nat) (s2 s7:Int) (j:LV):LV:=.pointer (some a)::.slice s1 b c::.int .i64 s2::jq j 0 4 (.int .i64 s7::jq j 4 137 [])
def eQ (s0:Addr) (s1:Option Addr) (a b:Nat) (s2 s7 c:Int) (j:LV):LV:=.pointer (some s0)::.slice s1 a b::.int .i64 s2::jq j 0 4 (.int .i64 s7::jq j 4 5 (.int .i64 c::jq j 9 131 []))
def kn (a:Addr) (s1:Option Addr) (b c:Nat) (s2 s7:Int) (j:LV):LV:=.pointer (some a)::.slice s1 b c::.int .i64 s2::jq j 0 4 (.int .i64 s7::jq j 4 137 [])
theorem qC (p0:Nat) (p1:Option Addr) (a b:Nat) (p2:Int):fnW prog f17 [.pointer (some ⟨p0,0,none⟩),.slice p1 a b,.int .i64 p2] R w=(bX prog (.loop (sub (aD f17) [1,0,1,0,0])) (eO ⟨p0,0,none⟩ p1 a b p2 0 (uq 3 (jb false::uq 137 []))) (aI 0 (nx f17 [1,1] R)) w):=by kernel_rfl
theorem lm (s0:Addr) (s1:Option Addr) (a b:Nat) (s2 s7:Int) (j:LV) (N1:LV→World→Prop):W prog (sub (aD f17) [1,0,1,0,0]) (eO s0 s1 a b s2 s7 j) (seqQ N1 (aI 0 (nx f17 [1,1] R))) w=((bif (decide ((s7:Int)<(a:Nat))) then (bX prog (.loop (sub (aD f17) [1,0,1,0,0,1,0,0,0,1,0,0])) (eP s0 s1 a b s2 s7 96 (jq j 0 4 (jq j 5 13 (ji s7::js s1 a b::jn a::jb (decide ((s7:Int)<(a:Nat)))::jq j 22 119 [])))) (aI 2 (seqQ (λenv w=>W prog (sub (aD f17) [1,0,1,0,0,1,0,0,1]) env (aI 1 (seqQ (λenv w=>W prog (sub (aD f17) [1,0,1,0,0,1,1]) env (seqQ N1 (aI 0 (nx f17 [1,1] R))) w) (seqQ N1 (aI 0 (nx f17 [1,1] R))))) w) (aI 1 (seqQ (λenv w=>W prog (sub (aD f17) [1,0,1,0,0,1,1]) env (seqQ N1 (aI 0 (nx f17 [1,1] R))) w) (seqQ N1 (aI 0 (nx f17 [1,1] R))))))) w) else (W prog (sub (aD f17) [1,1]) (kj  (jp s0::js s1 a b::ji s2::jq j 0 4 (ji s7::jq j 4 14 (ji s7::js s1 a b::jn a::jb (decide ((s7:Int)<(a:Nat)))::jq j 22 119 [])))) (retQ prog f17 R) w))):=by kernel_rfl
theorem mP  (j:LV):W prog (sub (aD f17) [1,1]) (kj  j) (retQ prog f17 R) w=(R (.bool true) w):=by kernel_rfl
set_option maxHeartbeats 4000000 in
theorem ln (s0:Addr) (s1:Option Addr) (a b:Nat) (s2 s7 s8:Int) (j:LV) (N1:LV→World→Prop) (N2:LV→World→Prop):W prog (sub (aD f17) [1,0,1,0,0,1,0,0,0,1,0,0]) (eP s0 s1 a b s2 s7 s8 j) (seqQ N2 (aI 2 (seqQ (λenv w=>W prog (sub (aD f17) [1,0,1,0,0,1,0,0,1]) env (aI 1 (seqQ (λenv w=>W prog (sub (aD f17) [1,0,1,0,0,1,1]) env (seqQ N1 (aI 0 (nx f17 [1,1] R))) w) (seqQ N1 (aI 0 (nx f17 [1,1] R))))) w) (aI 1 (seqQ (λenv w=>W prog (sub (aD f17) [1,0,1,0,0,1,1]) env (seqQ N1 (aI 0 (nx f17 [1,1] R))) w) (seqQ N1 (aI 0 (nx f17 [1,1] R)))))))) w=((bif (decide ((s8:Int)<s2)) then (idxS s1 a 0 3 λad=>∃ c,w.cell? ad=some (.int .i64 c)∧Calls prog 18 #[.pointer (some s0),.int .i64 c,.int .i64 s8] w λe w1=>aG.ex λi=>∃ (d:Bool),e=.returned (.tuple #[i.val,.bool d])∧∀ b1 w2,b1=w1.heap.size→w2=w1.alloc (.cells #[.int .i64 0,.int .u64 0,.int .u64 0,.int .u64 0,.int .u64 0,.int .u64 0,.int .u64 0,.int .u64 0,.int .u64 0] 55)→wrAt w2 ⟨b1,0,none⟩ 0 i.cells∧∀ w3,w3=puts w2 ⟨b1,0,none⟩ 0 i.cells→idxS s1 a s7 3 λk=>∃ f,w3.cell? k=some (.int .i64 f)∧Calls prog 18 #[.pointer (some s0),.int .i64 f,.int .i64 s8] w3 λe w4=>aG.ex λl=>∃ (g:Bool),e=.returned (.tuple #[l.val,.bool g])∧∀ b2 w5,b2=w4.heap.size→w5=w4.alloc (.cells #[.int .i64 0,.int .u64 0,.int .u64 0,.int .u64 0,.int .u64 0,.int .u64 0,.int .u64 0,.int .u64 0,.int .u64 0] 55)→wrAt w5 ⟨b2,0,none⟩ 0 l.cells∧∀ w6,w6=puts w5 ⟨b2,0,none⟩ 0 l.cells→(bif (!d) then (R (.bool false) w6) else ((bif (!g) then (R (.bool false) w6) else (aG.ex λr=>aE w6 ⟨b1,0,none⟩ 0 r.cells∧aG.ex λr1=>aE w6 ⟨b2,0,none⟩ 0 r1.cells∧BX prog 55 r.val r1.val λ(eq:Bool)=>(bif (!eq) then (R (.bool false) w6) else (∃ h,w6.cell? ⟨b1,1,none⟩=some (.int .u64 h)∧(bif (((band .u64 h 255):Int) != 0) then (R (.bool false) w6) else (N2 (eP s0 s1 a b s2 s7 (i64.wrap (s8+1)) (jq j 0 4 (jp ⟨b1,0,none⟩::jb d::jp ⟨b2,0,none⟩::jb g::jq j 8 15 (ji s8::ji s2::jb (decide ((s8:Int)<s2))::ji s8::ji (i64.wrap (s8+1))::.tuple #[i.val,.bool d]::jp s0::js s1 a b::jp ad::jp ad::ji c::ji s8::.tuple #[i.val,.bool d]::i.val::jb d::.tuple #[l.val,.bool g]::jp s0::js s1 a b::ji s7::jp k::jp k::ji f::ji s8::.tuple #[l.val,.bool g]::l.val::jb g::jb d::jb (!d)::jb false::jb g::jb (!g)::jb (!g)::jb false::r.val::r1.val::jb (!eq)::jb (!eq)::jb false::jp ⟨b1,1,none⟩::ju h::ju (band .u64 h 255)::jb (((band .u64 h 255):Int) != 0)::jb (((band .u64 h 255):Int) != 0)::jq j 66 74 [])))) w6))))))))) else (W prog (sub (aD f17) [1,0,1,0,0,1,0,0,1]) (kk s0 s1 a b s2 s7 (jq j 0 4 (ji s8::jq j 4 19 (ji s8::ji s2::jb (decide ((s8:Int)<s2))::jq j 26 114 [])))) (aI 1 (seqQ (λenv w=>W prog (sub (aD f17) [1,0,1,0,0,1,1]) env (seqQ N1 (aI 0 (nx f17 [1,1] R))) w) (seqQ N1 (aI 0 (nx f17 [1,1] R))))) w))):=by kernel_rfl
theorem mQ (a:Addr) (s1:Option Addr) (b c:Nat) (s2 s7:Int) (j:LV) (N1:LV→World→Prop):W prog (sub (aD f17) [1,0,1,0,0,1,0,0,1]) (kk a s1 b c s2 s7 j) (aI 1 (seqQ (λenv w=>W prog (sub (aD f17) [1,0,1,0,0,1,1]) env (seqQ N1 (aI 0 (nx f17 [1,1] R))) w) (seqQ N1 (aI 0 (nx f17 [1,1] R))))) w=(bX prog (.loop (sub (aD f17) [1,0,1,0,0,1,0,0,1,1,0,0])) (eQ a s1 b c s2 s7 0 (jq j 0 9 (jq j 10 131 []))) (aI 4 (aI 1 (seqQ (λenv w=>W prog (sub (aD f17) [1,0,1,0,0,1,1]) env (seqQ N1 (aI 0 (nx f17 [1,1] R))) w) (seqQ N1 (aI 0 (nx f17 [1,1] R)))))) w):=by kernel_rfl
set_option maxHeartbeats 4000000 in
theorem lp (s0:Addr) (s1:Option Addr) (a b:Nat) (s2 s7 c:Int) (j:LV) (N1:LV→World→Prop) (N3:LV→World→Prop):W prog (sub (aD f17) [1,0,1,0,0,1,0,0,1,1,0,0]) (eQ s0 s1 a b s2 s7 c j) (seqQ N3 (aI 4 (aI 1 (seqQ (λenv w=>W prog (sub (aD f17) [1,0,1,0,0,1,1]) env (seqQ N1 (aI 0 (nx f17 [1,1] R))) w) (seqQ N1 (aI 0 (nx f17 [1,1] R))))))) w=((bif (decide ((c:Int)<6)) then (∀ w1,w1=w.drew→∃ Sx:World→Prop,Sx w1∧idxS s1 a 0 3 λad=>∃ d,(∀ u,Sx u→u.cell? ad=some (.int .i64 d))∧Calls prog 20 #[.int .i64 c] w1 λe w2=>∃ (f:Int),e=.returned (.int .i64 f)∧Sx w2∧Calls prog 19 #[.pointer (some s0),.int .i64 d,.int .i64 f] w2 λe w3=>∃ (g:Int) (h:Bool),e=.returned (.tuple #[.int .u64 g,.bool h])∧∀ w4,w4=w3.drew→∃ Sx1:World→Prop,Sx1 w4∧idxS s1 a s7 3 λx=>∃ i,(∀ u,Sx1 u→u.cell? x=some (.int .i64 i))∧Calls prog 20 #[.int .i64 c] w4 λe w5=>∃ (k:Int),e=.returned (.int .i64 k)∧Sx1 w5∧Calls prog 19 #[.pointer (some s0),.int .i64 i,.int .i64 k] w5 λe w6=>∃ (l:Int) (m:Bool),e=.returned (.tuple #[.int .u64 l,.bool m])∧∀ w7,w7=w6.drew→∃ Sx2:World→Prop,Sx2 w7∧idxS s1 a 0 3 λy=>∃ n,(∀ u,Sx2 u→u.cell? y=some (.int .i64 n))∧Calls prog 39 #[.int .i64 c] w7 λe w8=>∃ (o:Int),e=.returned (.int .i64 o)∧Sx2 w8∧Calls prog 19 #[.pointer (some s0),.int .i64 n,.int .i64 o] w8 λe w9=>∃ (p:Int) (q:Bool),e=.returned (.tuple #[.int .u64 p,.bool q])∧∀ z,z=w9.drew→∃ Sx3:World→Prop,Sx3 z∧idxS s1 a s7 3 λaa=>∃ r,(∀ u,Sx3 u→u.cell? aa=some (.int .i64 r))∧Calls prog 39 #[.int .i64 c] z λe ab=>∃ (s:Int),e=.returned (.int .i64 s)∧Sx3 ab∧Calls prog 19 #[.pointer (some s0),.int .i64 r,.int .i64 s] ab λe ac=>∃ (t:Int) (v:Bool),e=.returned (.tuple #[.int .u64 t,.bool v])∧(bif (!h) then (R (.bool false) ac) else ((bif (!m) then (R (.bool false) ac) else ((bif (!q) then (R (.bool false) ac) else ((bif (!v) then (R (.bool false) ac) else ((bif ((g:Int) != l) then (R (.bool false) ac) else ((bif ((p:Int) != t) then (R (.bool false) ac) else (N3 (eQ s0 s1 a b s2 s7 (i64.wrap (c+1)) (jq j 0 9 (ju g::jb h::ju l::jb m::ju p::jb q::ju t::jb v::jq j 17 49 [ji c,jb (decide ((c:Int)<6)),ji c,ji (i64.wrap (c+1)),.tuple #[.int .u64 g,.bool h],jp s0,js s1 a b,jp ad,jp ad,ji d,ji c,ji f,.tuple #[.int .u64 g,.bool h],ju g,jb h,.tuple #[.int .u64 l,.bool m],jp s0,js s1 a b,ji s7,jp x,jp x,ji i,ji c,ji k,.tuple #[.int .u64 l,.bool m],ju l,jb m,.tuple #[.int .u64 p,.bool q],jp s0,js s1 a b,jp y,jp y,ji n,ji c,ji o,.tuple #[.int .u64 p,.bool q],ju p,jb q,.tuple #[.int .u64 t,.bool v],jp s0,js s1 a b,ji s7,jp aa,jp aa,ji r,ji c,ji s,.tuple #[.int .u64 t,.bool v],ju t,jb v,jb h,jb (!h),jb false,jb m,jb (!m),jb (!m),jb false,jb q,jb (!q),jb (!q),jb false,jb v,jb (!v),jb (!v),jb false,ju g,ju l,jb ((g:Int) != l),jb ((g:Int) != l),jb false,ju p,ju t,jb ((p:Int) != t),jb ((p:Int) != t)]))) ac))))))))))))) else (W prog (sub (aD f17) [1,0,1,0,0,1,1]) (kn s0 s1 a b s2 s7 (jq j 0 9 (ji c::jq j 9 57 (ji c::jb (decide ((c:Int)<6))::jq j 68 72 [])))) (seqQ N1 (aI 0 (nx f17 [1,1] R))) w))):=by kernel_rfl
theorem mR (a:Addr) (s1:Option Addr) (b c:Nat) (s2 s7:Int) (j:LV) (N1:LV→World→Prop):W prog (sub (aD f17) [1,0,1,0,0,1,1]) (kn a s1 b c s2 s7 j) (seqQ N1 (aI 0 (nx f17 [1,1] R))) w=(N1 (eO a s1 b c s2 (i64.wrap (s7+1)) (jq j 0 22 (ji s7::ji (i64.wrap (s7+1))::jq j 24 117 []))) w):=by kernel_rfl
def fD (s6:Addr) (s9:Option Addr) (a b:Nat) (c:Addr) (d:Int) (j:LV):LV:=jq j 0 6 (.pointer (some s6)::jq j 6 2 (.slice s9 a b::jq j 8 1 (.pointer (some c)::.int .i64 d::jq j 9 39 [])))
def kU (a b:Addr) (j:LV):LV:=jq j 0 6 (.pointer (some a)::jq j 6 4 (.pointer (some b)::jq j 10 40 []))
theorem rg (p0:Nat) (p1 p2:Int):fnW prog f18 [.pointer (some ⟨p0,0,none⟩),.int .i64 p1,.int .i64 p2] R w=(∀ b1 w1,b1=w.heap.size→w1=w.alloc (.cells #[.int .i64 0,.int .u64 0,.int .u64 0,.int .u64 0,.int .u64 0,.int .u64 0,.int .u64 0,.int .u64 0,.int .u64 0] 55)→Calls prog 25 #[.pointer (some ⟨p0,0,none⟩),.int .i64 p1] w1 λe w2=>∃ (a:Option Addr),e=.returned (.pointer a)∧(bif (Option.isNone a) then (wrAt w2 ⟨b1,0,none⟩ 0 [.int .i64 0,.int .u64 0,.int .u64 0,.int .u64 0,.int .u64 0,.int .u64 0,.int .u64 0,.int .u64 0,.int .u64 0]∧∀ w3,w3=puts w2 ⟨b1,0,none⟩ 0 [.int .i64 0,.int .u64 0,.int .u64 0,.int .u64 0,.int .u64 0,.int .u64 0,.int .u64 0,.int .u64 0,.int .u64 0]→aG.ex λh=>aE w3 ⟨b1,0,none⟩ 0 h.cells∧w3=w3∧R (.tuple #[h.val,.bool false]) w3) else (Calls prog 41 #[.int .i64 p2] w2 λe w4=>∃ (b:Int),e=.returned (.int .i64 b)∧Calls prog 40 #[.pointer a,.int .i64 b,.int .i64 8] w4 λe w5=>∃ (c:Option Addr) (d f:Nat) (g:Int),e=.returned (.tuple #[.slice c d f,.int .i64 g])∧(bif ((g:Int) != 0) then (wrAt w5 ⟨b1,0,none⟩ 0 [.int .i64 0,.int .u64 0,.int .u64 0,.int .u64 0,.int .u64 0,.int .u64 0,.int .u64 0,.int .u64 0,.int .u64 0]∧∀ w6,w6=puts w5 ⟨b1,0,none⟩ 0 [.int .i64 0,.int .u64 0,.int .u64 0,.int .u64 0,.int .u64 0,.int .u64 0,.int .u64 0,.int .u64 0,.int .u64 0]→aG.ex λi=>aE w6 ⟨b1,0,none⟩ 0 i.cells∧w6=w6∧R (.tuple #[i.val,.bool false]) w6) else ((bif (((d:Nat):Int) != 8) then (wrAt w5 ⟨b1,0,none⟩ 0 [.int .i64 0,.int .u64 0,.int .u64 0,.int .u64 0,.int .u64 0,.int .u64 0,.int .u64 0,.int .u64 0,.int .u64 0]∧∀ w7,w7=puts w5 ⟨b1,0,none⟩ 0 [.int .i64 0,.int .u64 0,.int .u64 0,.int .u64 0,.int .u64 0,.int .u64 0,.int .u64 0,.int .u64 0,.int .u64 0]→aG.ex λk=>aE w7 ⟨b1,0,none⟩ 0 k.cells∧w7=w7∧R (.tuple #[k.val,.bool false]) w7) else (idxS c d 0 1 λad=>∃ x,w5.cell? ad=some (.int .u64 x)∧∀ b2 w8,b2=w5.heap.size→w8=w5.alloc (.cells #[.int .i64 0,.int .u64 0,.int .u64 0,.int .u64 0,.int .u64 0,.int .u64 0,.int .u64 0,.int .u64 0,.int .u64 0] 55)→wrAt w8 ⟨b2,0,none⟩ 0 [.int .i64 p2,.int .u64 x,.int .u64 0,.int .u64 0,.int .u64 0,.int .u64 0,.int .u64 0,.int .u64 0,.int .u64 0]∧∀ w9,w9=puts w8 ⟨b2,0,none⟩ 0 [.int .i64 p2,.int .u64 x,.int .u64 0,.int .u64 0,.int .u64 0,.int .u64 0,.int .u64 0,.int .u64 0,.int .u64 0]→bX prog (.loop (sub (aD f18) [1,1,1,1,1,1,0,1,0,0])) (fD ⟨b1,0,none⟩ c d f ⟨b2,0,none⟩ 0 (jp ⟨p0,0,none⟩::ji p1::ji p2::uq 3 (jb false::.pointer a::ji g::jp ⟨p0,0,none⟩::ji p1::.pointer a::.pointer a::jb (Option.isNone a)::undef::.tuple #[.slice c d f,.int .i64 g]::.pointer a::ji p2::ji b::.tuple #[.slice c d f,.int .i64 g]::js c d f::ji g::ji g::jb ((g:Int) != 0)::jb false::js c d f::jn d::jb (((d:Nat):Int) != 8)::jb (((d:Nat):Int) != 8)::undef::ji p2::js c d f::jp ad::ju x::.agg #[.int .i64 p2,.int .u64 x,.int .u64 0,.int .u64 0,.int .u64 0,.int .u64 0,.int .u64 0,.int .u64 0,.int .u64 0]::uq 13 []))) (aI 0 (nx f18 [1,1,1,1,1,1,1] R)) w9))))))):=by kernel_rfl
theorem lP (s6:Addr) (s9:Option Addr) (a b:Nat) (c:Addr) (d:Int) (j:LV) (N1:LV→World→Prop):W prog (sub (aD f18) [1,1,1,1,1,1,0,1,0,0]) (fD s6 s9 a b c d j) (seqQ N1 (aI 0 (nx f18 [1,1,1,1,1,1,1] R))) w=((bif (decide ((d:Int)<7)) then (idxS s9 a (i64.wrap (1+d)) 1 λad=>∃ x,w.cell? ad=some (.int .u64 x)∧idxA ⟨c.block,c.off+2,none⟩ 7 d 1 λf=>(∃ u,w.cell? f=some u)∧w.frozen? f=false∧∀ w1,w1=w.setCell f (.int .u64 x)→N1 (fD s6 s9 a b c (i64.wrap (d+1)) (jq j 0 35 [ji d,jb (decide ((d:Int)<7)),ji d,ji (i64.wrap (d+1)),ji d,js s9 a b,ji d,ji (i64.wrap (1+d)),jp ad,ju x,jf c 2,jp f,jg j 47])) w1) else (W prog (sub (aD f18) [1,1,1,1,1,1,1]) (kU s6 c (jq j 0 8 (js s9 a b::jg j 8::ji d::jq j 9 26 (ji d::jb (decide ((d:Int)<7))::jq j 37 11 [])))) (retQ prog f18 R) w))):=by kernel_rfl
theorem ni (a b:Addr) (j:LV):W prog (sub (aD f18) [1,1,1,1,1,1,1]) (kU a b j) (retQ prog f18 R) w=(aG.ex λr=>aE w b 0 r.cells∧wrAt w a 0 r.cells∧∀ w1,w1=puts w a 0 r.cells→aG.ex λc=>aE w1 a 0 c.cells∧w1=w1∧R (.tuple #[c.val,.bool true]) w1):=by kernel_rfl
theorem pH (p0:Int):fnW prog f20 [.int .i64 p0] R w=(Calls prog 42 #[.int .i64 p0] w λe w1=>∃ a,e=.returned (.bool a)∧(bif (!a) then (R (.int .i64 (-1)) w1) else (R (.int .i64 (i64.wrap (32+p0))) w1))):=by kernel_rfl
theorem qD (p0:Int):fnW prog f39 [.int .i64 p0] R w=(Calls prog 42 #[.int .i64 p0] w λe w1=>∃ a,e=.returned (.bool a)∧(bif (!a) then (R (.int .i64 (-1)) w1) else (R (.int .i64 (i64.wrap (24+p0))) w1))):=by kernel_rfl
theorem oT (p0:Int):fnW prog f41 [.int .i64 p0] R w=((bif (decide ((p0:Int)<96)) then (R (.int .i64 (-1)) w) else ((bif (decide ((p0:Int)≥256)) then (R (.int .i64 (-1)) w) else (R (.int .i64 (i64.wrap (p0 * 8))) w))))):=by kernel_rfl
end Go.Proofs.YtegepanmkjemjaaGreat
namespace Go.Proofs.YtegepanmkjemjaaGreat
open Go.Eng
theorem CV (w:World) {l:Int} (h1:96≤l) (h2:l<256):Does 41 [.int .i64 l] w λv w'=>v=.int .i64 (l * 8)∧w'=w:=by
 refine does Tryz.func41 ?_
 rw [oT]
 refine dZ (by simp;omega) (dZ (by simp;omega) ⟨?_,rfl⟩)
 rw [w64 (by omega) (by omega)]
def aO.page (n:aO) (l:Nat):aG:=⟨l,n.get (l * 8),n.get (l * 8+1),n.get (l * 8+2),n.get (l * 8+3),n.get (l * 8+4),n.get (l * 8+5),n.get (l * 8+6),n.get (l * 8+7)⟩
theorem CW {n:aO} {at_ c q:Nat} (hq:q<c) (hl:at_+c≤n.words.length):(n.read at_ c)[q]?=some (n.get (at_+q)):=by
 unfold aO.read
 have hs:n.words[at_+q]?=some (n.get (at_+q)):=aO.get_some (by omega)
 rw [Int.toNat_natCast,Int.toNat_natCast,List.getElem?_take_of_lt hq,List.getElem?_drop,hs]
theorem CX {n:aO} {l i:Nat} (hi:i<7):((n.page l).cells.take (2+i)++List.replicate (7 - i) (Value.int .u64 0)).set (2+i) (Value.int .u64 (n.get (l * 8+(1+i))))=(n.page l).cells.take (2+(i+1))++List.replicate (7 - (i+1)) (Value.int .u64 0):=by
 have h:i=0∨i=1∨i=2∨i=3∨i=4∨i=5∨i=6:=by omega
 rcases h with rfl | rfl | rfl | rfl | rfl | rfl | rfl<;>rfl
set_option maxRecDepth 20000 in
set_option maxHeartbeats 2000000 in
theorem ub {A:Nat→Prop} {χ:Nat→Tag} {w:World} {fb:Nat} {X:FabX} (h:aW A χ w fb X) {i:Nat} {x:jZ} (hx:X.nodes[i]?=some x) {l:Nat} (hl:96≤l∧l<256) (hw:l * 8+8≤x.n.words.length) (hd:x.n.down=false) :
  Does 18 [ptr fb,.int .i64 i,.int .i64 l] w λv w'=>v=.tuple #[(x.n.page l).val,.bool true]∧New w w':=by
 refine does Tryz.func18 ?_
 rw [ptr,rg]
 rintro b1 w1 hb1 hw1
 obtain ⟨hz1,hn1⟩:=aN hb1 hw1
 have hz1:Blk w1 b1 (aG.cells ⟨0,0,0,0,0,0,0,0,0⟩) TPg:=hz1
 clear hw1
 have h1:=h.new hn1
 refine aF (nY h1 hx) ?_
 rintro v u1 ⟨rfl,rfl⟩
 refine ⟨_,rfl,dZ rfl ?_⟩
 refine aF (CV _ (l:=(l:Int)) (by omega) (by omega)) ?_
 rintro v u2 ⟨rfl,rfl⟩
 refine ⟨_,rfl,?_⟩
 have hchk:x.n.chk ((l:Int) * 8) 8=0:=by
  unfold aO.chk
  rw [if_neg (by omega),if_neg (by simp [hd])]
 refine aF (xV (h1.node i x hx).node ((l:Int) * 8) 8) ?_
 rintro v u3 (⟨hc,_⟩ | ⟨_,a,cap,rfl,hn3,ho,ha⟩)
 ·exact absurd hchk hc
 have hg:∀ q,q<8→(x.n.read ((l:Int) * 8) 8)[q]?=some (x.n.get (l * 8+q)):=λq hq=>by
  have:=CW (n:=x.n) (at_:=l * 8) (c:=8) hq (by omega)
  simpa using this
 have hlen:(x.n.read ((l:Int) * 8) 8).length=8:=aO.read_len hchk
 have hrd:=ho.rd
 obtain ⟨ba,oa,rfl⟩:∃ b o,a=⟨b,o,none⟩:=by
  rcases hrd with hr | ⟨b,o,he,_⟩
  ·have:=congrArg List.length hr
   simp [us,hlen] at this
  ·simp at he
   exact ⟨b,o,he⟩
 have hrc:∀ z,New u3 z→∀ q,q<8→z.cell? ⟨ba,oa+q,none⟩=some (.int .u64 (x.n.get (l * 8+q))):=λz hz q hq=>by
  rcases hrd.new hz with hr | ⟨b,o,he,hcell⟩
  ·have:=congrArg List.length hr
   simp [us,hlen] at this
  ·simp at he
   obtain ⟨rfl,rfl⟩:=he
   exact hcell q _ (by simp [us,hg q hq])
 have hs1:=hn1.size
 have hs3:=hn3.size
 have hl1:=hz1.lt
 refine ⟨_,_,_,_,rfl,dZ rfl (dZ rfl ?_)⟩
 refine aY (by omega) (by decide) ⟨_,by simpa using hrc u3 (Keep.refl _ _) 0 (by omega),?_⟩
 refine iR (vs:=aG.cells ⟨l,x.n.get (l * 8),0,0,0,0,0,0,0⟩) rfl (aG.single _) λb2 u4 hb2 hz2 hn4=>?_
 refine aQ mix (λq env z=>∃ (i:Nat) (jj:List Value),q=7 - i∧i≤7∧env=fD ⟨b1,0,none⟩ (some ⟨ba,oa,none⟩) 8 cap ⟨b2,0,none⟩ i jj∧New u3 z∧Blk z b2 ((x.n.page l).cells.take (2+i)++List.replicate (7 - i) (.int .u64 0)) TPg) 7
  ⟨0,_,rfl,by omega,rfl,hn4,hz2⟩ ?_
 rintro q env z ⟨i,jj,rfl,hi,rfl,hnz,hbz⟩
 rw [lP]
 refine aH (λhlt=>?_) (λhge=>?_)
 ·have hlt':i<7:=by omega
  rw [w64 (x:=1+(i:Int)) (by omega) (by omega)]
  refine aY (by omega) (by omega) ⟨x.n.get (l * 8+(1+i)),?_,?_⟩
  ·have:=hrc z hnz (1+i) (by omega)
   simpa [show (1+(i:Int)).toNat=1+i by omega] using this
  refine fW (by omega) (by omega) ?_
  have e:0+2+(i:Int).toNat * 1=2+i:=by omega
  rw [e]
  refine lX hbz (by rw [List.length_append,List.length_take,List.length_replicate,aG.len];omega) λz2 hbz2 hk2=>?_
  rw [w64 (x:=(i:Int)+1) (by omega) (by omega)]
  rw [CX hlt'] at hbz2
  exact ⟨7 - (i+1),by omega,i+1,_,rfl,by omega,rfl,hnz.trans hk2 λk hk e=>by have e2:k=b2:=e;omega,hbz2⟩
 ·have hi7:i=7:=by omega
  subst hi7
  rw [ni]
  have hbz:Blk z b2 (x.n.page l).cells TPg:=hbz
  have hz1z:Blk z b1 (aG.cells ⟨0,0,0,0,0,0,0,0,0⟩) TPg:=New.blk (hn3.new hnz) hz1
  refine aG.mk_ex (x.n.page l) ⟨aJ hbz rfl,?_⟩
  refine gJ hz1z rfl (aG.single _) λz2 hb12 hk2=>?_
  refine aG.mk_ex (x.n.page l) ⟨aJ hb12 rfl,rfl,rfl,?_⟩
  exact ((hn1.new hn3).new hnz).trans hk2 λk hk e=>by omega
end Go.Proofs.YtegepanmkjemjaaGreat
