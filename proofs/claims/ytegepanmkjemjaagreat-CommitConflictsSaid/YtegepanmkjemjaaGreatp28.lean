import Derived.Test.YtegepanmkjemjaaGreatp03
import Derived.Test.YtegepanmkjemjaaGreatp27
import Derived.Test.YtegepanmkjemjaaGreatProg
set_option linter.unusedVariables false
namespace Go.Proofs.YtegepanmkjemjaaGreat
open Go.Eng
def Ac (r:Int):Int:=if band .u64 r 1=1 then bxor .u64 (bshr .u64 r 1) 14514072000185962306 else bshr .u64 r 1
def sK:Nat→Int→Int
 | 0,r=>r
 |n+1,r=>Ac (sK n r)
def uj (i:Nat):Int:=sK 8 i
def dG:List Int:=(List.range 256).map uj
def tabL (i:Nat):List Int:=(List.range i).map uj++List.replicate (256 - i) 0
theorem yF {i:Nat} (h:i≤256):(tabL i).length=256:=by simp [tabL];omega
theorem yG {i:Nat} (h:i<256):(tabL i).set i (uj i)=tabL (i+1):=by
 unfold tabL
 rw [List.range_succ,List.map_append,List.set_append]
 simp only [List.length_map,List.length_range,Nat.lt_irrefl,if_false,Nat.sub_self]
 obtain ⟨m,hm⟩:∃ m,256 - i=m+1:=⟨255 - i,by omega⟩
 have e:256 - (i+1)=m:=by omega
 rw [hm,e,List.replicate_succ,List.set_cons_zero]
 simp
theorem yH:tabL 256=dG:=by simp [tabL,dG]
theorem Ad (n:Nat):us (List.replicate n 0)=List.replicate n (.int .u64 0):=by simp [us]
theorem Ae (l:List Int) (i:Nat) (x:Int):(us l).set i (.int .u64 x)=us (l.set i x):=by simp [us]
theorem sL (l:List Int):bP.cells ⟨l⟩=us l:=rfl
abbrev TTb:TypeId:=302
set_option maxRecDepth 20000 in
theorem vu (w:World):Does 209 [] w λv w'=>v=bP.val ⟨dG⟩∧New w w':=by
 refine does Tryz.func209 ?_
 rw [sJ]
 rintro b1 w1 hb1 hw1
 obtain ⟨hz1,hn1⟩:=aM hb1 hw1
 have hz1:Blk w1 b1 (us (tabL 0)) TTb:=by
  have e:us (tabL 0)=List.replicate 256 (.int .u64 0):=Ad 256
  rw [e]
  exact hz1
 clear hw1
 refine aR mix (λm env u=>∃ (i:Nat) (jj:List Value),m=256 - i∧i≤256∧env=gZ ⟨b1,0,none⟩ i jj∧New w u∧Blk u b1 (us (tabL i)) TTb) 256 ⟨0,_,rfl,by omega,rfl,hn1,hz1⟩ ?_
 rintro m env u ⟨i,jj,rfl,hi,rfl,hnu,hzu⟩
 rw [mE]
 refine aH (λhlt=>?_) (λhge=>?_)
 ·rw [wu64 (x:=(i:Int)) (by omega) (by omega)]
  refine aR mix (λm2 env2 y=>∃ (k:Nat) (jj:List Value),m2=8 - k∧k≤8∧env2=fD ⟨b1,0,none⟩ i (sK k i) i k jj∧y=u) 8 ⟨0,_,rfl,by omega,rfl,rfl⟩ ?_
  rintro m2 env2 y ⟨k,jj2,rfl,hk,rfl,rfl⟩
  rw [mF,w64 (x:=(k:Int)+1) (by omega) (by omega)]
  refine aH (λhk8=>?_) (λhk8=>?_)
  ·refine bG (λh1=>?_) (λh1=>?_)
   ·have e:sK (k+1) i=bxor .u64 (bshr .u64 (sK k i) 1) 14514072000185962306:=if_pos h1
    rw [←e]
    exact ⟨8 - (k+1),by omega,k+1,_,rfl,by omega,rfl,rfl⟩
   ·have e:sK (k+1) i=bshr .u64 (sK k i) 1:=if_neg h1
    rw [←e]
    exact ⟨8 - (k+1),by omega,k+1,_,rfl,by omega,rfl,rfl⟩
  ·have hk8:k=8:=by omega
   subst hk8
   rw [oP,w64 (x:=(i:Int)+1) (by omega) (by omega)]
   refine jM (by omega) (by omega) ?_
   have e2:0+(i:Int).toNat * 1=i:=by omega
   rw [e2]
   refine kX hzu (o:=i) (by rw [jF,yF hi];omega) λw2 hz2 hk2=>?_
   rw [Ae,show sK 8 (i:Int)=uj i from rfl,yG (by omega)] at hz2
   have hs:=hn1.size
   exact ⟨256 - (i+1),by omega,i+1,_,rfl,by omega,rfl,hnu.trans hk2 λk hlt e=>by omega,hz2⟩
 ·have hi2:i=256:=by omega
  subst hi2
  rw [oO]
  rw [yH] at hzu
  have hl:dG.length=256:=by simp [dG]
  refine bP.mk_ex ⟨dG⟩ hl ⟨aJ hzu (by rw [sL];exact List.take_of_length_le (Nat.le_refl _)),?_⟩
  refine eZ (vs:=us dG) hzu rfl (iT _) λw2 hz2 hk2=>?_
  exact bP.mk_ex ⟨dG⟩ hl ⟨aJ hz2 (by rw [sL];exact List.take_of_length_le (Nat.le_refl _)),rfl,rfl,hnu.trans hk2 λk hlt e=>by have:=hn1.size;omega⟩
def mT (r x:Int):Int:=bxor .u64 (bshr .u64 r 8) (dG.getD (bxor .u8 (IntKind.u8.wrap r) x).toNat 0)
theorem BX (x:Int):0≤IntKind.u8.wrap x∧IntKind.u8.wrap x<256:=by
 simp only [IntKind.wrap,IntKind.bits,IntKind.signed]
 simp
 omega
def bys (l:List Int):List Value:=l.map (Value.int .u8)
theorem Af {l:List Int} {i:Nat} {x:Int} (h:l[i]?=some x):(bys l)[i]?=some (.int .u8 x):=by simp [bys,h]
theorem vv {f:Int→Int→Int} {l:List Int} {i:Nat} {x r:Int} (h:l[i]?=some x):(l.take (i+1)).foldl f r=f ((l.take i).foldl f r) x:=by
 rw [List.take_add_one,h,List.foldl_append]
 rfl
theorem yI {w:World} (r:Int) {tb:Nat} (ht:Blk w tb (us dG) TTb) {a:Option Addr} {n c:Nat} {l:List Int} (hr:Rd w a (bys l)) (hn:n=l.length) (hf:n≤1000000) :
  Does 210 [.int .u64 r,.pointer (some ⟨tb,0,none⟩),.slice a n c] w λv w'=>v=.int .u64 (l.foldl mT r)∧w'=w:=by
 subst hn
 refine does Tryz.func210 ?_
 rw [vt]
 refine aR mix (λm env u=>∃ (i:Nat) (jj:List Value),m=l.length - i∧i≤l.length∧env=jK ((l.take i).foldl mT r) ⟨tb,0,none⟩ a l.length c l.length i jj∧u=w) l.length ⟨0,_,rfl,by omega,rfl,rfl⟩ ?_
 rintro m env u ⟨i,jj,rfl,hi,rfl,rfl⟩
 rw [n9]
 refine aH (λhlt=>?_) (λhge=>?_)
 ·obtain ⟨x,hx⟩:∃ x,l[i]?=some x:=⟨_,List.getElem?_eq_getElem (by omega)⟩
  rcases hr with he | ⟨b,o,rfl,hc⟩
  ·have h0:l.length=0:=by
    have:=congrArg List.length he
    rwa [bys,List.length_map] at this
   omega
  refine aX (by omega) (by omega) ⟨x,by simpa using hc i _ (Af hx),?_⟩
  have hin:0≤bxor .u8 (IntKind.u8.wrap ((l.take i).foldl mT r)) x∧bxor .u8 (IntKind.u8.wrap ((l.take i).foldl mT r)) x<256:=BX _
  have hl:dG.length=256:=by simp [dG]
  refine jM hin.1 hin.2 ?_
  generalize hq:bxor .u8 (IntKind.u8.wrap ((l.take i).foldl mT r)) x=q at hin ⊢
  obtain ⟨y,hy⟩:∃ y,dG[q.toNat]?=some y:=⟨_,List.getElem?_eq_getElem (by omega)⟩
  refine ⟨y,by rw [Nat.mul_one];exact Blk.cell ht (by simpa using rP hy),?_⟩
  rw [w64 (x:=(i:Int)+1) (by omega) (by omega)]
  have e:(l.take (i+1)).foldl mT r=bxor .u64 (bshr .u64 ((l.take i).foldl mT r) 8) y:=by
   rw [vv hx]
   generalize (l.take i).foldl mT r=z at hq
   show bxor .u64 (bshr .u64 z 8) (dG.getD (bxor .u8 (IntKind.u8.wrap z) x).toNat 0)=_
   rw [hq,List.getD_eq_getElem?_getD,hy]
   rfl
  rw [←e]
  exact ⟨l.length - (i+1),by omega,i+1,_,rfl,by omega,rfl,rfl⟩
 ·have hil:i=l.length:=by omega
  subst hil
  rw [qe,List.take_length]
  exact ⟨rfl,rfl⟩
def uk (r:Int) (l:List Int):Int:=bxor .u64 18446744073709551615 (l.foldl mT (bxor .u64 18446744073709551615 r))
theorem tL {w:World} (r:Int) {a:Option Addr} {n c:Nat} {l:List Int} (hr:Rd w a (bys l)) (hn:n=l.length) (hf:n≤1000000) :
  Does 208 [.int .u64 r,.slice a n c] w λv w'=>v=.int .u64 (uk r l)∧New w w':=by
 refine does Tryz.func208 ?_
 rw [rE]
 refine aE (vu w) ?_
 rintro v w1 ⟨rfl,hn1⟩
 have hl:dG.length=256:=by simp [dG]
 refine bP.mk_ex ⟨dG⟩ hl ⟨rfl,?_⟩
 refine fN (zs:=List.replicate 256 (.int .u64 0)) (vs:=us dG) (by rw [jF,List.length_replicate];exact hl) (iT _) λb w3 hb hz hn3=>?_
 refine aE (yI _ hz (hr.new (hn1.new hn3)) hn hf) ?_
 rintro v w4 ⟨rfl,rfl⟩
 exact ⟨_,rfl,rfl,hn1.new hn3⟩
theorem vx {w:World} {a:Option Addr} {n c:Nat} {l:List Int} (hr:Rd w a (bys l)) (hn:n=l.length) (hf:n≤1000000) :
  Does 207 [.slice a n c] w λv w'=>v=.int .u64 (uk 0 l)∧New w w':=by
 refine does Tryz.func207 ?_
 rw [sI]
 refine aE (tL 0 hr hn hf) ?_
 rintro v w1 ⟨rfl,hn1⟩
 exact ⟨_,rfl,rfl,hn1⟩
def shr8:Nat→Int→Int
 | 0,x=>x
 |k+1,x=>bshr .u64 (shr8 k x) 8
def wby (x:Int):List Int:=(List.range 8).map λk=>IntKind.u8.wrap (shr8 k x)
theorem Ag (x:Int):(wby x).length=8:=by unfold wby;rw [List.length_map,List.length_range]
def sM (ws:List Int):List Int:=(ws.map wby).flatten
def crcW (ws:List Int):Int:=uk 0 (sM ws)
theorem xg (ws:List Int):(sM ws).length=8 * ws.length:=by
 induction ws with
 |nil=>rfl
 |cons x ws ih=>
  have:sM (x::ws)=wby x++sM ws:=rfl
  rw [this,List.length_append,ih]
  simp [wby]
  omega
theorem yJ (ws:List Int):U64 (crcW ws):=by
 unfold crcW uk U64
 generalize (List.foldl mT _ _)=z
 simp only [bxor,IntKind.wrap,IntKind.bits,IntKind.signed]
 simp
 omega
abbrev TBy:TypeId:=5
def tkB (ws:List Int) (i k:Nat):List Int:=sM (ws.take i)++((wby (ws.getD i 0)).take k)
theorem vy {w:World} {a:Option Addr} {n c:Nat} {ws:List Int} (hr:Rd w a (us ws)) (hn:n=ws.length) (hf:n≤10000) :
  Does 200 [.slice a n c] w λv w'=>v=.int .u64 (crcW ws)∧New w w':=by
 subst hn
 refine does Tryz.func200 ?_
 rw [sH,w64 (x:=8 * (ws.length:Int)) (by omega) (by omega)]
 refine ⟨by omega,by omega,by omega,by omega,?_⟩
 rintro b1 w1 hb1 hw1
 obtain ⟨hz1,hn1⟩:=aM hb1 hw1
 clear hw1
 obtain ⟨inf,hinf,hzz,hsz,hby⟩:=ig (T:=TBy) (z:=.int .u8 0) (n:=1) (m:=1) (by kernel_rfl)
 have e8:Int.toNat (8 * (ws.length:Int))=8 * ws.length:=by omega
 have hown:Owns w1 TBy 1 (some ⟨b1,0,none⟩) 0 (8 * ws.length) (bys []):=by
  refine ⟨rfl,.inr ⟨b1,_,rfl,hz1,by omega,by unfold maxLen;omega,?_,by simp [bys]⟩⟩
  rw [e8]
  simp [reps]
 refine aR mix (λm env u=>∃ (i:Nat) (pa:Option Addr) (pc:Nat) (jj:List Value),m=ws.length - i∧i≤ws.length∧env=gX pa (8 * i) pc a ws.length c ws.length i jj∧New w u∧Owns u TBy 1 pa (8 * i) pc (bys (sM (ws.take i)))∧∀ k,isB pa k→w.heap.size≤k) ws.length
  ⟨0,some ⟨b1,0,none⟩,8 * ws.length,_,rfl,by omega,by rw [e8];rfl,hn1,hown,λk hk=>?_⟩ ?_
 ·obtain ⟨o,ho⟩:=hk
  simp at ho
  omega
 rintro m env u ⟨i,pa,pc,jj,rfl,hi,rfl,hnu,ho,hpf⟩
 rw [mC]
 refine aH (λhlt=>?_) (λhge=>?_)
 ·obtain ⟨x,hx⟩:∃ x,ws[i]?=some x:=⟨_,List.getElem?_eq_getElem (by omega)⟩
  have hxd:ws.getD i 0=x:=by rw [List.getD_eq_getElem?_getD,hx];rfl
  have hru:=hr.new hnu
  rcases hru with he | ⟨b,o,rfl,hc⟩
  ·have h0:ws.length=0:=by
    have:=congrArg List.length he
    rwa [us,List.length_map] at this
   omega
  refine aX (by omega) (by omega) ⟨x,by simpa using hc i _ (rP hx),?_⟩
  refine aR mix (λm2 env2 y=>∃ (k:Nat) (pa:Option Addr) (pc:Nat) (jj:List Value),m2=8 - k∧k≤8∧env2=gY pa (8 * i+k) pc (shr8 k x) (some ⟨b,o,none⟩) ws.length c ws.length i k jj∧New w y∧Owns y TBy 1 pa (8 * i+k) pc (bys (tkB ws i k))∧∀ k,isB pa k→w.heap.size≤k) 8
   ⟨0,pa,pc,_,rfl,by omega,rfl,hnu,by simpa [tkB] using ho,hpf⟩ ?_
  rintro m2 env2 y ⟨k,qa,qc,jj2,rfl,hk,rfl,hny,hoy,hqf⟩
  rw [mD]
  refine aH (λhk8=>?_) (λhk8=>?_)
  ·have hoy':Owns y TBy inf.size qa (8 * i+k) qc (bys (tkB ws i k)):=by rw [hsz];exact hoy
   refine push_k (vs:=[.int .u8 (IntKind.u8.wrap (shr8 k x))]) Tryz.underlying290 hinf hzz (by rw [hsz];rfl) (by omega) hoy' (by rw [hsz];rfl) (by intro v hv;simp at hv;subst hv;rfl) (by omega) (by omega) ?_
   intro b3 ap cap' w3 hb3 h1 hk3 hap
   rw [hsz] at h1
   rw [w64 (x:=(k:Int)+1) (by omega) (by omega)]
   refine ⟨8 - (k+1),by omega,k+1,ap,cap',_,rfl,by omega,rfl,iU hny hk3 hqf,?_,?_⟩
   ·have e:bys (tkB ws i k)++[Value.int .u8 (IntKind.u8.wrap (shr8 k x))]=bys (tkB ws i (k+1)):=by
     unfold tkB
     rw [hxd,List.take_add_one,show (wby x)[k]?=some (IntKind.u8.wrap (shr8 k x)) by simp [wby,List.getElem?_range (show k<8 by omega)]]
     simp [bys]
    rw [←e]
    exact h1
   ·intro q hq
    rcases hap q hq with e | e
    ·exact hqf q e
    ·have:=hny.size;omega
  ·have hk8:k=8:=by omega
   subst hk8
   rw [oN,w64 (x:=(i:Int)+1) (by omega) (by omega)]
   refine ⟨ws.length - (i+1),by omega,i+1,qa,qc,_,rfl,by omega,rfl,hny,?_,hqf⟩
   have e:tkB ws i 8=sM (ws.take (i+1)):=by
    have e1:ws.take (i+1)=ws.take i++[x]:=by rw [List.take_add_one,hx];rfl
    unfold tkB sM
    rw [hxd,e1,List.map_append,List.flatten_append,List.take_of_length_le (i:=8) (by rw [Ag];omega)]
    simp
   rw [e] at hoy
   exact hoy
 ·have hil:i=ws.length:=by omega
  subst hil
  rw [oM]
  rw [List.take_length] at ho
  refine aE (vx ho.rd (xg ws).symm (by omega)) ?_
  rintro v w5 ⟨rfl,hn5⟩
  exact ⟨_,rfl,rfl,hnu.new hn5⟩
end Go.Proofs.YtegepanmkjemjaaGreat
namespace Go.Proofs.YtegepanmkjemjaaGreat
open Go.Proofs.Tryz
open Go.Eng IntKind
variable (w:World) (R:Value→World→Prop)
def fG (s3:Option Addr) (a b:Nat) (c:Option Addr) (d f:Nat) (g h:Int) (j:LV):LV:=[jg j 0,jg j 1,jg j 2,(.slice s3 a b),jg j 3,jg j 4,jg j 5,jg j 6,jg j 7,jg j 8,jg j 9,jg j 10,jg j 11,jg j 12,jg j 13,jg j 14,jg j 15,jg j 16,(.slice c d f),(.int .i64 g),(.int .i64 h),jg j 17,jg j 18,jg j 19,jg j 20,jg j 21,jg j 22,jg j 23,jg j 24,jg j 25,jg j 26,jg j 27,jg j 28,jg j 29,jg j 30,jg j 31,jg j 32,jg j 33,jg j 34,jg j 35,jg j 36,jg j 37]
def kZ (s3:Option Addr) (a b:Nat) (j:LV):LV:=jq j 0 3 (.slice s3 a b::jq j 3 38 [])
theorem mU (p0:aQ):fnW prog f181 [p0.val] R w=(∀ b1 w1,b1=w.heap.size→w1=w.alloc (.cells p0.cells.toArray 252)→aQ.ex λr=>aD w1 ⟨b1,0,none⟩ 0 r.cells∧Calls prog 142 #[r.val,.int .i64 256] w1 λe w2=>∃ a,e=.returned (.int .i64 a)∧(bif ((a:Int) != 0) then (R (.slice none 0 0) w2) else (∃ b,w2.cell? ⟨b1,0,none⟩=some (.int .i64 b)∧∃ c d f,w2.cell? ⟨b1,1,none⟩=some (.slice c d f)∧∀ b2 w3,b2=w2.heap.size→w3=w2.alloc (.cells #[.int .u64 (u64.wrap b),.int .u64 (u64.wrap (d:Nat))] 43)→∃ g h i,w3.cell? ⟨b1,1,none⟩=some (.slice g h i)∧bV prog (.loop (sub (aG f181) [1,1,1,0,1,0,0])) (fG (some ⟨b2,0,none⟩) 2 2 g h i (h:Nat) 0 (p0.val::jp ⟨b1,0,none⟩::jz::uq 2 (r.val::ji a::jb ((a:Int) != 0)::jp ⟨b1,0,none⟩::ji b::ju (u64.wrap b)::jp ⟨b1,1,none⟩::js c d f::jn d::ju (u64.wrap (d:Nat))::js (some ⟨b2,0,none⟩) 2 2::jp ⟨b1,1,none⟩::uq 21 []))) (aI 0 (nx f181 [1,1,1,1] R)) w3))):=by kernel_rfl
theorem lf (s3:Option Addr) (a b:Nat) (c:Option Addr) (d f:Nat) (g h:Int) (j:LV) (N1:LV→World→Prop):W prog (sub (aG f181) [1,1,1,0,1,0,0]) (fG s3 a b c d f g h j) (seqQ N1 (aI 0 (nx f181 [1,1,1,1] R))) w=((bif (decide ((h:Int)<g)) then (idxS c d h 9 λad=>aF.ex λr=>aD w ad 0 r.cells∧∀ b1 w1,b1=w.heap.size→w1=w.alloc (.cells #[.int .i64 0,.int .u64 0,.int .u64 0,.int .u64 0,.int .u64 0,.int .u64 0,.int .u64 0,.int .u64 0,.int .u64 0] 55)→wrAt w1 ⟨b1,0,none⟩ 0 r.cells∧∀ w2,w2=puts w1 ⟨b1,0,none⟩ 0 r.cells→∃ i,w2.cell? ⟨b1,0,none⟩=some (.int .i64 i)∧∃ k,w2.cell? ⟨b1,1,none⟩=some (.int .u64 k)∧∀ b2 w3,b2=w2.heap.size→w3=w2.alloc (.cells #[.int .u64 (u64.wrap i),.int .u64 k] 43)→∃ ap l m,∃ w4,(Builtin.append_ #[104,104] 104 #[.slice s3 a b,.slice (some ⟨b2,0,none⟩) 2 2]).run prog w3=.ok (.slice ap l m) w4∧∃ n o p,∃ w5,(Builtin.append_ #[104,104] 104 #[.slice ap l m,.slice (some ⟨b1,2,none⟩) 7 7]).run prog w4=.ok (.slice n o p) w5∧N1 (fG n o p c d f g (i64.wrap (h+1)) (jq j 0 4 (jp ⟨b1,0,none⟩::jq j 5 12 (jb (decide ((h:Int)<g))::jp ad::r.val::js s3 a b::jp ⟨b1,0,none⟩::ji i::ju (u64.wrap i)::jp ⟨b1,1,none⟩::ju k::js (some ⟨b2,0,none⟩) 2 2::js ap l m::js ap l m::jp ⟨b1,2,none⟩::js (some ⟨b1,2,none⟩) 7 7::js n o p::ji (i64.wrap (h+1))::jq j 33 5 [])))) w5) else (W prog (sub (aG f181) [1,1,1,1]) (kZ s3 a b (jq j 0 17 (js c d f::ji g::ji h::jb (decide ((h:Int)<g))::jq j 18 20 []))) (retQ prog f181 R) w))):=by kernel_rfl
theorem ng (s3:Option Addr) (a b:Nat) (j:LV):W prog (sub (aG f181) [1,1,1,1]) (kZ s3 a b j) (retQ prog f181 R) w=(Calls prog 200 #[.slice s3 a b] w λe w1=>∃ c,e=.returned (.int .u64 c)∧∀ b1 w2,b1=w1.heap.size→w2=w1.alloc (.cells #[.int .u64 c] 43)→∃ ap d f,∃ w3,(Builtin.append_ #[104,104] 104 #[.slice s3 a b,.slice (some ⟨b1,0,none⟩) 1 1]).run prog w2=.ok (.slice ap d f) w3∧R (.slice ap d f) w3):=by kernel_rfl
theorem pt (p0:aF) (p1:Int):fnW prog f182 [p0.val,.int .i64 p1] R w=(∀ b1 w1,b1=w.heap.size→w1=w.alloc (.cells p0.cells.toArray 55)→∃ a,w1.cell? ⟨b1,1,none⟩=some (.int .u64 a)∧Calls prog 201 #[.int .u64 a,.int .i64 p1] w1 λe w2=>∃ b c,e=.returned (.tuple #[.int .u64 b,.int .i64 c])∧R (.tuple #[.int .u64 b,.int .i64 c]) w2):=by kernel_rfl
theorem oQ (p0:aF):fnW prog f205 [p0.val] R w=(∀ b1 w1,b1=w.heap.size→w1=w.alloc (.cells p0.cells.toArray 55)→∃ a,w1.cell? ⟨b1,1,none⟩=some (.int .u64 a)∧Calls prog 177 #[.int .u64 a] w1 λe w2=>∃ b c,e=.returned (.tuple #[.int .u64 b,.int .i64 c])∧(bif ((c:Int) != 0) then (R (.tuple #[.slice none 0 0,.int .i64 c]) w2) else (∀ b2 w3,b2=w2.heap.size→w3=w2.alloc (.cells #[.int .u64 b] 43)→∃ ap d f,∃ w4,(Builtin.append_ #[104,104] 104 #[.slice (some ⟨b2,0,none⟩) 1 1,.slice (some ⟨b1,2,none⟩) 7 7]).run prog w3=.ok (.slice ap d f) w4∧R (.tuple #[.slice ap d f,.int .i64 0]) w4))):=by kernel_rfl
end Go.Proofs.YtegepanmkjemjaaGreat
namespace Go.Proofs.YtegepanmkjemjaaGreat
open Go.Proofs.Tryz
open Go.Eng IntKind
variable (w:World) (R:Value→World→Prop)
theorem jk (p0:Nat) (p1:aC) (p2:aK):fnW prog f183 [(.pointer (some ⟨p0,0,none⟩)),p1.val,p2.val] R w=(∀ b1 w1,b1=w.heap.size→w1=w.alloc (.cells p1.cells.toArray 103)→∀ b2 w2,b2=w1.heap.size→w2=w1.alloc (.cells p2.cells.toArray 166)→∀ b3 w3,b3=w2.heap.size→w3=w2.alloc (.cells #[(.int .i64 0),(.int .i64 0),(.int .i64 0),(.int .i64 0),(.int .u64 0),(.int .u64 0),(.slice none 0 0),(.int .u64 0),(.int .i64 0)] 166)→∀ w4,w4=w3.drew→∃ Sx:World→Prop,Sx w4∧aN.ex λa=>(∀ u,Sx u→aD u ⟨p0,3,none⟩ 0 a.cells)∧aC.ex λr=>(∀ u,Sx u→aD u ⟨b1,0,none⟩ 0 r.cells)∧aK.ex λr1=>(∀ u,Sx u→aD u ⟨b2,0,none⟩ 0 r1.cells)∧Calls prog 202 #[a.val,r.val,(.bool true),r1.val] w4 λe w5=>aK.ex λb=>e=.returned b.val∧wrAt w5 ⟨b3,0,none⟩ 0 b.cells∧∀ w6,w6=puts w5 ⟨b3,0,none⟩ 0 b.cells→aK.ex λc=>aD w6 ⟨b3,0,none⟩ 0 c.cells∧w6=w6∧R c.val w6):=by kernel_rfl
theorem kt (p0:Nat) (p1:Option Addr) (a b:Nat) (p2:Int):fnW prog f184 [.pointer (some ⟨p0,0,none⟩),.slice p1 a b,.int .i64 p2] R w=(∀ b1 w1,b1=w.heap.size→w1=w.alloc (.cells #[.int .i64 0,.int .i64 0] 162)→∃ t,w1.cell? ⟨p0,7,none⟩=some (.pointer t)∧Calls prog 98 #[.pointer t,.slice p1 a b] w1 λe w2=>∃ c d f g,e=.returned (.tuple #[.slice c d f,.bool g])∧(bif (!g) then (wrAt w2 ⟨b1,0,none⟩ 0 [.int .i64 0,.int .i64 0]∧∀ w3,w3=puts w2 ⟨b1,0,none⟩ 0 [.int .i64 0,.int .i64 0]→aA.ex λi=>aD w3 ⟨b1,0,none⟩ 0 i.cells∧w3=w3∧R (.tuple #[.slice none 0 0,i.val,.bool false]) w3) else (Calls prog 203 #[.slice c d f] w2 λe w4=>∃ h,e=.returned (.int .i64 h)∧(bif ((h:Int) != 0) then (wrAt w4 ⟨b1,0,none⟩ 0 [.int .i64 h,.int .i64 p2]∧∀ w5,w5=puts w4 ⟨b1,0,none⟩ 0 [.int .i64 h,.int .i64 p2]→aA.ex λk=>aD w5 ⟨b1,0,none⟩ 0 k.cells∧w5=w5∧R (.tuple #[.slice none 0 0,k.val,.bool false]) w5) else (wrAt w4 ⟨b1,0,none⟩ 0 [.int .i64 0,.int .i64 0]∧∀ w6,w6=puts w4 ⟨b1,0,none⟩ 0 [.int .i64 0,.int .i64 0]→aA.ex λl=>aD w6 ⟨b1,0,none⟩ 0 l.cells∧w6=w6∧R (.tuple #[.slice c d f,l.val,.bool true]) w6))))):=by kernel_rfl
def cF (s0 s3:Addr) (s5:Option Addr) (a b:Nat) (c:Option Addr) (d f:Nat) (g h:Int) (j:LV):LV:=.pointer (some s0)::jq j 0 2 (.pointer (some s3)::jq j 2 1 (.slice s5 a b::jq j 3 8 (.slice c d f::.int .i64 g::.int .i64 h::jq j 11 21 [])))
def eP (s5:Option Addr) (a b:Nat) (j:LV):LV:=jq j 0 5 (.slice s5 a b::jq j 5 32 [])
theorem jV (p0:Nat) (p1:aC):fnW prog f188 [.pointer (some ⟨p0,0,none⟩),p1.val] R w=(∀ b1 w1,b1=w.heap.size→w1=w.alloc (.cells p1.cells.toArray 103)→∃ a b c,w1.cell? ⟨p0,6,none⟩=some (.slice a b c)∧bV prog (.loop (sub (aG f188) [1,1,0,1,0,0])) (cF ⟨p0,0,none⟩ ⟨b1,0,none⟩ none 0 0 a b c (b:Nat) 0 (p1.val::undef::jz::uq 4 (jp ⟨p0,0,none⟩::jp ⟨p0,0,none⟩::jp ⟨p0,0,none⟩::jp ⟨p0,6,none⟩::uq 21 []))) (aI 0 (nx f188 [1,1,1] R)) w1):=by kernel_rfl
theorem fX (s0 s3:Addr) (s5:Option Addr) (a b:Nat) (c:Option Addr) (d f:Nat) (g h:Int) (j:LV) (N1:LV→World→Prop):W prog (sub (aG f188) [1,1,0,1,0,0]) (cF s0 s3 s5 a b c d f g h j) (seqQ N1 (aI 0 (nx f188 [1,1,1] R))) w=((bif (decide ((h:Int)<g)) then (idxS c d h 9 λad=>aF.ex λr=>aD w ad 0 r.cells∧∀ b1 w1,b1=w.heap.size→w1=w.alloc (.cells #[.int .i64 0,.int .u64 0,.int .u64 0,.int .u64 0,.int .u64 0,.int .u64 0,.int .u64 0,.int .u64 0,.int .u64 0] 55)→wrAt w1 ⟨b1,0,none⟩ 0 r.cells∧∀ w2,w2=puts w1 ⟨b1,0,none⟩ 0 r.cells→aF.ex λr1=>aD w2 ⟨b1,0,none⟩ 0 r1.cells∧Calls prog 205 #[r1.val] w2 λe w3=>∃ (i:Option Addr) (k l:Nat) (m:Int),e=.returned (.tuple #[.slice i k l,.int .i64 m])∧∀ w4,w4=w3.drew→∃ Sx:World→Prop,Sx w4∧aC.ex λr2=>(∀ u,Sx u→aD u s3 0 r2.cells)∧∃ n,(∀ u,Sx u→u.cell? ⟨b1,0,none⟩=some (.int .i64 n))∧Calls prog 95 #[.int .i64 n] w4 λe w5=>∃ (o:Int),e=.returned (.int .i64 o)∧Sx w5∧Calls prog 183 #[.pointer (some s0),r2.val,.agg #[.int .i64 2,.int .i64 0,.int .i64 o,.int .i64 0,.int .u64 0,.int .u64 0,.slice i k l,.int .u64 0,.int .i64 0]] w5 λe w6=>aK.ex λs=>e=.returned s.val∧Sx w6∧∀ b2 w7,b2=w6.heap.size→w7=w6.alloc (.cells s.cells.toArray 166)→Sx w7∧∃ (ap:Option Addr) (p q:Nat),∃ w8,(Builtin.append_ #[128,128] 128 #[.slice s5 a b,.slice (some ⟨b2,0,none⟩) 1 1]).run prog w7=.ok (.slice ap p q) w8∧Sx w8∧N1 (cF s0 s3 ap p q c d f g (i64.wrap (h+1)) (jq j 0 4 (jp ⟨b1,0,none⟩::js i k l::ji m::jq j 7 4 [jb (decide ((h:Int)<g)),jp ad,r.val,.tuple #[.slice i k l,.int .i64 m],r1.val,.tuple #[.slice i k l,.int .i64 m],js i k l,ji m,js s5 a b,jp s0,r2.val,jp ⟨b1,0,none⟩,ji n,ji o,js i k l,.agg #[.int .i64 2,.int .i64 0,.int .i64 o,.int .i64 0,.int .u64 0,.int .u64 0,.slice i k l,.int .u64 0,.int .i64 0],s.val,js (some ⟨b2,0,none⟩) 1 1,js ap p q,ji (i64.wrap (h+1)),jg j 31]))) w8) else (W prog (sub (aG f188) [1,1,1]) (eP s5 a b (jp s0::jg j 0::jg j 1::jp s3::jq j 2 9 (js c d f::ji g::ji h::jb (decide ((h:Int)<g))::jq j 12 20 []))) (retQ prog f188 R) w))):=by kernel_rfl
theorem ie (s5:Option Addr) (a b:Nat) (j:LV):W prog (sub (aG f188) [1,1,1]) (eP s5 a b j) (retQ prog f188 R) w=(R (.slice s5 a b) w):=by kernel_rfl
theorem jW (p0:Nat) (p1:aC):fnW prog f189 [.pointer (some ⟨p0,0,none⟩),p1.val] R w=(∀ b1 w1,b1=w.heap.size→w1=w.alloc (.cells p1.cells.toArray 103)→∀ b2 w2,b2=w1.heap.size→w2=w1.alloc (.cells #[.int .i64 0,.int .i64 0,.int .i64 0,.int .i64 0,.int .u64 0,.int .u64 0,.slice none 0 0,.int .u64 0,.int .i64 0] 166)→∀ w3,w3=w2.drew→∃ Sx:World→Prop,Sx w3∧aC.ex λr=>(∀ u,Sx u→aD u ⟨b1,0,none⟩ 0 r.cells)∧∃ a,(∀ u,Sx u→u.cell? ⟨p0,0,none⟩=some (.int .i64 a))∧∃ b,(∀ u,Sx u→u.cell? ⟨p0,1,none⟩=some (.int .i64 b))∧(Calls prog 206 #[.int .i64 a] w3 λe w4=>∃ c,e=.returned (.int .i64 c)∧Sx w4∧∀ b3 w5,b3=w4.heap.size→w5=w4.alloc (.cells #[.int .u64 (u64.wrap b)] 43)→Sx w5∧Calls prog 183 #[.pointer (some ⟨p0,0,none⟩),r.val,.agg #[.int .i64 2,.int .i64 0,.int .i64 c,.int .i64 0,.int .u64 0,.int .u64 0,.slice (some ⟨b3,0,none⟩) 1 1,.int .u64 0,.int .i64 0]] w5 λe w6=>aK.ex λf=>e=.returned f.val∧Sx w6∧wrAt w6 ⟨b2,0,none⟩ 0 f.cells∧∀ w7,w7=puts w6 ⟨b2,0,none⟩ 0 f.cells→aK.ex λg=>aD w7 ⟨b2,0,none⟩ 0 g.cells∧w7=w7∧R g.val w7)∧(∀ b4 w8,b4=w3.heap.size→w8=w3.alloc (.cells #[.int .u64 (u64.wrap b)] 43)→Sx w8∧Calls prog 206 #[.int .i64 a] w8 λe w9=>∃ d,e=.returned (.int .i64 d)∧Sx w9∧Calls prog 183 #[.pointer (some ⟨p0,0,none⟩),r.val,.agg #[.int .i64 2,.int .i64 0,.int .i64 d,.int .i64 0,.int .u64 0,.int .u64 0,.slice (some ⟨b4,0,none⟩) 1 1,.int .u64 0,.int .i64 0]] w9 λe h=>aK.ex λi=>e=.returned i.val∧Sx h∧wrAt h ⟨b2,0,none⟩ 0 i.cells∧∀ k,k=puts h ⟨b2,0,none⟩ 0 i.cells→aK.ex λl=>aD k ⟨b2,0,none⟩ 0 l.cells∧k=k∧R l.val k)):=by kernel_rfl
def cS (s0 s3:Addr) (s5:Option Addr) (a b:Nat) (c:Option Addr) (d f:Nat) (g h:Int) (j:LV):LV:=.pointer (some s0)::jq j 0 2 (.pointer (some s3)::jq j 2 1 (.slice s5 a b::jq j 3 7 (.slice c d f::.int .i64 g::.int .i64 h::jq j 10 12 [])))
def fE (s5:Option Addr) (a b:Nat) (j:LV):LV:=jq j 0 5 (.slice s5 a b::jq j 5 22 [])
theorem kS (p0:Nat) (p1:aK):fnW prog f198 [.pointer (some ⟨p0,0,none⟩),p1.val] R w=(∀ b1 w1,b1=w.heap.size→w1=w.alloc (.cells p1.cells.toArray 166)→∃ a b c,w1.cell? ⟨p0,4,none⟩=some (.slice a b c)∧bV prog (.loop (sub (aG f198) [1,1,0,1,0,0])) (cS ⟨p0,0,none⟩ ⟨b1,0,none⟩ none 0 0 a b c (b:Nat) 0 (p1.val::undef::jz::uq 2 (jp ⟨p0,0,none⟩::jp ⟨p0,0,none⟩::jp ⟨p0,0,none⟩::jp ⟨p0,3,none⟩::jp ⟨p0,4,none⟩::uq 12 []))) (aI 0 (nx f198 [1,1,1] R)) w1):=by kernel_rfl
theorem gR (s0 s3:Addr) (s5:Option Addr) (a b:Nat) (c:Option Addr) (d f:Nat) (g h:Int) (j:LV) (N1:LV→World→Prop):W prog (sub (aG f198) [1,1,0,1,0,0]) (cS s0 s3 s5 a b c d f g h j) (seqQ N1 (aI 0 (nx f198 [1,1,1] R))) w=((bif (decide ((h:Int)<g)) then (idxS c d h 3 λad=>aC.ex λr=>aD w ad 0 r.cells∧∀ b1 w1,b1=w.heap.size→w1=w.alloc (.cells #[.int .i64 0,.int .i64 0,.bool false] 103)→wrAt w1 ⟨b1,0,none⟩ 0 r.cells∧∀ w2,w2=puts w1 ⟨b1,0,none⟩ 0 r.cells→aC.ex λr1=>aD w2 ⟨b1,0,none⟩ 0 r1.cells∧aK.ex λr2=>aD w2 s3 0 r2.cells∧Calls prog 183 #[.pointer (some s0),r1.val,r2.val] w2 λe w3=>aK.ex λl=>e=.returned l.val∧∀ b2 w4,b2=w3.heap.size→w4=w3.alloc (.cells l.cells.toArray 166)→∃ ap i k,∃ w5,(Builtin.append_ #[128,128] 128 #[.slice s5 a b,.slice (some ⟨b2,0,none⟩) 1 1]).run prog w4=.ok (.slice ap i k) w5∧N1 (cS s0 s3 ap i k c d f g (i64.wrap (h+1)) (jq j 0 4 (jp ⟨b1,0,none⟩::jq j 5 5 [jb (decide ((h:Int)<g)),jp ad,r.val,js s5 a b,jp s0,r1.val,r2.val,l.val,js (some ⟨b2,0,none⟩) 1 1,js ap i k,ji (i64.wrap (h+1)),jg j 21]))) w5) else (W prog (sub (aG f198) [1,1,1]) (fE s5 a b (jp s0::jg j 0::jg j 1::jp s3::jq j 2 8 (js c d f::ji g::ji h::jb (decide ((h:Int)<g))::jq j 11 11 []))) (retQ prog f198 R) w))):=by kernel_rfl
theorem iI (s5:Option Addr) (a b:Nat) (j:LV):W prog (sub (aG f198) [1,1,1]) (fE s5 a b j) (retQ prog f198 R) w=(R (.slice s5 a b) w):=by kernel_rfl
end Go.Proofs.YtegepanmkjemjaaGreat
