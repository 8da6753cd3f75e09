/- A part of the proof. -/
import Derived.Test.YtafopfaomkklpaaGreatp34
import Derived.Test.YtafopfaomkklpaaGreatp33
import Derived.Laws.IdiomRangeMap
set_option linter.unusedVariables false
namespace Go.Mx
open Go.Eng
theorem rH:∀ (vs cs:List Value) (i:Nat),Eng.splice cs i vs=oA.splice cs i vs
 | [],_,_=>rfl
 |v::vs,cs,i=>by unfold Eng.splice oA.splice;exact rH vs _ _
section
variable {P:Program} {e:Nat} {env:Env e} {o:Oper} {w0:Bs} {m:Mp} {w:World} {H:Hp} {K:KV} {renv:List Value}
theorem ug {ob:Nat} {X:(n dp:Nat)→Lv C dp→Prop} (h:wrK H ob X):∃ n dp d,lget 7 H.t ob=.ob true n dp d∧X n dp d:=by
 obtain ⟨wr,n,dp,d,hg,h1⟩:=sY h
 obtain ⟨rfl,h2⟩:=cL h1
 exact ⟨n,dp,d,hg,h2⟩
theorem qE {ob off n dp dp2 b N:Nat} {d:Lv C dp} {d2:Lv C dp2} {vs:List Value} (hS:St w0 m w H) (hg:lget 7 H.t ob=.ob true n dp d) (hm:m ob=some (b,N)) (hle:off+vs.length≤n) (hs:∀ v ∈ vs,single v=true) (hdp:n≤4 ^ dp2)
  (hcell:∀ j,j<n→(off≤j∧j<off+vs.length→∀ u,vs[j - off]?=some u→CR m (lget dp2 d2 j) u∧stC (lget dp2 d2 j)=true)∧(¬ (off≤j∧j<off+vs.length)→lget dp2 d2 j=lget dp d j)) :
  wrAt w ⟨b,off,none⟩ 0 vs∧St w0 m (puts w ⟨b,off,none⟩ 0 vs) ⟨H.next,lset 7 H.t ob (.ob true n dp2 d2)⟩∧Gh m m H ⟨H.next,lset 7 H.t ob (.ob true n dp2 d2)⟩:=by
 obtain ⟨cs,T,hblk,hcl,hnN,hdp1,htr⟩:=hS.hr.ob _ _ _ _ _ _ _ hg hm
 have hB:=(hS.hr.blk _ _ _ hm).1
 refine ⟨fF hblk (by omega) hs,⟨?_,?_⟩,Dt hS.hr hm⟩
 ·refine hS.hr.put hm hg (ej w b off 0 vs) (hblk.puts (o:=off) (i:=0) (vs:=vs)) (by rw [Eng.length_splice,hcl]) hnN hdp ?_
  rw [rH]
  refine ⟨by rw [List.length_take,length_splice];omega,λj u hj=>?_⟩
  rw [List.getElem?_take] at hj
  split at hj
  ·rename_i hjn
   rw [Nat.zero_add]
   rw [qC _ _ _ _ (by omega),Nat.add_zero] at hj
   by_cases hjo:off≤j∧j<off+vs.length
   ·rw [if_pos hjo] at hj
    exact (hcell j hjn).1 hjo u hj
   ·rw [if_neg hjo] at hj
    rw [(hcell j hjn).2 hjo]
    have:=htr.2 j u (by rw [List.getElem?_take,if_pos hjn];exact hj)
    rw [Nat.zero_add] at this
    exact this
  ·cases hj
 ·exact hS.new.puts hB.symm _
theorem zc {s:Sem Unit} {R:Value→World→Prop} {w':World} (he:execOp (ev renv) o=(do s;pure .skip)) (hr:s.run P w=.ok () w') (h:R undef w'):fE P renv o R w:=tE he hr h
theorem yr {t:TypeId} {x v:Operand} (ho:o.op=.store t x v) {call:Cal} (h:(yd P e t x v).go call env H K) (hS:St w0 m w H) (hr:OpsR m e env renv o.op.operands.toList):fE P renv o (Af w0 m H K) w:=by
 have hx:x ∈ o.op.operands.toList:=by rw [ho];simp [Op.operands]
 have hv:v ∈ o.op.operands.toList:=by rw [ho];simp [Op.operands]
 have he:execOp (ev renv) o=(do Instr.storeAt t (ev renv x) (ev renv v);pure .skip):=by unfold execOp;rw [ho]
 unfold yd at h
 rw [iJ] at h
 have inf_of_sz:∀ k,szT P t=k→0<k→∃ inf,P.info? t=some inf∧inf.size=k:=by
  intro k hk hp
  unfold szT at hk
  cases hi:P.info? t with
  |none=>rw [hi] at hk;simp at hk;omega
  |some inf=>rw [hi] at hk;exact ⟨inf,rfl,hk⟩
 split at h
 ·split at h
  rotate_left
  ·exact h.elim
  rename_i hpos
  have hpos:1≤szT P t:=cB hpos
  rw [aP,aP,cU] at h
  obtain ⟨va,h1,ha⟩:=bE h
  obtain ⟨vv,h2,hvv⟩:=bE h1
  obtain ⟨ob,off,rfl,h3⟩:=sw h2
  obtain ⟨dp',d',off',sz,rfl,h4⟩:=rF h3
  obtain ⟨hsz,h5⟩:=cL h4
  have hsz:=beq_eq hsz
  obtain ⟨n,dp,d,hg,h6⟩:=ug h5
  obtain ⟨hle,h7⟩:=cL h6
  have hle:off+sz≤n:=cB hle
  obtain ⟨b,N,hb,q1⟩:=ha.of hr hx
  obtain ⟨vs,q2,hvl,hvt⟩:=hvv.of hr hv
  obtain ⟨cs,T,hblk,hcl,hnN,hdp1,htr⟩:=hS.hr.ob _ _ _ _ _ _ _ hg hb
  have hsing:∀ u ∈ vs,single u=true:=by
   intro u hu
   obtain ⟨i,hi,rfl⟩:=List.mem_iff_getElem.1 hu
   obtain ⟨k1,k2⟩:=hvt.2 i vs[i] (List.getElem?_eq_getElem hi)
   exact oz k1 k2
  have fin:∀ {dp2:Nat} {d2:Lv C dp2},n≤4 ^ dp2→(∀ j,j<n→(off≤j∧j<off+vs.length→∀ u,vs[j - off]?=some u→CR m (lget dp2 d2 j) u∧stC (lget dp2 d2 j)=true)∧(¬ (off≤j∧j<off+vs.length)→lget dp2 d2 j=lget dp d j))→
    K (.c .un) ⟨H.next,lset 7 H.t ob (.ob true n dp2 d2)⟩→fE P renv o (Af w0 m H K) w:=by
   intro dp2 d2 hdp2 hcell hk
   obtain ⟨hwr,hS',hG⟩:=qE hS hg hb (by rw [hvl];exact hle) hsing hdp2 hcell
   refine zc he ?_ ⟨m,.c .un,_,Le.refl m,rfl,hS',hG,hk⟩
   have hcells:(ev renv v).cells=vs.toArray:=by rw [q2];rfl
   obtain ⟨inf,hinf,hinfs⟩:=inf_of_sz sz hsz.symm (by omega)
   simp only [Instr.storeAt,q1,Instr.sureAddr,pure_bind,storeVar,Sem.run_bind,Eng.run_sizeOf hinf,Result.andThen_ok,hcells]
   simp [hinfs,hvl,Eng.run_storeCells hwr]
  rcases tw h7 with ⟨hn,h8⟩ | ⟨_,h8⟩
  ·rcases tw h8 with ⟨ho',h9⟩ | ⟨_,h9⟩
   ·have hn:=beq_eq hn
    have ho':=beq_eq ho'
    subst hn ho'
    refine fin (by have:=hvt.1;omega) ?_ (mq h9)
    intro j hj
    have hoff:off=0:=by omega
    subst hoff
    refine ⟨λ_ u hu=>?_,λhno=>absurd ⟨Nat.zero_le _,by omega⟩ hno⟩
    have:=hvt.2 _ u hu
    simpa using this
   ·rw [oy] at h9
    refine fin hdp1 ?_ (mq h9)
    intro j hj
    rw [lK _ _ _ _ _ _ _ _ (by omega) (by omega)]
    refine ⟨λhjo u hu=>?_,λhno=>by rw [if_neg (by omega)]⟩
    rw [if_pos (by omega)]
    exact hvt.2 _ u hu
  ·rw [oy] at h8
   refine fin hdp1 ?_ (mq h8)
   intro j hj
   rw [lK _ _ _ _ _ _ _ _ (by omega) (by omega)]
   refine ⟨λhjo u hu=>?_,λhno=>by rw [if_neg (by omega)]⟩
   rw [if_pos (by omega)]
   exact hvt.2 _ u hu
 ·split at h
  ·rename_i hs1
   rw [aP,aP,cU] at h
   obtain ⟨va,h1,ha⟩:=bE h
   obtain ⟨vv,h2,hvv⟩:=bE h1
   obtain ⟨ob,off,rfl,h3⟩:=sw h2
   obtain ⟨c,rfl,h4⟩:=qv h3
   obtain ⟨n,dp,d,hg,h5⟩:=ug h4
   obtain ⟨hst,h6⟩:=cL h5
   obtain ⟨hle,h7⟩:=cL h6
   have hle:off+1≤n:=cB hle
   rw [qu] at h7
   obtain ⟨b,N,hb,q1⟩:=ha.of hr hx
   have hrel:CR m c (ev renv v):=hvv.of hr hv
   have hsing:=oz hrel hst
   obtain ⟨cs,T,hblk,hcl,hnN,hdp1,htr⟩:=hS.hr.ob _ _ _ _ _ _ _ hg hb
   obtain ⟨hwr,hS',hG⟩:=qE (dp2:=dp) (d2:=lset dp d off c) (vs:=[ev renv v]) hS hg hb hle (by simpa using hsing) hdp1 (by
    intro j hj
    rw [dZ _ _ _ _ _ (by omega) (by omega)]
    refine ⟨λhjo u hu=>?_,λhno=>by rw [if_neg (by simp at hno;omega)]⟩
    simp at hjo
    have hjo:j=off:=by omega
    subst hjo
    simp at hu
    subst hu
    rw [if_pos rfl]
    exact ⟨hrel,hst⟩)
   refine zc he ?_ ⟨m,.c .un,_,Le.refl m,rfl,hS',hG,mq h7⟩
   obtain ⟨inf,hinf,hinfs⟩:=inf_of_sz 1 hs1 (by omega)
   have hcells:(ev renv v).cells=#[ev renv v]:=by revert hsing;cases ev renv v<;>simp [single,Value.cells]
   simp only [Instr.storeAt,q1,Instr.sureAddr,pure_bind,storeVar,Sem.run_bind,Eng.run_sizeOf hinf,Result.andThen_ok,hcells]
   simp [hinfs,Eng.run_storeCells hwr]
  ·exact h.elim
end
end Go.Mx
namespace Go.Mx
open Go.Eng
section
variable {P:Program} {e:Nat} {env:Env e} {o:Oper} {w0:Bs} {m:Mp} {w:World} {H:Hp} {K:KV} {renv:List Value}
def LR (m:Mp) (vs:List C) (news:List Value):Prop:=vs.length=news.length∧∀ (i:Nat) (u:Value),news[i]?=some u→∃ c:C,vs[i]?=some c∧CR m c u∧stC c=true
theorem LR.single {vs:List C} {news:List Value} (h:LR m vs news):∀ u ∈ news,single u=true:=by
 intro u hu
 obtain ⟨i,hi,rfl⟩:=List.mem_iff_getElem.1 hu
 obtain ⟨c,_,h1,h2⟩:=h.2 i news[i] (List.getElem?_eq_getElem hi)
 exact oz h1 h2
def FC (w:World) (rx:Value) (k:Nat) (news:List Value):Prop:=∃ a cap,rx=.slice a k cap∧(k≠0→∃ b off,a=some ⟨b,off,none⟩∧∀ j u,news[j]?=some u→w.cell? ⟨b,off+j,none⟩=some u)
theorem o8 {s:Nat} {x:V} {X:Nat→List C→Prop} (h:zK s H x X) (hs:0<s):∃ k vs,X k vs∧∀ rx,St w0 m w H→VR m x rx→∃ news,FC w rx k news∧news.length=k * s∧LR m vs news:=by
 rcases nN h with ⟨rfl,h1⟩ | ⟨rfl,h1⟩ | ⟨ob,off,len,sz,c,rfl,h1⟩
 ·exact ⟨0,[],h1,λrx _ hr=>⟨[],⟨none,0,hr,λhc=>absurd rfl hc⟩,by simp,rfl,λi u hi=>by simp at hi⟩⟩
 ·exact ⟨0,[],h1,λrx _ hr=>by obtain ⟨a,cap,rfl⟩:=hr;exact ⟨[],⟨_,_,rfl,λhc=>absurd rfl hc⟩,by simp,rfl,λi u hi=>by simp at hi⟩⟩
 ·obtain ⟨hsz,h2⟩:=cL h1
  have hsz:=beq_eq hsz
  subst hsz
  cases len with
  |zero=>exact ⟨0,[],h2,λrx _ hr=>by obtain ⟨b,N,cap,_,rfl,_⟩:=hr;exact ⟨[],⟨_,_,rfl,λhc=>absurd rfl hc⟩,by simp,rfl,λi u hi=>by simp at hi⟩⟩
  |succ len=>
   obtain ⟨wr,n,dp,d,hg,h3⟩:=sY (show obK H ob _ from h2)
   have h4:=dF.1 h3
   obtain ⟨hle,h5⟩:=cL h4
   have hle:off+(len+1) * sz≤n:=cB hle
   rw [iQ] at h5
   refine ⟨len+1,_,h5,λrx hS hr=>?_⟩
   obtain ⟨b,N,cap,hb,rfl,hlc,_⟩:=hr
   obtain ⟨cs,T,hblk,hcl,hnN,hdp,htr⟩:=hS.hr.ob _ _ _ _ _ _ _ hg hb
   have hlen:((cs.drop off).take ((len+1) * sz)).length=(len+1) * sz:=by simp;omega
   refine ⟨(cs.drop off).take ((len+1) * sz),⟨_,_,rfl,λ_=>⟨b,off,rfl,λj u hj=>?_⟩⟩,hlen,?_,λi u hi=>?_⟩
   ·rw [List.getElem?_take] at hj
    split at hj
    ·rw [List.getElem?_drop] at hj;exact hblk.cell hj
    ·cases hj
   ·rw [hlen];exact jv dp d _ off
   ·rw [List.getElem?_take] at hi
    split at hi
    ·rename_i hil
     rw [List.getElem?_drop] at hi
     refine ⟨_,lJ dp d _ off i hil,?_⟩
     have:=htr.2 (off+i) u (by rw [List.getElem?_take,if_pos (by omega)];exact hi)
     rw [Nat.zero_add] at this
     exact this
    ·cases hi
theorem CJ {t u ty el el':TypeId} {inf:TypeInfo} (ht:P.underlying t=some (.slice el)) (hu:P.underlying u=some (.slice el')) (hi:P.info? el=some inf) {a a':Option Addr} {len cap c':Nat} (hle:len≤cap) (w:World) :
  (Builtin.append_ #[t,u] ty #[.slice a len cap,.slice a' 0 c']).run P w=.ok (.slice a len cap) w:=by
 have hle0:len+0≤cap:=by omega
 cases a with
 |none=>cases a' with
  |none=>simp [Builtin.append_,run_underlying ht,run_underlying hu,sizeOf,typeInfo,hi,Builtin.lenOf,hle,Builtin.firstCells]
  |some s=>simp [Builtin.append_,run_underlying ht,run_underlying hu,sizeOf,typeInfo,hi,Builtin.lenOf,hle,Builtin.firstCells,loadCells,loadCellsFrom]
 |some a=>cases a' with
  |none=>simp [Builtin.append_,run_underlying ht,run_underlying hu,sizeOf,typeInfo,hi,Builtin.lenOf,hle,Builtin.firstCells,storeCells]
  |some s=>simp [Builtin.append_,run_underlying ht,run_underlying hu,sizeOf,typeInfo,hi,Builtin.lenOf,hle,Builtin.firstCells,loadCells,loadCellsFrom,storeCells]
theorem uQ {t u ty el el':TypeId} {inf:TypeInfo} (ht:P.underlying t=some (.slice el)) (hu:P.underlying u=some (.slice el')) (hi:P.info? el=some inf) {b off len cap k c sb so:Nat} {news:List Value} (hl:news.length=k * inf.size)
  (hnews:∀ j u,news[j]?=some u→w.cell? ⟨sb,so+j,none⟩=some u) (hroom:len+k≤cap) (hwr:wrAt w ⟨b,off+len * inf.size,none⟩ 0 news) :
  (Builtin.append_ #[t,u] ty #[.slice (some ⟨b,off,none⟩) len cap,.slice (some ⟨sb,so,none⟩) k c]).run P w=.ok (.slice (some ⟨b,off,none⟩) (len+k) cap) (puts w ⟨b,off+len * inf.size,none⟩ 0 news):=by
 have hf:=run_firstCells_some (P:=P) w inf.size k ⟨sb,so,none⟩ k c news hl (λj v h=>by rw [nP];exact hnews j v h)
 have hst:=Eng.run_storeCells (P:=P) hwr
 simp [Builtin.append_,run_underlying ht,run_underlying hu,sizeOf,typeInfo,hi,Builtin.lenOf,hroom,hf,nP,hst]
theorem yt {t u ty el el':TypeId} {inf:TypeInfo} {z:Value} (ht:P.underlying t=some (.slice el)) (hu:P.underlying u=some (.slice el')) (hi:P.info? el=some inf) (hz:inf.zero=some z) {k c sb so:Nat} {news:List Value} (hl:news.length=k * inf.size)
  (hnews:∀ j u,news[j]?=some u→w.cell? ⟨sb,so+j,none⟩=some u) (h0:0<k) (h63:k≤140737488355328) (h48:k * inf.bytes≤140737488355328) :
  (Builtin.append_ #[t,u] ty #[.slice none 0 0,.slice (some ⟨sb,so,none⟩) k c]).run P w =
   .ok (.slice (some ⟨w.heap.size,0,none⟩) k (grownCap w k 0 el)) (w.drew.alloc (.cells (news.toArray++Builtin.zeroCells z.cells (grownCap w k 0 el - k)) el)):=by
 have hn:k≠0:=by omega
 have h63':¬ (9223372036854775807<(k:Int)):=by omega
 have h48':¬ (281474976710656<Builtin.nextslicecap k 0 * inf.bytes):=by rw [nextslicecap_zero h0];omega
 have hf:=run_firstCells_some (P:=P) w.drew inf.size k ⟨sb,so,none⟩ k c news hl (λj v h=>by rw [nP];exact hnews j v h)
 simp [Builtin.append_,run_underlying ht,run_underlying hu,sizeOf,typeInfo,zeroValue,hi,hz,Builtin.lenOf,hn,h63',h48',Question.forced,run_firstCells_none,hf,newRow,grownCap]
theorem tj {t u ty el el':TypeId} {inf:TypeInfo} {z:Value} (ht:P.underlying t=some (.slice el)) (hu:P.underlying u=some (.slice el')) (hi:P.info? el=some inf) (hz:inf.zero=some z) {b off len cap:Nat} {olds:List Value} (hlo:olds.length=len * inf.size)
  (holds:∀ j v,olds[j]?=some v→w.cell? ⟨b,off+j,none⟩=some v) {k c sb so:Nat} {news:List Value} (hl:news.length=k * inf.size)
  (hnews:∀ j u,news[j]?=some u→w.cell? ⟨sb,so+j,none⟩=some u) (hg:cap<len+k) (h63:len+k≤140737488355328) (h48:(len+k) * inf.bytes≤140737488355328) :
  (Builtin.append_ #[t,u] ty #[.slice (some ⟨b,off,none⟩) len cap,.slice (some ⟨sb,so,none⟩) k c]).run P w =
   .ok (.slice (some ⟨w.heap.size,0,none⟩) (len+k) (grownCap w (len+k) cap el))
    (w.drew.alloc (.cells (olds.toArray++news.toArray++Builtin.zeroCells z.cells (grownCap w (len+k) cap el - (len+k))) el)):=by
 have hn:¬ (len+k≤cap):=by omega
 have h63':¬ (9223372036854775807<((len:Int)+(k:Int))):=by omega
 have hfit:=growslice_fits (bytes:=inf.bytes) hg h48
 have h48':¬ (281474976710656<Builtin.nextslicecap (len+k) cap * inf.bytes):=by omega
 have hf:=run_firstCells_some (P:=P) w.drew inf.size k ⟨sb,so,none⟩ k c news hl (λj v h=>by rw [nP];exact hnews j v h)
 have hfo:=run_firstCells_some (P:=P) w.drew inf.size len ⟨b,off,none⟩ len cap olds hlo (λj v h=>by rw [nP];exact holds j v h)
 simp [Builtin.append_,run_underlying ht,run_underlying hu,sizeOf,typeInfo,zeroValue,hi,hz,Builtin.lenOf,hn,h63',h48',Question.forced,hf,hfo,newRow,grownCap]
 congr 2
 apply Array.ext'
 simp [List.append_assoc]
theorem xf {t u ty el:TypeId} {ik kk:IntKind} {inf:TypeInfo} {z:Value} (ht:P.underlying t=some (.slice el)) (hu:P.underlying u=some (.int ik)) (hi:P.info? el=some inf) (hz:inf.zero=some z) (hzs:z.cells.size=inf.size) (hpos:0<inf.size) {k:Nat}
  (h0:0<k) (h63:k≤140737488355328) (h48:k * inf.bytes≤140737488355328) :
  (Builtin.append_ #[t,u] ty #[.slice none 0 0,.int kk (k:Int)]).run P w =
   .ok (.slice (some ⟨w.heap.size,0,none⟩) k (grownCap w k 0 el)) (w.drew.alloc (.cells ((reps k z.cells.toList).toArray++Builtin.zeroCells z.cells (grownCap w k 0 el - k)) el)):=by
 have hn:k≠0:=by omega
 have h63':¬ (9223372036854775807<(k:Int)):=by omega
 have h48':¬ (281474976710656<Builtin.nextslicecap k 0 * inf.bytes):=by rw [nextslicecap_zero h0];omega
 have hw:IntKind.i64.wrap (k:Int)=(k:Int):=by simp only [IntKind.wrap,IntKind.bits,IntKind.signed];simp;omega
 have hneg:¬ ((k:Int)<0):=by omega
 have hb:¬ ((281474976710656:Int)<(k:Int) * (inf.bytes:Int)):=by
  have:(k:Int) * (inf.bytes:Int)=((k * inf.bytes:Nat):Int):=by simp
  rw [this];omega
 have hks:k * inf.size≠0:=by
  have:=Nat.mul_pos h0 hpos
  omega
 have hzc:Builtin.zeroCells z.cells k=(reps k z.cells.toList).toArray:=tH k z.cells (by omega)
 have hrow:∀ (a:Array Value),(newRow el a:Sem Addr).run P w.drew=.ok ⟨w.heap.size,0,none⟩ (w.drew.alloc (.cells a el)):=λa=>rfl
 simp [Builtin.append_,run_underlying ht,run_underlying hu,sizeOf,typeInfo,zeroValue,hi,hz,asInt,asIntOf,hw,hneg,hb,hn,h63',h48',Question.forced,run_firstCells_none,newRow,grownCap,hks,hzc]
theorem sy {el:TypeId} {inf:TypeInfo} {z:Value} {q cap':Nat} {cells:List Value} {ob':Ob} (hS:St w0 m w H) {H1:Hp} (hH1:HR m w0 w H1) (hG:Gh m m H H1) (hzs:z.cells.size=inf.size) (hcl:cells.length=q * inf.size) (hcap:q≤cap')
  {n dp:Nat} {d:Lv C dp} (hob:ob'=.ob true n dp d) (hn:n=q * inf.size) (hdp:n≤4 ^ dp) (htr:TR m dp d 0 cells) (hk:newS H1 q inf.size ob' K) :
  Af w0 m H K (.slice (some ⟨w.heap.size,0,none⟩) q cap') (w.drew.alloc (.cells (cells.toArray++Builtin.zeroCells z.cells (cap' - q)) el)):=by
 obtain ⟨hle,hk⟩:=o7 hk
 subst hob
 have hlen:(cells.toArray++Builtin.zeroCells z.cells (cap' - q)).toList.length=cap' * inf.size:=by
  simp only [Array.length_toList,Array.size_append,List.size_toArray,hcl,size_zeroCells,hzs,←Nat.add_mul]
  congr 1;omega
 have hw:Keep (λk=>k=w.heap.size) w (w.drew.alloc (.cells (cells.toArray++Builtin.zeroCells z.cells (cap' - q)) el)):=Keep.of_new ((aT w).alloc _)
 have hblk:Blk (w.drew.alloc (.cells (cells.toArray++Builtin.zeroCells z.cells (cap' - q)) el)) w.heap.size (cells.toArray++Builtin.zeroCells z.cells (cap' - q)).toList el:=by
  have:=nS w.drew (cells.toArray++Builtin.zeroCells z.cells (cap' - q)).toList el
  rw [Array.toArray_toList] at this
  exact this
 have hqc:q * inf.size≤cap' * inf.size:=Nat.mul_le_mul_right _ hcap
 have hadd:=hH1.add hle hw (.inl hS.hr.size) hblk (λh=>absurd h (Nat.lt_irrefl _)) hlen (by omega) hdp (by
  have:(cells.toArray++Builtin.zeroCells z.cells (cap' - q)).toList.take n=cells:=by
   rw [Array.toList_append]
   rw [hn,←hcl]
   exact List.take_left
  rw [this]
  exact htr) (λo wr n dp d N hg hm=>by have:=hH1.bl hm;omega)
 refine ⟨_,.c (.s H1.next 0 q inf.size none),_,iq (hH1.unm _ (Nat.le_refl _)),⟨w.heap.size,cap' * inf.size,cap',?_,rfl,hcap,?_⟩,⟨hadd,hS.new.trans hw λi hi e=>by have:=hS.new.size;omega⟩,hG.trans (uP hle),hk⟩
 ·unfold mset;rw [if_pos rfl]
 ·show 0+cap' * inf.size=_;omega
theorem vU {n:Nat} {vs:List C} {X:Ob→Prop} (h:obL n vs X):n≤16384∧X (.ob true n (dpN n) (wR (dpN n) vs (uni .un (dpN n)) 0)):=by
 obtain ⟨h1,h2⟩:=cL h
 have h3:=dF.1 h2
 rw [mn] at h3
 exact ⟨cB h1,h3⟩
theorem sA {n:Nat} {vs:List C} {news:List Value} (hl:LR m vs news) (hn:news.length=n) (hle:n≤16384):TR m (dpN n) (wR (dpN n) vs (uni .un (dpN n)) 0) 0 news:=by
 have hdp:=lj hle
 refine ⟨by omega,λi u hi=>?_⟩
 have hil:i<news.length:=by
  rcases Nat.lt_or_ge i news.length with h | h
  ·exact h
  ·rw [List.getElem?_eq_none h] at hi;cases hi
 obtain ⟨c,hc,h1,h2⟩:=hl.2 i u hi
 rw [Nat.zero_add,jZ _ _ _ _ _ (by rw [hl.1];omega) (by omega),if_pos (Nat.zero_le _),Nat.sub_zero,hc]
 exact ⟨h1,h2⟩
theorem Bl {n dp:Nat} {d:Lv C dp} {vs:List C} {mm:Nat} {X:Ob→Prop} (h:EX n dp d vs mm X) (hdp:n≤4 ^ dp) (hnm:mm=n+vs.length):∃ dp' d',X (.ob true mm dp' d')∧mm≤4 ^ dp'∧mm≤16384∧(∀ j,j<mm→lget dp' d' j=if j<n then lget dp d j else nthD vs (j - n)):=by
 obtain ⟨h1,h2⟩:=cL h
 have h3:=dF.1 h2
 have hle:=cB h1
 have hm:=lj hle
 rcases tw h3 with ⟨hb,h4⟩ | ⟨_,h4⟩
 ·rw [mn] at h4
  have hpow:4 ^ dpN mm≤4 ^ dp:=Nat.pow_le_pow_right (by omega) (cB hb)
  refine ⟨dp,_,h4,by omega,hle,λj hj=>?_⟩
  rw [jZ _ _ _ _ _ (by omega) (by omega)]
  by_cases hjn:j<n
  ·rw [if_pos hjn,if_neg (by omega)]
  ·rw [if_neg hjn,if_pos (by omega)]
   have:j - n<vs.length:=by omega
   rw [List.getElem?_eq_getElem this]
   exact (vL (List.getElem?_eq_getElem this)).symm
 ·rw [oy,mn] at h4
  refine ⟨_,_,h4,hm,hle,λj hj=>?_⟩
  rw [jZ _ _ _ _ _ (by omega) (by omega)]
  by_cases hjn:j<n
  ·rw [if_pos hjn,if_neg (by omega),lK _ _ _ _ _ _ _ _ (by omega) (by omega),if_pos (by omega)]
   simp
  ·rw [if_neg hjn,if_pos (by omega)]
   have:j - n<vs.length:=by omega
   rw [List.getElem?_eq_getElem this]
   exact (vL (List.getElem?_eq_getElem this)).symm
theorem sB {b q:Nat} {X:Prop} (h:wM b q X):q≤140737488355328∧q * b≤140737488355328∧X:=by
 obtain ⟨h1,h2⟩:=cL h
 obtain ⟨h3,h4⟩:=cL h2
 exact ⟨cB h1,cB h3,h4⟩
theorem uy {t u ty el:TypeId} {ik:IntKind} (ht:P.underlying t=some (.slice el)) (hu:P.underlying u=some (.int ik)) (hok:okT P el=true) (hS:St w0 m w H) {x y:V} {rx ry:Value} (hx:VR m x rx) (hy:VR m y ry)
  (h:onS x (onN y λk=>iff (Nat.ble 1 k) (wM (byT P el) k (fN (Nat.mul k (szT P el)) λe=>obL e (List.replicate k (m4 P el)).flatten λb=>newS H k (szT P el) b K)) False) False λ_ _ _ _ _=>False):∃ rv w',(Builtin.append_ #[t,u] ty #[rx,ry]).run P w=.ok rv w'∧Af w0 m H K rv w':=by
 obtain ⟨inf,z,hinf,hz,hsz,hzs,hpos,hmax,hz1,hz2⟩:=gE hok
 have hby:byT P el=inf.bytes:=by unfold byT;rw [hinf]
 rw [hsz,hby] at h
 rcases nN h with ⟨rfl,h1⟩ | ⟨rfl,hf⟩ | ⟨_,_,_,_,_,_,hf⟩
 ·obtain ⟨kk,k,rfl,h2⟩:=oY h1
  obtain ⟨hk,h3⟩:=cL h2
  have hk:=cB hk
  obtain ⟨r1,r2,h4⟩:=sB h3
  have h5:=dF.1 h4
  obtain ⟨hle,h6⟩:=vU h5
  have hle:k * inf.size≤16384:=hle
  have hx:rx=.slice none 0 0:=hx
  have hy:ry=.int (kd kk) (k:Int):=hy
  subst hx hy
  obtain ⟨f1,f2⟩:=qx m hz1 hz2 k
  have hlen:(reps k z.cells.toList).length=k * inf.size:=by
   have:=tH k z.cells (by omega)
   have h7:(reps k z.cells.toList).length=(reps k z.cells.toList).toArray.size:=by simp
   rw [h7,←this,Array.size_map,Array.size_range,hzs]
  have hLR:LR m (List.replicate k (m4 P el)).flatten (reps k z.cells.toList):=by
   rw [f1]
   refine ⟨by simp,λi u hi=>⟨cv1 u,by rw [List.getElem?_map,hi];rfl,sW m u,List.all_eq_true.1 f2 u (List.mem_of_getElem? hi)⟩⟩
  exact ⟨_,_,xf ht hu hinf hz hzs hpos hk r1 r2,sy hS hS.hr (Gh.refl m H) hzs hlen (grownCap_ge w k 0 el) rfl rfl (lj hle) (sA hLR hlen hle) h6⟩
 ·exact hf.elim
 ·exact hf.elim
theorem Bm {t u ty el el':TypeId} (ht:P.underlying t=some (.slice el)) (hu:P.underlying u=some (.slice el')) (hok:okT P el=true) (hS:St w0 m w H) {x y:V} {rx ry:Value} (hx:VR m x rx) (hy:VR m y ry)
  (h:zK (szT P el) H y λk vs=>AV (byT P el) (szT P el) H x k vs K):∃ rv w',(Builtin.append_ #[t,u] ty #[rx,ry]).run P w=.ok rv w'∧Af w0 m H K rv w':=by
 obtain ⟨inf,z,hinf,hz,hsz,hzs,hpos,hmax,hz1,hz2⟩:=gE hok
 have hby:byT P el=inf.bytes:=by unfold byT;rw [hinf]
 rw [hsz,hby] at h
 obtain ⟨k,vs,h1,Hy⟩:=o8 (w0:=w0) (m:=m) (w:=w) h hpos
 obtain ⟨news,⟨a',cap',rfl,hsh⟩,hnl,hLR⟩:=Hy ry hS hy
 cases k with
 |zero=>
  have done:∀ {a:Option Addr} {len cap:Nat},rx=.slice a len cap→len≤cap→K x H→∃ rv w',(Builtin.append_ #[t,u] ty #[rx,.slice a' 0 cap']).run P w=.ok rv w'∧Af w0 m H K rv w':=by
   rintro a len cap rfl hle hk
   exact ⟨_,w,CJ ht hu hinf hle w,m,x,H,Le.refl m,hx,hS,Gh.refl m H,hk⟩
  have h2:onS x (K x H) (K x H) λ_ _ _ _ _=>K x H:=h1
  rcases nN h2 with ⟨rfl,hk⟩ | ⟨rfl,hk⟩ | ⟨ob,off,len,sz,c,rfl,hk⟩
  ·exact done hx (Nat.le_refl _) hk
  ·obtain ⟨a,cap,e⟩:=hx;exact done e (Nat.zero_le _) hk
  ·obtain ⟨b,N,cap,_,e,hlc,_⟩:=hx;exact done e hlc hk
 |succ k0=>
  obtain ⟨sb,so,rfl,hcells⟩:=hsh (by omega)
  generalize hkk:k0+1=k at *
  have hkpos:0<k:=by omega
  have h2:onS x (wM inf.bytes k (fN (Nat.mul k inf.size) λe=>obL e vs λb=>newS H k inf.size b K)) False
    λo off len s c=>iff (Nat.beq s inf.size) (@Option.rec Nat (λ_=>Prop) (appG inf.bytes inf.size H o off len vs k K) (λcp=>appC inf.bytes inf.size H o off len cp vs k K) c) False:=by
   subst hkk;exact h1
  clear h1
  rcases nN h2 with ⟨rfl,h3⟩ | ⟨rfl,hf⟩ | ⟨ob,off,len,sz,c,rfl,h3⟩
  ·obtain ⟨r1,r2,h4⟩:=sB h3
   have h5:=dF.1 h4
   obtain ⟨hle,h6⟩:=vU h5
   have hle:k * inf.size≤16384:=hle
   have hx:rx=.slice none 0 0:=hx
   subst hx
   exact ⟨_,_,yt ht hu hinf hz hnl hcells hkpos r1 r2,sy hS hS.hr (Gh.refl m H) hzs hnl (grownCap_ge w k 0 el) rfl rfl (lj hle) (sA hLR hnl hle) h6⟩
  ·exact hf.elim
  ·obtain ⟨hs,h4⟩:=cL h3
   have hs:=beq_eq hs
   subst hs
   obtain ⟨b,N,cap,hb,rfl,hlc,hcap⟩:=hx
   cases c with
   |none=>
    have hcap:off+cap * inf.size=N:=hcap
    obtain ⟨n,dp,d,hg,h5⟩:=ug (show wrK H ob _ from h4)
    have h6:=dF.1 h5
    have h7:=dF.1 h6
    obtain ⟨cs,T,hblk,hcl,hnN,hdp,htr⟩:=hS.hr.ob _ _ _ _ _ _ _ hg hb
    have mul_add':(len+k) * inf.size=len * inf.size+k * inf.size:=Nat.add_mul ..
    rcases tw h7 with ⟨he,h8⟩ | ⟨he,h8⟩
    ·
     have he:off+(len+k) * inf.size≤n:=cB he
     have hqc:len+k≤cap:=by
      have h9:(len+k) * inf.size≤cap * inf.size:=by omega
      exact Nat.le_of_mul_le_mul_right h9 hpos
     obtain ⟨n2,dp2,d2,hg2,h9⟩:=ug (show wrK H ob _ from h8)
     rw [hg] at hg2
     cases hg2
     obtain ⟨_,h10⟩:=cL h9
     rw [mn] at h10
     have h11:=mq h10
     obtain ⟨hwr,hS',hG⟩:=qE (dp2:=dp) (d2:=wR dp vs d (off+len * inf.size)) (vs:=news) (off:=off+len * inf.size) hS hg hb (by omega) hLR.single hdp (by
      intro j hj
      rw [jZ _ _ _ _ _ (by rw [hLR.1];omega) (by omega)]
      refine ⟨λhjo u hu=>?_,λhno=>?_⟩
      ·rw [if_pos hjo.1]
       obtain ⟨c,hc,k1,k2⟩:=hLR.2 _ u hu
       rw [hc]
       exact ⟨k1,k2⟩
      ·by_cases hjo:off+len * inf.size≤j
       ·rw [if_pos hjo,List.getElem?_eq_none (by rw [hLR.1];omega)]
       ·rw [if_neg hjo])
     exact ⟨_,_,uQ ht hu hinf hnl hcells hqc hwr,m,.c (.s ob off (len+k) inf.size none),_,Le.refl m,⟨b,N,cap,hb,rfl,hqc,hcap⟩,hS',hG,h11⟩
    ·
     have he:n<off+(len+k) * inf.size:=vJ he
     obtain ⟨hend,h9⟩:=cL h8
     have hend:off+len * inf.size=n:=beq_eq hend
     obtain ⟨ho0,h10⟩:=cL h9
     have ho0:off=0:=beq_eq ho0
     subst ho0
     obtain ⟨r1a,r2a,h11⟩:=sB h10
     have r1:len+k≤140737488355328:=r1a
     have r2:(len+k) * inf.bytes≤140737488355328:=r2a
     have h12:=mq h11
     have eq0:Nat.add 0 (Nat.mul (Nat.add len k) inf.size)=(len+k) * inf.size:=by
      show 0+(len+k) * inf.size=_
      omega
     have hmm:(len+k) * inf.size=n+news.length:=by omega
     obtain ⟨dp',d',h13,hdp'0,hmax'0,hget0⟩:=Bl h12 hdp (by rw [hLR.1,hnl];omega)
     have hdp':(len+k) * inf.size≤4 ^ dp':=by rw [←eq0];exact hdp'0
     have hmax':(len+k) * inf.size≤16384:=by rw [←eq0];exact hmax'0
     have hget:∀ j,j<(len+k) * inf.size→lget dp' d' j=if j<n then lget dp d j else nthD vs (j - n):=λj hj=>hget0 j (by rw [eq0];exact hj)
     clear hdp'0 hmax'0 hget0
     have hkill:=hS.hr.kill hg (hS.hr.lt hb)
     have hG:Gh m m H ⟨H.next,lset 7 H.t ob .dead⟩:=Dt hS.hr hb
     have hcells':TR m dp' d' 0 (cs.take n++news):=by
      refine ⟨by simp;omega,λi u hi=>?_⟩
      have hil:i<(cs.take n++news).length:=by
       rcases Nat.lt_or_ge i (cs.take n++news).length with h | h
       ·exact h
       ·rw [List.getElem?_eq_none h] at hi;cases hi
      have htl:(cs.take n).length=n:=by simp;omega
      simp only [List.length_append,htl] at hil
      rw [Nat.zero_add,hget i (by omega)]
      rw [List.getElem?_append,htl] at hi
      split at hi
      ·rename_i hin
       rw [if_pos hin]
       have:=htr.2 i u hi
       rw [Nat.zero_add] at this
       exact this
      ·rename_i hin
       rw [if_neg hin]
       obtain ⟨c,hc,k1,k2⟩:=hLR.2 _ u hi
       rw [vL hc]
       exact ⟨k1,k2⟩
     by_cases hroom:len+k≤cap
     ·
      have hBb:=hS.hr.blk _ _ _ hb
      have hwr:wrAt w ⟨b,0+len * inf.size,none⟩ 0 news:=by
       have h9:(len+k) * inf.size≤cap * inf.size:=Nat.mul_le_mul_right _ hroom
       exact fF hblk (by omega) hLR.single
      obtain ⟨hnx,h14⟩:=o7 (show newK _ _ _ from h13)
      have h9:(len+k) * inf.size≤cap * inf.size:=Nat.mul_le_mul_right _ hroom
      have hadd:=hkill.add (b:=b) (N:=N) (T:=T) (cs:=Eng.splice cs (0+len * inf.size+0) news) (n:=0+(len+k) * inf.size) hnx (ej w b (0+len * inf.size) 0 news) hBb.1 (hblk.puts (o:=0+len * inf.size) (i:=0) (vs:=news)) (λ_=>⟨_,_,hblk⟩) (by rw [Eng.length_splice,hcl]) (by omega) (by rw [Nat.zero_add];exact hdp') (by
       rw [rH]
       have e1:(oA.splice cs (0+len * inf.size+0) news).take (0+(len+k) * inf.size)=cs.take n++news:=by
        apply List.ext_getElem?
        intro i
        rw [List.getElem?_take,List.getElem?_append]
        have htl:(cs.take n).length=n:=by simp;omega
        rw [htl,qC _ _ _ _ (by omega)]
        by_cases hin:i<n
        ·rw [if_pos (by omega),if_neg (by omega),if_pos hin,List.getElem?_take,if_pos hin]
        ·rw [if_neg hin]
         by_cases hiq:i<0+(len+k) * inf.size
         ·rw [if_pos hiq,if_pos (by omega)]
          congr 1;omega
         ·rw [if_neg hiq,List.getElem?_eq_none (by omega)]
       rw [e1]
       exact hcells') (λo wr n' dp'' d'' N' hg' hm'=>by
        have hlt':=hS.hr.lt hm'
        have hl':=hS.hr.lim
        have hg':lget 7 (lset 7 H.t ob .dead) o=.ob wr n' dp'' d'':=hg'
        rw [dZ 7 _ _ _ _ (by rw [←hlim];have:=hS.hr.lt hb;omega) (by rw [←hlim];omega)] at hg'
        split at hg'
        ·cases hg'
        ·rename_i hne
         exact hne (hS.hr.inj o ob _ _ _ _ _ _ _ _ _ _ _ hg' hg hm' hb))
      refine ⟨_,_,uQ ht hu hinf hnl hcells hroom hwr,_,.c (.s H.next 0 (len+k) inf.size none),_,iq (hS.hr.unm _ (Nat.le_refl _)),⟨b,N,cap,?_,rfl,hroom,hcap⟩,⟨hadd,hS.new.puts hBb.1.symm _⟩,hG.trans (uP hnx),h14⟩
      show mset m H.next (b,N) H.next=_
      unfold mset;rw [if_pos rfl]
     ·
      have hlo:(cs.take n).length=len * inf.size:=by simp;omega
      have holds:∀ j v,(cs.take n)[j]?=some v→w.cell? ⟨b,0+j,none⟩=some v:=by
       intro j v hj
       rw [List.getElem?_take] at hj
       split at hj
       ·rw [Nat.zero_add];exact hblk.cell hj
       ·cases hj
      have hrun:=tj (ty:=ty) ht hu hinf hz (cap:=cap) hlo holds (c:=cap') hnl hcells (by omega) r1 r2
      refine ⟨_,_,hrun,?_⟩
      have:=sy (el:=el) (cells:=cs.take n++news) hS hkill hG hzs (by rw [List.length_append,hlo,hnl];omega) (grownCap_ge w (len+k) cap el) rfl eq0 (by rw [eq0];exact hdp') hcells' h13
      have e2:(cs.take n++news).toArray=(cs.take n).toArray++news.toArray:=by simp
      rw [e2] at this
      exact this
   |some cp=>
    have hcap:cap=cp:=hcap
    subst hcap
    have h5:=dF.1 (show fN (Nat.add len k) _ from h4)
    obtain ⟨hgt,h6⟩:=Bb h5
    have hgt:cap<len+k:=vJ hgt
    obtain ⟨r1,r2,h7⟩:=sB h6
    have h8:=dF.1 h7
    have fin:∀ (olds:List Value) (ovs:List C),olds.length=len * inf.size→(∀ j v,olds[j]?=some v→w.cell? ⟨b,off+j,none⟩=some v)→LR m (ovs++vs) (olds++news)→(fN (Nat.mul (len+k) inf.size) λe=>obL e (ovs++vs) λb=>newS H (len+k) inf.size b K)→
      ∃ rv w',(Builtin.append_ #[t,u] ty #[.slice (some ⟨b,off,none⟩) len cap,.slice (some ⟨sb,so,none⟩) k cap']).run P w=.ok rv w'∧Af w0 m H K rv w':=by
     intro olds ovs hlo holds hL h9
     have h10:=dF.1 h9
     obtain ⟨hle,h11⟩:=vU h10
     have hle:(len+k) * inf.size≤16384:=hle
     have hcl:(olds++news).length=(len+k) * inf.size:=by rw [List.length_append,hlo,hnl,Nat.add_mul]
     have hrun:=tj (ty:=ty) ht hu hinf hz (cap:=cap) hlo holds (c:=cap') hnl hcells hgt r1 r2
     refine ⟨_,_,hrun,?_⟩
     have:=sy (el:=el) (cells:=olds++news) hS hS.hr (Gh.refl m H) hzs hcl (grownCap_ge w (len+k) cap el) rfl rfl (lj hle) (sA hL hcl hle) h11
     have e2:(olds++news).toArray=olds.toArray++news.toArray:=by simp
     rw [e2] at this
     exact this
    cases hlz:len * inf.size with
    |zero=>
     have h9:@Nat.rec (λ_=>Prop) _ _ (Nat.mul len inf.size):=h8
     rw [show Nat.mul len inf.size=0 from hlz] at h9
     exact fin [] [] (by simp [hlz]) (λj v hj=>by simp at hj) (by simpa using hLR) h9
    |succ lz=>
     have h9:@Nat.rec (λ_=>Prop) _ _ (Nat.mul len inf.size):=h8
     rw [show Nat.mul len inf.size=lz+1 from hlz] at h9
     obtain ⟨wr,n,dp,d,hg,h10⟩:=sY (show obK H ob _ from h9)
     obtain ⟨hle,h11⟩:=cL h10
     have hle:off+len * inf.size≤n:=by have:=cB hle;rw [hlz];exact this
     rw [iQ] at h11
     obtain ⟨cs,T,hblk,hcl,hnN,hdp,htr⟩:=hS.hr.ob _ _ _ _ _ _ _ hg hb
     have hlen:((cs.drop off).take (len * inf.size)).length=len * inf.size:=by simp;omega
     refine fin ((cs.drop off).take (len * inf.size)) (qV dp d (lz+1) off) hlen (λj v hj=>?_) ⟨?_,λi u hi=>?_⟩ h11
     ·rw [List.getElem?_take] at hj
      split at hj
      ·rw [List.getElem?_drop] at hj;exact hblk.cell hj
      ·cases hj
     ·rw [List.length_append,List.length_append,jv,hlen,hlz,hLR.1]
     ·rw [List.getElem?_append,hlen] at hi
      rw [List.getElem?_append,jv,←hlz]
      split at hi
      ·rename_i hil
       rw [if_pos hil,List.getElem?_take,if_pos hil,List.getElem?_drop] at *
       refine ⟨_,by rw [←hlz] at *;exact lJ dp d _ off i hil,?_⟩
       have:=htr.2 (off+i) u (by rw [List.getElem?_take,if_pos (by omega)];exact hi)
       rw [Nat.zero_add] at this
       exact this
      ·rename_i hil
       rw [if_neg hil]
       exact hLR.2 _ u hi
end
end Go.Mx
namespace Go.Mx
open Go.Eng
section
variable {P:Program} {e:Nat} {env:Env e} {o:Oper} {w0:Bs} {m:Mp} {w:World} {H:Hp} {K:KV} {renv:List Value}
theorem Bo {tys:Array TypeId} {t ty el:TypeId} {inf:TypeInfo} (hty:tys[0]?=some t) (ht:P.underlying t=some (.slice el)) (hi:P.info? el=some inf) {a a':Option Addr} {len cap k c':Nat} (hk:Nat.min k len=0) (w:World) :
  (Builtin.copy_ tys ty #[.slice a len cap,.slice a' k c']).run P w=.ok (.int .i64 0) w:=by
 cases a with
 |none=>cases a' with
  |none=>simp [Builtin.copy_,hty,run_underlying ht,sizeOf,typeInfo,hi,Builtin.lenOf,hk,Builtin.firstCells,goInt]
  |some s=>simp [Builtin.copy_,hty,run_underlying ht,sizeOf,typeInfo,hi,Builtin.lenOf,hk,Builtin.firstCells,loadCells,loadCellsFrom,goInt]
 |some a=>cases a' with
  |none=>simp [Builtin.copy_,hty,run_underlying ht,sizeOf,typeInfo,hi,Builtin.lenOf,hk,Builtin.firstCells,storeCells,goInt]
  |some s=>simp [Builtin.copy_,hty,run_underlying ht,sizeOf,typeInfo,hi,Builtin.lenOf,hk,Builtin.firstCells,loadCells,loadCellsFrom,storeCells,goInt]
theorem vE {tys:Array TypeId} {t ty el:TypeId} {inf:TypeInfo} (hty:tys[0]?=some t) (ht:P.underlying t=some (.slice el)) (hi:P.info? el=some inf) {b off len cap k c sb so q:Nat} (hq:Nat.min k len=q) {news:List Value} (hl:news.length=q * inf.size)
  (hnews:∀ j u,news[j]?=some u→w.cell? ⟨sb,so+j,none⟩=some u) (hwr:wrAt w ⟨b,off,none⟩ 0 news) :
  (Builtin.copy_ tys ty #[.slice (some ⟨b,off,none⟩) len cap,.slice (some ⟨sb,so,none⟩) k c]).run P w=.ok (.int .i64 q) (puts w ⟨b,off,none⟩ 0 news):=by
 have hf:=run_firstCells_some (P:=P) w inf.size q ⟨sb,so,none⟩ k c news hl (λj v h=>by rw [nP];exact hnews j v h)
 have hst:=Eng.run_storeCells (P:=P) hwr
 simp [Builtin.copy_,hty,run_underlying ht,sizeOf,typeInfo,hi,Builtin.lenOf,hq,hf,hst,goInt]
theorem uh {ob off b N:Nat} {vs:List C} {news:List Value} {X:Hp→Prop} (h:uK H ob off vs X) (hS:St w0 m w H) (hm:m ob=some (b,N)) (hLR:LR m vs news) :
  ∃ H',wrAt w ⟨b,off,none⟩ 0 news∧St w0 m (puts w ⟨b,off,none⟩ 0 news) H'∧Gh m m H H'∧X H':=by
 obtain ⟨n,dp,d,hg,h1⟩:=ug (show wrK H ob _ from h)
 obtain ⟨hle,h2⟩:=cL h1
 have hle:off+vs.length≤n:=cB hle
 rw [mn] at h2
 have h3:=mq h2
 obtain ⟨cs,T,hblk,hcl,hnN,hdp,htr⟩:=hS.hr.ob _ _ _ _ _ _ _ hg hm
 have hll:=hLR.1
 obtain ⟨hwr,hS',hG⟩:=qE (dp2:=dp) (d2:=wR dp vs d off) (vs:=news) (off:=off) hS hg hm (by omega) hLR.single hdp (by
  intro j hj
  rw [jZ _ _ _ _ _ (by omega) (by omega)]
  refine ⟨λhjo u hu=>?_,λhno=>?_⟩
  ·rw [if_pos hjo.1]
   obtain ⟨c,hc,k1,k2⟩:=hLR.2 _ u hu
   rw [hc]
   exact ⟨k1,k2⟩
  ·by_cases hjo:off≤j
   ·rw [if_pos hjo,List.getElem?_eq_none (by omega)]
   ·rw [if_neg hjo])
 exact ⟨_,hwr,hS',hG,h3⟩
theorem LR.take {vs:List C} {news:List Value} (h:LR m vs news) (n:Nat):LR m (vs.take n) (news.take n):=by
 refine ⟨by rw [List.length_take,List.length_take,h.1],λi u hi=>?_⟩
 rw [List.getElem?_take] at hi
 split at hi
 ·rename_i hin
  obtain ⟨c,hc,h1⟩:=h.2 i u hi
  exact ⟨c,by rw [List.getElem?_take,if_pos hin];exact hc,h1⟩
 ·cases hi
theorem zT {tys:Array TypeId} {t ty el:TypeId} (hty:tys[0]?=some t) (ht:P.underlying t=some (.slice el)) (hok:okT P el=true) (hS:St w0 m w H) {x y:V} {rx ry:Value} (hx:VR m x rx) (hy:VR m y ry)
  (h:EY (szT P el) x y H K):∃ rv w',(Builtin.copy_ tys ty #[rx,ry]).run P w=.ok rv w'∧Af w0 m H K rv w':=by
 obtain ⟨inf,z,hinf,hz,hsz,hzs,hpos,hmax,hz1,hz2⟩:=gE hok
 rw [hsz] at h
 have zero:∀ {a a':Option Addr} {len cap k c':Nat},rx=.slice a len cap→ry=.slice a' k c'→Nat.min k len=0→K (.c (.i 3 (.ofNat 0))) H→∃ rv w',(Builtin.copy_ tys ty #[rx,ry]).run P w=.ok rv w'∧Af w0 m H K rv w':=by
  rintro a a' len cap k c' rfl rfl h0 hk
  exact ⟨_,w,Bo hty ht hinf h0 w,m,.c (.i 3 (.ofNat 0)),H,Le.refl m,rfl,hS,Gh.refl m H,hk⟩
 rcases nN h with ⟨rfl,h1⟩ | ⟨rfl,h1⟩ | ⟨ob,off,len,sz,c,rfl,h1⟩
 ·obtain ⟨k,vs,h2,Hy⟩:=o8 (w0:=w0) (m:=m) (w:=w) h1 hpos
  obtain ⟨news,⟨a',cap',rfl,hsh⟩,hnl,hLR⟩:=Hy ry hS hy
  exact zero hx rfl (Nat.min_zero _) h2
 ·obtain ⟨k,vs,h2,Hy⟩:=o8 (w0:=w0) (m:=m) (w:=w) h1 hpos
  obtain ⟨news,⟨a',cap',rfl,hsh⟩,hnl,hLR⟩:=Hy ry hS hy
  obtain ⟨a,cap,rfl⟩:=hx
  exact zero rfl rfl (Nat.min_zero _) h2
 ·obtain ⟨hs,h2⟩:=cL h1
  have hs:=beq_eq hs
  subst hs
  obtain ⟨k,vs,h3,Hy⟩:=o8 (w0:=w0) (m:=m) (w:=w) h2 hpos
  obtain ⟨news,⟨a',cap',rfl,hsh⟩,hnl,hLR⟩:=Hy ry hS hy
  obtain ⟨b,N,cap,hb,rfl,hlc,hcap⟩:=hx
  have h4:=dF.1 h3
  rw [yh] at h4
  cases hq:min k len with
  |zero=>
   rw [hq] at h4
   exact zero rfl rfl hq h4
  |succ q=>
   rw [hq] at h4
   have hkpos:k≠0:=by
    rintro rfl
    simp at hq
   have hqk:q+1≤k:=by rw [←hq];exact Nat.min_le_left k len
   obtain ⟨sb,so,rfl,hcells⟩:=hsh hkpos
   have h5:uK H ob off (vs.take (Nat.mul (q+1) inf.size)) λH=>K (.c (.i 3 (.ofNat (q+1)))) H:=h4
   obtain ⟨H',hwr,hS',hG,hk⟩:=uh h5 hS hb (hLR.take _)
   have hmul:(q+1) * inf.size≤k * inf.size:=Nat.mul_le_mul_right _ hqk
   have hlen:(news.take (Nat.mul (q+1) inf.size)).length=(q+1) * inf.size:=by
    rw [List.length_take,hnl]
    exact Nat.min_eq_left hmul
   refine ⟨_,_,vE hty ht hinf hq hlen (λj u hj=>?_) hwr,m,.c (.i 3 (.ofNat (q+1))),H',Le.refl m,rfl,hS',hG,hk⟩
   rw [List.getElem?_take] at hj
   split at hj
   ·exact hcells j u hj
   ·cases hj
theorem zU {tys:Array TypeId} {t ty el:TypeId} (hty:tys[0]?=some t) (ht:P.underlying t=some (.slice el)) {a:Option Addr} {len cap:Nat} (h:a=none∨len=0) (w:World):(Builtin.clear_ tys ty #[.slice a len cap]).run P w=.ok undef w:=by
 rcases h with rfl | rfl
 ·simp [Builtin.clear_,hty,run_underlying ht,undef]
 ·cases a<;>simp [Builtin.clear_,hty,run_underlying ht,undef]
theorem Bp {tys:Array TypeId} {t ty el:TypeId} {inf:TypeInfo} {z:Value} (hty:tys[0]?=some t) (ht:P.underlying t=some (.slice el)) (hi:P.info? el=some inf) (hz:inf.zero=some z) {a:Addr} {len cap:Nat} (hwr:wrAt w a 0 (Builtin.zeroCells z.cells (len+1)).toList) :
  (Builtin.clear_ tys ty #[.slice (some a) (len+1) cap]).run P w=.ok undef (puts w a 0 (Builtin.zeroCells z.cells (len+1)).toList):=by
 have hst:=Eng.run_storeCells (P:=P) hwr
 simp [Builtin.clear_,hty,run_underlying ht,zeroValue,typeInfo,hi,hz,hst,undef]
theorem Ej (m:Mp) {t:TypeId} {z:Value} (h1:m4 P t=z.cells.toList.map cv1) (h2:z.cells.toList.all (λv=>stC (cv1 v))=true) (hpos:0<z.cells.size) (k:Nat) :
  LR m (List.replicate k (m4 P t)).flatten (Builtin.zeroCells z.cells k).toList:=by
 obtain ⟨f1,f2⟩:=qx m h1 h2 k
 have hz:Builtin.zeroCells z.cells k=(reps k z.cells.toList).toArray:=tH k z.cells hpos
 rw [f1,hz]
 refine ⟨by simp,λi u hi=>?_⟩
 have hi:(reps k z.cells.toList)[i]?=some u:=by simpa using hi
 exact ⟨cv1 u,by rw [List.getElem?_map,hi];rfl,sW m u,List.all_eq_true.1 f2 u (List.mem_of_getElem? hi)⟩
theorem yu {tys:Array TypeId} {t ty el:TypeId} (hty:tys[0]?=some t) (ht:P.underlying t=some (.slice el)) (hok:okT P el=true) (hS:St w0 m w H) {x:V} {rx:Value} (hx:VR m x rx)
  (h:Dn (szT P el) (m4 P el) x H K):∃ rv w',(Builtin.clear_ tys ty #[rx]).run P w=.ok rv w'∧Af w0 m H K rv w':=by
 obtain ⟨inf,z,hinf,hz,hsz,hzs,hpos,hmax,hz1,hz2⟩:=gE hok
 rw [hsz] at h
 have zero:∀ {a:Option Addr} {len cap:Nat},rx=.slice a len cap→a=none∨len=0→K (.c .un) H→∃ rv w',(Builtin.clear_ tys ty #[rx]).run P w=.ok rv w'∧Af w0 m H K rv w':=by
  rintro a len cap rfl h0 hk
  exact ⟨_,w,zU hty ht h0 w,m,.c .un,H,Le.refl m,rfl,hS,Gh.refl m H,hk⟩
 rcases nN h with ⟨rfl,h1⟩ | ⟨rfl,h1⟩ | ⟨ob,off,len,sz,c,rfl,h1⟩
 ·exact zero hx (.inl rfl) h1
 ·obtain ⟨a,cap,rfl⟩:=hx
  exact zero rfl (.inr rfl) h1
 ·obtain ⟨hs,h2⟩:=cL h1
  have hs:=beq_eq hs
  subst hs
  obtain ⟨b,N,cap,hb,rfl,hlc,hcap⟩:=hx
  cases len with
  |zero=>exact zero rfl (.inr rfl) h2
  |succ len=>
   have h3:uK H ob off ((List.replicate (len+1) (m4 P el)).flatten) λH=>K (.c .un) H:=h2
   obtain ⟨H',hwr,hS',hG,hk⟩:=uh h3 hS hb (Ej m hz1 hz2 (by omega) (len+1))
   exact ⟨_,_,Bp hty ht hinf hz hwr,m,.c .un,H',Le.refl m,rfl,hS',hG,hk⟩
end
end Go.Mx
namespace Go.Mx
open Go.Eng
def qy (P:Program) (w0:Bs) (call:Cal):Prop:=
 ∀ (f:FuncId) (args:List V) (vals:List Value) (m:Mp) (w:World) (H:Hp) (K:KV),call f args H K→St w0 m w H→All2 (VR m) args vals→Calls P f vals.toArray w λe w'=>∃ v,e=.returned v∧Af w0 m H K v w'
theorem All2.append {α β:Type} {R:α→β→Prop}:∀ {xs:List α} {ys:List β} {xs':List α} {ys':List β},All2 R xs ys→All2 R xs' ys'→All2 R (xs++xs') (ys++ys')
 | [],[],_,_,_,h=>h
 | _::_,_::_,_,_,⟨a,b⟩,h=>⟨a,All2.append b h⟩
theorem vV {m:Mp}:∀ {cs:List Ptr} {vs:List Value},All2 (PR m) cs vs→All2 (VR m) (capV cs) vs
 | [],[],_=>trivial
 |c::cs,v::vs,⟨a,b⟩=>by
  refine ⟨?_,vV b⟩
  cases c with
  |none=>exact a
  |some p=>exact a
section
variable {P:Program} {e:Nat} {env:Env e} {o:Oper} {w0:Bs} {m:Mp} {w:World} {H:Hp} {K:KV} {renv:List Value} {call:Cal}
theorem tk {K:Ob→(Nat→V)→Prop} (h:(y5 P e o.op).go env K):∃ b f,K b f∧yp P e env o b f:=by
 unfold y5 at h
 split at h
 ·rename_i ho
  split at h
  ·rename_i hok;exact yq ho hok h
  ·exact h.elim
 ·rename_i ho;exact Bj ho h
 ·rename_i ho;exact tx ho h
 ·rename_i ho;exact uf ho h
 ·exact h.elim
theorem zV {b:Ob} {f:Nat→V} (hF:yp P e env o b f) (hk:newK H b λo H=>K (f o) H) (hS:St w0 m w H) (hr:OpsR m e env renv o.op.operands.toList):fE P renv o (Af w0 m H K) w:=by
 obtain ⟨arr,T,rv,hrun,⟨n,dp,d,rfl,hn,hdp,htr⟩,hv⟩:=hF m renv hr
 obtain ⟨hle,h1⟩:=o7 hk
 have hw:Keep (λk=>k=w.heap.size) w (w.alloc (.cells arr.toArray T)):=Keep.of_new (ke w _)
 have hadd:=hS.hr.add hle hw (.inl hS.hr.size) (nS w arr T) (λh=>absurd h (Nat.lt_irrefl _)) rfl (by omega) hdp (by rw [hn,List.take_length];exact htr) (λo wr n dp d N hg hm=>by have:=hS.hr.bl hm;omega)
 have hm':mset m H.next (w.heap.size,arr.length) H.next=some (w.heap.size,arr.length):=by unfold mset;rw [if_pos rfl]
 exact .inl ⟨_,_,hrun w,_,f H.next,_,iq (hS.hr.unm _ (Nat.le_refl _)),hv _ _ _ (iq (hS.hr.unm _ (Nat.le_refl _))) hm',⟨hadd,hS.new.trans hw λi hi e=>by have:=hS.new.size;omega⟩,uP hle,h1⟩
theorem zW {v:V} (hP:j0 P e env o v) (hk:K v H) (hS:St w0 m w H) (hr:OpsR m e env renv o.op.operands.toList):fE P renv o (Af w0 m H K) w:=by
 obtain ⟨rv,hrun,hv⟩:=hP m renv hr
 exact .inl ⟨_,_,hrun w,m,v,H,Le.refl m,hv,hS,Gh.refl m H,hk⟩
theorem tF {t:TypeId} {x:Operand} (ho:o.op=.load t x) (h:(ss P e t x).go env H λv=>K v H) (hS:St w0 m w H) (hr:OpsR m e env renv o.op.operands.toList):fE P renv o (Af w0 m H K) w:=by
 obtain ⟨v,hk,hl⟩:=ue h
 obtain ⟨rv,hrun,hv⟩:=hl m w0 w renv hS.hr (by rintro y rfl;exact hr (.tmp y) (by rw [ho];simp [Op.operands]) y rfl)
 have he:execOp (ev renv) o=(do pure (.value (← Instr.loadAt t (ev renv x)))):=by unfold execOp;rw [ho]
 exact oC he hrun ⟨m,v,H,Le.refl m,hv,hS,Gh.refl m H,hk⟩
theorem vW {t:TypeId} {x:Operand} {lo hi mx:Option Operand} (ho:o.op=.slice t x lo hi mx) (h:(ye P e t x lo hi mx).go call env H K) (hS:St w0 m w H) (hr:OpsR m e env renv o.op.operands.toList):fE P renv o (Af w0 m H K) w:=by
 unfold ye at h
 split at h
 ·rename_i el hel
  obtain ⟨hu,hok,hc⟩:=wW hel
  rw [aP,aP,aP,aP,iJ,cU] at h
  obtain ⟨vx,h1,hx⟩:=bE h
  obtain ⟨vlo,h2,hlo⟩:=iR h1
  obtain ⟨vhi,h3,hhi⟩:=iR h2
  obtain ⟨vmx,h4,hmx⟩:=iR h3
  obtain ⟨v,hv,HH⟩:=wX ho hu hok hx hlo hhi hmx h4 hc
  obtain ⟨rv,hrun,hrel⟩:=HH m renv hr λ_ ob wr n dp d b N hg hm=>(by
   obtain ⟨cs,T,_,_,hnN,_⟩:=hS.hr.ob _ _ _ _ _ _ _ hg hm
   exact hnN)
  exact .inl ⟨_,_,hrun w,m,v,H,Le.refl m,hrel,hS,Gh.refl m H,hv⟩
 ·exact h.elim
theorem xg {f:Operand} {c:Call} {g:FuncId} {first captured:Array Value} (ho:o.op=.call c) (hc:c.callee=.value f) (hf:ev renv f=.func (.func g) first captured) (hok:okFun P g=true) :
  (execOp (ev renv) o).run P w=.ok (.enter g (first++c.args.map (ev renv)++captured)) w:=by
 unfold okFun at hok
 cases hfn:P.funcs[g]? with
 |none=>simp [hfn] at hok
 |some fn=>
  simp only [hfn,Bool.and_eq_true,Bool.not_eq_true'] at hok
  have hb:fn.body≠none:=by
   intro hb
   simp [hb] at hok
  have hn:fn.name≠ "runtime.NumGoroutine" :=by simpa using hok.2
  unfold execOp
  rw [ho]
  simp only [resolve,hc,hf,Deferred.ofValue,pure_bind,invoke,callFunc]
  simp [program,Sem.run,hfn,hn,hb]
theorem vX {c:Call} {b:Builtin} {s:Sem Value} {R:Value→World→Prop} {rv:Value} {w':World} (ho:o.op=.call c) (hc:c.callee=.builtin b)
  (hb:∀ cs,builtin b c.argTypes o.type cs (c.args.map (ev renv))=(do pure (.value (← s)))) (hr:s.run P w=.ok rv w') (h:R rv w'):fE P renv o R w:=by
 refine .inl ⟨.value rv,w',?_,h⟩
 unfold execOp
 rw [ho]
 simp only [resolve,hc,pure_bind,invoke,hb]
 rw [Sem.run_bind,hr]
 rfl
theorem CK {c:Call} {b:Builtin} {vs:List V} (ho:o.op=.call c) (hc:c.callee=.builtin b) (h:(biC P b c.argTypes.toList).go vs H K) (hS:St w0 m w H) (hvs:All2 (VR m) vs (c.args.toList.map (ev renv))):fE P renv o (Af w0 m H K) w:=by
 unfold biC at h
 split at h
 rotate_left
 ·exact h.elim
 rename_i t ts hts
 split at h
 rotate_left
 ·exact h.elim
 rename_i el hel
 obtain ⟨hu,hok⟩:=sx hel
 rw [iJ] at h
 have hty:c.argTypes[0]?=some t:=by rw [←Array.getElem?_toList,hts];rfl
 have args2:∀ {x y:V},vs=[x,y]→∃ rx ry,c.args.map (ev renv)=#[rx,ry]∧VR m x rx∧VR m y ry:=by
  rintro x y rfl
  generalize hl:c.args.toList.map (ev renv)=l at hvs
  match l,hvs with
  | [rx,ry],hh=>exact ⟨rx,ry,Array.ext' (by simpa using hl),hh.1,hh.2.1⟩
 have args1:∀ {x:V},vs=[x]→∃ rx,c.args.map (ev renv)=#[rx]∧VR m x rx:=by
  rintro x rfl
  generalize hl:c.args.toList.map (ev renv)=l at hvs
  match l,hvs with
  | [rx],hh=>exact ⟨rx,Array.ext' (by simpa using hl),hh.1⟩
 split at h
 ·split at h
  rotate_left
  ·exact h.elim
  rename_i u t' u' htu
  have e3:c.argTypes=#[t,u']:=by
   apply Array.ext'
   rw [htu]
   have:=hts.symm.trans htu
   simp only [List.cons.injEq] at this
   rw [this.1]
  split at h
  ·rename_i el' hu'
   rw [iJ,cU] at h
   obtain ⟨x,y,e1,h1⟩:=yf h
   obtain ⟨rx,ry,e2,hx,hy⟩:=args2 e1
   obtain ⟨rv,w',hrun,haf⟩:=Bm (ty:=o.type) hu hu' hok hS hx hy h1
   exact vX ho hc (s:=Builtin.append_ c.argTypes o.type (c.args.map (ev renv))) (λ_=>rfl) (by rw [e2,e3];exact hrun) haf
  ·rename_i ik hu'
   rw [iJ,cU] at h
   obtain ⟨x,y,e1,h1⟩:=yf h
   obtain ⟨rx,ry,e2,hx,hy⟩:=args2 e1
   obtain ⟨rv,w',hrun,haf⟩:=uy (ty:=o.type) hu hu' hok hS hx hy h1
   exact vX ho hc (s:=Builtin.append_ c.argTypes o.type (c.args.map (ev renv))) (λ_=>rfl) (by rw [e2,e3];exact hrun) haf
  ·exact h.elim
 ·rw [cU] at h
  obtain ⟨x,y,e1,h1⟩:=yf h
  obtain ⟨rx,ry,e2,hx,hy⟩:=args2 e1
  obtain ⟨rv,w',hrun,haf⟩:=zT (ty:=o.type) hty hu hok hS hx hy h1
  exact vX ho hc (s:=Builtin.copy_ c.argTypes o.type (c.args.map (ev renv))) (λ_=>rfl) (by rw [e2];exact hrun) haf
 ·rw [cU] at h
  obtain ⟨x,e1,h1⟩:=vN h
  obtain ⟨rx,e2,hx⟩:=args1 e1
  obtain ⟨rv,w',hrun,haf⟩:=yu (ty:=o.type) hty hu hok hS hx h1
  exact vX ho hc (s:=Builtin.clear_ c.argTypes o.type (c.args.map (ev renv))) (λ_=>rfl) (by rw [e2];exact hrun) haf
 ·exact h.elim
theorem xh {c:Call} (ho:o.op=.call c) (hC:qy P w0 call) (h:(AY P e c).go call env H K) (hS:St w0 m w H) (hr:OpsR m e env renv o.op.operands.toList):fE P renv o (Af w0 m H K) w:=by
 unfold AY at h
 split at h
 ·rename_i b hc
  rw [aP,aP,cU] at h
  obtain ⟨vs,h1,hvs⟩:=ir h
  exact CK ho hc h1 hS (kZ.all hr hvs (by rw [ho];intro x hx;simp only [Op.operands,Call.operands,hc];simpa using hx))
 ·rename_i f hc
  have hin:∀ x ∈ c.args.toList,x ∈ o.op.operands.toList:=by
   rw [ho]
   intro x hx
   simp only [Op.operands,Call.operands,hc]
   simp at hx
   simp [hx]
  split at h
  ·rename_i f
   split at h
   ·rename_i hok
    rw [aP,cU] at h
    obtain ⟨vs,h1,hvs⟩:=ir h
    have hall:=kZ.all hr hvs hin
    refine .inr ⟨f,_,xg (first:=#[]) (captured:=#[]) ho hc rfl hok,?_⟩
    have:=hC f vs _ m w H K h1 hS hall
    have e1:(#[]++c.args.map (ev renv)++#[]:Array Value)=(c.args.toList.map (ev renv)).toArray:=by
     apply Array.ext'
     simp
    rw [e1]
    exact this
   ·exact h.elim
  ·rw [aP,aP,cU] at h
   obtain ⟨vf,h1,hf⟩:=bE h
   obtain ⟨vs,h2,hvs⟩:=ir h1
   have hall:=kZ.all hr hvs hin
   unfold EZ at h2
   split at h2
   ·split at h2
    ·rename_i first cap fn g
     obtain ⟨hok,h3⟩:=cL h2
     obtain ⟨fs,cs,q1,hfs,hcs⟩:=hf.of hr (by rw [ho];simp [Op.operands,Call.operands,hc])
     refine .inr ⟨g,_,xg ho hc q1 hok,?_⟩
     have:=hC g _ (fs++c.args.toList.map (ev renv)++cs) m w H K h3 hS (((vV hfs).append hall).append (vV hcs))
     have e1:(fs.toArray++c.args.map (ev renv)++cs.toArray:Array Value)=(fs++c.args.toList.map (ev renv)++cs).toArray:=by simp
     rw [e1]
     exact this
    ·exact h2.elim
   ·exact h2.elim
 ·exact h.elim
theorem Bq {H:Hp} {q:Nat} {X:Prop} (h:ET H q X):lget 7 H.t q=.mp∧X:=by
 cases H with
 |mk x t=>
  have h1:(getC 7 q).go t (λb=>@Ob.rec (λ_=>Prop) False (λ_ _ _ _=>False) X f1 b):=h
  rw [nM] at h1
  cases hb:lget 7 t q with
  |mp=>rw [hb] at h1;exact ⟨rfl,h1⟩
  |dead=>rw [hb] at h1;exact h1.elim
  |ob wr n dp d=>rw [hb] at h1;exact h1.elim
  |it q=>rw [hb] at h1;exact h1.elim
theorem CL {H:Hp} {q:Nat} {X:Prop} (h:itAt H q X):(∃ p,lget 7 H.t q=.it p)∧X:=by
 cases H with
 |mk x t=>
  have h1:(getC 7 q).go t (λb=>@Ob.rec (λ_=>Prop) False (λ_ _ _ _=>False) False (λ_=>X) b):=h
  rw [nM] at h1
  cases hb:lget 7 t q with
  |mp=>rw [hb] at h1;exact h1.elim
  |dead=>rw [hb] at h1;exact h1.elim
  |ob wr n dp d=>rw [hb] at h1;exact h1.elim
  |it p=>rw [hb] at h1;exact ⟨⟨p,rfl⟩,h1⟩
theorem Ek {x:V} {K:Nat→Prop} (h:onM x K):∃ o,x=.c (.mp o)∧K o:=by
 cases x with
 |c c=>cases c with
  |mp o=>exact ⟨o,rfl,h⟩
  | _=>exact h.elim
 | _=>exact h.elim
theorem vY {t:TypeId} (ho:o.op=.makeMap t none) (h:Dk H K) (hS:St w0 m w H):fE P renv o (Af w0 m H K) w:=by
 obtain ⟨hn,h1⟩:=o7 (show newK H .mp (λo H=>K (.c (.mp o)) H) from h)
 have he:execOp (ev renv) o=(do pure (.value (← Instr.makeMap t none))):=by unfold execOp;rw [ho];rfl
 have hr:(Instr.makeMap t none).run P w=.ok (.map (some w.heap.size)) (w.alloc (.map #[] 0)):=rfl
 have hle:=iq (p:=(w.heap.size,0)) (hS.hr.unm H.next (Nat.le_refl _))
 refine oC he hr ⟨_,.c (.mp H.next),_,hle,⟨w.heap.size,0,?_,rfl⟩,⟨hS.hr.addS hn (.inl ⟨rfl,0,rfl⟩),hS.new.trans (ke w _) λ_ _ h=>h.elim⟩,uP hn,h1⟩
 unfold mset;rw [if_pos rfl]
theorem yv {t k el:TypeId} {x:Operand} (ho:o.op=.range t x) (hu:P.underlying t=some (.map k el)) {vx:V} (hx:kZ e env x vx) (h:Dm H vx K) (hS:St w0 m w H) (hr:OpsR m e env renv o.op.operands.toList):fE P renv o (Af w0 m H K) w:=by
 obtain ⟨q,rfl,h1⟩:=Ek h
 obtain ⟨hq,h2⟩:=Bq h1
 obtain ⟨hn,h3⟩:=o7 h2
 have hv:VR m (.c (.mp q)) (ev renv x):=hx.of hr (by rw [ho];simp [Op.operands])
 obtain ⟨b,N,hm,hv⟩:=(show CR m (.mp q) (ev renv x) from hv)
 obtain ⟨_,hsp⟩:=hS.hr.blk _ _ _ hm
 obtain ⟨c,hb⟩:∃ c,w.heap[b]?=some (.map #[] c):=by
  rcases hsp with ⟨_,h⟩ | ⟨_,_,_,_,_,_,h,_⟩ | ⟨h,_⟩
  ·exact h
  ·rw [hq] at h;cases h
  ·exact absurd hq h
 have he:execOp (ev renv) o=(do pure (.value (← Instr.range t (ev renv x)))):=by unfold execOp;rw [ho]
 have hrun:(Instr.range t (ev renv x)).run P w=.ok (.pointer (some ⟨w.heap.size,0,none⟩)) (w.alloc (.mapIter (some b) c #[] c)):=by
  rw [hv];exact run_range_map w t k el b #[] c hu hb
 have hle:=iq (p:=(w.heap.size,0)) (hS.hr.unm H.next (Nat.le_refl _))
 refine oC he hrun ⟨_,.c (.p H.next 0),_,hle,⟨w.heap.size,0,?_,rfl⟩,⟨hS.hr.addS hn (.inr ⟨q,b,N,c,c,c,rfl,hm,hb,rfl⟩),hS.new.trans (ke w _) λ_ _ h=>h.elim⟩,uP hn,h3⟩
 unfold mset;rw [if_pos rfl]
theorem uz {b r c s l:Nat} {w:World} (hr:w.heap[r]?=some (.mapIter (some b) s #[] l)) (hb:w.heap[b]?=some (.map #[] c)) (ty:TypeId):(Instr.next (.pointer (some ⟨r,0,none⟩)) false ty).run P w=.ok (.tuple #[.bool false]) w:=by
 simp [Instr.next,getObj,Sem.run_bind,Sem.run,hr,hb,Result.andThen,choose,Question.forced]
theorem zX {x:Operand} (ho:o.op=.next x false) {vx:V} (hx:kZ e env x vx) (h:EU H vx K) (hS:St w0 m w H) (hr:OpsR m e env renv o.op.operands.toList):fE P renv o (Af w0 m H K) w:=by
 obtain ⟨q,off,rfl,h1⟩:=sw h
 obtain ⟨hz,h2⟩:=cL h1
 have hz:=beq_eq hz
 subst hz
 obtain ⟨⟨p,hq⟩,h3⟩:=CL h2
 have hv:VR m (.c (.p q 0)) (ev renv x):=hx.of hr (by rw [ho];simp [Op.operands])
 obtain ⟨r,N,hm,hv⟩:=(show CR m (.p q 0) (ev renv x) from hv)
 obtain ⟨_,hsp⟩:=hS.hr.blk _ _ _ hm
 obtain ⟨b,c,s,l,hb,hri⟩:∃ b c s l,w.heap[b]?=some (.map #[] c)∧w.heap[r]?=some (.mapIter (some b) s #[] l):=by
  rcases hsp with ⟨h,_⟩ | ⟨_,b',_,c,s,l,_,_,h1,h2⟩ | ⟨_,h,_⟩
  ·rw [hq] at h;cases h
  ·exact ⟨b',c,s,l,h1,h2⟩
  ·exact absurd hq (h p)
 have he:execOp (ev renv) o=(do pure (.value (← Instr.next (ev renv x) false o.type))):=by unfold execOp;rw [ho]
 have hrun:(Instr.next (ev renv x) false o.type).run P w=.ok (.tuple #[.bool false]) w:=by
  rw [hv];exact uz hri hb _
 exact oC he hrun ⟨m,.t [.c (.b false)],H,Le.refl m,⟨[.bool false],rfl,rfl,trivial⟩,hS,Gh.refl m H,h3⟩
theorem tl (hC:qy P w0 call) (h:(wO P e o.op).go call env H K) (hS:St w0 m w H) (hr:OpsR m e env renv o.op.operands.toList):fE P renv o (Af w0 m H K) w:=by
 unfold wO at h
 split at h
 ·rename_i ho;exact yr ho h hS hr
 ·rename_i ho;exact xh ho hC h hS hr
 ·rename_i ho;exact vY ho h hS
 ·rename_i t x ho
  split at h
  ·rename_i hu
   rw [aP,cU] at h
   obtain ⟨v,h1,hv⟩:=bE h
   exact yv ho hu hv h1 hS hr
  ·exact h.elim
 ·rename_i ho
  rw [aP,cU] at h
  obtain ⟨v,h1,hv⟩:=bE h
  exact zX ho hv h1 hS hr
 ·exact h.elim
theorem Br (hC:qy P w0 call) (h:(opC P e o.op).go call env H K) (hS:St w0 m w H) (hr:OpsR m e env renv o.op.operands.toList):fE P renv o (Af w0 m H K) w:=by
 have pu:((zL P e o.op).bind λg=>⟨λ_ env H K=>g env λv=>K v H⟩:Bx (OpR e)).go call env H K→fE P renv o (Af w0 m H K) w:=λh=>by
  rw [aP,cU] at h
  obtain ⟨v,hk,hP⟩:=ud h
  exact zW hP hk hS hr
 unfold opC at h
 split at h
 ·split at h
  ·rename_i ho
   split at h
   ·exact vW ho h hS hr
   ·exact pu h
  ·exact pu h
 ·split at h
  ·rename_i ho
   rw [aP,cU] at h
   exact tF ho h hS hr
  ·exact h.elim
 ·rw [aP,cU] at h
  obtain ⟨b,f,hk,hF⟩:=tk h
  exact zV hF hk hS hr
 ·exact tl hC h hS hr
end
end Go.Mx
namespace Go.Mx
open Go.Eng
structure ER (m:Mp) (e:Nat) (env:Env e) (renv:List Value):Prop where
 len:renv.length=e
 slot:∀ t,SlR m e env renv t
def Bh {e:Nat} (w0:Bs) (m:Mp) (H:Hp) (K:Env e→Hp→Prop) (renv':List Value) (w':World):Prop:=
 ∃ m' env' H',Le m m'∧St w0 m' w' H'∧ER m' e env' renv'∧Gh m m' H H'∧K env' H'
section
variable {P:Program} {e:Nat} {env:Env e} {o:Oper} {w0:Bs} {m:Mp} {w:World} {H:Hp} {renv:List Value} {call:Cal}
theorem ER.ops (h:ER m e env renv) (os:List Operand):OpsR m e env renv os:=λx _ t _=>h.slot t
theorem ER.mono {m':Mp} (hm:Le m m') (h:ER m e env renv):ER m' e env renv:=⟨h.len,λt ht=>(h.slot t ht).mono hm⟩
theorem vZ {t:Nat} {v:V} {K:Env e→Prop} (h:(setE e t).go env v K):t<e∧K (lset (dpN e) env t v):=by
 unfold setE at h
 split at h
 ·rename_i hlt
  rw [qu] at h
  exact ⟨cB hlt,h⟩
 ·exact h.elim
theorem ER.set (he:e≤16384) (h:ER m e env renv) {t:Nat} {v:V} {rv:Value} (ht:t<e) (hv:VR m v rv):ER m e (lset (dpN e) env t v) (renv.set t rv):=by
 have hdp:=lj he
 refine ⟨by rw [List.length_set];exact h.len,λs hs=>?_⟩
 rw [dZ _ _ _ _ _ (by omega) (by omega),List.getD_eq_getElem?_getD,List.getElem?_set]
 by_cases hst:s=t
 ·subst hst
  rw [if_pos rfl,if_pos rfl,if_pos (by rw [h.len];exact hs)]
  exact hv
 ·rw [if_neg hst,if_neg (λe=>hst e.symm),←List.getD_eq_getElem?_getD]
  exact h.slot s hs
theorem CM {d:Option Tmp} {v:V} {K:Env e→Prop} (he:e≤16384) (h:(putC e d).go env v K):∃ env',K env'∧∀ m renv rv,ER m e env renv→VR m v rv→ER m e env' (put renv d rv):=by
 cases d with
 |none=>exact ⟨env,h,λm renv rv hE _=>hE⟩
 |some d=>
  obtain ⟨ht,hk⟩:=vZ (show (setE e d).go env v K from h)
  exact ⟨_,hk,λm renv rv hE hv=>hE.set he ht hv⟩
theorem Bh.of {K:Env e→Hp→Prop} {m':Mp} {H':Hp} {renv':List Value} {w':World} (hm:Le m m') (hG:Gh m m' H H') (h:Bh w0 m' H' K renv' w'):Bh w0 m H K renv' w':=by
 obtain ⟨m2,env2,H2,h1,h2,h3,h4,h5⟩:=h
 exact ⟨m2,env2,H2,hm.trans h1,h2,h3,hG.trans h4,h5⟩
theorem yw {want:Bool} {x:V} {run skip:Prop} (h:gdK want x run skip):(x=.c .un∧skip)∨∃ b,x=.c (.b b)∧((b=want∧run)∨(b≠want∧skip)):=by
 cases x with
 |c c=>cases c with
  |un=>exact .inl ⟨rfl,h⟩
  |b b=>refine .inr ⟨b,rfl,?_⟩;cases b<;>cases want<;>first | exact .inl ⟨rfl,h⟩ | exact .inr ⟨by simp,h⟩
  | _=>exact h.elim
 | _=>exact h.elim
theorem sD {t:Nat} {K:V→Prop} (h:(getE e t).go env K):t<e∧K (lget (dpN e) env t):=by
 unfold getE at h
 split at h
 ·rename_i hlt
  rw [nM] at h
  exact ⟨cB hlt,h⟩
 ·exact h.elim
theorem uR (he:e≤16384) (hC:qy P w0 call) {all:List Oper} {Q:Exit→Act→World→Prop} {K:Env e→Hp→Prop}:∀ (ops:List Oper) {env:Env e} {H:Hp} {renv:List Value} {w:World} {m:Mp},
  (opsC P e all ops).go call env H K→St w0 m w H→ER m e env renv→(∀ renv' w',Bh w0 m H K renv' w'→Q .normal (act renv') w')→wpListIn Fence.wide 0 P all.toArray Q ops (act renv) w
 | [],env,H,renv,w,m,h,hS,hE,hQ=>hQ _ _ ⟨m,env,H,Le.refl m,hS,hE,Gh.refl m H,h⟩
 |o::rest,env,H,renv,w,m,h,hS,hE,hQ=>by
  have h0:((opC P e o.op).bind λr=>(opsC P e all rest).bind λnx=>wP P e all o r nx).go call env H K:=h
  rw [aP,aP] at h0
  have nxt:∀ {m':Mp} {v:V} {rv:Value} {H':Hp} {w':World},Le m m'→VR m' v rv→St w0 m' w' H'→Gh m m' H H'→(putC e o.dst).go env v (λenv=>(opsC P e all rest).go call env H' K)→
    wpListIn Fence.wide 0 P all.toArray Q rest (act (put renv o.dst rv)) w':=by
   intro m' v rv H' w' hm hv hS' hG hp
   obtain ⟨env',hk,hE'⟩:=CM he hp
   exact uR he hC rest hk hS' (hE' _ _ _ (hE.mono hm) hv) λrenv' w' hB=>hQ _ _ (hB.of hm hG)
  have run:(opC P e o.op).go call env H (λv H=>(putC e o.dst).go env v λenv=>(opsC P e all rest).go call env H K)→o.wpIn Fence.wide 0 P (act renv) w (λa w=>wpListIn Fence.wide 0 P all.toArray Q rest a w) Q:=by
   intro hr
   refine nR (Br hC hr hS (hE.ops _)) λv w' hA=>?_
   obtain ⟨m',v',H',hm,hv,hS',hG,hk⟩:=hA
   exact nxt hm hv hS' hG hk
  have skip:(putC e o.dst).go env (.c .un) (λenv=>(opsC P e all rest).go call env H K)→wpListIn Fence.wide 0 P all.toArray Q rest (act (put renv o.dst undef)) w:=λhs=>nxt (Le.refl m) (show VR m (.c .un) undef from rfl) hS (Gh.refl m H) hs
  unfold wP at h0
  unfold wpListIn
  split at h0
  ·rename_i hg
   rw [aP,cU] at h0
   rw [if_pos (oE hg)]
   exact run h0
  ·rename_i j want hg
   split at h0
   ·rename_i d hd
    rw [aP,aP,cU] at h0
    obtain ⟨hde,h1⟩:=sD h0
    have hy:=lL (env:=renv) hd
    have hslot:=hE.slot d hde
    have hget:renv[d]?=some (renv.getD d undef):=by
     rw [List.getD_eq_getElem?_getD,List.getElem?_eq_getElem (by rw [hE.len];exact hde)]
     rfl
    rcases yw h1 with ⟨hx,h2⟩ | ⟨b,hx,⟨hb,h2⟩ | ⟨hb,h2⟩⟩
    ·rw [hx] at hslot
     have hv:renv.getD d undef=undef:=hslot
     rw [hv] at hget
     rw [if_neg (by simp [Region.wanted,hg,hy,hget,undef]),gT]
     exact ⟨λ_ _=>trivial,skip h2⟩
    ·rw [hx] at hslot
     have hv:renv.getD d undef=.bool b:=hslot
     rw [hv] at hget
     rw [if_pos (by simp [Region.wanted,hg,hy,hget,hb])]
     exact run h2
    ·rw [hx] at hslot
     have hv:renv.getD d undef=.bool b:=hslot
     rw [hv] at hget
     rw [if_neg (by simp [Region.wanted,hg,hy,hget,hb]),gT]
     exact ⟨λ_ _=>trivial,skip h2⟩
   ·exact h0.elim
end
def KQ {e:Nat} (w0:Bs) (m:Mp) (H:Hp) (K:KE e):Exit→List Value→World→Prop
 | .normal,renv,w=>Bh w0 m H (K .nrm) renv w
 | .exit i,renv,w=>Bh w0 m H (K (.exit i)) renv w
 | .ret,renv,w=>Bh w0 m H (K .ret) renv w
 | _,_,_=>False
def zd (P:Program):Prop:=∀ (e:Nat) (he:e≤16384) (Z:sv) (id:Nat) (ops:Array Oper) (w0:Bs) (call:Cal) (env:Env e) (H:Hp) (K:Env e→Hp→Prop) (renv:List Value) (w:World) (m:Mp) (Q:Exit→Act→World→Prop),
 y6 ops.toList (uL Z id ops.toList.length)=true→qy P w0 call→(Cv P e Z id ops.toList).go call env H K→St w0 m w H→ER m e env renv→(∀ renv' w',Bh w0 m H K renv' w'→Q .normal (act renv') w')→(Code.region id ops true).wp P Q (act renv) w
section
variable {P:Program} {e:Nat} {w0:Bs} {call:Cal}
theorem uS {c:Code} {renv:List Value} {Q Q':Exit→List Value→World→Prop} {w:World} (h:bW P c renv Q w) (hq:∀ x env w,Q x env w→Q' x env w):bW P c renv Q' w:=by
 refine wp_mono h λx a w' hq0=>?_
 obtain ⟨he,env',ha,hQ⟩:=gG hq0
 subst ha
 exact bP (hq _ _ _ hQ) he
theorem KQ.of {m m':Mp} {H H':Hp} {K:KE e} (hm:Le m m') (hG:Gh m m' H H'):∀ x renv w,KQ w0 m' H' K x renv w→KQ w0 m H K x renv w:=by
 intro x renv w h
 cases x with
 |normal=>exact Bh.of hm hG h
 |exit i=>exact Bh.of hm hG h
 |ret=>exact Bh.of hm hG h
 | _=>exact h.elim
theorem zY {c:Code} {env:List Value} {Q:Exit→List Value→World→Prop} {w:World}
  (I:Nat→List Value→World→Prop) (n₀:Nat) (h0:I n₀ env w)
  (hr:∀ n env w,I n env w→bW P c env (seqQ (λenv' w'=>∃ m,m<n∧I m env' w') Q) w):bW P (.loop c) env Q w:=by
 refine wm (λn a w=>∃ env,a=act env∧I n env w) n₀ ⟨env,rfl,h0⟩ ?_
 rintro n a w ⟨env,rfl,hI⟩
 refine wp_mono (hr n env w hI) λe a' w' hq0=>?_
 obtain ⟨he,env',ha,hq⟩:=gG hq0
 subst ha
 clear hq0
 cases e with
 |normal=>obtain ⟨m,hm,hI'⟩:=hq;exact ⟨m,hm,env',rfl,hI'⟩
 |panic c=>exact absurd rfl (he.1 c)
 |outgrown=>exact absurd rfl he.2
 |exit i=>exact bP hq he
 |goto i=>exact bP hq he
 |ret=>exact bP hq he
theorem iN (hD:zd P) (he:e≤16384) (hC:qy P w0 call) {Z:sv}:∀ (c:Code) (env:Env e) (H:Hp) (K:KE e) (renv:List Value) (w:World) (m:Mp),
  ml Z c=true→(qt P e Z c).go call env H K→St w0 m w H→ER m e env renv→bW P c renv (KQ w0 m H K) w
 | .skip,env,H,K,renv,w,m,hz,h,hS,hE=>wp_skip (bP (show KQ w0 m H K .normal renv w from ⟨m,env,H,Le.refl m,hS,hE,Gh.refl m H,h⟩) ⟨λ_=>by simp,by simp⟩)
 | .region id ops draw,env,H,K,renv,w,m,hz,h,hS,hE=>by
  have hQ:∀ renv' w',Bh w0 m H (K .nrm) renv' w'→wk (KQ w0 m H K) .normal (act renv') w':=λrenv' w' hB=>bP (show KQ w0 m H K .normal renv' w' from hB) ⟨λ_=>by simp,by simp⟩
  cases draw with
  |true=>
   have h0:((Cv P e Z id ops.toList).bind λr=>⟨λcall env H K=>r call env H (K .nrm)⟩:Bx (CoR e)).go call env H K:=h
   rw [aP,cU] at h0
   exact hD e he Z id ops w0 call env H (K .nrm) renv w m _ hz hC h0 hS hE hQ
  |false=>
   have h0:((opsC P e ops.toList ops.toList).bind λr=>⟨λcall env H K=>r call env H (K .nrm)⟩:Bx (CoR e)).go call env H K:=h
   rw [aP,cU] at h0
   exact wpIn_wide.1 (wpIn_region_list (n:=0) (uR he hC (all:=ops.toList) ops.toList h0 hS hE hQ))
 | .seq a b,env,H,K,renv,w,m,hz,h,hS,hE=>by
  have h0:((qt P e Z a).bind λa=>(qt P e Z b).bind λb=>⟨λcall env H K=>a call env H (kSeq (λenv H=>b call env H K) K)⟩:Bx (CoR e)).go call env H K:=h
  rw [aP,aP,cU] at h0
  have hz:(ml Z a && ml Z b)=true:=hz
  simp only [Bool.and_eq_true] at hz
  have h1:=iN hD he hC a env H _ renv w m hz.1 h0 hS hE
  refine wp_seq (wp_mono h1 λx a' w' hq0=>?_)
  obtain ⟨hx,env',ha,hq⟩:=gG hq0
  subst ha
  clear hq0
  cases x with
  |normal=>
   obtain ⟨m',env2,H',hm,hS',hE',hG,hk⟩:=hq
   exact uS (iN hD he hC b env2 H' K env' w' m' hz.2 hk hS' hE') (KQ.of hm hG)
  |panic c=>exact absurd rfl (hx.1 c)
  |outgrown=>exact absurd rfl hx.2
  |exit i=>exact bP (show KQ w0 m H K (.exit i) env' w' from hq) hx
  |goto i=>exact hq.elim
  |ret=>exact bP (show KQ w0 m H K .ret env' w' from hq) hx
 | .cond o a b,env,H,K,renv,w,m,hz,h,hS,hE=>by
  have h0:((evC e o).bind λg=>(qt P e Z a).bind λa=>(qt P e Z b).bind λb=>⟨λcall env H K=>g env λx=>onB x (a call env H K) (b call env H K)⟩:Bx (CoR e)).go call env H K:=h
  rw [aP,aP,aP,cU] at h0
  have hz:(ml Z a && ml Z b)=true:=hz
  simp only [Bool.and_eq_true] at hz
  obtain ⟨v,h1,hv⟩:=bE h0
  obtain ⟨t,rfl,h2⟩:=vM h1
  have hev:ev renv o=.bool t:=hv m renv λt _=>hE.slot t
  refine wp_cond (t:=t) (by rw [qB];exact hev) ?_
  rcases h2 with ⟨rfl,h3⟩ | ⟨rfl,h3⟩
  ·exact iN hD he hC a env H K renv w m hz.1 h3 hS hE
  ·exact iN hD he hC b env H K renv w m hz.2 h3 hS hE
 | .block id c,env,H,K,renv,w,m,hz,h,hS,hE=>by
  have h0:((qt P e Z c).bind λc=>⟨λcall env H K=>c call env H (Do id K)⟩:Bx (CoR e)).go call env H K:=h
  rw [aP,cU] at h0
  have h1:=iN hD he hC c env H _ renv w m hz h0 hS hE
  refine wp_block (wp_mono h1 λx a' w' hq0=>?_)
  obtain ⟨hx,env',ha,hq⟩:=gG hq0
  subst ha
  clear hq0
  cases x with
  |exit i=>
   simp only [Exit.inBlock]
   have hq':Bh w0 m H (λenv H=>@Bool.rec (λ_=>Prop) (K (.exit i) env H) (K .nrm env H) (Nat.beq i id)) env' w':=hq
   cases hb:Nat.beq i id with
   |true=>
    rw [hb] at hq'
    rw [if_pos (Nat.eq_of_beq_eq_true hb)]
    exact bP (show KQ w0 m H K .normal env' w' from hq') ⟨λ_=>by simp,by simp⟩
   |false=>
    rw [hb] at hq'
    rw [if_neg (Nat.ne_of_beq_eq_false hb)]
    exact bP (show KQ w0 m H K (.exit i) env' w' from hq') hx
  |panic c=>exact absurd rfl (hx.1 c)
  |outgrown=>exact absurd rfl hx.2
  |normal=>exact bP (show KQ w0 m H K .normal env' w' from hq) hx
  |goto i=>exact hq.elim
  |ret=>exact bP (show KQ w0 m H K .ret env' w' from hq) hx
 | .loop c,env,H,K,renv,w,m,hz,h,hS,hE=>by
  have h0:((qt P e Z c).bind λc=>⟨λcall env H K=>Cw 1000000 (c call) K env H⟩:Bx (CoR e)).go call env H K:=h
  rw [aP,cU] at h0
  generalize hn:(1000000:Nat)=n₀ at h0
  refine zY (λn renv w=>Bh w0 m H (Cw n ((qt P e Z c).go call) K) renv w) n₀ ⟨m,env,H,Le.refl m,hS,hE,Gh.refl m H,h0⟩ λn renv w hB=>?_
  obtain ⟨m',env',H',hm,hS',hE',hG,hk⟩:=hB
  cases n with
  |zero=>exact hk.elim
  |succ n=>
   have hk':(qt P e Z c).go call env' H' (kSeq (Cw n ((qt P e Z c).go call) K) K):=hk
   refine uS (iN hD he hC c env' H' _ renv w m' hz hk' hS' hE') λx renv w hq=>?_
   cases x with
   |normal=>exact ⟨n,Nat.lt_succ_self n,Bh.of hm hG hq⟩
   |exit i=>exact (show KQ w0 m H K (.exit i) renv w from Bh.of hm hG hq)
   |ret=>exact (show KQ w0 m H K .ret renv w from Bh.of hm hG hq)
   | _=>exact hq.elim
 | .exit i,env,H,K,renv,w,m,hz,h,hS,hE=>wp_exit (bP (show KQ w0 m H K (.exit i) renv w from ⟨m,env,H,Le.refl m,hS,hE,Gh.refl m H,h⟩) ⟨λ_=>by simp,by simp⟩)
 | .ret,env,H,K,renv,w,m,hz,h,hS,hE=>wp_ret (bP (show KQ w0 m H K .ret renv w from ⟨m,env,H,Le.refl m,hS,hE,Gh.refl m H,h⟩) ⟨λ_=>by simp,by simp⟩)
 | .rangeFunc ..,_,_,_,_,_,_,_,h,_,_=>h.elim
 | .scope _,_,_,_,_,_,_,_,h,_,_=>h.elim
 | .label _,_,_,_,_,_,_,_,h,_,_=>h.elim
 | .goto _,_,_,_,_,_,_,_,h,_,_=>h.elim
 | .refuse _,_,_,_,_,_,_,_,h,_,_=>h.elim
end
end Go.Mx
namespace Go.Mx
open Go.Eng
section
variable {P:Program} {e:Nat} {w0:Bs} {call:Cal}
theorem ER.env0 (m:Mp) (e:Nat):ER m e (env0 e) (List.replicate e undef):=by
 refine ⟨List.length_replicate,λt ht=>?_⟩
 have h1:lget (dpN e) (Mx.env0 e) t=.c .un:=tC _ _ _
 have h2:(List.replicate e undef).getD t undef=undef:=by
  rw [List.getD_eq_getElem?_getD,List.getElem?_replicate]
  split<;>rfl
 rw [h1,h2]
 exact rfl
theorem ze (he:e≤16384) {m:Mp}:∀ {args:List V} {vals pre:List Value} {t:Env e} {K:Env e→Prop},envK e args pre.length t K→All2 (VR m) args vals→pre.length+vals.length≤e→
  ER m e t (pre++List.replicate (e - pre.length) undef)→∃ t',K t'∧ER m e t' (pre++vals++List.replicate (e - (pre.length+vals.length)) undef)
 | [],[],pre,t,K,h,_,_,hE=>⟨t,h,by simpa using hE⟩
 |a::args,v::vals,pre,t,K,h,⟨h1,h2⟩,hl,hE=>by
  have h0:(setE e pre.length).go t a λt=>envK e args (Nat.succ pre.length) t K:=h
  obtain ⟨hlt,h3⟩:=vZ h0
  have hE':=hE.set he hlt h1
  have e1:(pre++List.replicate (e - pre.length) undef).set pre.length v=(pre++[v])++List.replicate (e - (pre++[v]).length) undef:=by
   obtain ⟨k,hk⟩:∃ k,e - pre.length=k+1:=⟨e - pre.length - 1,by omega⟩
   have hk':e - (pre++[v]).length=k:=by simp;omega
   rw [hk,hk',List.replicate_succ,List.set_append,if_neg (Nat.lt_irrefl _),Nat.sub_self,List.set_cons_zero,List.append_assoc]
   rfl
  rw [e1] at hE'
  have h4:envK e args (pre++[v]).length (lset (dpN e) t pre.length a) K:=by
   rw [List.length_append]
   exact h3
  simp only [List.length_cons] at hl
  obtain ⟨t',hk,hE2⟩:=ze he h4 h2 (by simp;omega) hE'
  refine ⟨t',hk,?_⟩
  have e2:pre++[v]++vals=pre++v::vals:=by simp
  have e3:(pre++[v]).length+vals.length=pre.length+(v::vals).length:=by simp;omega
  rw [e2,e3] at hE2
  exact hE2
theorem yx {t:TypeId} {x v:Value} {w w':World} (h:(Instr.loadAt t x).run P w=.ok v w'):(do loadVar t (← asAddr x):Sem Value).run P w=.ok v w':=by
 unfold Instr.loadAt at h
 cases x with
 |pointer a=>cases a with
  |some a=>exact h
  |none=>cases h
 | _=>cases h
theorem sZ {env:Env e} {H:Hp}:∀ {rs:List ResultVar} {K:List V→Prop},(resC P e rs).go env H K→∃ vs,K vs∧∀ m B w renv,HR m B w H→ER m e env renv→
  ∃ rvs,(rs.mapM fun | .tmp t=>pure (renv.toArray.getD t undef) | .cell a t=>do loadVar t (← asAddr (renv.toArray.getD a undef)):Sem (List Value)).run P w=.ok rvs w∧All2 (VR m) vs rvs
 | [],K,h=>⟨[],h,λm B w renv _ _=>⟨[],rfl,trivial⟩⟩
 | .tmp t::rs,K,h=>by
  have h0:((getE e t).bind λg=>(resC P e rs).bind λh=>⟨λenv H K=>g env λv=>h env H λvs=>K (v::vs)⟩:Bx (Env e→Hp→(List V→Prop)→Prop)).go env H K:=h
  rw [aP,aP,cU] at h0
  obtain ⟨ht,h1⟩:=sD h0
  obtain ⟨vs,hk,hr⟩:=sZ h1
  refine ⟨_,hk,λm B w renv hH hE=>?_⟩
  obtain ⟨rvs,hrun,hrel⟩:=hr m B w renv hH hE
  refine ⟨renv.getD t undef::rvs,?_,hE.slot t ht,hrel⟩
  rw [List.mapM_cons]
  simp only [pure_bind,Sem.run_bind,hrun,Result.andThen_ok,Sem.run_pure]
  simp [List.getD_eq_getElem?_getD]
 | .cell a t::rs,K,h=>by
  have h0:((ss P e t (.tmp a)).bind λl=>(resC P e rs).bind λh=>⟨λenv H K=>l env H λv=>h env H λvs=>K (v::vs)⟩:Bx (Env e→Hp→(List V→Prop)→Prop)).go env H K:=h
  rw [aP,aP,cU] at h0
  obtain ⟨v,h1,hl⟩:=ue h0
  obtain ⟨vs,hk,hr⟩:=sZ h1
  refine ⟨_,hk,λm B w renv hH hE=>?_⟩
  obtain ⟨rvs,hrun,hrel⟩:=hr m B w renv hH hE
  obtain ⟨rv,hld,hv⟩:=hl m B w renv hH λy _=>hE.slot y
  refine ⟨rv::rvs,?_,hv,hrel⟩
  have hld':=yx hld
  rw [List.mapM_cons]
  have e1:renv.toArray.getD a undef=ev renv (.tmp a):=by simp [ev,List.getD_eq_getElem?_getD]
  simp only [e1] at hrun ⊢
  rw [Sem.run_bind,hld']
  simp only [Result.andThen_ok,Sem.run_bind,hrun,Sem.run_pure]
theorem zZ {fn:Func} {renv:List Value} {w:World} {rvs:List Value} (hr:(fn.results.toList.mapM fun | .tmp t=>pure (renv.toArray.getD t undef) | .cell a t=>do loadVar t (← asAddr (renv.toArray.getD a undef)):Sem (List Value)).run P w=.ok rvs w) :
  (results fn renv.toArray).run P w=.ok (retV rvs) w:=by
 unfold results
 rw [Array.mapM_eq_mapM_toList]
 simp only [Sem.run_bind,Sem.run_map,Sem.run_pure]
 refine Eq.trans (congrArg (λr:Result (List Value)=>(r.andThen λa w'=>Result.ok a.toArray w').andThen λa w'=>Result.ok (if h:a.size=1 then a[0] else Value.tuple a) w') hr) ?_
 simp only [Result.andThen_ok]
 congr 1
 match rvs with
 | []=>rfl
 | [v]=>rfl
 |v::u::r=>simp [retV]
theorem yy {m:Mp}:∀ {vs:List V} {rvs:List Value},noT vs=true→All2 (VR m) vs rvs→All2 (VR0 m) vs rvs
 | [],[],_,_=>trivial
 |v::vs,r::rvs,hn,⟨a,b⟩=>by
  unfold noT at hn
  cases v with
  |t l=>cases hn
  |c c=>exact ⟨a,yy hn b⟩
  |a dp d o n=>exact ⟨a,yy hn b⟩
theorem CN {m:Mp} {vs:List V} {rvs:List Value} {H:Hp} {K:KV} (h:retK vs H K) (hr:All2 (VR m) vs rvs):∃ v,VR m v (retV rvs)∧K v H:=by
 unfold retK at h
 split at h
 ·rename_i v
  match rvs,hr with
  | [r],hr=>exact ⟨v,hr.1,h⟩
 ·rename_i hne
  obtain ⟨hn,hk⟩:=cL h
  refine ⟨.t vs,⟨rvs,?_,yy hn hr⟩,hk⟩
  match vs,rvs,hr,hne with
  | [],[],_,_=>rfl
  | [v],[r],_,hne=>exact absurd rfl (hne v)
  | _::_::_,_::_::_,_,_=>rfl
def xi (P:Program) (w0:Bs) (f:FuncId) (g:List V→Hp→KV→Prop):Prop:=
 ∀ (args:List V) (vals:List Value) (m:Mp) (w:World) (H:Hp) (K:KV),g args H K→St w0 m w H→All2 (VR m) args vals→Calls P f vals.toArray w λe w'=>∃ v,e=.returned v∧Af w0 m H K v w'
theorem All2.length {α β:Type} {R:α→β→Prop}:∀ {xs:List α} {ys:List β},All2 R xs ys→xs.length=ys.length
 | [],[],_=>rfl
 | _::_,_::_,⟨_,h⟩=>by simp [All2.length h]
theorem Bt (hD:zd P) {S:Sm} {Z:FuncId→sv} (hS:∀ f g,S f=some g→xi P w0 f g) (hZ:∀ f fn c,S f=none→P.funcs[f]?=some fn→fn.body=some c→ml (Z f) c=true) (hC:qy P w0 call) (f:FuncId):xi P w0 f ((fnC P S Z f).go call):=by
 intro args vals m w H K h hSt hargs
 unfold fnC at h
 split at h
 ·rename_i g hg
  exact hS f g hg args vals m w H K h hSt hargs
 ·rename_i hg
  split at h
  rotate_left
  ·exact h.elim
  rename_i fn hf
  split at h
  rotate_left
  ·exact h.elim
  rename_i c hc
  rw [iJ] at h
  split at h
  ·exact h.elim
  ·rename_i hle
   have he:fn.ntmps≤16384:=cB hle
   rw [aP,aP,cU] at h
   obtain ⟨hlen,h1⟩:=cL h
   have hlen:args.length≤fn.ntmps:=cB hlen
   have hll:=hargs.length
   obtain ⟨t,h2,hE⟩:=ze (m:=m) (vals:=vals) (pre:=[]) he h1 hargs (by simp;omega) (by simpa using ER.env0 m fn.ntmps)
   have hE:ER m fn.ntmps t (vals++List.replicate (fn.ntmps - vals.length) undef):=by simpa using hE
   refine calls_of_wp hf hc ?_
   have h3:=iN hD he hC c t H _ _ w m (hZ f fn c hg hf hc) h2 hSt hE
   have h4:act (vals++List.replicate (fn.ntmps - vals.length) undef)={ tmps:=vals.toArray++Array.replicate (fn.ntmps - vals.toArray.size) undef,defers:=[] }:=by
    unfold act
    congr 1
    simp
   unfold bW at h3
   rw [h4] at h3
   have fin:∀ {renv:List Value} {w':World},Bh w0 m H (λenv H=>(resC P fn.ntmps fn.results.toList).go env H λvs=>retK vs H K) renv w'→∃ v,(results fn renv.toArray).run P w'=.ok v w'∧Af w0 m H K v w':=by
    intro renv w' hB
    obtain ⟨m',env',H',hm,hS',hE',hG,hk⟩:=hB
    obtain ⟨vs,hk1,hr⟩:=sZ hk
    obtain ⟨rvs,hrun,hrel⟩:=hr m' w0 w' renv hS'.hr hE'
    obtain ⟨v,hv,hk2⟩:=CN hk1 hrel
    exact ⟨_,zZ hrun,m',v,H',hm,hv,hS',hG,hk2⟩
   refine wp_mono h3 λx a w' hq0=>?_
   obtain ⟨hx,env',ha,hq⟩:=gG hq0
   subst ha
   clear hq0
   cases x with
   |normal=>obtain ⟨v,hv,hA⟩:=fin hq;exact ⟨rfl,v,hv,v,rfl,hA⟩
   |ret=>obtain ⟨v,hv,hA⟩:=fin hq;exact ⟨rfl,v,hv,v,rfl,hA⟩
   |panic c=>exact absurd rfl (hx.1 c)
   |outgrown=>exact absurd rfl hx.2
   |exit i=>obtain ⟨_,_,_,_,_,_,_,hk⟩:=hq;exact hk.elim
   |goto i=>exact hq.elim
theorem ui (hD:zd P) {S:Sm} {Z:FuncId→sv} (hS:∀ f g,S f=some g→xi P w0 f g) (hZ:∀ f fn c,S f=none→P.funcs[f]?=some fn→fn.body=some c→ml (Z f) c=true):∀ fuel,qy P w0 (D9 P S Z fuel)
 | 0=>λ_ _ _ _ _ _ _ h _ _=>h.elim
 |n+1=>λf args vals m w H K h hSt ha=>Bt hD hS hZ (ui hD hS hZ n) f args vals m w H K h hSt ha
theorem St.first (w:World):St ⟨w,λ_=>False⟩ (λ_=>none) w hp0:=by
 refine ⟨⟨Nat.le_refl _,by show (0:Nat)≤16384;omega,λ_ _=>rfl,λo _ _=>tC _ _ _,?_,?_,?_⟩,Keep.refl _ _⟩
 ·intro o b N h;cases h
 ·intro o wr n dp d b N _ h;cases h
 ·intro o o' wr n dp d wr' n' dp' d' b N N' _ _ h;cases h
end
end Go.Mx
