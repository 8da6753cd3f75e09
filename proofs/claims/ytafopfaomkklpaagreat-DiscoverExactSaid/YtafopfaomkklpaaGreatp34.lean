/- A part of the proof. -/
import Derived.Test.YtafopfaomkklpaaGreatp33
set_option linter.unusedVariables false
namespace Go.Mx
noncomputable section
def has (m i:Nat):Bool:=Nat.beq (Nat.land (Nat.shiftRight m i) 1) 1
def add (m i:Nat):Nat:=Nat.lor m (Nat.shiftLeft 1 i)
def inL:List Nat→Nat→Bool
 | [],_=>false
 |x::l,i=>Nat.beq x i || inL l i
def HM (o:Oper):List Nat:=(o.after.toList.filter (Region.binds .any)).map (·.on)
def kI (all:List Oper) (i:Nat):List Nat:=match all[i]? with | some o=>HM o | none=>[]
def tg (all:List Oper) (i:Nat):Nat:=match all[i]? with | some o=>rV o.op | none=>3
def rdyI (all:List Oper) (E:Nat) (i:Nat):Bool:=!(has E i) && (kI all i).all (has E)
def rW:List (Nat×Nat)→Nat→Nat
 | [],_=>0
 |p::A,i=>@Bool.rec (λ_=>Nat) (rW A i) p.2 (Nat.beq p.1 i)
def yV (A:List (Nat×Nat)):List Nat→Nat
 | []=>0
 |j::l=>Nat.lor (Nat.lor (Nat.shiftLeft 1 j) (rW A j)) (yV A l)
def fNat {γ:Type} (n:Nat) (K:Nat→γ):γ:=@Nat.rec (λ_=>γ) (K 0) (λm _=>K (Nat.succ m)) n
def ancs (all:List Oper):List Nat→List (Nat×Nat)→List (Nat×Nat)
 | [],A=>A
 |i::l,A=>fNat (yV A (kI all i)) λm=>ancs all l ((i,m)::A)
def tmpO:Operand→List Tmp
 | .tmp t=>[t]
 | _=>[]
def Dk (all:List Oper) (o:Oper):List Tmp:=(o.op.operands.toList.flatMap tmpO)++(match o.guard with | some (j,_)=>(match Eng.dstOf all j with | some d=>[d] | none=>[]) | none=>[])
def rX (all:List Oper) (i:Nat):List Tmp:=match all[i]? with | some o=>Dk all o | none=>[]
structure Step where
 i:Nat
 o:Oper
 chk:List Nat
abbrev Plan:=List (Nat×List Nat)
def Io (n:Nat):Plan:=(List.range n).map λi=>(i,[])
def qu (all:List Oper) (p:Plan):List Step:=p.filterMap λx=>match all[x.1]? with
 |some o=>some ⟨x.1,o,x.2⟩
 |none=>none
def okGo (all:List Oper) (A:List (Nat×Nat)):Plan→Nat→Bool
 | [],E=>(List.range all.length).all (has E)
 | (i,ch)::p,E=>rdyI all E i && (Nat.blt i all.length && ((!(Nat.beq (tg all i) 3) || (List.range all.length).all (λj=>has E j && (!(Nat.beq (tg all j) 1) || has (rW A i) j || inL ch j) || Nat.beq j i || has (rW A j) i)) && fNat (add E i) λE=>okGo all A p E))
def Gx (all:List Oper) (A:List (Nat×Nat)):Bool:=
 (List.range all.length).all λj=>match Eng.dstOf all j with
  |some t=>(List.range all.length).all λi=>Nat.beq i j || !(inL (rX all i) t || (match Eng.dstOf all i with | some s=>Nat.beq s t | none=>false)) || has (rW A i) j || has (rW A j) i
  |none=>true
def HN (all:List Oper) (A:List (Nat×Nat)) (l:Nat) (o:Oper):Bool:=
 match o.guard with
 |none=>true
 |some (j,_)=>match Eng.dstOf all j with
  |some g=>(List.range all.length).all λi=>match Eng.dstOf all i with
   |some t=>!(Nat.beq t g) || has (rW A l) i
   |none=>true
  |none=>false
def okLd (all:List Oper) (A:List (Nat×Nat)) (l:Nat):Bool:=
 match all[l]? with
  |some o=>HN all A l o && (match o.op,o.dst with
   | .load _ (.tmp a),some d=>!(Nat.beq a d) && (List.range all.length).all (λj=>match Eng.dstOf all j with
    |some t=>(!(Nat.beq t a) || has (rW A l) j) && (!(Nat.beq t d) || Nat.beq j l)
    |none=>true)
   | _,_=>false)
  |none=>false
def okGd (all:List Oper) (A:List (Nat×Nat)):Bool:=
 (List.range all.length).all λi=>match all[i]? with
  |some o=>(match o.guard with
   |some (j,_)=>has (rW A i) j && (Eng.dstOf all j).isSome
   |none=>true)
  |none=>true
def Be (all:List Oper) (p:Plan):Bool:=
 okGo all (ancs all (p.map (·.1)) []) p 0 && (Gx all (ancs all (p.map (·.1)) []) && (p.all (λx=>x.2.all (okLd all (ancs all (p.map (·.1)) []))) && okGd all (ancs all (p.map (·.1)) [])))
def BY (x y:C) (K:Prop):Prop:=
 match x,y with
 | .b a,.b b=>@Bool.rec (λ_=>Prop) (@Bool.rec (λ_=>Prop) K False b) (@Bool.rec (λ_=>Prop) False K b) a
 | .i k a,.i j b=>iff (Nat.beq k j) (iff (eqI a b) K False) False
 | .np,.np=>K
 | .p o q,.p o' q'=>iff (Nat.beq o o') (iff (Nat.beq q q') K False) False
 | .ns,.ns=>K
 | .s o q l z none,.s o' q' l' z' none=>iff (Nat.beq o o') (iff (Nat.beq q q') (iff (Nat.beq l l') (iff (Nat.beq z z') K False) False) False) False
 | .s o q l z (some c),.s o' q' l' z' (some c')=>iff (Nat.beq o o') (iff (Nat.beq q q') (iff (Nat.beq l l') (iff (Nat.beq z z') (iff (Nat.beq c c') K False) False) False) False) False
 | _,_=>False
def Dm:List C→List C→Prop→Prop
 | [],[],K=>K
 |x::xs,y::ys,K=>BY x y (Dm xs ys K)
 | _,_,_=>False
def BZ (x y:V) (K:Prop):Prop:=
 @V.rec (λ_=>Prop) (λ_=>PUnit) (λc=>onC y λc'=>BY c c' K) (λdp d o n=>onA y λdp' d' o' n'=>iff (Nat.beq n n') (iff (Nat.ble (Nat.add o n) (Nat.pow 4 dp)) (rT dp d n o λl=>rT dp' d' n' o' λl'=>Dm l l' K) False) False) fT ⟨⟩ fL x
def chkC (P:Program) (e:Nat) (all:List Oper) (l:List Nat):Bx (Env e→Hp→Prop→Prop):=
 @List.rec Nat (λ_=>Bx (Env e→Hp→Prop→Prop)) ⟨λ_ _ K=>K⟩ (λi _ ih=>match all[i]? with
  |some o=>(match o.op,o.dst with
  | .load t x,some d=>(match o.guard with
   |none=>(t7 P e t x).bind λg=>(getE e d).bind λh=>ih.bind λnx=>⟨λenv H K=>g env H λv=>h env λu=>BZ u v (nx env H K)⟩
   |some (j,want)=>(match Eng.dstOf all j with
    |some gd=>(getE e gd).bind λgg=>(t7 P e t x).bind λg=>(getE e d).bind λh=>ih.bind λnx=>⟨λenv H K=>gg env λb=>gdK want b (g env H λv=>h env λu=>BZ u v (nx env H K)) (nx env H K)⟩
    |none=>⟨λ_ _ _=>False⟩))
  | _,_=>⟨λ_ _ _=>False⟩)
  |none=>⟨λ_ _ _=>False⟩) l
def opD (P:Program) (e:Nat) (op:Op):Bx (OpR e):=
 match rV op with
 | 0=>(BX P e op).bind λg=>⟨λ_ env H K=>g env λv=>K v H⟩
 | 1=>match op with
  | .load t x=>(t7 P e t x).bind λg=>⟨λ_ env H K=>g env H λv=>K v H⟩
  | _=>noOp e
 | 2=>(Bd P e op).bind λg=>⟨λ_ env H K=>g env λb f=>newK H b λo H=>K (f o) H⟩
 | _=>yT P e op
def chkN (P:Program) (e:Nat) (all:List Oper) (l:List Nat) (nx:CdR e):Bx (CdR e):=match l with
 | []=>⟨nx⟩
 |l=>(chkC P e all l).bind λc=>⟨λcall env H K=>c env H (nx call env H K)⟩
def oF (P:Program) (e:Nat) (all:List Oper) (l:List Step):Bx (CdR e):=
 @List.rec Step (λ_=>Bx (CdR e)) ⟨λ_ env H K=>K env H⟩ (λs _ ih=>(opD P e s.o.op).bind λr=>ih.bind λnx=>(chkN P e all s.chk nx).bind λnx=>yU P e all s.o r nx) l
abbrev t8:=Nat→Option Plan
def wZ (Z:t8) (id n:Nat):Plan:=match Z id with
 |some p=>p
 |none=>Io n
def EF (P:Program) (e:Nat) (Z:t8) (id:Nat) (all:List Oper):Bx (CdR e):=oF P e all (qu all (wZ Z id all.length))
inductive Ex where
 |nrm | exit (k:Nat) | ret
abbrev KE (e:Nat):=Ex→Env e→Hp→Prop
abbrev CoR (e:Nat):=Cal→Env e→Hp→KE e→Prop
def noCo (e:Nat):Bx (CoR e):=⟨λ_ _ _ _=>False⟩
def kSeq {e:Nat} (b:Env e→Hp→Prop) (K:KE e) (x:Ex) (env:Env e) (H:Hp):Prop:=@Ex.rec (λ_=>Prop) (b env H) (λk=>K (.exit k) env H) (K .ret env H) x
def FD {e:Nat} (id:Nat) (K:KE e) (x:Ex) (env:Env e) (H:Hp):Prop:=@Ex.rec (λ_=>Prop) (K .nrm env H) (λk=>@Bool.rec (λ_=>Prop) (K (.exit k) env H) (K .nrm env H) (Nat.beq k id)) (K .ret env H) x
def EG {e:Nat} (f:Nat) (body:Env e→Hp→KE e→Prop) (K:KE e):Env e→Hp→Prop:=
 @Nat.rec (λ_=>Env e→Hp→Prop) (λ_ _=>False) (λ_ ih env H=>body env H (kSeq ih K)) f
def rY (P:Program) (e:Nat) (Z:t8):Code→Bx (CoR e)
 | .skip=>⟨λ_ env H K=>K .nrm env H⟩
 | .region id ops draw=>match draw with
  |true=>(EF P e Z id ops.toList).bind λr=>⟨λcall env H K=>r call env H (K .nrm)⟩
  |false=>(opsC P e ops.toList ops.toList).bind λr=>⟨λcall env H K=>r call env H (K .nrm)⟩
 | .seq a b=>(rY P e Z a).bind λa=>(rY P e Z b).bind λb=>⟨λcall env H K=>a call env H (kSeq (λenv H=>b call env H K) K)⟩
 | .cond o a b=>(evC e o).bind λg=>(rY P e Z a).bind λa=>(rY P e Z b).bind λb=>⟨λcall env H K=>g env λx=>onB x (a call env H K) (b call env H K)⟩
 | .block id c=>(rY P e Z c).bind λc=>⟨λcall env H K=>c call env H (FD id K)⟩
 | .loop c=>(rY P e Z c).bind λc=>⟨λcall env H K=>EG 1000000 (c call) K env H⟩
 | .exit id=>⟨λ_ env H K=>K (.exit id) env H⟩
 | .ret=>⟨λ_ env H K=>K .ret env H⟩
 | _=>noCo e
def ny (Z:t8):Code→Bool
 | .region id ops draw=>match draw with
  |true=>Be ops.toList (wZ Z id ops.toList.length)
  |false=>true
 | .seq a b=>ny Z a && ny Z b
 | .cond _ a b=>ny Z a && ny Z b
 | .block _ c=>ny Z c
 | .loop c=>ny Z c
 | _=>true
def resC (P:Program) (e:Nat) (rs:List ResultVar):Bx (Env e→Hp→(List V→Prop)→Prop):=
 @List.rec ResultVar (λ_=>Bx (Env e→Hp→(List V→Prop)→Prop)) ⟨λ_ _ K=>K []⟩
  (λr _ ih=>match r with
   | .tmp t=>(getE e t).bind λg=>ih.bind λh=>⟨λenv H K=>g env λv=>h env H λvs=>K (v::vs)⟩
   | .cell a t=>(t7 P e t (.tmp a)).bind λl=>ih.bind λh=>⟨λenv H K=>l env H λv=>h env H λvs=>K (v::vs)⟩) rs
def envK (e:Nat) (args:List V):Nat→Env e→(Env e→Prop)→Prop:=
 @List.rec V (λ_=>Nat→Env e→(Env e→Prop)→Prop) (λ_ t K=>K t) (λv _ ih i t K=>(setE e i).go t v λt=>ih (Nat.succ i) t K) args
def noT:List V→Bool
 | []=>true
 |v::vs=>match v with
  | .t _=>false
  | _=>noT vs
def retK (vs:List V) (H:Hp) (K:KV):Prop:=match vs with
 | [v]=>K v H
 |vs=>iff (noT vs) (K (.t vs) H) False
abbrev Sm:=FuncId→Option (List V→Hp→KV→Prop)
abbrev FnR:=Cal→List V→Hp→KV→Prop
def env0 (e:Nat):Env e:=uni (.c .un) (dpN e)
def fnC (P:Program) (S:Sm) (Z:FuncId→t8) (f:FuncId):Bx FnR:=
 match S f with
 |some g=>⟨λ_ args H K=>g args H K⟩
 |none=>match P.funcs[f]? with
  |some fn=>match fn.body with
   |some c=>fNB fn.ntmps λe=>match Nat.ble e 16384 with
    |false=>⟨λ_ _ _ _=>False⟩
    |true=>(rY P e (Z f) c).bind λc=>(resC P e fn.results.toList).bind λr=>⟨λcall args H K=>iff (Nat.ble args.length e) (envK e args 0 (env0 e) λenv=>c call env H λx env H=>@Ex.rec (λ_=>Prop) (r env H λvs=>retK vs H K) (λ_=>False) (r env H λvs=>retK vs H K) x) False⟩
   |none=>⟨λ_ _ _ _=>False⟩
  |none=>⟨λ_ _ _ _=>False⟩
def Gy (P:Program) (S:Sm) (Z:FuncId→t8) (fuel:Nat):Cal:=
 @Nat.rec (λ_=>Cal) (λ_ _ _ _=>False) (λ_ ih f args H K=>(fnC P S Z f).go ih args H K) fuel
def hp0:Hp:=⟨0,uni .dead 7⟩
end
end Go.Mx
