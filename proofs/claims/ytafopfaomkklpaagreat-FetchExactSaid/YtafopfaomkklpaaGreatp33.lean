/- A part of the proof. -/
import Derived.Test.YtafopfaomkklpaaGreatp32
set_option linter.unusedVariables false
namespace Go.Mx
noncomputable section
def has (m i:Nat):Bool:=Nat.beq (Nat.land (Nat.shiftRight m i) 1) 1
def add (m i:Nat):Nat:=Nat.lor m (Nat.shiftLeft 1 i)
def inL:List Nat→Nat→Bool
 | [],_=>false
 |x::l,i=>Nat.beq x i || inL l i
def E1 (o:Oper):List Nat:=(o.after.toList.filter (Region.binds .any)).map (·.on)
def jG (all:List Oper) (i:Nat):List Nat:=match all[i]? with | some o=>E1 o | none=>[]
def rE (all:List Oper) (i:Nat):Nat:=match all[i]? with | some o=>qp o.op | none=>3
def rdyI (all:List Oper) (E:Nat) (i:Nat):Bool:=!(has E i) && (jG all i).all (has E)
def qq:List (Nat×Nat)→Nat→Nat
 | [],_=>0
 |p::A,i=>@Bool.rec (λ_=>Nat) (qq A i) p.2 (Nat.beq p.1 i)
def wQ (A:List (Nat×Nat)):List Nat→Nat
 | []=>0
 |j::l=>Nat.lor (Nat.lor (Nat.shiftLeft 1 j) (qq A j)) (wQ A l)
def fNat {γ:Type} (n:Nat) (K:Nat→γ):γ:=@Nat.rec (λ_=>γ) (K 0) (λm _=>K (Nat.succ m)) n
def ancs (all:List Oper):List Nat→List (Nat×Nat)→List (Nat×Nat)
 | [],A=>A
 |i::l,A=>fNat (wQ A (jG all i)) λm=>ancs all l ((i,m)::A)
def tmpO:Operand→List Tmp
 | .tmp t=>[t]
 | _=>[]
def AZ (all:List Oper) (o:Oper):List Tmp:=(o.op.operands.toList.flatMap tmpO)++(match o.guard with | some (j,_)=>(match Eng.dstOf all j with | some d=>[d] | none=>[]) | none=>[])
def qr (all:List Oper) (i:Nat):List Tmp:=match all[i]? with | some o=>AZ all o | none=>[]
structure Step where
 i:Nat
 o:Oper
 chk:List Nat
abbrev Plan:=List (Nat×List Nat)
def Fy (n:Nat):Plan:=(List.range n).map λi=>(i,[])
def oW (all:List Oper) (p:Plan):List Step:=p.filterMap λx=>match all[x.1]? with
 |some o=>some ⟨x.1,o,x.2⟩
 |none=>none
def okGo (all:List Oper) (A:List (Nat×Nat)):Plan→Nat→Bool
 | [],E=>(List.range all.length).all (has E)
 | (i,ch)::p,E=>rdyI all E i && (Nat.blt i all.length && ((!(Nat.beq (rE all i) 3) || (List.range all.length).all (λj=>has E j && (!(Nat.beq (rE all j) 1) || has (qq A i) j || inL ch j) || Nat.beq j i || has (qq A j) i)) && fNat (add E i) λE=>okGo all A p E))
def D8 (all:List Oper) (A:List (Nat×Nat)):Bool:=
 (List.range all.length).all λj=>match Eng.dstOf all j with
  |some t=>(List.range all.length).all λi=>Nat.beq i j || !(inL (qr all i) t || (match Eng.dstOf all i with | some s=>Nat.beq s t | none=>false)) || has (qq A i) j || has (qq A j) i
  |none=>true
def E2 (all:List Oper) (A:List (Nat×Nat)) (l:Nat) (o:Oper):Bool:=
 match o.guard with
 |none=>true
 |some (j,_)=>match Eng.dstOf all j with
  |some g=>(List.range all.length).all λi=>match Eng.dstOf all i with
   |some t=>!(Nat.beq t g) || has (qq A l) i
   |none=>true
  |none=>false
def okLd (all:List Oper) (A:List (Nat×Nat)) (l:Nat):Bool:=
 match all[l]? with
  |some o=>E2 all A l o && (match o.op,o.dst with
   | .load _ (.tmp a),some d=>!(Nat.beq a d) && (List.range all.length).all (λj=>match Eng.dstOf all j with
    |some t=>(!(Nat.beq t a) || has (qq A l) j) && (!(Nat.beq t d) || Nat.beq j l)
    |none=>true)
   | _,_=>false)
  |none=>false
def okGd (all:List Oper) (A:List (Nat×Nat)):Bool:=
 (List.range all.length).all λi=>match all[i]? with
  |some o=>(match o.guard with
   |some (j,_)=>has (qq A i) j && (Eng.dstOf all j).isSome
   |none=>true)
  |none=>true
def y6 (all:List Oper) (p:Plan):Bool:=
 okGo all (ancs all (p.map (·.1)) []) p 0 && (D8 all (ancs all (p.map (·.1)) []) && (p.all (λx=>x.2.all (okLd all (ancs all (p.map (·.1)) []))) && okGd all (ancs all (p.map (·.1)) [])))
def zM (x y:C) (K:Prop):Prop:=
 match x,y with
 | .b a,.b b=>@Bool.rec (λ_=>Prop) (@Bool.rec (λ_=>Prop) K False b) (@Bool.rec (λ_=>Prop) False K b) a
 | .i k a,.i j b=>iff (Nat.beq k j) (iff (eqI a b) K False) False
 | .np,.np=>K
 | .p o q,.p o' q'=>iff (Nat.beq o o') (iff (Nat.beq q q') K False) False
 | .ns,.ns=>K
 | .s o q l z none,.s o' q' l' z' none=>iff (Nat.beq o o') (iff (Nat.beq q q') (iff (Nat.beq l l') (iff (Nat.beq z z') K False) False) False) False
 | .s o q l z (some c),.s o' q' l' z' (some c')=>iff (Nat.beq o o') (iff (Nat.beq q q') (iff (Nat.beq l l') (iff (Nat.beq z z') (iff (Nat.beq c c') K False) False) False) False) False
 | _,_=>False
def A0:List C→List C→Prop→Prop
 | [],[],K=>K
 |x::xs,y::ys,K=>zM x y (A0 xs ys K)
 | _,_,_=>False
def zN (x y:V) (K:Prop):Prop:=
 @V.rec (λ_=>Prop) (λ_=>PUnit) (λc=>onC y λc'=>zM c c' K) (λdp d o n=>onA y λdp' d' o' n'=>iff (Nat.beq n n') (iff (Nat.ble (Nat.add o n) (Nat.pow 4 dp)) (qm dp d n o λl=>qm dp' d' n' o' λl'=>A0 l l' K) False) False) fT ⟨⟩ fL x
def chkC (P:Program) (e:Nat) (all:List Oper) (l:List Nat):Bx (Env e→Hp→Prop→Prop):=
 @List.rec Nat (λ_=>Bx (Env e→Hp→Prop→Prop)) ⟨λ_ _ K=>K⟩ (λi _ ih=>match all[i]? with
  |some o=>(match o.op,o.dst with
  | .load t x,some d=>(match o.guard with
   |none=>(ss P e t x).bind λg=>(getE e d).bind λh=>ih.bind λnx=>⟨λenv H K=>g env H λv=>h env λu=>zN u v (nx env H K)⟩
   |some (j,want)=>(match Eng.dstOf all j with
    |some gd=>(getE e gd).bind λgg=>(ss P e t x).bind λg=>(getE e d).bind λh=>ih.bind λnx=>⟨λenv H K=>gg env λb=>gdK want b (g env H λv=>h env λu=>zN u v (nx env H K)) (nx env H K)⟩
    |none=>⟨λ_ _ _=>False⟩))
  | _,_=>⟨λ_ _ _=>False⟩)
  |none=>⟨λ_ _ _=>False⟩) l
def opD (P:Program) (e:Nat) (op:Op):Bx (OpR e):=
 match qp op with
 | 0=>(zL P e op).bind λg=>⟨λ_ env H K=>g env λv=>K v H⟩
 | 1=>match op with
  | .load t x=>(ss P e t x).bind λg=>⟨λ_ env H K=>g env H λv=>K v H⟩
  | _=>noOp e
 | 2=>(y5 P e op).bind λg=>⟨λ_ env H K=>g env λb f=>newK H b λo H=>K (f o) H⟩
 | _=>wO P e op
def chkN (P:Program) (e:Nat) (all:List Oper) (l:List Nat) (nx:CdR e):Bx (CdR e):=match l with
 | []=>⟨nx⟩
 |l=>(chkC P e all l).bind λc=>⟨λcall env H K=>c env H (nx call env H K)⟩
def nf (P:Program) (e:Nat) (all:List Oper) (l:List Step):Bx (CdR e):=
 @List.rec Step (λ_=>Bx (CdR e)) ⟨λ_ env H K=>K env H⟩ (λs _ ih=>(opD P e s.o.op).bind λr=>ih.bind λnx=>(chkN P e all s.chk nx).bind λnx=>wP P e all s.o r nx) l
abbrev sv:=Nat→Option Plan
def uL (Z:sv) (id n:Nat):Plan:=match Z id with
 |some p=>p
 |none=>Fy n
def Cv (P:Program) (e:Nat) (Z:sv) (id:Nat) (all:List Oper):Bx (CdR e):=nf P e all (oW all (uL Z id all.length))
inductive Ex where
 |nrm | exit (k:Nat) | ret
abbrev KE (e:Nat):=Ex→Env e→Hp→Prop
abbrev CoR (e:Nat):=Cal→Env e→Hp→KE e→Prop
def noCo (e:Nat):Bx (CoR e):=⟨λ_ _ _ _=>False⟩
def kSeq {e:Nat} (b:Env e→Hp→Prop) (K:KE e) (x:Ex) (env:Env e) (H:Hp):Prop:=@Ex.rec (λ_=>Prop) (b env H) (λk=>K (.exit k) env H) (K .ret env H) x
def Do {e:Nat} (id:Nat) (K:KE e) (x:Ex) (env:Env e) (H:Hp):Prop:=@Ex.rec (λ_=>Prop) (K .nrm env H) (λk=>@Bool.rec (λ_=>Prop) (K (.exit k) env H) (K .nrm env H) (Nat.beq k id)) (K .ret env H) x
def Cw {e:Nat} (f:Nat) (body:Env e→Hp→KE e→Prop) (K:KE e):Env e→Hp→Prop:=
 @Nat.rec (λ_=>Env e→Hp→Prop) (λ_ _=>False) (λ_ ih env H=>body env H (kSeq ih K)) f
def qt (P:Program) (e:Nat) (Z:sv):Code→Bx (CoR e)
 | .skip=>⟨λ_ env H K=>K .nrm env H⟩
 | .region id ops draw=>match draw with
  |true=>(Cv P e Z id ops.toList).bind λr=>⟨λcall env H K=>r call env H (K .nrm)⟩
  |false=>(opsC P e ops.toList ops.toList).bind λr=>⟨λcall env H K=>r call env H (K .nrm)⟩
 | .seq a b=>(qt P e Z a).bind λa=>(qt P e Z b).bind λb=>⟨λcall env H K=>a call env H (kSeq (λenv H=>b call env H K) K)⟩
 | .cond o a b=>(evC e o).bind λg=>(qt P e Z a).bind λa=>(qt P e Z b).bind λb=>⟨λcall env H K=>g env λx=>onB x (a call env H K) (b call env H K)⟩
 | .block id c=>(qt P e Z c).bind λc=>⟨λcall env H K=>c call env H (Do id K)⟩
 | .loop c=>(qt P e Z c).bind λc=>⟨λcall env H K=>Cw 1000000 (c call) K env H⟩
 | .exit id=>⟨λ_ env H K=>K (.exit id) env H⟩
 | .ret=>⟨λ_ env H K=>K .ret env H⟩
 | _=>noCo e
def ml (Z:sv):Code→Bool
 | .region id ops draw=>match draw with
  |true=>y6 ops.toList (uL Z id ops.toList.length)
  |false=>true
 | .seq a b=>ml Z a && ml Z b
 | .cond _ a b=>ml Z a && ml Z b
 | .block _ c=>ml Z c
 | .loop c=>ml Z c
 | _=>true
def resC (P:Program) (e:Nat) (rs:List ResultVar):Bx (Env e→Hp→(List V→Prop)→Prop):=
 @List.rec ResultVar (λ_=>Bx (Env e→Hp→(List V→Prop)→Prop)) ⟨λ_ _ K=>K []⟩
  (λr _ ih=>match r with
   | .tmp t=>(getE e t).bind λg=>ih.bind λh=>⟨λenv H K=>g env λv=>h env H λvs=>K (v::vs)⟩
   | .cell a t=>(ss P e t (.tmp a)).bind λl=>ih.bind λh=>⟨λenv H K=>l env H λv=>h env H λvs=>K (v::vs)⟩) rs
def envK (e:Nat) (args:List V):Nat→Env e→(Env e→Prop)→Prop:=
 @List.rec V (λ_=>Nat→Env e→(Env e→Prop)→Prop) (λ_ t K=>K t) (λv _ ih i t K=>(setE e i).go t v λt=>ih (Nat.succ i) t K) args
def noT:List V→Bool
 | []=>true
 |v::vs=>match v with
  | .t _=>false
  | _=>noT vs
def retK (vs:List V) (H:Hp) (K:KV):Prop:=match vs with
 | [v]=>K v H
 |vs=>iff (noT vs) (K (.t vs) H) False
abbrev Sm:=FuncId→Option (List V→Hp→KV→Prop)
abbrev FnR:=Cal→List V→Hp→KV→Prop
def env0 (e:Nat):Env e:=uni (.c .un) (dpN e)
def fnC (P:Program) (S:Sm) (Z:FuncId→sv) (f:FuncId):Bx FnR:=
 match S f with
 |some g=>⟨λ_ args H K=>g args H K⟩
 |none=>match P.funcs[f]? with
  |some fn=>match fn.body with
   |some c=>fNB fn.ntmps λe=>match Nat.ble e 16384 with
    |false=>⟨λ_ _ _ _=>False⟩
    |true=>(qt P e (Z f) c).bind λc=>(resC P e fn.results.toList).bind λr=>⟨λcall args H K=>iff (Nat.ble args.length e) (envK e args 0 (env0 e) λenv=>c call env H λx env H=>@Ex.rec (λ_=>Prop) (r env H λvs=>retK vs H K) (λ_=>False) (r env H λvs=>retK vs H K) x) False⟩
   |none=>⟨λ_ _ _ _=>False⟩
  |none=>⟨λ_ _ _ _=>False⟩
def D9 (P:Program) (S:Sm) (Z:FuncId→sv) (fuel:Nat):Cal:=
 @Nat.rec (λ_=>Cal) (λ_ _ _ _=>False) (λ_ ih f args H K=>(fnC P S Z f).go ih args H K) fuel
def hp0:Hp:=⟨0,uni .dead 7⟩
end
end Go.Mx
