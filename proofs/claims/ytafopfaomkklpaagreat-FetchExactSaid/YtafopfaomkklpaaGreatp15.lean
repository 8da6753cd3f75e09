/- A part of the proof. -/
import Derived.Test.YtafopfaomkklpaaGreatp14
set_option linter.unusedVariables false
namespace Go.Proofs.YtafopfaomkklpaaGreat
open Go.Proofs.Tryz
open Go.Eng
structure PkR (w w':World) (fb:Nat) (F:Fa) (N N':List bS) (Cl:List CliR) (P:Nat→List bJ):Prop where
 len:N'.length=N.length
 fab:cY w' fb F N' Cl P
 keep:Keep (λk=>k=F.nb∨∃ r ∈ N,isB r.Words k) w w'
 same:∀ r' ∈ N',∃ r ∈ N,r'.Words=r.Words
set_option maxHeartbeats 8000000 in
theorem ED {w:World} {fb:Nat} {F:Fa} {N:List bS} {Cl:List CliR} {P:Nat→List bJ} (h:cY w fb F N Cl P) {p:pA} (hp:pj p) :
  Does 25 [.pointer (some ⟨fb,0,none⟩),p.val,.int .i64 F.lines] w λv w'=>v=.tuple #[]∧∃ N',PkR w w' fb F N N' Cl P:=by
 refine does Tryz.func25 ?_
 rw [rZ]
 have hln:=h.ln
 have hn15:=h.n1
 rintro b1 w1 hb1 hw1
 obtain ⟨hz1,hn1⟩:=aR hb1 hw1
 have hz1:Blk w1 b1 p.cells TPo:=hz1
 clear hw1
 rintro w2 hw2
 have hn2:New w1 w2:=by rw [hw2];exact aT _
 clear hw2
 have hz2:=New.blk hn2 hz1
 have hn02:=hn1.new hn2
 have h2:=h.new hn02
 refine ⟨λy=>New w2 y,Keep.refl _ _,_,_,_,λy hy=>(New.blk hy h2.fab).cell (i:=1) rfl,_,λy hy=>(New.blk hy hz2).cell (i:=1) rfl,_,_,_,λy hy=>(New.blk hy h2.fab).cell (i:=1) rfl,?_⟩
 refine aC (dK w2 p.Node N.length hp.n (by omega)) ?_
 rintro v w3 ⟨rfl,rfl⟩
 have hpi:=jT (x:=p.Node) (n:=(N.length:Int)) (by omega)
 generalize hidx:(if (N.length:Int)<1 then 0 else p.Node % (N.length:Int))=ix at hpi
 obtain ⟨i,rfl⟩:=Int.eq_ofNat_of_zero_le hpi.1
 have hlt:i<N.length:=by omega
 have hg:N[i]?=some N[i]:=List.getElem?_eq_getElem hlt
 have hrm:=List.getElem_mem hlt
 generalize N[i]=r at hg hrm
 refine ⟨_,rfl,Keep.refl _ _,bI (by omega) (by omega) ?_⟩
 have had:NdAt fb F N Cl P r ⟨F.nb,0+(i:Int).toNat * 2,none⟩:=λy hy=>by
  rw [show 0+(i:Int).toNat * 2=i * 2+0 by omega]
  exact Owns.row aO.len hy.nodes hg (j:=0) rfl
 have hupA:∀ y,cY y fb F N Cl P→y.cell? ⟨F.nb,0+(i:Int).toNat * 2+1,none⟩=some (.bool r.Up):=λy hy=>by
  rw [show 0+(i:Int).toNat * 2+1=i * 2+1 by omega]
  exact Owns.row aO.len hy.nodes hg (j:=1) rfl
 have hoff:0+(i:Int).toNat * 2+1=i * 2+1:=by omega
 generalize hA:(⟨F.nb,0+(i:Int).toNat * 2,none⟩:Addr)=ad at had ⊢
 refine ⟨_,hz2.cell (i:=2) rfl,?_⟩
 refine aC (dK w3 p.Client 6 hp.c (by omega)) ?_
 rintro v w4 ⟨rfl,rfl⟩
 have hci:=jT (x:=p.Client) (n:=6) (by omega)
 generalize (if (6:Int)<1 then 0 else p.Client % 6)=c at hci
 refine ⟨_,rfl,_,hz2.cell (i:=3) rfl,?_⟩
 refine aC (Dd w4 hp.a (lines:=F.lines) (by omega) (by omega)) ?_
 rintro v w5 ⟨pg,rfl,hpg,hn5⟩
 refine aG.mk_ex pg ⟨rfl,mr (vs:=pg.cells) rfl (aG.single _) λb2 w7 hb2 hz7 hn7=>?_⟩
 have hz7:Blk w7 b2 pg.cells TPg:=hz7
 have hn27:=hn5.new hn7
 have hn07:=hn02.new hn27
 have h7:=h.new hn07
 have hx7:=New.blk hn27 hz2
 refine ⟨_,hx7.cell (i:=0) rfl,?_⟩
 refine aC (dK w7 p.Kind 14 hp.k (by omega)) ?_
 rintro v w8 ⟨rfl,rfl⟩
 generalize (if (14:Int)<1 then 0 else p.Kind % 14)=kd
 have fin:∀ w',Wr N w8 w'→(Value.tuple #[]=Value.tuple #[]∧∃ N',PkR w w' fb F N N' Cl P):=λw' hw=>
  ⟨rfl,N,rfl,h7.wr hw,(Keep.of_new hn07).trans (hw.keep.mono λ_ _ e=>.inr e) λ_ _ e=>e,λq hq=>⟨q,hq,rfl⟩⟩
 have hlog:aQ.ex λq=>aE w8 ⟨b1,0,none⟩ 0 q.cells∧Calls prog 74 #[(.pointer (some ad)),q.val,(.int .i64 c),(.int .i64 F.lines)] w8 λe w12=>e=.returned (.tuple #[])∧((Value.tuple #[]=Value.tuple #[]∧∃ N',PkR w w12 fb F N N' Cl P)):=by
  refine aQ.mk_ex p ⟨aH hx7 rfl,?_⟩
  refine aC (EB h7 hp hrm had hci.1 hci.2) ?_
  rintro v w9 ⟨rfl,hw⟩
  exact ⟨rfl,fin w9 hw⟩
 have hwp:∀ x,U64 (IntKind.u64.wrap x):=lr
 refine ⟨_,rfl,bB (λe0=>?g0) (λ_=>bB (λe1=>bB (λ_=>hlog) (λe=>absurd e1 e)) (λ_=>bB (λe1=>bB (λ_=>hlog) (λe=>absurd e1 e)) (λ_=>bB (λe1=>hlog) (λ_=>bB (λ_=>?g4) (λ_=>bB (λ_=>?g5) (λ_=>bB (λ_=>?g6) (λ_=>bB (λ_=>?g7) (λ_=>bB (λ_=>?g8) (λ_=>bB (λ_=>?g9) (λ_=>bB (λ_=>?g10) (λ_=>bB (λ_=>?g11) (λ_=>bB (λ_=>?g12) (λ_=>bB (λ_=>?g13) (λ_=>fin _ (Wr.refl _ _)))))))))))))))⟩
 case g0=>
  rintro w9 hw9
  have hn9:New w8 w9:=by rw [hw9];exact aT _
  clear hw9
  have h9:=h7.new hn9
  have hx9:=New.blk hn9 hx7
  refine ⟨λy=>New w9 y,Keep.refl _ _,_,_,_,λy hy=>had y (h9.new hy),_,λy hy=>(New.blk hy hx9).cell (i:=3) rfl,_,_,_,λy hy=>had y (h9.new hy),_,λy hy=>(New.blk hy hx9).cell (i:=5) rfl,?_⟩
  obtain ⟨b,q1,q2,q3,q4⟩:=h9.nok r hrm
  refine aC (dK w9 p.A _ hp.a (by rw [q2];omega)) ?_
  rintro v w10 ⟨rfl,rfl⟩
  have hpi:=jT (x:=p.A) (n:=(r.Words_l:Int)) (by rw [q2];omega)
  refine ⟨_,rfl,Keep.refl _ _,lZ h9 hrm hp.w hpi.1 (by have:=hpi.2;rw [q2] at this ⊢;omega) λad' w' hw=>fin w' ((Wr.of_new hn9).trans hw)⟩
 case g4=>
  rintro w9 hw9
  have hn9:New w8 w9:=by rw [hw9];exact aT _
  clear hw9
  have h9:=h7.new hn9
  have hx9:=New.blk hn9 hx7
  have hz9:=New.blk hn9 hz7
  refine ⟨λy=>New w9 y,Keep.refl _ _,_,_,_,λy hy=>had y (h9.new hy),_,λy hy=>(New.blk hy hz9).cell (i:=0) rfl,_,λy hy=>(New.blk hy hz9).cell (i:=1) rfl,_,λy hy=>(New.blk hy hx9).cell (i:=4) rfl,?_⟩
  have hl1:=hpg.2.1
  refine aC (tR w9 hl1.1 (by omega)) ?_
  rintro v w10 ⟨rfl,rfl⟩
  refine ⟨_,rfl,Keep.refl _ _,?_⟩
  refine aC (dK w10 p.B 7 hp.b (by omega)) ?_
  rintro v w11 ⟨rfl,rfl⟩
  exact ⟨_,rfl,Keep.refl _ _,lZ h9 hrm (nw _ _) (by omega) (by omega) λad' w' hw=>fin w' ((Wr.of_new hn9).trans hw)⟩
 case g5=>
  rintro w9 hw9
  have hn9:New w8 w9:=by rw [hw9];exact aT _
  clear hw9
  have h9:=h7.new hn9
  have hx9:=New.blk hn9 hx7
  refine ⟨λy=>New w9 y,Keep.refl _ _,_,_,_,λy hy=>had y (h9.new hy),_,λy hy=>(New.blk hy hx9).cell (i:=3) rfl,?_⟩
  refine aC (Aw w9 hci.1 hci.2) ?_
  rintro v w10 ⟨rfl,rfl⟩
  refine ⟨_,rfl,Keep.refl _ _,?_⟩
  refine aC (dK w10 p.A 6 hp.a (by omega)) ?_
  rintro v w11 ⟨rfl,rfl⟩
  exact ⟨_,rfl,Keep.refl _ _,lZ h9 hrm (hwp _) (by omega) (by omega) λad' w' hw=>fin w' ((Wr.of_new hn9).trans hw)⟩
 case g6=>
  rintro w9 hw9
  have hn9:New w8 w9:=by rw [hw9];exact aT _
  clear hw9
  have h9:=h7.new hn9
  have hx9:=New.blk hn9 hx7
  refine ⟨λy=>New w9 y,Keep.refl _ _,_,_,_,λy hy=>had y (h9.new hy),_,λy hy=>(New.blk hy hx9).cell (i:=3) rfl,_,λy hy=>(New.blk hy hx9).cell (i:=4) rfl,?_⟩
  refine aC (Ca w9 hci.1 hci.2) ?_
  rintro v w10 ⟨rfl,rfl⟩
  refine ⟨_,rfl,Keep.refl _ _,?_⟩
  refine aC (dK w10 p.A 3 hp.a (by omega)) ?_
  rintro v w11 ⟨rfl,rfl⟩
  refine ⟨_,rfl,Keep.refl _ _,?_⟩
  refine aC (dK w11 p.B 6 hp.b (by omega)) ?_
  rintro v w12 ⟨rfl,rfl⟩
  refine ⟨_,rfl,Keep.refl _ _,?_⟩
  refine aC (Ez w12 _ _) ?_
  rintro v w13 ⟨x,e,rfl,hx,hn13⟩
  exact ⟨_,_,rfl,hn13,lZ (h9.new hn13) hrm hx (by omega) (by omega) λad' w' hw=>fin w' ((Wr.of_new (hn9.new hn13)).trans hw)⟩
 case g7=>
  rintro w9 hw9
  have hn9:New w8 w9:=by rw [hw9];exact aT _
  clear hw9
  have h9:=h7.new hn9
  have hx9:=New.blk hn9 hx7
  refine ⟨λy=>New w9 y,Keep.refl _ _,_,_,_,λy hy=>had y (h9.new hy),_,λy hy=>(New.blk hy hx9).cell (i:=3) rfl,?_⟩
  refine aC (B9 w9 hci.1 hci.2) ?_
  rintro v w10 ⟨rfl,rfl⟩
  refine ⟨_,rfl,Keep.refl _ _,?_⟩
  refine aC (dK w10 p.A 8 hp.a (by omega)) ?_
  rintro v w11 ⟨rfl,rfl⟩
  exact ⟨_,rfl,Keep.refl _ _,lZ h9 hrm (hwp _) (by omega) (by omega) λad' w' hw=>fin w' ((Wr.of_new hn9).trans hw)⟩
 case g8=>
  rintro w9 hw9
  have hn9:New w8 w9:=by rw [hw9];exact aT _
  clear hw9
  have h9:=h7.new hn9
  have hx9:=New.blk hn9 hx7
  refine ⟨λy=>New w9 y,Keep.refl _ _,_,_,_,λy hy=>had y (h9.new hy),_,λy hy=>(New.blk hy hx9).cell (i:=3) rfl,?_⟩
  refine aC (dK w9 p.A 6 hp.a (by omega)) ?_
  rintro v w11 ⟨rfl,rfl⟩
  exact ⟨_,rfl,Keep.refl _ _,lZ h9 hrm (z:=0) (hwp _) (by omega) (by omega) λad' w' hw=>fin w' ((Wr.of_new hn9).trans hw)⟩
 case g9=>
  rintro w9 hw9
  have hn9:New w8 w9:=by rw [hw9];exact aT _
  clear hw9
  have h9:=h7.new hn9
  have hx9:=New.blk hn9 hx7
  refine ⟨λy=>New w9 y,Keep.refl _ _,_,_,_,λy hy=>had y (h9.new hy),_,λy hy=>(New.blk hy hx9).cell (i:=3) rfl,?_⟩
  refine aC (dK w9 p.A 3 hp.a (by omega)) ?_
  rintro v w11 ⟨rfl,rfl⟩
  exact ⟨_,rfl,Keep.refl _ _,lZ h9 hrm (z:=1) (hwp _) (by omega) (by omega) λad' w' hw=>fin w' ((Wr.of_new hn9).trans hw)⟩
 case g10=>
  refine aQ.mk_ex p ⟨aH hx7 rfl,?_⟩
  refine aC (EC h7 hp hrm had) ?_
  rintro v w9 ⟨rfl,hw⟩
  exact ⟨rfl,fin w9 hw⟩
 case g11=>
  subst hA
  refine ⟨⟨_,hupA w8 h7⟩,Owns.frozen h7.nodes,?_⟩
  rintro w9 hw9
  have hw9:w9=w8.setCell ⟨F.nb,0+(i:Int).toNat * 2+1,none⟩ (.bool false):=hw9
  rw [hoff] at hw9
  have hk9:Keep (λk=>k=F.nb) w8 w9:=by rw [hw9];exact aZ _ _ _ _
  have hnd:=Owns.setRow aO.len h7.nodes hg (j:=1) (r':=⟨r.Words,r.Words_l,r.Words_c,false⟩) (v:=.bool false) (by omega) rfl
  rw [←hw9] at hnd
  obtain ⟨cur,hbl,_⟩:=Owns.blk h7.nodes
  have hmem:∀ q ∈ N.set i ⟨r.Words,r.Words_l,r.Words_c,false⟩,∃ q' ∈ N,q.Words=q'.Words∧q.Words_l=q'.Words_l∧q.Words_c=q'.Words_c:=λq hq=>by
   rcases List.mem_or_eq_of_mem_set hq with hq | rfl
   ·exact ⟨q,hq,rfl,rfl,rfl⟩
   ·exact ⟨r,hrm,rfl,rfl,rfl⟩
  refine ⟨rfl,N.set i ⟨r.Words,r.Words_l,r.Words_c,false⟩,by rw [List.length_set],h7.reNode hk9 (by rw [List.length_set]) (by rw [List.length_set];exact hnd) (λq hq=>?_),(Keep.of_new hn07).trans (hk9.mono λ_ _ e=>.inl e) λ_ _ e=>e,λq hq=>?_⟩
  ·obtain ⟨q',hq',e1,e2,e3⟩:=hmem q hq
   obtain ⟨b,s1,s2,s3,s4⟩:=h7.nok q' hq'
   exact ⟨b,by rw [e1];exact s1,by rw [e2];exact s2,by rw [e3];exact s3,s4.keep hk9 (s4.ne hbl (by decide))⟩
  ·obtain ⟨q',hq',e1,_⟩:=hmem q hq
   exact ⟨q',hq',e1⟩
 case g12=>
  refine aW mix (λm env u=>∃ (j:Nat) (jj:List Value),m=N.length - j∧j≤N.length∧env=dS ⟨fb,0,none⟩ F.lines ⟨b1,0,none⟩ c j jj∧cY u fb F N Cl P∧Wr N w8 u) N.length
   ⟨0,_,by omega,by omega,rfl,h7,Wr.refl _ _⟩ ?_
  rintro m env u ⟨j,jj,rfl,hj,rfl,hf,hw⟩
  rw [mE]
  refine ⟨_,_,_,hf.fab.cell (i:=1) rfl,aD (λhq=>?_) (λhq=>fin u hw)⟩
  rintro u1 hu1
  have hn1':New u u1:=by rw [hu1];exact aT _
  clear hu1
  have hf1:=hf.new hn1'
  have hx1:=New.blk hn1' (hw.tr h7.nok (by decide) _ _ hx7)
  have hgj:N[j]?=some N[j]:=List.getElem?_eq_getElem (by omega)
  refine ⟨λy=>Wr N u1 y,Wr.refl _ _,_,_,_,λy hy=>(hf1.wr hy).fab.cell (i:=1) rfl,bI (by omega) (by omega) (aQ.mk_ex p ⟨λy hy=>aH (hy.tr hf1.nok (by decide) _ _ hx1) rfl,?_⟩)⟩
  have hadj:NdAt fb F N Cl P N[j] ⟨F.nb,0+(j:Int).toNat * 2,none⟩:=λy hy=>by
   rw [show 0+(j:Int).toNat * 2=j * 2+0 by omega]
   exact Owns.row aO.len hy.nodes hgj (j:=0) rfl
  refine aC (EB hf1 hp (List.getElem_mem (by omega)) hadj hci.1 hci.2) ?_
  rintro v u2 ⟨rfl,hw2⟩
  rw [w64 (x:=(j:Int)+1) (by omega) (by omega)]
  exact ⟨rfl,hw2,N.length - (j+1),by omega,j+1,_,rfl,by omega,rfl,hf1.wr hw2,(hw.new hn1').trans hw2⟩
 case g13=>
  rintro w9 hw9
  have hn9:New w8 w9:=by rw [hw9];exact aT _
  clear hw9
  have h9:=h7.new hn9
  have hx9:=New.blk hn9 hx7
  refine ⟨λy=>New w9 y,Keep.refl _ _,_,_,_,λy hy=>had y (h9.new hy),_,λy hy=>(New.blk hy hx9).cell (i:=3) rfl,_,λy hy=>(New.blk hy hx9).cell (i:=4) rfl,?_⟩
  refine aC (zx w9 hci.1 hci.2) ?_
  rintro v w10 ⟨rfl,rfl⟩
  refine ⟨_,rfl,Keep.refl _ _,?_⟩
  refine aC (dK w10 p.A 3 hp.a (by omega)) ?_
  rintro v w11 ⟨rfl,rfl⟩
  refine ⟨_,rfl,Keep.refl _ _,?_⟩
  refine aC (dK w11 p.B 50 hp.b (by omega)) ?_
  rintro v w12 ⟨rfl,rfl⟩
  refine ⟨_,rfl,Keep.refl _ _,?_⟩
  refine aC (Cb w12 _ _) ?_
  rintro v w13 ⟨x,e,rfl,hx,hn13⟩
  exact ⟨_,_,rfl,hn13,lZ (h9.new hn13) hrm hx (by omega) (by omega) λad' w' hw=>fin w' ((Wr.of_new (hn9.new hn13)).trans hw)⟩
structure Prep (w w':World) (fb:Nat) (F:Fa) (N:List bS) (Cl:List CliR) (P:Nat→List bJ):Prop where
 fab:cY w' fb F N Cl P
 idle:Idle N Cl P
 new:New w w'
 old:∀ k,F.own fb N Cl.length k→w.heap.size≤k
def wE (l:List pA):List (List Value):=l.map aQ.cells
set_option maxHeartbeats 1000000 in
theorem AD {w:World} {n C lines:Nat} (hn:1≤n∧n≤5) (hC:1≤C∧C≤6) (hl:98≤lines∧lines≤256) {a:Option Addr} {c:Nat} {l:List pA} (hr:Rd w a (wE l).flatten) (hfew:l.length≤1000000) (hok:∀ p ∈ l,pj p) :
  Does 7 [.int .i64 n,.int .i64 C,.int .i64 lines,.slice a l.length c] w λv w'=>∃ fb F N Cl P,v=.pointer (some ⟨fb,0,none⟩)∧Prep w w' fb F N Cl P∧F.lines=lines∧N.length=n∧Cl.length=C:=by
 refine does Tryz.func7 ?_
 rw [pZ]
 refine aC (Fi w hn hC hl) ?_
 rintro v w1 ⟨fb,N,nb,nc,ca,cc,la,lc,B,rfl,hNl,hBl,hB⟩
 subst hNl hBl
 obtain ⟨F,Cl,P,hf,hFl,hCl,hid,hold⟩:=hB.fabAt hn hC hl
 refine ⟨_,rfl,?_⟩
 refine aC (Cf hf) ?_
 rintro v w2 ⟨rfl,N2,hN2,hf2,hk2,hw2⟩
 have hn1:=hB.new
 have hn2:New w w2:=hn1.trans hk2 λk hlt e=>by have:=hold F.nb (.inr (.inl rfl));omega
 have s1:=hn1.size
 have hnd:∀ {M:List bS},(∀ r ∈ M,∀ k,isB r.Words k→w.heap.size≤k)→M.length=N.length→∀ k,F.own fb M Cl.length k→w.heap.size≤k:=by
  intro M hM _ k hk
  rcases hk with rfl | rfl | rfl | rfl | ⟨d,hd,rfl⟩ | ⟨r,hr,hb⟩
  ·exact hold _ (.inl rfl)
  ·exact hold _ (.inr (.inl rfl))
  ·exact hold _ (.inr (.inr (.inl rfl)))
  ·exact hold _ (.inr (.inr (.inr (.inl rfl))))
  ·exact hold _ (.inr (.inr (.inr (.inr (.inl ⟨d,hd,rfl⟩)))))
  ·exact hM r hr k hb
 have hW2:∀ r ∈ N2,∀ k,isB r.Words k→w.heap.size≤k:=λr hr k hb=>by
  rcases hw2 r hr k hb with ⟨q,hq,hb'⟩ | e
  ·exact hold k (.inr (.inr (.inr (.inr (.inr ⟨q,hq,hb'⟩)))))
  ·omega
 have hnbw:=hold F.nb (.inr (.inl rfl))
 refine ⟨rfl,?_⟩
 refine aW mix (λm env u=>∃ (i:Nat) (M:List bS) (jj:List Value),m=l.length - i∧i≤l.length∧env=ey lines a l.length c (some ⟨fb,0,none⟩) i jj∧M.length=N.length∧cY u fb F M Cl P∧New w u∧∀ r ∈ M,∀ k,isB r.Words k→w.heap.size≤k) l.length
  ⟨0,N2,_,by omega,by omega,rfl,hN2,hf2,hn2,hW2⟩ ?_
 clear hf2 hn2 hW2 hw2 hk2
 rintro m env u ⟨i,M,jj,rfl,hi,rfl,hMl,hfu,hnu,hWu⟩
 rw [kP]
 refine aD (λhq=>?_) (λhq=>?_)
 ·have hlt:i<l.length:=by omega
  have hg:l[i]?=some l[i]:=List.getElem?_eq_getElem hlt
  refine gN (cells:=aQ.cells) aQ.len (by omega) (hr.new hnu) hg rfl rfl λb o hc _=>aQ.mk_ex l[i] ⟨hc,?_⟩
  have hpk:=ED hfu (hok _ (List.getElem_mem hlt))
  rw [hFl] at hpk
  refine aC hpk ?_
  rintro v u2 ⟨rfl,M',hM'⟩
  rw [w64 (x:=(i:Int)+1) (by omega) (by omega)]
  refine ⟨rfl,l.length - (i+1),by omega,i+1,M',_,rfl,by omega,rfl,by rw [hM'.len,hMl],hM'.fab,hnu.trans hM'.keep λk hlt e=>?_,λr hr k hb=>?_⟩
  ·rcases e with rfl | ⟨r,hr,hb⟩
   ·omega
   ·have:=hWu r hr k hb;omega
  ·obtain ⟨q,hq,e⟩:=hM'.same r hr
   exact hWu q hq k (by rw [←e];exact hb)
 ·rw [mD]
  exact ⟨fb,F,M,Cl,P,rfl,⟨hfu,⟨hid.1,hid.2⟩,hnu,hnd hWu hMl⟩,hFl,hMl,hCl⟩
end Go.Proofs.YtafopfaomkklpaaGreat
