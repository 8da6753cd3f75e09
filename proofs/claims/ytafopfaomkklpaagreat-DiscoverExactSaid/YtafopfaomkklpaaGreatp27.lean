/- A part of the proof. -/
import Derived.Test.YtafopfaomkklpaaGreatp26
set_option linter.unusedVariables false
namespace Go.Proofs.YtafopfaomkklpaaGreat
open Go.Eng
theorem dC.reClient {w w':World} {fb:Nat} {F:Fa} {N:List cB} {Cl Cl':List CliR} {P:Nat→List bS} (h:dC w fb F N Cl P) (hk:Keep (λk=>k=F.cb) w w') (hl:Cl'.length=Cl.length) (hn:Owns w' TCl 7 (some ⟨F.cb,0,none⟩) Cl'.length F.cc (Cl'.map CliR.cells).flatten) (hok:∀ r ∈ Cl',r.Alive=true):dC w' fb F N Cl' P:=by
 obtain ⟨cur,hb,_⟩:=Owns.blk h.clients
 have tr:∀ {T:TypeId},T≠TCl→∀ (b:Nat) (cs:List Value),Blk w b cs T→Blk w' b cs T:=λht b cs h=>hk.blk h λe=>h.ne hb ht e
 refine ⟨by rw [hl];exact tr (by decide) _ _ h.fab,Owns.tr (tr (by decide)) h.nodes,λr hr=>?_,hn,hok,by rw [hl];exact Owns.tr (tr (by decide)) h.live,λc hc=>?_,λc d hc hd e=>h.inj c d (by omega) (by omega) e,h.n1,by rw [hl];exact h.c1,h.ln⟩
 ·obtain ⟨b,q1,q2,q3,q4⟩:=h.nok r hr
  exact ⟨b,q1,q2,q3,U64B.tr (tr (by decide)) q4⟩
 ·exact ⟨Owns.tr (tr (by decide)) (h.pairs c (by omega)).1,(h.pairs c (by omega)).2⟩
theorem C8 {w:World} {fb:Nat} {F:Fa} {N:List cB} {Cl:List CliR} {P:Nat→List bS} (h:dC w fb F N Cl P) {c:Nat} (hc:c<Cl.length):Does 89 [.pointer (some ⟨fb,0,none⟩),.int .i64 c] w λx w'=>x=.bool true∧w'=w:=by
 refine does Tryz.func89 ?_
 rw [nU]
 have hg:Cl[c]?=some Cl[c]:=List.getElem?_eq_getElem hc
 have ha:=h.alive _ (List.getElem_mem hc)
 refine aE (λ_=>⟨_,_,_,h.fab.cell (i:=2) rfl,aE (λ_=>⟨_,_,_,h.fab.cell (i:=2) rfl,bG (by omega) (by omega) ⟨Cl[c].Alive,?_,by rw [ha],rfl⟩⟩) (λe=>absurd e (by omega))⟩) (λe=>absurd e (by omega))
 rw [show 0+(c:Int).toNat * 7=c * 7+0 by omega]
 exact Owns.row CliR.len h.clients hg (j:=0) rfl
structure PlSt (u:World) (fb:Nat) (F:Fa) (N:List cB) (Cl:List CliR) (P:Nat→List bS) (c m:Nat) (Av:Nat→Prop) (Q:Nat→List dR):Prop where
 fab:dC u fb F N Cl P
 hc:c<Cl.length
 pairs:∀ (i:Nat) (pr:bS),(P c)[i]?=some pr→pr.Node=i∧QAt u Av F.lines m pr.Queue pr.Ql pr.Qc (Q i)
 others:∀ d,d<Cl.length→d≠c→∀ (i:Nat) (p:bS),(P d)[i]?=some p→p.Ql=0
 ams:∀ k,Av k→k<u.heap.size
 own:∀ k,F.own fb N Cl.length k→Av k
theorem PlSt.next {u z:World} {fb:Nat} {F:Fa} {N:List cB} {Cl:List CliR} {P:Nat→List bS} {c m:Nat} {Av:Nat→Prop} {Q:Nat→List dR} (h:PlSt u fb F N Cl P c m Av Q) (hn:New u z):PlSt z fb F N Cl P c m Av Q:=
 ⟨h.fab.new hn,h.hc,λi pr hi=>⟨(h.pairs i pr hi).1,(h.pairs i pr hi).2.next hn⟩,h.others,λk hk=>Nat.lt_of_lt_of_le (h.ams k hk) hn.size,h.own⟩
def kQ (l:List bA):List (List Value):=l.map bA.cells
def setQ (Q:Nat→List dR) (i:Nat) (ps:List dR):Nat→List dR:=λj=>if j=i then ps else Q j
structure Bat (w:World) (Av:Nat→Prop) (a:Option Addr) (l:List bA):Prop where
 rd:Rd w a (kQ l).flatten
 off:∀ k,isB a k→¬ Av k
 vb:∀ v ∈ l,VbIn w v∧∀ k,isB v.Words k→¬ Av k
theorem Bat.keep {w w':World} {Av M:Nat→Prop} {a:Option Addr} {l:List bA} (h:Bat w Av a l) (hk:Keep M w w') (hM:∀ k,k<w.heap.size→M k→Av k):Bat w' Av a l:=by
 refine ⟨ko hk h.rd λk hlt hb hm=>h.off k hb (hM k hlt hm),h.off,λv hv=>?_⟩
 obtain ⟨⟨⟨vs,h1,h2,h3⟩,h4⟩,h5⟩:=h.vb v hv
 exact ⟨⟨⟨vs,ko hk h1 λk hlt hb hm=>h5 k hb (hM k hlt hm),h2,h3⟩,h4⟩,h5⟩
theorem PlSt.set {u z:World} {fb:Nat} {F:Fa} {N:List cB} {Cl:List CliR} {P:Nat→List bS} {c m:Nat} {Av:Nat→Prop} {Q:Nat→List dR} (h:PlSt u fb F N Cl P c m Av Q) {M:Nat→Prop} (hk:Keep M u z) (hM:∀ k,k<u.heap.size→M k→Av k) {i:Nat} {pr:bS} (hi:(P c)[i]?=some pr) {a:Option Addr} {n cap:Nat} {ps:List dR}
  (hf:dC z fb F N Cl (setP P c ((P c).set i ⟨pr.Client,pr.Inc,pr.Node,a,n,cap⟩))) (hq:QAt z Av F.lines m a n cap ps):PlSt z fb F N Cl (setP P c ((P c).set i ⟨pr.Client,pr.Inc,pr.Node,a,n,cap⟩)) c m Av (setQ Q i ps):=by
 refine ⟨hf,h.hc,λj p hp=>?_,λd hd hdc j p hp=>?_,λk hA=>Nat.lt_of_lt_of_le (h.ams k hA) hk.size,h.own⟩
 ·unfold setP at hp
  rw [if_pos rfl] at hp
  unfold setQ
  by_cases e:j=i
  ·subst e
   rw [List.getElem?_set_self (dF hi)] at hp
   cases hp
   rw [if_pos rfl]
   exact ⟨(h.pairs j pr hi).1,hq⟩
  ·rw [List.getElem?_set_ne (λe'=>e e'.symm)] at hp
   rw [if_neg e]
   exact ⟨(h.pairs j p hp).1,(h.pairs j p hp).2.keep hk hM⟩
 ·unfold setP at hp
  rw [if_neg hdc] at hp
  exact h.others d hd hdc j p hp
theorem xO {F:Fa} {n C c:Nat} (hc:c<C):(CH F n C)[c]?=some (.slice (some ⟨F.pb c,0,none⟩) n (F.pc c)):=by
 unfold CH
 rw [List.getElem?_map,List.getElem?_range hc]
 rfl
theorem vZ {α:Type} {cells:α→List Value} {sz:Nat} (hsz:∀ x,(cells x).length=sz) (h0:0<sz) {S:World→Prop} {a:Option Addr} {l:List α} (hS:∀ y,S y→Rd y a (l.map cells).flatten) {u:World} (hu:S u) {i:Nat} {x:α} (hx:l[i]?=some x) {z:Int} (hz:z=i) {n:Nat} (hn:n=l.length) {K:Addr→Prop}
  (hk:∀ b o,(∀ y,S y→∀ (q:Nat) (v:Value),(cells x)[q]?=some v→y.cell? ⟨b,o+q,none⟩=some v)→K ⟨b,o,none⟩):idxS a n z sz K:=by
 subst hz hn
 have hlt:=dF hx
 have hs:∀ r ∈ l.map cells,r.length=sz:=λr hr=>by obtain ⟨y,_,rfl⟩:=List.mem_map.1 hr;exact hsz y
 obtain ⟨b,o,rfl,h1,h2⟩:=(hS u hu).row (sz:=sz) hs h0 (i:=i) (r:=cells x) (by simp [hx])
 refine bG (by omega) (by omega) ?_
 have:=hk b (o+i * sz) λy hy q v hv=>by
  obtain ⟨b',o',e,_,g2⟩:=(hS y hy).row (sz:=sz) hs h0 (i:=i) (r:=cells x) (by simp [hx])
  simp at e
  obtain ⟨rfl,rfl⟩:=e
  exact g2 q v hv
 simpa using this
def Ba (y:World) (fb:Nat) (F:Fa) (N:List cB) (Cl:List CliR) (c:Nat):Prop:=∃ P,dC y fb F N Cl P
def Cov (N:List cB) (Q:Nat→List dR) (s:Nat):Prop:=∀ t,t<s→∃ (i:Nat) (p:dR),i<N.length∧p ∈ Q i∧p.Slot=(t:Int)
structure uX (u:World) (fb:Nat) (F:Fa) (N:List cB) (Cl:List CliR) (P:Nat→List bS) (c m:Nat) (Av:Nat→Prop) (Q:Nat→List dR) (db hb:Nat) (dn:List aY) (hv:List Bool):Prop where
 st:PlSt u fb F N Cl P c m Av Q
 row:∃ cr:CliR,Cl[c]?=some cr∧cr.On=true∧cr.Done=some ⟨db,0,none⟩∧cr.Dl=m∧cr.Have=some ⟨hb,0,none⟩∧cr.Hl=m
 done:Blk u db (gS dn).flatten 53
 dlen:dn.length=m
 dok:∀ d ∈ dn,DnAt u Av d
 have_:Blk u hb (bs hv) 4
 hlen:hv.length=m
 cov:∀ t:Nat,hv[t]?=some false→∃ (i:Nat) (p:dR),i<N.length∧p ∈ Q i∧p.Slot=(t:Int)
 avd:Av db∧Av hb
 new_:¬ F.own fb N Cl.length db∧¬ F.own fb N Cl.length hb
def Gm (w:World) (fb:Nat) (F:Fa) (N:List cB) (Cl:List CliR) (P:Nat→List bS) (c m:Nat) (x:Value) (w':World):Prop:=
 (∃ e:Int,x=.int .i64 e∧e≠0∧New w w')∨(x=.int .i64 0∧∃ Cl' P' Av Q db hb dn hv,uX w' fb F N Cl' P' c m Av Q db hb dn hv∧Cl'.length=Cl.length∧w.heap.size≤db∧w.heap.size≤hb∧Keep (λk=>k=F.pb c∨k=F.cb) w w'∧∀ k,Av k→F.own fb N Cl.length k∨w.heap.size≤k)
set_option maxHeartbeats 4000000 in
theorem Gn {w:World} {fb:Nat} {F:Fa} {N:List cB} {Cl:List CliR} {P:Nat→List bS} (h:dC w fb F N Cl P) {c:Nat} (hc:c<Cl.length) (hid:Idle N Cl P) {a:Option Addr} {n cap:Nat} {l:List bA} (hn:n=l.length) (hb:Bat w (F.own fb N Cl.length) a l) (hfew:l.length≤1000000) :
  Does 36 [.pointer (some ⟨fb,0,none⟩),.int .i64 c,.slice a n cap] w (Gm w fb F N Cl P c l.length):=by
 refine does Tryz.func36 ?_
 rw [pe]
 have hln:=h.ln
 have hN5:=h.n1
 subst hn
 refine aG (C8 h hc) ?_
 rintro x w1 ⟨rfl,rfl⟩
 have hg:Cl[c]?=some Cl[c]:=List.getElem?_eq_getElem hc
 have hon:=hid.1 _ (List.getElem_mem hc)
 have eoff:0+(c:Int).toNat * 7=c * 7:=by omega
 have fl:∀ (e:Int) (u:World),e≠0→New w1 u→Gm w1 fb F N Cl P c l.length (.int .i64 e) u:=λe u he hu=>.inl ⟨e,rfl,he,hu⟩
 refine ⟨_,rfl,dM rfl ⟨_,_,_,h.fab.cell (i:=2) rfl,bG (by omega) (by omega) ⟨Cl[c].On,?_,?_⟩⟩⟩
 ·show w1.cell? ⟨F.cb,0+(c:Int).toNat * 7+2,none⟩=_
  rw [eoff]
  exact Owns.row CliR.len h.clients hg (j:=2) rfl
 rw [hon]
 refine dM rfl (bC (λ_=>fl 1 _ (by omega) (Keep.refl _ _)) (λh0=>aE (λ_=>fl 18 _ (by omega) (Keep.refl _ _)) (λh1024=>?_)))
 refine aS mix (λm env u=>∃ (i:Nat) (jj:List Value),m=l.length - i∧i≤l.length∧env=eh ⟨fb,0,none⟩ c a l.length cap i jj∧New w1 u∧∀ v ∈ l.take i,VOk v N.length F.lines) l.length
  ⟨0,_,by omega,by omega,rfl,Keep.refl _ _,by simp⟩ ?_
 rintro m env u ⟨i,jj,rfl,hi,rfl,hnu,hok⟩
 rw [kb]
 refine aE (λhq=>?_) (λhq=>?_)
 ·have hgl:l[i]?=some l[i]:=List.getElem?_eq_getElem (by omega)
  have hst:l.take (i+1)=l.take i++[l[i]]:=by rw [List.take_add_one,hgl];rfl
  rintro u1 hu1
  have hn1:New u u1:=by rw [hu1];exact aW _
  clear hu1
  have hnu1:=hnu.new hn1
  have h1:=h.new hnu1
  refine ⟨λy=>New u1 y,Keep.refl _ _,?_⟩
  refine iN (cells:=bA.cells) bA.len (by omega) (hb.rd.new hnu1) hgl rfl rfl λb o hcc=>bA.mk_ex l[i] ⟨λy hy=>fM (hcc y hy),_,_,_,λy hy=>(h1.new hy).fab.cell (i:=1) rfl,_,λy hy=>(h1.new hy).fab.cell (i:=0) rfl,?_⟩
  refine aG (zN u1 l[i] N.length F.lines) ?_
  rintro x u2 ⟨e,rfl,he,hn2⟩
  rw [w64 (x:=(i:Int)+1) (by omega) (by omega)]
  refine ⟨_,rfl,hn2,bE (λhne=>fl e _ hne (hnu1.new hn2)) (λhz=>⟨l.length - (i+1),by omega,i+1,_,rfl,by omega,rfl,hnu1.new hn2,λv hv=>?_⟩)⟩
  rw [hst] at hv
  rcases List.mem_append.1 hv with hv | hv
  ·exact hok v hv
  ·rw [List.mem_singleton.1 hv];exact he.1 hz
 have hin:l.take i=l:=List.take_of_length_le (by omega)
 rw [hin] at hok
 clear hin hq hi
 rw [lH]
 have hvok:∀ v ∈ l,VOk v 5 F.lines∧0≤v.Node∧v.Node<N.length:=λv hv=>by
  obtain ⟨q1,q2,q3,q4,q5,q6,q7⟩:=hok v hv
  exact ⟨⟨q1,q2,q3,⟨by omega,by omega⟩,q5,⟨q6.1,by omega⟩,q7⟩,q6⟩
 have hfu:=h.new hnu
 have hbu:=hb.keep hnu λ_ _ e=>e.elim
 have hsu:=hnu.size
 obtain ⟨Av,hAv⟩:∃ A:Nat→Prop,A=F.own fb N Cl.length:=⟨_,rfl⟩
 rw [←hAv] at hbu
 have st0:PlSt u fb F N Cl P c l.length Av (λ_=>[]):=by
  refine ⟨hfu,hc,λj pr hp=>⟨(hid.2 c hc j pr hp).2.1,?_⟩,λd hd hdc j p hp=>(hid.2 d hd j p hp).1,λk hA=>hfu.lt (by rw [←hAv];exact hA),λk hk=>by rw [hAv];exact hk⟩
  obtain ⟨hql,_,hqn⟩:=hid.2 c hc j pr hp
  exact ⟨.inl rfl,hql,by omega,by simp,λk hk=>by rw [hqn] at hk;exact absurd hk noB,λk hk=>by rw [hqn] at hk;exact absurd hk noB,by simp⟩
 refine aS mix (λm env z=>∃ (s:Nat) (P':Nat→List bS) (Q:Nat→List dR) (jj:List Value),m=l.length - s∧s≤l.length∧env=ej ⟨fb,0,none⟩ c a l.length cap s jj∧PlSt z fb F N Cl P' c l.length Av Q∧Cov N Q s∧(∀ j,(Q j).length≤s)∧Keep (λk=>k=F.pb c) w1 z) l.length
  ⟨0,P,λ_=>[],_,by omega,by omega,rfl,st0,λt ht=>by omega,λj=>by simp,Keep.of_new hnu⟩ ?_
 rintro m env z ⟨s,P',Q,jj,rfl,hs,rfl,hst,hcov,hql,hkz⟩
 rw [ke]
 refine aE (λhq=>?_) (λhq=>?_)
 ·have hgl:l[s]?=some l[s]:=List.getElem?_eq_getElem (by omega)
  have hvl:=hvok _ (List.getElem_mem (by omega:s<l.length))
  have hApb:Av (F.pb c):=by rw [hAv];exact .inr (.inr (.inr (.inr (.inl ⟨c,hc,rfl⟩))))
  have hbz:=hb.keep hkz λk _ e=>by rw [e,←hAv];exact hApb
  have hvb:=(hbz.vb _ (List.getElem_mem (by omega:s<l.length)))
  generalize l[s]=v at hgl hvl hvb
  rintro z1 hz1
  have hn1:New z z1:=by rw [hz1];exact aW _
  clear hz1
  have hst1:=hst.next hn1
  have h1:=hst1.fab
  obtain ⟨i,hi⟩:=Int.eq_ofNat_of_zero_le hvl.2.1
  have hPl:=(h1.pairs c hc).2
  have hgi:(P' c)[i]?=some (P' c)[i]:=List.getElem?_eq_getElem (by omega)
  obtain ⟨hpn,hpq⟩:=hst1.pairs i _ hgi
  have hqli:=hql i
  generalize (P' c)[i]=pr at hgi hpn hpq
  have hrd1:=ko (hkz.new hn1) hb.rd λk _ hbk e=>hb.off k hbk (by rw [e,←hAv];exact hApb)
  have eoff4:0+v.Node.toNat * 4=i * 4:=by omega
  refine ⟨λy=>Keep (λk=>k=F.pb c) z1 y∧Ba y fb F N Cl c,⟨Keep.refl _ _,P',h1⟩,_,_,_,λy hy=>by obtain ⟨_,P2,hy2⟩:=hy;exact hy2.fab.cell (i:=3) rfl,bG (by omega) (by omega) ⟨some ⟨F.pb c,0,none⟩,N.length,F.pc c,λy hy=>?_,?_⟩⟩
  ·obtain ⟨_,P2,hy2⟩:=hy
   rw [show 0+(c:Int).toNat * 1=c by omega]
   exact Owns.cell hy2.live (xO hc)
  have hrS:∀ {K:Addr→Prop},(∀ b o,(∀ y,Keep (λk=>k=F.pb c) z1 y∧Ba y fb F N Cl c→∀ (q:Nat) (x:Value),(bA.cells v)[q]?=some x→y.cell? ⟨b,o+q,none⟩=some x)→K ⟨b,o,none⟩)→idxS a l.length s 9 K:=by
   intro K hK
   exact vZ (cells:=bA.cells) bA.len (by omega) (S:=λy=>Keep (λk=>k=F.pb c) z1 y∧Ba y fb F N Cl c) (λy hy=>ko hy.1 hrd1 λk _ hbk e=>hb.off k hbk (by rw [e,←hAv];exact hApb)) ⟨Keep.refl _ _,P',h1⟩ hgl rfl rfl hK
  refine hrS λb o hcc=>⟨_,λy hy=>hcc y hy 1 _ rfl,bG hvl.2.1 hvl.2.2 ?_⟩
  refine hrS λb o hcc=>bA.mk_ex v ⟨λy hy=>fM (hcc y hy),_,λy hy=>by obtain ⟨_,P2,hy2⟩:=hy;exact hy2.fab.cell (i:=0) rfl,?_⟩
  rw [eoff4]
  refine aG (Gl h1 hc hgi (by omega) hvl.1 (hvb.1.next hn1) hst1.ams hApb hpq (by omega) (s:=s) (by omega)) ?_
  rintro x z2 ⟨rfl,qa,qn,qc,pd,hf2,hq2,hpd,hk2⟩
  have hst2:=hst1.set hk2 (λk _ e=>by rw [e];exact hApb) hgi hf2 hq2
  rw [w64 (x:=(s:Int)+1) (by omega) (by omega)]
  refine ⟨_,rfl,⟨hk2,_,hf2⟩,l.length - (s+1),by omega,s+1,_,_,_,rfl,by omega,rfl,hst2,λt ht=>?_,λj=>?_,(hkz.new hn1).trans hk2 λ_ _ e=>e⟩
  ·unfold setQ
   rcases Nat.lt_succ_iff_lt_or_eq.1 ht with ht | rfl
   ·obtain ⟨j,p,g1,g2,g3⟩:=hcov t ht
    refine ⟨j,p,g1,?_,g3⟩
    by_cases e:j=i
    ·subst e;rw [if_pos rfl];exact List.mem_append_left _ g2
    ·rw [if_neg e];exact g2
   ·exact ⟨i,pd,by omega,by rw [if_pos rfl];exact List.mem_append_right _ (List.mem_singleton.2 rfl),hpd⟩
  ·unfold setQ
   by_cases e:j=i
   ·rw [if_pos e,List.length_append];simp;omega
   ·rw [if_neg e];have:=hql j;omega
 have hsl:s=l.length:=by omega
 subst hsl
 rw [lI]
 have hz:=hst.fab
 generalize hcr:Cl[c]=cr at hg hon
 have hal:cr.Alive=true:=by rw [←hcr];exact h.alive _ (List.getElem_mem hc)
 have hsz:=hkz.size
 obtain ⟨m,hm⟩:∃ m,m=l.length:=⟨_,rfl⟩
 rw [←hm] at hst hcov hfew h1024 ⊢
 have hset:∀ (r:CliR),(Cl.set c r).length=Cl.length:=λr=>List.length_set ..
 obtain ⟨S,hS⟩:∃ S:World→CliR→Prop,S=λu row=>Keep (λk=>k=F.cb) z u∧Owns u TCl 7 (some ⟨F.cb,0,none⟩) Cl.length F.cc ((Cl.set c row).map CliR.cells).flatten:=⟨_,rfl⟩
 have s0:S z cr:=by
  rw [hS]
  refine ⟨Keep.refl _ _,?_⟩
  have e:Cl.set c cr=Cl:=by
   rw [←hcr]
   exact List.set_getElem_self hc
  rw [e]
  exact hz.clients
 have snew:∀ {u u':World} {row:CliR},S u row→New u u'→S u' row:=λh hn=>by
  rw [hS] at h ⊢
  exact ⟨h.1.new hn,Owns.new hn h.2⟩
 have hgs:∀ (row:CliR),(Cl.set c row)[c]?=some row:=λrow=>List.getElem?_set_self hc
 have stp:∀ {u:World} {row row':CliR} {j:Nat} {x:Value} {K:World→Prop},S u row→j<7→row.cells.set j x=row'.cells→(∀ u',S u' row'→Keep (λk=>k=F.cb) u u'→K u')→(∃ y,u.cell? ⟨F.cb,0+(c:Int).toNat * 7+j,none⟩=some y)∧u.frozen? ⟨F.cb,0+(c:Int).toNat * 7+j,none⟩=false∧∀ u',u'=u.setCell ⟨F.cb,0+(c:Int).toNat * 7+j,none⟩ x→K u':=by
  intro u row row' j x K h hj hx hK
  rw [hS] at h
  rw [eoff]
  refine ⟨⟨_,Owns.row CliR.len h.2 (hgs row) (j:=j) (v:=row.cells[j]'(by rw [CliR.len];exact hj)) (List.getElem?_eq_getElem _)⟩,Owns.frozen h.2,?_⟩
  rintro u' hu'
  have hk:Keep (λk=>k=F.cb) u u':=by rw [hu'];exact aN _ _ _ _
  have hrow:=Owns.setRow CliR.len h.2 (hgs row) (j:=j) (r':=row') (v:=x) hj hx
  rw [←hu',List.set_set] at hrow
  exact hK u' (by rw [hS];exact ⟨h.1.trans hk λ_ _ e=>e,hrow⟩) hk
 have mkD:∀ {u:World} {row:CliR} {K:Nat→World→Prop},S u row→(∀ b u',z.heap.size≤b→Blk u' b (gS (List.replicate m ⟨0,none,0,0⟩)).flatten 53→S u' row→New u u'→K b u')→mk3 m m 32 (.cells (reps (Int.toNat m) [(.int .i64 0),(.slice none 0 0)]).toArray 53) u K:=by
  intro u row K h hK
  refine ⟨by omega,by omega,by omega,by omega,?_⟩
  rintro b u' hb hu'
  obtain ⟨hbz,hn⟩:=aR hb hu'
  have hs:z.heap.size≤u.heap.size:=by rw [hS] at h;exact h.1.size
  refine hK b u' (by omega) ?_ (snew h hn) hn
  have e:(reps (Int.toNat m) [(.int .i64 0),(.slice none 0 0)])=(gS (List.replicate m ⟨0,none,0,0⟩)).flatten:=by
   rw [Int.toNat_natCast]
   simp [reps,gS,aY.cells]
  rw [←e]
  exact hbz
 have mkH:∀ {u:World} {row:CliR} {K:Nat→World→Prop},S u row→(∀ b u',z.heap.size≤b→Blk u' b (bs (List.replicate m false)) 4→S u' row→New u u'→K b u')→mk3 m m 1 (.cells (reps (Int.toNat m) [(.bool false)]).toArray 4) u K:=by
  intro u row K h hK
  refine ⟨by omega,by omega,by omega,by omega,?_⟩
  rintro b u' hb hu'
  obtain ⟨hbz,hn⟩:=aR hb hu'
  have hs:z.heap.size≤u.heap.size:=by rw [hS] at h;exact h.1.size
  refine hK b u' (by omega) ?_ (snew h hn) hn
  have e:(reps (Int.toNat m) [(.bool false)])=bs (List.replicate m false):=by
   rw [Int.toNat_natCast]
   simp [reps,bs]
  rw [←e]
  exact hbz
 have hcbl:F.cb<z.heap.size:=hz.lt (.inr (.inr (.inl rfl)))
 have keepD:∀ {u u':World} {b:Nat} {cs:List Value} {T:TypeId},z.heap.size≤b→Keep (λk=>k=F.cb) u u'→Blk u b cs T→Blk u' b cs T:=λhb hk h=>hk.blk h (by omega)
 have fin:∀ {u:World} {db hb:Nat},S u ⟨cr.Alive,cr.Inc,true,some ⟨db,0,none⟩,m,m,some ⟨hb,0,none⟩,m,m,cr.Trips,cr.Posted⟩→z.heap.size≤db→z.heap.size≤hb→Blk u db (gS (List.replicate m ⟨0,none,0,0⟩)).flatten 53→Blk u hb (bs (List.replicate m false)) 4→
   ∀ w7,w7=u.drew→∃ Sx:World→Prop,Sx w7∧∃ (Trips:Int),(∀ y,Sx y→y.cell? ⟨F.cb,0+(c:Int).toNat * 7+5,none⟩=some (.int .i64 Trips))∧∃ (Posted:Int),(∀ y,Sx y→y.cell? ⟨F.cb,0+(c:Int).toNat * 7+6,none⟩=some (.int .i64 Posted))∧(∃ y,w7.cell? ⟨F.cb,0+(c:Int).toNat * 7+5,none⟩=some y)∧w7.frozen? ⟨F.cb,0+(c:Int).toNat * 7+5,none⟩=false∧∀ w8,w8=w7.setCell ⟨F.cb,0+(c:Int).toNat * 7+5,none⟩ (.int .i64 (IntKind.i64.wrap (Trips+1)))→
    (∃ y,w8.cell? ⟨F.cb,0+(c:Int).toNat * 7+6,none⟩=some y)∧w8.frozen? ⟨F.cb,0+(c:Int).toNat * 7+6,none⟩=false∧∀ w9,w9=w8.setCell ⟨F.cb,0+(c:Int).toNat * 7+6,none⟩ (.int .i64 (IntKind.i64.wrap (Posted+(m:Int))))→Gm w1 fb F N Cl P c m (.int .i64 0) w9:=by
  intro u db hb hs1 hdb hhb hbd hbh
  rintro w7 hw7
  have hn7:New u w7:=by rw [hw7];exact aW _
  clear hw7
  have hs7:=snew hs1 hn7
  have hs7':=hs7
  rw [hS] at hs7'
  refine ⟨λy=>y=w7,rfl,cr.Trips,λy hy=>by rw [hy,eoff];exact Owns.row CliR.len hs7'.2 (hgs _) (j:=5) rfl,cr.Posted,λy hy=>by rw [hy,eoff];exact Owns.row CliR.len hs7'.2 (hgs _) (j:=6) rfl,?_⟩
  refine stp hs7 (row':=⟨cr.Alive,cr.Inc,true,some ⟨db,0,none⟩,m,m,some ⟨hb,0,none⟩,m,m,IntKind.i64.wrap (cr.Trips+1),cr.Posted⟩) (by omega) rfl λw8 hs8 hk8=>?_
  refine stp hs8 (row':=⟨cr.Alive,cr.Inc,true,some ⟨db,0,none⟩,m,m,some ⟨hb,0,none⟩,m,m,IntKind.i64.wrap (cr.Trips+1),IntKind.i64.wrap (cr.Posted+(m:Int))⟩) (by omega) rfl λw9 hs9 hk9=>?_
  rw [hS] at hs9
  obtain ⟨hkz9,hown9⟩:=hs9
  generalize hrow:(⟨cr.Alive,cr.Inc,true,some ⟨db,0,none⟩,m,m,some ⟨hb,0,none⟩,m,m,IntKind.i64.wrap (cr.Trips+1),IntKind.i64.wrap (cr.Posted+(m:Int))⟩:CliR)=row at hown9
  have hbd9:=keepD hdb hk9 (keepD hdb hk8 (New.blk hn7 hbd))
  have hbh9:=keepD hhb hk9 (keepD hhb hk8 (New.blk hn7 hbh))
  have hf9:=hz.reClient (Cl':=Cl.set c row) hkz9 (hset row) (by rw [hset];exact hown9) (λr hr=>by
   rcases List.mem_or_eq_of_mem_set hr with hr | rfl
   ·exact hz.alive r hr
   ·rw [←hrow];exact hal)
  have hcbA:Av F.cb:=hst.own _ (.inr (.inr (.inl rfl)))
  refine .inr ⟨rfl,Cl.set c row,P',λk=>Av k∨k=db∨k=hb,Q,db,hb,List.replicate m ⟨0,none,0,0⟩,List.replicate m false,⟨⟨hf9,by rw [hset];exact hc,λi pr hi=>⟨(hst.pairs i pr hi).1,?_⟩,λd hd=>hst.others d (by rw [hset] at hd;exact hd),λk hA=>?_,λk hk=>.inl (hst.own k (by rw [hset] at hk;exact hk))⟩,⟨row,hgs row,by rw [←hrow],by rw [←hrow],by rw [←hrow],by rw [←hrow],by rw [←hrow]⟩,hbd9,by simp,λd hd=>?_,hbh9,by simp,λt ht=>?_,⟨.inr (.inl rfl),.inr (.inr rfl)⟩,⟨λe=>?_,λe=>?_⟩⟩,hset row,by omega,by omega,(hkz.mono λk _ e=>.inl e).trans hkz9 λk _ e=>.inr e,λk hA=>?_⟩
  ·refine ((hst.pairs i pr hi).2.to (Av':=λk=>Av k∨k=db∨k=hb) λk hlt e=>?_).keep hkz9 λk _ e=>.inl (by rw [e];exact hcbA)
   rcases e with e | e | e
   ·exact e
   ·omega
   ·omega
  ·have:=hkz9.size
   rcases hA with e | e | e
   ·have:=hst.ams k e;omega
   ·rw [e];exact hbd9.lt
   ·rw [e];exact hbh9.lt
  ·rw [List.eq_of_mem_replicate hd]
   exact ⟨⟨[],.inl rfl,rfl,by simp,by simp⟩,λk hk=>absurd hk noB,λk hk=>absurd hk noB⟩
  ·have htm:=dF ht
   rw [List.length_replicate] at htm
   exact hcov t htm
  ·rw [hset] at e;have:=hz.lt e;omega
  ·rw [hset] at e;have:=hz.lt e;omega
  ·rcases hA with e | e | e
   ·rw [hAv] at e;exact .inl e
   ·exact .inr (by omega)
   ·exact .inr (by omega)
 refine ⟨_,_,_,hz.fab.cell (i:=2) rfl,bG (by omega) (by omega) ?_⟩
 rintro z1 hz1
 have hn1:New z z1:=by rw [hz1];exact aW _
 clear hz1
 have s1:=snew s0 hn1
 exact ⟨mkD s1 λdb u1 hdb hbd q1 hn1=>⟨mkH q1 λhb u2 hhb hbh q2 hn2=>stp q2 (row':=⟨cr.Alive,cr.Inc,true,cr.Done,cr.Dl,cr.Dc,cr.Have,cr.Hl,cr.Hc,cr.Trips,cr.Posted⟩) (by omega) rfl λu3 q3 hk3=>stp q3 (row':=⟨cr.Alive,cr.Inc,true,some ⟨db,0,none⟩,m,m,cr.Have,cr.Hl,cr.Hc,cr.Trips,cr.Posted⟩) (by omega) rfl λu4 q4 hk4=>stp q4 (row':=⟨cr.Alive,cr.Inc,true,some ⟨db,0,none⟩,m,m,some ⟨hb,0,none⟩,m,m,cr.Trips,cr.Posted⟩) (by omega) rfl λu5 q5 hk5=>fin q5 hdb hhb (keepD hdb hk5 (keepD hdb hk4 (keepD hdb hk3 (New.blk hn2 hbd)))) (keepD hhb hk5 (keepD hhb hk4 (keepD hhb hk3 hbh))),stp q1 (row':=⟨cr.Alive,cr.Inc,true,cr.Done,cr.Dl,cr.Dc,cr.Have,cr.Hl,cr.Hc,cr.Trips,cr.Posted⟩) (by omega) rfl λu2 q2 hk2=>⟨mkH q2 λhb u3 hhb hbh q3 hn3=>stp q3 (row':=⟨cr.Alive,cr.Inc,true,some ⟨db,0,none⟩,m,m,cr.Have,cr.Hl,cr.Hc,cr.Trips,cr.Posted⟩) (by omega) rfl λu4 q4 hk4=>stp q4 (row':=⟨cr.Alive,cr.Inc,true,some ⟨db,0,none⟩,m,m,some ⟨hb,0,none⟩,m,m,cr.Trips,cr.Posted⟩) (by omega) rfl λu5 q5 hk5=>fin q5 hdb hhb (keepD hdb hk5 (keepD hdb hk4 (New.blk hn3 (keepD hdb hk2 hbd)))) (keepD hhb hk5 (keepD hhb hk4 hbh)),stp q2 (row':=⟨cr.Alive,cr.Inc,true,some ⟨db,0,none⟩,m,m,cr.Have,cr.Hl,cr.Hc,cr.Trips,cr.Posted⟩) (by omega) rfl λu3 q3 hk3=>mkH q3 λhb u4 hhb hbh q4 hn4=>stp q4 (row':=⟨cr.Alive,cr.Inc,true,some ⟨db,0,none⟩,m,m,some ⟨hb,0,none⟩,m,m,cr.Trips,cr.Posted⟩) (by omega) rfl λu5 q5 hk5=>fin q5 hdb hhb (keepD hdb hk5 (New.blk hn4 (keepD hdb hk3 (keepD hdb hk2 hbd)))) (keepD hhb hk5 hbh)⟩⟩,mkH s1 λhb u1 hhb hbh q1 hn1=>⟨mkD q1 λdb u2 hdb hbd q2 hn2=>stp q2 (row':=⟨cr.Alive,cr.Inc,true,cr.Done,cr.Dl,cr.Dc,cr.Have,cr.Hl,cr.Hc,cr.Trips,cr.Posted⟩) (by omega) rfl λu3 q3 hk3=>stp q3 (row':=⟨cr.Alive,cr.Inc,true,some ⟨db,0,none⟩,m,m,cr.Have,cr.Hl,cr.Hc,cr.Trips,cr.Posted⟩) (by omega) rfl λu4 q4 hk4=>stp q4 (row':=⟨cr.Alive,cr.Inc,true,some ⟨db,0,none⟩,m,m,some ⟨hb,0,none⟩,m,m,cr.Trips,cr.Posted⟩) (by omega) rfl λu5 q5 hk5=>fin q5 hdb hhb (keepD hdb hk5 (keepD hdb hk4 (keepD hdb hk3 hbd))) (keepD hhb hk5 (keepD hhb hk4 (keepD hhb hk3 (New.blk hn2 hbh)))),stp q1 (row':=⟨cr.Alive,cr.Inc,true,cr.Done,cr.Dl,cr.Dc,cr.Have,cr.Hl,cr.Hc,cr.Trips,cr.Posted⟩) (by omega) rfl λu2 q2 hk2=>mkD q2 λdb u3 hdb hbd q3 hn3=>stp q3 (row':=⟨cr.Alive,cr.Inc,true,some ⟨db,0,none⟩,m,m,cr.Have,cr.Hl,cr.Hc,cr.Trips,cr.Posted⟩) (by omega) rfl λu4 q4 hk4=>stp q4 (row':=⟨cr.Alive,cr.Inc,true,some ⟨db,0,none⟩,m,m,some ⟨hb,0,none⟩,m,m,cr.Trips,cr.Posted⟩) (by omega) rfl λu5 q5 hk5=>fin q5 hdb hhb (keepD hdb hk5 (keepD hdb hk4 hbd)) (keepD hhb hk5 (keepD hhb hk4 (New.blk hn3 (keepD hhb hk2 hbh))))⟩,stp s1 (row':=⟨cr.Alive,cr.Inc,true,cr.Done,cr.Dl,cr.Dc,cr.Have,cr.Hl,cr.Hc,cr.Trips,cr.Posted⟩) (by omega) rfl λu1 q1 hk1=>⟨mkD q1 λdb u2 hdb hbd q2 hn2=>⟨mkH q2 λhb u3 hhb hbh q3 hn3=>stp q3 (row':=⟨cr.Alive,cr.Inc,true,some ⟨db,0,none⟩,m,m,cr.Have,cr.Hl,cr.Hc,cr.Trips,cr.Posted⟩) (by omega) rfl λu4 q4 hk4=>stp q4 (row':=⟨cr.Alive,cr.Inc,true,some ⟨db,0,none⟩,m,m,some ⟨hb,0,none⟩,m,m,cr.Trips,cr.Posted⟩) (by omega) rfl λu5 q5 hk5=>fin q5 hdb hhb (keepD hdb hk5 (keepD hdb hk4 (New.blk hn3 hbd))) (keepD hhb hk5 (keepD hhb hk4 hbh)),stp q2 (row':=⟨cr.Alive,cr.Inc,true,some ⟨db,0,none⟩,m,m,cr.Have,cr.Hl,cr.Hc,cr.Trips,cr.Posted⟩) (by omega) rfl λu3 q3 hk3=>mkH q3 λhb u4 hhb hbh q4 hn4=>stp q4 (row':=⟨cr.Alive,cr.Inc,true,some ⟨db,0,none⟩,m,m,some ⟨hb,0,none⟩,m,m,cr.Trips,cr.Posted⟩) (by omega) rfl λu5 q5 hk5=>fin q5 hdb hhb (keepD hdb hk5 (New.blk hn4 (keepD hdb hk3 hbd))) (keepD hhb hk5 hbh)⟩,mkH q1 λhb u2 hhb hbh q2 hn2=>mkD q2 λdb u3 hdb hbd q3 hn3=>stp q3 (row':=⟨cr.Alive,cr.Inc,true,some ⟨db,0,none⟩,m,m,cr.Have,cr.Hl,cr.Hc,cr.Trips,cr.Posted⟩) (by omega) rfl λu4 q4 hk4=>stp q4 (row':=⟨cr.Alive,cr.Inc,true,some ⟨db,0,none⟩,m,m,some ⟨hb,0,none⟩,m,m,cr.Trips,cr.Posted⟩) (by omega) rfl λu5 q5 hk5=>fin q5 hdb hhb (keepD hdb hk5 (keepD hdb hk4 hbd)) (keepD hhb hk5 (keepD hhb hk4 (New.blk hn3 hbh)))⟩⟩
end Go.Proofs.YtafopfaomkklpaaGreat
namespace Go.Proofs.YtafopfaomkklpaaGreat
open Go.Proofs.Tryz
open Go.Eng
abbrev TCh:TypeId:=105
theorem dC.ccell {w:World} {fb:Nat} {F:Fa} {N:List cB} {Cl:List CliR} {P:Nat→List bS} (h:dC w fb F N Cl P) {c:Nat} {cr:CliR} (hg:Cl[c]?=some cr) {j:Nat} {v:Value} (hv:cr.cells[j]?=some v):w.cell? ⟨F.cb,0+(c:Int).toNat * 7+j,none⟩=some v:=by
 rw [show 0+(c:Int).toNat * 7+j=c * 7+j by omega]
 exact Owns.row CliR.len h.clients hg hv
theorem Fw {l:List Bool} {i:Nat} {x:Bool} (h:l[i]?=some x):(bs l)[i]?=some (.bool x):=by simp [bs,h]
def If (hv:List Bool) (u:World) (x:Value) (u':World):Prop:=u'=u∧∃ k:Nat,x=.int .i64 k∧(0<k→∃ t:Nat,hv[t]?=some false)
theorem yO {u:World} {fb:Nat} {F:Fa} {N:List cB} {Cl:List CliR} {P:Nat→List bS} {c m:Nat} {Av:Nat→Prop} {Q:Nat→List dR} {db hb:Nat} {dn:List aY} {hv:List Bool} (h:uX u fb F N Cl P c m Av Q db hb dn hv) (hm:m≤1000000) :
  Does 37 [.pointer (some ⟨fb,0,none⟩),.int .i64 c] u (If hv u):=by
 refine does Tryz.func37 ?_
 rw [mG]
 obtain ⟨cr,hg,hon,hd,hdl,hh,hhl⟩:=h.row
 have hf:=h.st.fab
 have hc:=h.st.hc
 have hlen:=h.hlen
 refine aE (λe=>absurd e (by omega)) (λ_=>⟨_,_,_,hf.fab.cell (i:=2) rfl,aE (λe=>absurd e (by omega)) (λ_=>⟨_,_,_,hf.fab.cell (i:=2) rfl,bG (by omega) (by omega) ⟨cr.On,hf.ccell hg (j:=2) rfl,?_⟩⟩)⟩)
 rw [hon]
 refine dM rfl ?_
 refine aS mix (λq env z=>∃ (i k:Nat) (jj:List Value),q=m - i∧i≤m∧env=cJ ⟨fb,0,none⟩ c k i jj∧z=u∧k≤i∧(0<k→∃ t:Nat,hv[t]?=some false)) m
  ⟨0,0,_,by omega,by omega,rfl,rfl,by omega,λe=>absurd e (by omega)⟩ ?_
 rintro q env z ⟨i,k,jj,rfl,hi,rfl,rfl,hki,hk⟩
 rw [jr]
 have hH:z.cell? ⟨F.cb,0+(c:Int).toNat * 7+4,none⟩=some (.slice (some ⟨hb,0,none⟩) m cr.Hc):=by
  have:=hf.ccell hg (j:=4) rfl
  rw [hh,hhl] at this
  exact this
 refine ⟨_,_,_,hf.fab.cell (i:=2) rfl,bG (by omega) (by omega) ⟨_,_,_,hH,aE (λhlt=>⟨_,_,_,hf.fab.cell (i:=2) rfl,bG (by omega) (by omega) ⟨_,_,_,hH,bG (by omega) (by omega) ?_⟩⟩) (λhge=>?_)⟩⟩
 ·have hgi:hv[i]?=some hv[i]:=List.getElem?_eq_getElem (by omega)
  generalize hv[i]=x at hgi
  rw [w64 (x:=(k:Int)+1) (by omega) (by omega),w64 (x:=(i:Int)+1) (by omega) (by omega)]
  refine ⟨x,?_,?_⟩
  ·rw [show 0+(i:Int).toNat * 1=i by omega]
   exact h.have_.cell (Fw hgi)
  ·cases x
   ·exact cG rfl ⟨m - (i+1),by omega,i+1,k+1,_,rfl,by omega,rfl,rfl,by omega,λ_=>⟨i,hgi⟩⟩
   ·exact dM rfl ⟨m - (i+1),by omega,i+1,k,_,rfl,by omega,rfl,rfl,by omega,hk⟩
 ·rw [kf]
  exact ⟨rfl,k,rfl,hk⟩
def ChR (N:List cB) (c:Nat) (Q:Nat→List dR) (u:World) (x:Value) (u':World):Prop:=∃ (a:Option Addr) (cap:Nat) (cs:List aL),x=.slice a cs.length cap∧New u u'∧Rd u' a (cs.map aL.cells).flatten∧(∀ ch ∈ cs,∃ i:Nat,ch=⟨-1,c,i⟩∧i<N.length∧Q i≠[])∧((∃ i,i<N.length∧Q i≠[])→cs≠[])
theorem Ht {u:World} {a:Option Addr} {n cap:Nat} {l:List aL} (ho:Owns u TCh 3 a n cap (l.map aL.cells).flatten) {s:Option Addr} {m c:Nat} {l2:List aL} (hs:Rd u s (l2.map aL.cells).flatten) (hm:m=l2.length) (hn:n+m≤1000000) {K:Option Addr→Nat→Nat→World→Prop}
  (hk:∀ ap cap' w3,Owns w3 TCh 3 ap (n+m) cap' ((l++l2).map aL.cells).flatten→Keep (isB a) u w3→(∀ k,isB ap k→isB a k∨u.heap.size≤k)→K ap (n+m) cap' w3) :
  ∃ (ap:Option Addr) (ap_len ap_cap:Nat),∃ w3,(Builtin.append_ #[106,106] 106 #[(.slice a n cap),(.slice s m c)]).run prog u=.ok (.slice ap ap_len ap_cap) w3∧K ap ap_len ap_cap w3:=by
 obtain ⟨inf,hi,hz,hsz,hby⟩:=p7 (T:=TCh) (z:=.agg #[.int .i64 0,.int .i64 0,.int .i64 0]) (n:=3) (m:=24) (by kernel_rfl)
 exact pH (cells:=aL.cells) aL.len aL.single Tryz.underlying106 hi hz (by rw [hsz];rfl) hsz (by omega) (by omega) ho hs hm hn hk
theorem C9 {u:World} {fb:Nat} {F:Fa} {N:List cB} {Cl:List CliR} {P:Nat→List bS} {c m:Nat} {Av:Nat→Prop} {Q:Nat→List dR} (h:PlSt u fb F N Cl P c m Av Q) :
  Does 39 [.pointer (some ⟨fb,0,none⟩)] u (ChR N c Q u):=by
 refine does Tryz.func39 ?_
 rw [mH]
 have hf:=h.fab
 have hc:=h.hc
 have hN:=hf.n1
 have hC:=hf.c1
 obtain ⟨I,hI⟩:∃ I:World→Option Addr→Nat→Nat→List aL→Prop,I=λz a n cap cs=>n=cs.length∧New u z∧Owns z TCh 3 a n cap (cs.map aL.cells).flatten∧(∀ k,isB a k→u.heap.size≤k)∧∀ ch ∈ cs,∃ i:Nat,ch=⟨-1,c,i⟩∧i<N.length∧Q i≠[]:=⟨_,rfl⟩
 have I0:I u none 0 0 []:=by
  rw [hI]
  exact ⟨rfl,Keep.refl _ _,Owns.nil _ _ _,λk hk=>absurd hk noB,by simp⟩
 refine aS mix (λq env z=>∃ (d:Nat) (a:Option Addr) (n cap:Nat) (cs:List aL) (jj:List Value),q=Cl.length - d∧d≤Cl.length∧env=dG ⟨fb,0,none⟩ a n cap d jj∧I z a n cap cs∧n≤d * 5∧(c<d→(∃ i,i<N.length∧Q i≠[])→cs≠[])) Cl.length
  ⟨0,none,0,0,[],_,by omega,by omega,rfl,I0,by omega,λe=>absurd e (by omega)⟩ ?_
 rintro q env z ⟨d,a,n,cap,cs,jj,rfl,hd,rfl,hIz,hn5,hne⟩
 rw [jt]
 have hIz':=hIz
 rw [hI] at hIz'
 obtain ⟨hnl,hnz,how,hfr,hch⟩:=hIz'
 have hfz:=hf.new hnz
 refine ⟨_,_,_,hfz.fab.cell (i:=3) rfl,aE (λhlt=>?_) (λhge=>?_)⟩
 ·have hdl:d<Cl.length:=by omega
  refine aS mix (λq env y=>∃ (i:Nat) (a:Option Addr) (n cap:Nat) (cs:List aL) (jj:List Value),q=N.length - i∧i≤N.length∧env=cK ⟨fb,0,none⟩ a n cap d i jj∧I y a n cap cs∧n≤d * 5+i∧(c<d→(∃ i,i<N.length∧Q i≠[])→cs≠[])∧(c=d→(∃ j,j<i∧Q j≠[])→cs≠[])) N.length
   ⟨0,a,n,cap,cs,_,by omega,by omega,rfl,hIz,by omega,hne,λ_ ⟨j,hj,_⟩=>absurd hj (by omega)⟩ ?_
  clear hIz hnl hnz how hfr hch hfz hne hn5
  rintro q env y ⟨i,a,n,cap,cs,jj,rfl,hi,rfl,hIy,hn5,hne,hne2⟩
  rw [jv]
  have hIy':=hIy
  rw [hI] at hIy'
  obtain ⟨hnl,hny,how,hfr,hch⟩:=hIy'
  have hfy:=hf.new hny
  have hlv:y.cell? ⟨F.lb,0+(d:Int).toNat * 1,none⟩=some (.slice (some ⟨F.pb d,0,none⟩) N.length (F.pc d)):=by
   rw [show 0+(d:Int).toNat * 1=d by omega]
   exact Owns.cell hfy.live (xO hdl)
  refine ⟨_,_,_,hfy.fab.cell (i:=3) rfl,bG (by omega) (by omega) ⟨_,_,_,hlv,aE (λhil=>?_) (λhil=>?_)⟩⟩
  ·have hPl:=(hfy.pairs d hdl).2
   have hgi:(P d)[i]?=some (P d)[i]:=List.getElem?_eq_getElem (by omega)
   generalize (P d)[i]=pr at hgi
   have hqc:y.cell? ⟨F.pb d,0+(i:Int).toNat * 4+3,none⟩=some (.slice pr.Queue pr.Ql pr.Qc):=by
    rw [show 0+(i:Int).toNat * 4+3=i * 4+3 by omega]
    exact Owns.row bS.len (hfy.pairs d hdl).1 hgi (j:=3) rfl
   rw [w64 (x:=(i:Int)+1) (by omega) (by omega)]
   refine ⟨_,_,_,hfy.fab.cell (i:=3) rfl,bG (by omega) (by omega) ⟨_,_,_,hlv,bG (by omega) (by omega) ⟨_,_,_,hqc,aE (λhpos=>?_) (λhpos=>?_)⟩⟩⟩
   ·have hdc:d=c:=by
     by_cases e:d=c
     ·exact e
     ·have:=h.others d hdl e i pr hgi
      omega
    subst hdc
    have hqi:=(h.pairs i pr hgi).2
    have hQ:Q i≠[]:=by
     intro e
     have:=hqi.len
     rw [e] at this
     simp at this
     omega
    rintro b1 w1 hb1 hw1
    obtain ⟨hz1,hn1⟩:=aR hb1 hw1
    have hz1:Blk w1 b1 (aL.cells ⟨-1,d,i⟩) TCh:=hz1
    clear hw1
    have hy:=hny.size
    refine Ht (m:=1) (l2:=[⟨-1,d,i⟩]) (Owns.keep hn1 how λ_ _ e=>e) (eV hz1 rfl) rfl (by omega) λap cap' w3 ho3 hk3 hap=>?_
    refine ⟨N.length - (i+1),by omega,i+1,ap,n+1,cap',cs++[⟨-1,d,i⟩],_,rfl,by omega,rfl,?_,by omega,λ_ _=>by simp,λ_ _=>by simp⟩
    rw [hI]
    refine ⟨by simp;omega,(hny.new hn1).trans hk3 λk hlt hk=>?_,ho3,λk hk=>?_,λch hc'=>?_⟩
    ·have:=hfr k hk;omega
    ·have hs1:=hn1.size
     rcases hap k hk with e | e
     ·exact hfr k e
     ·omega
    ·rcases List.mem_append.1 hc' with e | e
     ·exact hch ch e
     ·exact ⟨i,List.mem_singleton.1 e,by omega,hQ⟩
   ·refine ⟨N.length - (i+1),by omega,i+1,a,n,cap,cs,_,rfl,by omega,rfl,hIy,by omega,hne,λe hj=>?_⟩
    obtain ⟨j,hj,hQj⟩:=hj
    by_cases hji:j=i
    ·subst hji
     subst e
     have hqi:=(h.pairs j pr hgi).2
     have:=hqi.len
     exact absurd (List.length_eq_zero_iff.1 (by omega)) hQj
    ·exact hne2 e ⟨j,by omega,hQj⟩
  ·rw [ki,w64 (x:=(d:Int)+1) (by omega) (by omega)]
   refine ⟨Cl.length - (d+1),by omega,d+1,a,n,cap,cs,_,rfl,by omega,rfl,hIy,by omega,λe hj=>?_⟩
   obtain ⟨j,hj,hQj⟩:=hj
   by_cases e2:c=d
   ·exact hne2 e2 ⟨j,by omega,hQj⟩
   ·exact hne (by omega) ⟨j,hj,hQj⟩
 ·rw [kg]
  refine aS mix (λq env y=>∃ (jj:List Value),q=0∧env=dH ⟨fb,0,none⟩ a n cap 0 jj∧y=z) 0 ⟨_,rfl,rfl,rfl⟩ ?_
  rintro q env y ⟨jj,rfl,rfl,rfl⟩
  rw [jw]
  refine ⟨_,_,_,hfz.fab.cell (i:=4) rfl,aE (λe=>absurd e (by omega)) (λ_=>?_)⟩
  rw [kj]
  subst hnl
  exact ⟨a,cap,cs,rfl,hnz,how.rd,hch,hne (by omega)⟩
def Ig (u:World) (fb:Nat) (F:Fa) (N:List cB) (Cl:List CliR) (P:Nat→List bS) (m db:Nat) (x:Value) (u':World):Prop:=(x=.tuple #[.slice none 0 0,.bool false]∧u'=u)∨∃ cap,x=.tuple #[.slice (some ⟨db,0,none⟩) m cap,.bool true]∧Keep (λk=>k=F.cb) u u'
theorem Hu {u:World} {fb:Nat} {F:Fa} {N:List cB} {Cl:List CliR} {P:Nat→List bS} {c m:Nat} {Av:Nat→Prop} {Q:Nat→List dR} {db hb:Nat} {dn:List aY} {hv:List Bool} (h:uX u fb F N Cl P c m Av Q db hb dn hv) (hm:m≤1000000) :
  Does 40 [.pointer (some ⟨fb,0,none⟩),.int .i64 c] u (Ig u fb F N Cl P m db):=by
 refine does Tryz.func40 ?_
 rw [pm]
 obtain ⟨cr,hg,hon,hd,hdl,hh,hhl⟩:=h.row
 have hf:=h.st.fab
 have hc:=h.st.hc
 refine aG (C8 hf hc) ?_
 rintro x w1 ⟨rfl,rfl⟩
 refine ⟨_,rfl,dM rfl ⟨_,_,_,hf.fab.cell (i:=2) rfl,bG (by omega) (by omega) ⟨cr.On,hf.ccell hg (j:=2) rfl,?_⟩⟩⟩
 rw [hon]
 refine dM rfl ?_
 refine aG (yO h hm) ?_
 rintro x w2 ⟨rfl,k,rfl,hk⟩
 refine ⟨_,rfl,aE (λ_=>.inl ⟨rfl,rfl⟩) (λ_=>⟨_,_,_,hf.fab.cell (i:=2) rfl,bG (by omega) (by omega) ⟨cr.Done,cr.Dl,cr.Dc,hf.ccell hg (j:=3) rfl,?_⟩⟩)⟩
 rintro w3 hw3
 have hn3:New w2 w3:=by rw [hw3];exact aW _
 clear hw3
 have h3:=hf.new hn3
 have hg0:Cl[c]?=some Cl[c]:=List.getElem?_eq_getElem hc
 refine ⟨λy=>y=w3,rfl,_,_,_,λy hy=>by rw [hy];exact h3.fab.cell (i:=2) rfl,_,_,_,λy hy=>by rw [hy];exact h3.fab.cell (i:=2) rfl,_,_,_,λy hy=>by rw [hy];exact h3.fab.cell (i:=2) rfl,?_⟩
 have eoff:∀ j,0+(c:Int).toNat * 7+j=c * 7+j:=λj=>by omega
 have stp:∀ {z:World} {row row':CliR} {L:List CliR} {j:Nat} {x:Value} {K:World→Prop},Owns z TCl 7 (some ⟨F.cb,0,none⟩) Cl.length F.cc (L.map CliR.cells).flatten→L[c]?=some row→j<7→row.cells.set j x=row'.cells→(∀ (z':World) (L':List CliR),Owns z' TCl 7 (some ⟨F.cb,0,none⟩) Cl.length F.cc (L'.map CliR.cells).flatten→L'[c]?=some row'→Keep (λk=>k=F.cb) z z'→K z')→(∃ y,z.cell? ⟨F.cb,0+(c:Int).toNat * 7+j,none⟩=some y)∧z.frozen? ⟨F.cb,0+(c:Int).toNat * 7+j,none⟩=false∧∀ z',z'=z.setCell ⟨F.cb,0+(c:Int).toNat * 7+j,none⟩ x→K z':=by
  intro z row row' L j x K ho hL hj hx hK
  rw [eoff]
  refine ⟨⟨_,Owns.row CliR.len ho hL (j:=j) (v:=row.cells[j]'(by rw [CliR.len];exact hj)) (List.getElem?_eq_getElem _)⟩,Owns.frozen ho,?_⟩
  rintro z' hz'
  have hk:Keep (λk=>k=F.cb) z z':=by rw [hz'];exact aN _ _ _ _
  have hrow:=Owns.setRow CliR.len ho hL (j:=j) (r':=row') (v:=x) hj hx
  rw [←hz'] at hrow
  exact hK z' _ hrow (List.getElem?_set_self (dF hL)) hk
 refine bG (by omega) (by omega) (stp h3.clients hg (j:=2) (row':=⟨cr.Alive,cr.Inc,false,cr.Done,cr.Dl,cr.Dc,cr.Have,cr.Hl,cr.Hc,cr.Trips,cr.Posted⟩) (by omega) rfl λw4 L4 ho4 hL4 hk4=>?_)
 refine bG (by omega) (by omega) (stp ho4 hL4 (j:=3) (row':=⟨cr.Alive,cr.Inc,false,none,0,0,cr.Have,cr.Hl,cr.Hc,cr.Trips,cr.Posted⟩) (by omega) rfl λw5 L5 ho5 hL5 hk5=>?_)
 refine bG (by omega) (by omega) (stp ho5 hL5 (j:=4) (row':=⟨cr.Alive,cr.Inc,false,none,0,0,none,0,0,cr.Trips,cr.Posted⟩) (by omega) rfl λw6 L6 ho6 hL6 hk6=>?_)
 refine .inr ⟨cr.Dc,by rw [hd,hdl],((Keep.of_new hn3).trans hk4 λ_ _ e=>e).trans (hk5.trans hk6 λ_ _ e=>e) λ_ _ e=>e⟩
end Go.Proofs.YtafopfaomkklpaaGreat
