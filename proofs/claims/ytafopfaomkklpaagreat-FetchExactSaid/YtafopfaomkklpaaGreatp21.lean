/- A part of the proof. -/
import Derived.Test.YtafopfaomkklpaaGreatp20
set_option linter.unusedVariables false
namespace Go.Proofs.YtafopfaomkklpaaGreat
open Go.Proofs.Tryz
open Go.Eng
abbrev TCh:TypeId:=105
theorem cY.ccell {w:World} {fb:Nat} {F:Fa} {N:List bS} {Cl:List CliR} {P:Nat→List bJ} (h:cY w fb F N Cl P) {c:Nat} {cr:CliR} (hg:Cl[c]?=some cr) {j:Nat} {v:Value} (hv:cr.cells[j]?=some v):w.cell? ⟨F.cb,0+(c:Int).toNat * 7+j,none⟩=some v:=by
 rw [show 0+(c:Int).toNat * 7+j=c * 7+j by omega]
 exact Owns.row CliR.len h.clients hg hv
theorem Dg {l:List Bool} {i:Nat} {x:Bool} (h:l[i]?=some x):(bs l)[i]?=some (.bool x):=by simp [bs,h]
def Fj (hv:List Bool) (u:World) (x:Value) (u':World):Prop:=u'=u∧∃ k:Nat,x=.int .i64 k∧(0<k→∃ t:Nat,hv[t]?=some false)
theorem wG {u:World} {fb:Nat} {F:Fa} {N:List bS} {Cl:List CliR} {P:Nat→List bJ} {c m:Nat} {Av:Nat→Prop} {Q:Nat→List dE} {db hb:Nat} {dn:List aV} {hv:List Bool} (h:tq u fb F N Cl P c m Av Q db hb dn hv) (hm:m≤1000000) :
  Does 37 [.pointer (some ⟨fb,0,none⟩),.int .i64 c] u (Fj hv u):=by
 refine does Tryz.func37 ?_
 rw [lD]
 obtain ⟨cr,hg,hon,hd,hdl,hh,hhl⟩:=h.row
 have hf:=h.st.fab
 have hc:=h.st.hc
 have hlen:=h.hlen
 refine aD (λe=>absurd e (by omega)) (λ_=>⟨_,_,_,hf.fab.cell (i:=2) rfl,aD (λe=>absurd e (by omega)) (λ_=>⟨_,_,_,hf.fab.cell (i:=2) rfl,bI (by omega) (by omega) ⟨cr.On,hf.ccell hg (j:=2) rfl,?_⟩⟩)⟩)
 rw [hon]
 refine eE rfl ?_
 refine aW mix (λq env z=>∃ (i k:Nat) (jj:List Value),q=m - i∧i≤m∧env=bZ ⟨fb,0,none⟩ c k i jj∧z=u∧k≤i∧(0<k→∃ t:Nat,hv[t]?=some false)) m
  ⟨0,0,_,by omega,by omega,rfl,rfl,by omega,λe=>absurd e (by omega)⟩ ?_
 rintro q env z ⟨i,k,jj,rfl,hi,rfl,rfl,hki,hk⟩
 rw [iE]
 have hH:z.cell? ⟨F.cb,0+(c:Int).toNat * 7+4,none⟩=some (.slice (some ⟨hb,0,none⟩) m cr.Hc):=by
  have:=hf.ccell hg (j:=4) rfl
  rw [hh,hhl] at this
  exact this
 refine ⟨_,_,_,hf.fab.cell (i:=2) rfl,bI (by omega) (by omega) ⟨_,_,_,hH,aD (λhlt=>⟨_,_,_,hf.fab.cell (i:=2) rfl,bI (by omega) (by omega) ⟨_,_,_,hH,bI (by omega) (by omega) ?_⟩⟩) (λhge=>?_)⟩⟩
 ·have hgi:hv[i]?=some hv[i]:=List.getElem?_eq_getElem (by omega)
  generalize hv[i]=x at hgi
  rw [w64 (x:=(k:Int)+1) (by omega) (by omega),w64 (x:=(i:Int)+1) (by omega) (by omega)]
  refine ⟨x,?_,?_⟩
  ·rw [show 0+(i:Int).toNat * 1=i by omega]
   exact h.have_.cell (Dg hgi)
  ·cases x
   ·exact cM rfl ⟨m - (i+1),by omega,i+1,k+1,_,rfl,by omega,rfl,rfl,by omega,λ_=>⟨i,hgi⟩⟩
   ·exact eE rfl ⟨m - (i+1),by omega,i+1,k,_,rfl,by omega,rfl,rfl,by omega,hk⟩
 ·rw [i6]
  exact ⟨rfl,k,rfl,hk⟩
def ChR (N:List bS) (c:Nat) (Q:Nat→List dE) (u:World) (x:Value) (u':World):Prop:=∃ (a:Option Addr) (cap:Nat) (cs:List aJ),x=.slice a cs.length cap∧New u u'∧Rd u' a (cs.map aJ.cells).flatten∧(∀ ch ∈ cs,∃ i:Nat,ch=⟨-1,c,i⟩∧i<N.length∧Q i≠[])∧((∃ i,i<N.length∧Q i≠[])→cs≠[])
theorem EG {u:World} {a:Option Addr} {n cap:Nat} {l:List aJ} (ho:Owns u TCh 3 a n cap (l.map aJ.cells).flatten) {s:Option Addr} {m c:Nat} {l2:List aJ} (hs:Rd u s (l2.map aJ.cells).flatten) (hm:m=l2.length) (hn:n+m≤1000000) {K:Option Addr→Nat→Nat→World→Prop}
  (hk:∀ ap cap' w3,Owns w3 TCh 3 ap (n+m) cap' ((l++l2).map aJ.cells).flatten→Keep (isB a) u w3→(∀ k,isB ap k→isB a k∨u.heap.size≤k)→K ap (n+m) cap' w3) :
  ∃ (ap:Option Addr) (ap_len ap_cap:Nat),∃ w3,(Builtin.append_ #[106,106] 106 #[(.slice a n cap),(.slice s m c)]).run prog u=.ok (.slice ap ap_len ap_cap) w3∧K ap ap_len ap_cap w3:=by
 obtain ⟨inf,hi,hz,hsz,hby⟩:=nV (T:=TCh) (z:=.agg #[.int .i64 0,.int .i64 0,.int .i64 0]) (n:=3) (m:=24) (by kernel_rfl)
 exact lR (cells:=aJ.cells) aJ.len aJ.single Tryz.underlying106 hi hz (by rw [hsz];rfl) hsz (by omega) (by omega) ho hs hm hn hk
theorem AH {u:World} {fb:Nat} {F:Fa} {N:List bS} {Cl:List CliR} {P:Nat→List bJ} {c m:Nat} {Av:Nat→Prop} {Q:Nat→List dE} (h:PlSt u fb F N Cl P c m Av Q) :
  Does 39 [.pointer (some ⟨fb,0,none⟩)] u (ChR N c Q u):=by
 refine does Tryz.func39 ?_
 rw [lE]
 have hf:=h.fab
 have hc:=h.hc
 have hN:=hf.n1
 have hC:=hf.c1
 obtain ⟨I,hI⟩:∃ I:World→Option Addr→Nat→Nat→List aJ→Prop,I=λz a n cap cs=>n=cs.length∧New u z∧Owns z TCh 3 a n cap (cs.map aJ.cells).flatten∧(∀ k,isB a k→u.heap.size≤k)∧∀ ch ∈ cs,∃ i:Nat,ch=⟨-1,c,i⟩∧i<N.length∧Q i≠[]:=⟨_,rfl⟩
 have I0:I u none 0 0 []:=by
  rw [hI]
  exact ⟨rfl,Keep.refl _ _,Owns.nil _ _ _,λk hk=>absurd hk noB,by simp⟩
 refine aW mix (λq env z=>∃ (d:Nat) (a:Option Addr) (n cap:Nat) (cs:List aJ) (jj:List Value),q=Cl.length - d∧d≤Cl.length∧env=dA ⟨fb,0,none⟩ a n cap d jj∧I z a n cap cs∧n≤d * 5∧(c<d→(∃ i,i<N.length∧Q i≠[])→cs≠[])) Cl.length
  ⟨0,none,0,0,[],_,by omega,by omega,rfl,I0,by omega,λe=>absurd e (by omega)⟩ ?_
 rintro q env z ⟨d,a,n,cap,cs,jj,rfl,hd,rfl,hIz,hn5,hne⟩
 rw [iF]
 have hIz':=hIz
 rw [hI] at hIz'
 obtain ⟨hnl,hnz,how,hfr,hch⟩:=hIz'
 have hfz:=hf.new hnz
 refine ⟨_,_,_,hfz.fab.cell (i:=3) rfl,aD (λhlt=>?_) (λhge=>?_)⟩
 ·have hdl:d<Cl.length:=by omega
  refine aW mix (λq env y=>∃ (i:Nat) (a:Option Addr) (n cap:Nat) (cs:List aJ) (jj:List Value),q=N.length - i∧i≤N.length∧env=cA ⟨fb,0,none⟩ a n cap d i jj∧I y a n cap cs∧n≤d * 5+i∧(c<d→(∃ i,i<N.length∧Q i≠[])→cs≠[])∧(c=d→(∃ j,j<i∧Q j≠[])→cs≠[])) N.length
   ⟨0,a,n,cap,cs,_,by omega,by omega,rfl,hIz,by omega,hne,λ_ ⟨j,hj,_⟩=>absurd hj (by omega)⟩ ?_
  clear hIz hnl hnz how hfr hch hfz hne hn5
  rintro q env y ⟨i,a,n,cap,cs,jj,rfl,hi,rfl,hIy,hn5,hne,hne2⟩
  rw [iG]
  have hIy':=hIy
  rw [hI] at hIy'
  obtain ⟨hnl,hny,how,hfr,hch⟩:=hIy'
  have hfy:=hf.new hny
  have hlv:y.cell? ⟨F.lb,0+(d:Int).toNat * 1,none⟩=some (.slice (some ⟨F.pb d,0,none⟩) N.length (F.pc d)):=by
   rw [show 0+(d:Int).toNat * 1=d by omega]
   exact Owns.cell hfy.live (vt hdl)
  refine ⟨_,_,_,hfy.fab.cell (i:=3) rfl,bI (by omega) (by omega) ⟨_,_,_,hlv,aD (λhil=>?_) (λhil=>?_)⟩⟩
  ·have hPl:=(hfy.pairs d hdl).2
   have hgi:(P d)[i]?=some (P d)[i]:=List.getElem?_eq_getElem (by omega)
   generalize (P d)[i]=pr at hgi
   have hqc:y.cell? ⟨F.pb d,0+(i:Int).toNat * 4+3,none⟩=some (.slice pr.Queue pr.Ql pr.Qc):=by
    rw [show 0+(i:Int).toNat * 4+3=i * 4+3 by omega]
    exact Owns.row bJ.len (hfy.pairs d hdl).1 hgi (j:=3) rfl
   rw [w64 (x:=(i:Int)+1) (by omega) (by omega)]
   refine ⟨_,_,_,hfy.fab.cell (i:=3) rfl,bI (by omega) (by omega) ⟨_,_,_,hlv,bI (by omega) (by omega) ⟨_,_,_,hqc,aD (λhpos=>?_) (λhpos=>?_)⟩⟩⟩
   ·have hdc:d=c:=by
     by_cases e:d=c
     ·exact e
     ·have:=h.others d hdl e i pr hgi
      omega
    subst hdc
    have hqi:=(h.pairs i pr hgi).2
    have hQ:Q i≠[]:=by
     intro e
     have:=hqi.len
     rw [e] at this
     simp at this
     omega
    rintro b1 w1 hb1 hw1
    obtain ⟨hz1,hn1⟩:=aR hb1 hw1
    have hz1:Blk w1 b1 (aJ.cells ⟨-1,d,i⟩) TCh:=hz1
    clear hw1
    have hy:=hny.size
    refine EG (m:=1) (l2:=[⟨-1,d,i⟩]) (Owns.keep hn1 how λ_ _ e=>e) (fM hz1 rfl) rfl (by omega) λap cap' w3 ho3 hk3 hap=>?_
    refine ⟨N.length - (i+1),by omega,i+1,ap,n+1,cap',cs++[⟨-1,d,i⟩],_,rfl,by omega,rfl,?_,by omega,λ_ _=>by simp,λ_ _=>by simp⟩
    rw [hI]
    refine ⟨by simp;omega,(hny.new hn1).trans hk3 λk hlt hk=>?_,ho3,λk hk=>?_,λch hc'=>?_⟩
    ·have:=hfr k hk;omega
    ·have hs1:=hn1.size
     rcases hap k hk with e | e
     ·exact hfr k e
     ·omega
    ·rcases List.mem_append.1 hc' with e | e
     ·exact hch ch e
     ·exact ⟨i,List.mem_singleton.1 e,by omega,hQ⟩
   ·refine ⟨N.length - (i+1),by omega,i+1,a,n,cap,cs,_,rfl,by omega,rfl,hIy,by omega,hne,λe hj=>?_⟩
    obtain ⟨j,hj,hQj⟩:=hj
    by_cases hji:j=i
    ·subst hji
     subst e
     have hqi:=(h.pairs j pr hgi).2
     have:=hqi.len
     exact absurd (List.length_eq_zero_iff.1 (by omega)) hQj
    ·exact hne2 e ⟨j,by omega,hQj⟩
  ·rw [i9,w64 (x:=(d:Int)+1) (by omega) (by omega)]
   refine ⟨Cl.length - (d+1),by omega,d+1,a,n,cap,cs,_,rfl,by omega,rfl,hIy,by omega,λe hj=>?_⟩
   obtain ⟨j,hj,hQj⟩:=hj
   by_cases e2:c=d
   ·exact hne2 e2 ⟨j,by omega,hQj⟩
   ·exact hne (by omega) ⟨j,hj,hQj⟩
 ·rw [i7]
  refine aW mix (λq env y=>∃ (jj:List Value),q=0∧env=dB ⟨fb,0,none⟩ a n cap 0 jj∧y=z) 0 ⟨_,rfl,rfl,rfl⟩ ?_
  rintro q env y ⟨jj,rfl,rfl,rfl⟩
  rw [iH]
  refine ⟨_,_,_,hfz.fab.cell (i:=4) rfl,aD (λe=>absurd e (by omega)) (λ_=>?_)⟩
  rw [ja]
  subst hnl
  exact ⟨a,cap,cs,rfl,hnz,how.rd,hch,hne (by omega)⟩
def Fk (u:World) (fb:Nat) (F:Fa) (N:List bS) (Cl:List CliR) (P:Nat→List bJ) (m db:Nat) (x:Value) (u':World):Prop:=(x=.tuple #[.slice none 0 0,.bool false]∧u'=u)∨∃ cap,x=.tuple #[.slice (some ⟨db,0,none⟩) m cap,.bool true]∧Keep (λk=>k=F.cb) u u'
theorem EH {u:World} {fb:Nat} {F:Fa} {N:List bS} {Cl:List CliR} {P:Nat→List bJ} {c m:Nat} {Av:Nat→Prop} {Q:Nat→List dE} {db hb:Nat} {dn:List aV} {hv:List Bool} (h:tq u fb F N Cl P c m Av Q db hb dn hv) (hm:m≤1000000) :
  Does 40 [.pointer (some ⟨fb,0,none⟩),.int .i64 c] u (Fk u fb F N Cl P m db):=by
 refine does Tryz.func40 ?_
 rw [nH]
 obtain ⟨cr,hg,hon,hd,hdl,hh,hhl⟩:=h.row
 have hf:=h.st.fab
 have hc:=h.st.hc
 refine aC (AG hf hc) ?_
 rintro x w1 ⟨rfl,rfl⟩
 refine ⟨_,rfl,eE rfl ⟨_,_,_,hf.fab.cell (i:=2) rfl,bI (by omega) (by omega) ⟨cr.On,hf.ccell hg (j:=2) rfl,?_⟩⟩⟩
 rw [hon]
 refine eE rfl ?_
 refine aC (wG h hm) ?_
 rintro x w2 ⟨rfl,k,rfl,hk⟩
 refine ⟨_,rfl,aD (λ_=>.inl ⟨rfl,rfl⟩) (λ_=>⟨_,_,_,hf.fab.cell (i:=2) rfl,bI (by omega) (by omega) ⟨cr.Done,cr.Dl,cr.Dc,hf.ccell hg (j:=3) rfl,?_⟩⟩)⟩
 rintro w3 hw3
 have hn3:New w2 w3:=by rw [hw3];exact aT _
 clear hw3
 have h3:=hf.new hn3
 have hg0:Cl[c]?=some Cl[c]:=List.getElem?_eq_getElem hc
 refine ⟨λy=>y=w3,rfl,_,_,_,λy hy=>by rw [hy];exact h3.fab.cell (i:=2) rfl,_,_,_,λy hy=>by rw [hy];exact h3.fab.cell (i:=2) rfl,_,_,_,λy hy=>by rw [hy];exact h3.fab.cell (i:=2) rfl,?_⟩
 have eoff:∀ j,0+(c:Int).toNat * 7+j=c * 7+j:=λj=>by omega
 have stp:∀ {z:World} {row row':CliR} {L:List CliR} {j:Nat} {x:Value} {K:World→Prop},Owns z TCl 7 (some ⟨F.cb,0,none⟩) Cl.length F.cc (L.map CliR.cells).flatten→L[c]?=some row→j<7→row.cells.set j x=row'.cells→(∀ (z':World) (L':List CliR),Owns z' TCl 7 (some ⟨F.cb,0,none⟩) Cl.length F.cc (L'.map CliR.cells).flatten→L'[c]?=some row'→Keep (λk=>k=F.cb) z z'→K z')→(∃ y,z.cell? ⟨F.cb,0+(c:Int).toNat * 7+j,none⟩=some y)∧z.frozen? ⟨F.cb,0+(c:Int).toNat * 7+j,none⟩=false∧∀ z',z'=z.setCell ⟨F.cb,0+(c:Int).toNat * 7+j,none⟩ x→K z':=by
  intro z row row' L j x K ho hL hj hx hK
  rw [eoff]
  refine ⟨⟨_,Owns.row CliR.len ho hL (j:=j) (v:=row.cells[j]'(by rw [CliR.len];exact hj)) (List.getElem?_eq_getElem _)⟩,Owns.frozen ho,?_⟩
  rintro z' hz'
  have hk:Keep (λk=>k=F.cb) z z':=by rw [hz'];exact aZ _ _ _ _
  have hrow:=Owns.setRow CliR.len ho hL (j:=j) (r':=row') (v:=x) hj hx
  rw [←hz'] at hrow
  exact hK z' _ hrow (List.getElem?_set_self (cN hL)) hk
 refine bI (by omega) (by omega) (stp h3.clients hg (j:=2) (row':=⟨cr.Alive,cr.Inc,false,cr.Done,cr.Dl,cr.Dc,cr.Have,cr.Hl,cr.Hc,cr.Trips,cr.Posted⟩) (by omega) rfl λw4 L4 ho4 hL4 hk4=>?_)
 refine bI (by omega) (by omega) (stp ho4 hL4 (j:=3) (row':=⟨cr.Alive,cr.Inc,false,none,0,0,cr.Have,cr.Hl,cr.Hc,cr.Trips,cr.Posted⟩) (by omega) rfl λw5 L5 ho5 hL5 hk5=>?_)
 refine bI (by omega) (by omega) (stp ho5 hL5 (j:=4) (row':=⟨cr.Alive,cr.Inc,false,none,0,0,none,0,0,cr.Trips,cr.Posted⟩) (by omega) rfl λw6 L6 ho6 hL6 hk6=>?_)
 refine .inr ⟨cr.Dc,by rw [hd,hdl],((Keep.of_new hn3).trans hk4 λ_ _ e=>e).trans (hk5.trans hk6 λ_ _ e=>e) λ_ _ e=>e⟩
end Go.Proofs.YtafopfaomkklpaaGreat
namespace Go.Proofs.YtafopfaomkklpaaGreat
open Go.Eng
def remP (p:dE):Nat:=(npV p.V).length - p.Executed.toNat
def rem:List dE→Nat
 | []=>0
 |p::ps=>remP p+rem ps
def msr (Q:Nat→List dE):Nat→Nat
 | 0=>0
 |n+1=>msr Q n+rem (Q n)
theorem Dh (Q:Nat→List dE) (i:Nat) (ps:List dE):∀ n,n≤i→msr (setQ Q i ps) n=msr Q n
 | 0,_=>rfl
 |n+1,h=>by
  unfold msr
  rw [Dh Q i ps n (by omega)]
  unfold setQ
  rw [if_neg (by omega)]
theorem AI (Q:Nat→List dE) (i:Nat) (ps:List dE):∀ n,i<n→msr (setQ Q i ps) n+rem (Q i)=msr Q n+rem ps
 | 0,h=>by omega
 |n+1,h=>by
  unfold msr
  by_cases e:i=n
  ·subst e
   rw [Dh Q i ps i (Nat.le_refl _)]
   unfold setQ
   rw [if_pos rfl]
   omega
  ·have:=AI Q i ps n (by omega)
   have e2:setQ Q i ps n=Q n:=by unfold setQ;rw [if_neg (by omega)]
   rw [e2]
   omega
structure Mid (u:World) (fb:Nat) (F:Fa) (N:List bS) (Cl:List CliR) (P:Nat→List bJ) (c m:Nat) (Av:Nat→Prop) (Q:Nat→List dE) (db hb:Nat) (dn:List aV) (hv:List Bool) (sl:Int):Prop where
 st:PlSt u fb F N Cl P c m Av Q
 row:∃ cr:CliR,Cl[c]?=some cr∧cr.On=true∧cr.Done=some ⟨db,0,none⟩∧cr.Dl=m∧cr.Have=some ⟨hb,0,none⟩∧cr.Hl=m
 done:Blk u db (gI dn).flatten 53
 dlen:dn.length=m
 dok:∀ d ∈ dn,DnAt u Av d
 have_:Blk u hb (bs hv) 4
 hlen:hv.length=m
 cov:∀ t:Nat,hv[t]?=some false→(t:Int)≠sl→∃ (i:Nat) (p:dE),i<N.length∧p ∈ Q i∧p.Slot=(t:Int)
 avd:Av db∧Av hb
 new_:¬ F.own fb N Cl.length db∧¬ F.own fb N Cl.length hb
theorem tq.mid {u:World} {fb:Nat} {F:Fa} {N:List bS} {Cl:List CliR} {P:Nat→List bJ} {c m:Nat} {Av:Nat→Prop} {Q:Nat→List dE} {db hb:Nat} {dn:List aV} {hv:List Bool} (h:tq u fb F N Cl P c m Av Q db hb dn hv):Mid u fb F N Cl P c m Av Q db hb dn hv (-1):=
 ⟨h.st,h.row,h.done,h.dlen,h.dok,h.have_,h.hlen,λt ht _=>h.cov t ht,h.avd,h.new_⟩
theorem Mid.run {u:World} {fb:Nat} {F:Fa} {N:List bS} {Cl:List CliR} {P:Nat→List bJ} {c m:Nat} {Av:Nat→Prop} {Q:Nat→List dE} {db hb:Nat} {dn:List aV} {hv:List Bool} (h:Mid u fb F N Cl P c m Av Q db hb dn hv (-1)):tq u fb F N Cl P c m Av Q db hb dn hv:=
 ⟨h.st,h.row,h.done,h.dlen,h.dok,h.have_,h.hlen,λt ht=>h.cov t ht (by omega),h.avd,h.new_⟩
theorem DnAt.keep {u z:World} {Av M:Nat→Prop} {d:aV} (h:DnAt u Av d) (hk:Keep M u z) (hM:∀ k,k<u.heap.size→M k→Av k):DnAt z Av d:=by
 obtain ⟨⟨xs,h1,h2,h3⟩,h4,h5⟩:=h
 exact ⟨⟨xs,jd hk h1 λk hlt hb hm=>h4 k hb (hM k hlt hm),h2,h3⟩,h4,λk hb=>Nat.lt_of_lt_of_le (h5 k hb) hk.size⟩
theorem DnAt.to {u:World} {Av Av':Nat→Prop} {d:aV} (h:DnAt u Av d) (ha:∀ k,k<u.heap.size→Av' k→Av k):DnAt u Av' d:=⟨h.1,λk hb hA=>h.2.1 k hb (ha k (h.2.2 k hb) hA),h.2.2⟩
theorem PlSt.keep {u z:World} {fb:Nat} {F:Fa} {N:List bS} {Cl:List CliR} {P:Nat→List bJ} {c m:Nat} {Av:Nat→Prop} {Q:Nat→List dE} (h:PlSt u fb F N Cl P c m Av Q) {M:Nat→Prop} (hk:Keep M u z) (hM:∀ k,k<u.heap.size→M k→Av k) (hO:∀ k,F.own fb N Cl.length k→¬ M k):PlSt z fb F N Cl P c m Av Q:=
 ⟨h.fab.keep hk hO,h.hc,λi pr hi=>⟨(h.pairs i pr hi).1,(h.pairs i pr hi).2.keep hk hM⟩,h.others,λk hk'=>Nat.lt_of_lt_of_le (h.ams k hk') hk.size,h.own⟩
theorem Mid.keep {u z:World} {fb:Nat} {F:Fa} {N:List bS} {Cl:List CliR} {P:Nat→List bJ} {c m:Nat} {Av:Nat→Prop} {Q:Nat→List dE} {db hb:Nat} {dn:List aV} {hv:List Bool} {sl:Int} (h:Mid u fb F N Cl P c m Av Q db hb dn hv sl) {M:Nat→Prop} (hk:Keep M u z) (hM:∀ k,k<u.heap.size→M k→Av k) (hO:∀ k,F.own fb N Cl.length k→¬ M k) (h1:¬ M db) (h2:¬ M hb):Mid z fb F N Cl P c m Av Q db hb dn hv sl:=
 ⟨h.st.keep hk hM hO,h.row,hk.blk h.done h1,h.dlen,λd hd=>(h.dok d hd).keep hk hM,hk.blk h.have_ h2,h.hlen,h.cov,h.avd,h.new_⟩
theorem Mid.next {u z:World} {fb:Nat} {F:Fa} {N:List bS} {Cl:List CliR} {P:Nat→List bJ} {c m:Nat} {Av:Nat→Prop} {Q:Nat→List dE} {db hb:Nat} {dn:List aV} {hv:List Bool} {sl:Int} (h:Mid u fb F N Cl P c m Av Q db hb dn hv sl) (hn:New u z):Mid z fb F N Cl P c m Av Q db hb dn hv sl:=
 h.keep hn (λ_ _ e=>e.elim) (λ_ _=>id) id id
theorem Mid.box {u z:World} {fb:Nat} {F:Fa} {N:List bS} {Cl:List CliR} {P:Nat→List bJ} {c m:Nat} {Av:Nat→Prop} {Q:Nat→List dE} {db hb:Nat} {dn:List aV} {hv:List Bool} {sl:Int} (h:Mid u fb F N Cl P c m Av Q db hb dn hv sl) (hn:New u z) {b:Nat} (h1:u.heap.size≤b) (h2:b<z.heap.size):Mid z fb F N Cl P c m (λk=>Av k∨k=b) Q db hb dn hv sl:=by
 have to:∀ k,k<u.heap.size→(Av k∨k=b)→Av k:=λk hlt e=>e.elim id λe=>by omega
 refine ⟨⟨h.st.fab.new hn,h.st.hc,λi pr hi=>⟨(h.st.pairs i pr hi).1,((h.st.pairs i pr hi).2.to to).next hn⟩,h.st.others,λk hk=>?_,λk hk=>.inl (h.st.own k hk)⟩,h.row,New.blk hn h.done,h.dlen,λd hd=>((h.dok d hd).to to).keep hn λ_ _ e=>e.elim,New.blk hn h.have_,h.hlen,h.cov,⟨.inl h.avd.1,.inl h.avd.2⟩,h.new_⟩
 rcases hk with e | e
 ·exact Nat.lt_of_lt_of_le (h.st.ams k e) hn.size
 ·omega
theorem tq.step {u z:World} {fb:Nat} {F:Fa} {N:List bS} {Cl:List CliR} {P:Nat→List bJ} {c m:Nat} {Av:Nat→Prop} {Q:Nat→List dE} {db hb:Nat} {dn:List aV} {hv:List Bool} (h:Mid u fb F N Cl P c m Av Q db hb dn hv (-1)) {i:Nat} {pr:bJ} (hi:(P c)[i]?=some pr) {q:dE} {qs:List dE} (hQ:Q i=q::qs) {x:Value} (hst:StR u fb F N Cl P c i m pr Av q qs x z) :
  ∃ (d:aV) (slot:Int) (done:Bool) (P':Nat→List bJ) (Q':Nat→List dE) (sl:Int),x=.tuple #[d.val,.int .i64 slot,.bool done,.bool true]∧Mid z fb F N Cl P' c m Av Q' db hb dn hv sl∧msr Q' N.length<msr Q N.length∧Keep (λk=>F.own fb N Cl.length k) u z∧
   ((done=true∧sl=slot∧0≤slot∧slot<m∧DnAt z Av d)∨(done=false∧sl=-1)):=by
 obtain ⟨d,slot,done,a,n,cap,ps,hx,hf,hq,hk,hcase⟩:=hst
 have hiN:i<N.length:=by have:=(h.st.fab.pairs c h.st.hc).2;have:=cN hi;omega
 have hpr:=(h.st.pairs i pr hi).2
 rw [hQ] at hpr
 have hqo:=hpr.ok q (List.mem_cons_self ..)
 have hown:∀ k,(k=F.pb c∨WBk N k)→F.own fb N Cl.length k:=λk e=>by
  rcases e with e | ⟨r,hr,hb⟩
  ·exact .inr (.inr (.inr (.inr (.inl ⟨c,h.st.hc,e⟩))))
  ·exact .inr (.inr (.inr (.inr (.inr ⟨r,hr,hb⟩))))
 have hM:∀ k,k<u.heap.size→(k=F.pb c∨WBk N k)→Av k:=λk _ e=>h.st.own k (hown k e)
 have hms:=AI Q i ps N.length hiN
 rw [hQ] at hms
 have hqex:=hqo.ex
 have mid:∀ {sl:Int},(∀ t:Nat,hv[t]?=some false→(t:Int)≠sl→∃ (j:Nat) (p:dE),j<N.length∧p ∈ setQ Q i ps j∧p.Slot=(t:Int))→Mid z fb F N Cl (setP P c ((P c).set i ⟨pr.Client,pr.Inc,pr.Node,a,n,cap⟩)) c m Av (setQ Q i ps) db hb dn hv sl:=λhc=>
  ⟨h.st.set hk hM hi hf hq,h.row,hk.blk h.done λe=>h.new_.1 (hown _ e),h.dlen,λd hd=>(h.dok d hd).keep hk hM,hk.blk h.have_ λe=>h.new_.2 (hown _ e),h.hlen,hc,h.avd,h.new_⟩
 have cov:∀ (t:Nat),hv[t]?=some false→(∃ (j:Nat) (p:dE),j<N.length∧p ∈ setQ Q i ps j∧p.Slot=(t:Int))∨q.Slot=(t:Int):=by
  intro t ht
  obtain ⟨j,p,g1,g2,g3⟩:=h.cov t ht (by omega)
  by_cases e:j=i
  ·subst e
   rw [hQ] at g2
   rcases List.mem_cons.1 g2 with rfl | g2
   ·exact .inr g3
   ·refine .inl ⟨j,p,g1,?_,g3⟩
    unfold setQ
    rw [if_pos rfl]
    rcases hcase with ⟨_,rfl,_⟩ | ⟨_,q',rfl,_⟩
    ·exact g2
    ·exact List.mem_cons_of_mem _ g2
  ·refine .inl ⟨j,p,g1,?_,g3⟩
   unfold setQ
   rw [if_neg e]
   exact g2
 have hkO:Keep (λk=>F.own fb N Cl.length k) u z:=hk.mono λk _ e=>hown k e
 rcases hcase with ⟨hd,rfl,hs,hdn⟩ | ⟨hd,q',rfl,hq1,hq2,hq3⟩
 ·refine ⟨d,slot,done,_,_,slot,hx,mid λt ht hne=>?_,?_,hkO,.inl ⟨hd,rfl,by rw [hs];exact hqo.slot.1,by rw [hs];exact hqo.slot.2,hdn⟩⟩
  ·rcases cov t ht with e | e
   ·exact e
   ·rw [hs] at hne;exact absurd e.symm hne
  ·have:rem (q::ps)=remP q+rem ps:=rfl
   have:remP q=(npV q.V).length - q.Executed.toNat:=rfl
   omega
 ·refine ⟨d,slot,done,_,_,-1,hx,mid λt ht hne=>?_,?_,hkO,.inr ⟨hd,rfl⟩⟩
  ·rcases cov t ht with e | e
   ·exact e
   ·exact ⟨i,q',hiN,by unfold setQ;rw [if_pos rfl];exact List.mem_cons_self ..,by rw [hq1];exact e⟩
  ·have e1:rem (q::qs)=remP q+rem qs:=rfl
   have e2:rem (q'::qs)=remP q'+rem qs:=rfl
   have e3:remP q=(npV q.V).length - q.Executed.toNat:=rfl
   have e4:remP q'=(npV q.V).length - (q.Executed+1).toNat:=by unfold remP;rw [hq2,hq3]
   omega
theorem yV {l:List aV} {i:Nat} (hi:i<l.length) (d:aV):splice (gI l).flatten (i * 2) d.cells=(gI (l.set i d)).flatten:=by
 have hs:∀ r ∈ gI l,r.length=2:=λr hr=>by obtain ⟨y,_,rfl⟩:=List.mem_map.1 hr;rfl
 rw [xH hs (by simpa [gI] using hi) rfl]
 simp [gI]
theorem Mid.put {u z:World} {fb:Nat} {F:Fa} {N:List bS} {Cl:List CliR} {P:Nat→List bJ} {c m:Nat} {Av:Nat→Prop} {Q:Nat→List dE} {db hb:Nat} {dn:List aV} {hv:List Bool} {sl:Int} (h:Mid u fb F N Cl P c m Av Q db hb dn hv sl) {s:Nat} (hs:s<m) {d:aV} (hd:DnAt u Av d) (hz:z=puts u ⟨db,s * 2,none⟩ 0 d.cells):Mid z fb F N Cl P c m Av Q db hb (dn.set s d) hv sl:=by
 have hk:Keep (λk=>k=db) u z:=by rw [hz];exact ej _ _ _ _ _
 have hM:∀ k,k<u.heap.size→k=db→Av k:=λk _ e=>by rw [e];exact h.avd.1
 have hO:∀ k,F.own fb N Cl.length k→¬ k=db:=λk hk e=>h.new_.1 (e▸hk)
 have hb':=h.done.puts (o:=s * 2) (i:=0) (vs:=d.cells)
 rw [Nat.add_zero,yV (by rw [h.dlen];exact hs),←hz] at hb'
 exact ⟨h.st.keep hk hM hO,h.row,hb',by rw [List.length_set];exact h.dlen,λd' hd'=>by
  rcases List.mem_or_eq_of_mem_set hd' with e | rfl
  ·exact (h.dok d' e).keep hk hM
  ·exact hd.keep hk hM,hk.blk h.have_ (h.have_.ne h.done (by decide)),h.hlen,h.cov,h.avd,h.new_⟩
theorem Mid.mark {u z:World} {fb:Nat} {F:Fa} {N:List bS} {Cl:List CliR} {P:Nat→List bJ} {c m:Nat} {Av:Nat→Prop} {Q:Nat→List dE} {db hb:Nat} {dn:List aV} {hv:List Bool} {s:Nat} (h:Mid u fb F N Cl P c m Av Q db hb dn hv s) (hs:s<m) (hz:z=u.setCell ⟨hb,s,none⟩ (.bool true)):Mid z fb F N Cl P c m Av Q db hb dn (hv.set s true) (-1):=by
 have hk:Keep (λk=>k=hb) u z:=by rw [hz];exact aZ _ _ _ _
 have hM:∀ k,k<u.heap.size→k=hb→Av k:=λk _ e=>by rw [e];exact h.avd.2
 have hO:∀ k,F.own fb N Cl.length k→¬ k=hb:=λk hk e=>h.new_.2 (e▸hk)
 have hb':=h.have_.setCell (i:=s) (.bool true)
 rw [Da,←hz] at hb'
 refine ⟨h.st.keep hk hM hO,h.row,hk.blk h.done (h.done.ne h.have_ (by decide)),h.dlen,λd' hd'=>(h.dok d' hd').keep hk hM,hb',by rw [List.length_set];exact h.hlen,λt ht _=>?_,h.avd,h.new_⟩
 by_cases e:s=t
 ·subst e
  rw [List.getElem?_set_self (by rw [h.hlen];exact hs)] at ht
  cases ht
 ·rw [List.getElem?_set_ne e] at ht
  exact h.cov t ht (by omega)
end Go.Proofs.YtafopfaomkklpaaGreat
