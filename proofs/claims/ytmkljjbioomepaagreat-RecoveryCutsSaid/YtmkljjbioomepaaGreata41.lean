import Derived.Test.YtmkljjbioomepaaGreata40
import Derived.Test.YtmkljjbioomepaaGreatProg
import Derived.Test.YtmkljjbioomepaaGreata03
import Derived.Test.YtmkljjbioomepaaGreata16
import Derived.Test.YtmkljjbioomepaaGreata15
set_option linter.all false
set_option maxHeartbeats 4000000
set_option maxRecDepth 100000
namespace Go.Proofs.YtmkljjbioomepaaGreat
open Go.Proofs.Tryz Go.b8
variable {a i k:Nat} {cs:eI} {l:Int} {n:bt} {ts:List ir} {x:js}
section
open iH
theorem X6:∀ {dA:List fx} {i:Nat} {x:js},x ∈ vN i dA->∃ q p,dA[q]?=some p/\x=⟨((i+q:Nat):Int),p.bw,p.node⟩
 | [],i,x,h=>by simp [vN] at h
 |p::dA,i,x,h=>by
  unfold vN at h;rcases iF.1 h with e | h
  ·exact ⟨0,p,rfl,e⟩
  ·obtain ⟨q,p',af,al⟩:=X6 h;exact ⟨q+1,p',by simpa using af,by rw [al];congr 1;omega⟩
theorem alb (p:fx) (x:bt):(p.step x).1.node=p.node:=by
 unfold fx.step;split
 ·rfl
 ·simp only;split
  ·rfl
  ·split<;>rfl
structure IJ (F G:a9):Prop where
 nodes:F.nodes=G.nodes
 lines:F.lines=G.lines
 ld:∀ k,k≠0->F.bl[k]?=G.bl[k]?
 dead:∀ C,F.bl[0]?=some C->C.aU=[]
 CL:∀ p ∈ F.cN,∃ C l,G.bl[0]?=some C/\C.aU[p.node.toNat]?=some l/\l.pair=p/\p.bN≠[]
 nodup:(F.cN.map λp=>p.node.toNat).Nodup
def kx (F G:a9):Prop:=F=G\/IJ F G
section
variable {F G:a9}
theorem kx.nodes (h:kx F G):F.nodes=G.nodes:=by
 rcases h with h | h
 ·rw [h]
 ·exact h.nodes
theorem kx.lines (h:kx F G):F.lines=G.lines:=by
 rcases h with h | h
 ·rw [h]
 ·exact h.lines
theorem kx.ld (h:kx F G) {k:Nat} (J:k≠0):F.bl[k]?=G.bl[k]?:=by
 rcases h with h | h
 ·rw [h]
 ·exact h.ld k J
theorem IJ.jy (h:IJ F G) {k:Nat} (J:k≠0) (C':cT):IJ (F.jy (k:Int) C') (G.jy (k:Int) C'):=by
 have aN:∀ H:a9,(H.jy (k:Int) C').bl=H.bl.set k C':=λH=>rfl
 refine ⟨h.nodes,h.lines,λi aD=>?_,λC b0=>?_,λp ar=>?_,h.nodup⟩
 ·rw [aN,aN];by_cases e:k=i
  ·subst e;rw [oy,oy,if_pos rfl,if_pos rfl];have:=h.ld k J;by_cases au:k<F.bl.length
   ·have nM:k<G.bl.length:=dy (this.symm.trans (cp au));rw [if_pos au,if_pos nM]
   ·have nM:¬ k<G.bl.length:=λal=>au (dy (this.trans (cp al)))
    rw [if_neg au,if_neg nM]
  ·rw [nC e,nC e];exact h.ld i aD
 ·rw [aN,nC J] at b0;exact h.dead C b0
 ·obtain ⟨C,l,a,b⟩:=h.CL p ar;exact ⟨C,l,by rw [aN,nC J];exact a,b⟩
theorem kx.jy (h:kx F G) {k:Nat} (J:k≠0) (C':cT):kx (F.jy (k:Int) C') (G.jy (k:Int) C'):=by
 rcases h with h | h
 ·exact .inl (by rw [h])
 ·exact .inr (h.jy J C')
theorem kx.take (h:kx F G) {k:Nat} (J:k≠0):(F.take (k:Int)).1=(G.take (k:Int)).1/\kx (F.take (k:Int)).2 (G.take (k:Int)).2:=by
 unfold a9.take;rw [qC,qC,h.ld J];split
 ·exact ⟨rfl,h⟩
 ·split
  ·exact ⟨rfl,h⟩
  ·split
   ·exact ⟨rfl,h⟩
   ·split
    ·exact ⟨rfl,h⟩
    ·exact ⟨rfl,h.jy J _⟩
theorem kx.post (h:kx F G) {k:Nat} (J:k≠0) (vs:List bn):(F.post (k:Int) vs).1=(G.post (k:Int) vs).1/\kx (F.post (k:Int) vs).2 (G.post (k:Int) vs).2:=by
 unfold a9.post;rw [qC,qC,h.ld J,h.nodes,h.lines];split
 ·exact ⟨rfl,h⟩
 split
 ·exact ⟨rfl,h⟩
 split
 ·exact ⟨rfl,h⟩
 split
 ·exact ⟨rfl,h⟩
 split
 ·exact ⟨rfl,h⟩
 split
 ·exact ⟨rfl,h⟩
 exact ⟨rfl,h.jy J _⟩
theorem kx.tail (h:kx F G) (J:k≠0) {qm:Conv} {t:dB qm} (ab:t.bw=(k:Int)):(sS F t).2=(sS G t).2/\kx (sS F t).1 (sS G t).1:=by
 unfold sS;rw [ab];obtain ⟨nm,hr⟩:=h.post J (qm.next t.cH t.bD).1;rw [nm];split
 ·exact ⟨rfl,h⟩
 split
 ·exact ⟨rfl,h⟩
 split
 ·exact ⟨rfl,hr⟩
 ·exact ⟨rfl,hr⟩
theorem kx.eW (h:kx F G) {k:Nat} (J:k≠0) {qm:Conv} {t:dB qm} (ab:t.bw=(k:Int)):(eW F t).2=(eW G t).2/\kx (eW F t).1 (eW G t).1:=by
 unfold Go.Proofs.YtmkljjbioomepaaGreat.eW;have bg:F.alive (k:Int)=G.alive (k:Int):=by unfold a9.alive;rw [qC,qC,h.ld J]
 have dF:F.waiting (k:Int)=G.waiting (k:Int):=by unfold a9.waiting;rw [qC,qC,h.ld J]
 rw [ab,bg,dF];split
 ·exact ⟨rfl,h⟩
 ·obtain ⟨t1,t2⟩:=h.take J;rw [t1];refine t2.tail J ?_;cases (G.take (k:Int)).1<;>exact ab
theorem af7 (h:F.gz=[]) {C:cT} (b0:F.bl[i]?=some C):mO C:=λk l au=>by
 cases aw:l.pair.bN with
 |nil=>rfl
 |cons v vs=>
  have hm:(⟨-1,((0+i:Nat):Int),((0+k:Nat):Int)⟩:js) ∈ F.gz:=by unfold a9.gz;exact qT.2 (.inl (PU.2 ⟨i,C,b0,PT.2 ⟨k,l,au,by rw [aw];simp,rfl⟩⟩))
  rw [h] at hm;cases hm
end
section
variable {E:Env} {rs:eI} {F G:a9} {A:cd} {g:kt} {gr:Nat->fa}
theorem Zq (h:ln E rs G A g gr) (aA:kx F G) (ao:x ∈ F.gz):∃ i m ew gg,wT i m G=some gg/\F.step x=(true,ew)/\kx ew gg/\(F=G->ew=gg):=by
 have T7:∀ {i m:Nat} {C:cT} {l:eM},G.bl[i]?=some C->C.aU[m]?=some l->l.pair.bN≠[]->∃ y,G.nodes[m]?=some y:=λ{i m C l} b0 au aw=>by
  have af:=dy au;have al:=(h.kT.du.ok.bw i C b0).aU;refine ⟨_,cp ?_⟩;split at al
  ·omega
  ·omega
 have cj:∀ {l:eM},0<l.pair.bN.length->l.pair.bN≠[]/\l.pair.bN.length≠0:=λ{l} aw=>⟨λe=>by rw [e] at aw;simp at aw,by omega⟩
 unfold a9.gz at ao;by_cases Oi:F=G
 ·subst Oi;rw [h.nk] at ao;rcases qT.1 ao with hm | hm
  ·obtain ⟨i,C,b0,hm⟩:=PU.1 hm;obtain ⟨m,l,au,aw,rfl⟩:=PT.1 hm;rw [l6,l6];obtain ⟨u4,j8⟩:=cj aw;obtain ⟨y,az⟩:=T7 b0 au u4;have aX:=Hv.2 ⟨C,l,y,b0,au,az,j8,rfl⟩;exact ⟨i,m,_,_,aX,V3 aX,.inl rfl,λ_=>rfl⟩
  ·simp [vN] at hm
 ·have a':IJ F G:=aA.resolve_left Oi;rcases qT.1 ao with hm | hm
  ·obtain ⟨i,C,b0,hm⟩:=PU.1 hm;obtain ⟨m,l,au,aw,rfl⟩:=PT.1 hm;rw [l6,l6];obtain ⟨u4,j8⟩:=cj aw;have aD:i≠0:=λe=>by subst e;rw [a'.dead C b0] at au;simp at au
   have uD:G.bl[i]?=some C:=by rw [<-a'.ld i aD];exact b0
   obtain ⟨y,az⟩:=T7 uD au u4;have aX:=Hv.2 ⟨C,l,y,uD,au,az,j8,rfl⟩;have atm:=Hv.2 ⟨C,l,y,b0,au,by rw [a'.nodes];exact az,j8,rfl⟩;refine ⟨i,m,_,_,aX,V3 atm,.inr ?_,λe=>absurd e Oi⟩;have:=a'.jy aD (C.comes m l (l.pair.step y).1 (l.pair.step y).2.2);exact ⟨by simp only [a'.nodes],a'.lines,this.ld,this.dead,this.CL,a'.nodup⟩
  ·obtain ⟨q,p,ar,rfl⟩:=X6 hm;rw [l6];have aM:=dy ar;obtain ⟨C,l,b0,au,rfl,aw⟩:=a'.CL p (dn ar);obtain ⟨y,az⟩:=T7 b0 au aw;have aK:=dy b0;have Cc:l.pair.bN.length≠0:=λe=>aw (zh.1 e)
   have aX:wT 0 l.pair.node.toNat G=some { G with nodes:=G.nodes.set l.pair.node.toNat (l.pair.step y).2.1,bl:=G.bl.set 0 (C.comes l.pair.node.toNat l (l.pair.step y).1 (l.pair.step y).2.2) }:=Hv.2 ⟨C,l,y,b0,au,az,Cc,rfl⟩;have cq:F.step ⟨(q:Int),l.pair.bw,l.pair.node⟩=(true,{ F with nodes:=F.nodes.set l.pair.node.toNat (l.pair.step y).2.1,cN:=if (l.pair.step y).1.bN.length=0 then F.cN.eraseIdx q else F.cN.set q (l.pair.step y).1 }):=by unfold a9.step;rw [if_pos (by show (0:Int)<=(q:Int);omega)];unfold a9.pz;simp only [j_,ar,a'.nodes,az]
   have jb:=alb l.pair y;refine ⟨0,_,_,_,aX,cq,.inr ⟨by simp only [a'.nodes],a'.lines,λk J=>?_,a'.dead,λp' hA=>?_,?_⟩,λe=>absurd e Oi⟩
   ·show F.bl[k]?=(G.bl.set 0 _)[k]?;rw [nC (λe=>J e.symm)];exact a'.ld k J
   ·have acX:∀ hr,hr ∈ F.cN.eraseIdx q->∃ qV l2,(G.bl.set 0 (C.comes l.pair.node.toNat l (l.pair.step y).1 (l.pair.step y).2.2))[0]?=some qV/\qV.aU[hr.node.toNat]?=some l2/\l2.pair=hr/\hr.bN≠[]:=by
     intro hr mI;obtain ⟨qV,l2,DO,nM,rfl,oP⟩:=a'.CL hr (Ra mI);rw [b0] at DO;cases DO;have cj:l2.pair.node.toNat≠l.pair.node.toNat:=by
      obtain ⟨i2,si,uL⟩:=List.mem_eraseIdx_iff_getElem?.1 mI;intro e;have ra:=a'.nodup;have bs:(F.cN.map λp=>p.node.toNat)[i2]?=some l.pair.node.toNat:=by rw [gV,uL];simp [e]
      have bI:(F.cN.map λp=>p.node.toNat)[q]?=some l.pair.node.toNat:=by rw [gV,ar];rfl
      exact si ((Q9 (dy bs) ra).1 (bs.trans bI.symm))
     exact ⟨_,l2,qe aK,by rw [Cg cj];exact nM,rfl,oP⟩
    simp only at hA;split at hA
    ·exact acX p' hA
    ·rename_i UY;obtain ⟨i2,si⟩:=hn.1 hA;by_cases e:q=i2
     ·subst e;rw [qe aM] at si;cases si;obtain ⟨l',bs,bI⟩:=rx au (l.pair.step y).1 (l.pair.step y).2.2;exact ⟨_,l',qe aK,by rw [jb];exact bs,bI,λe=>UY (by rw [e];rfl)⟩
     ·rw [nC e] at si;exact acX p' (List.mem_eraseIdx_iff_getElem?.2 ⟨i2,λbg=>e bg.symm,si⟩)
   ·simp only;split
    ·exact a'.nodup.sublist ((List.eraseIdx_sublist _ _).map _)
    ·rw [oz,jb];have:(F.cN.map λp=>p.node.toNat).set q l.pair.node.toNat=F.cN.map λp=>p.node.toNat:=by
      apply rL;intro i;by_cases e:q=i
      ·subst e;rw [qe (by simpa using aM),gV,ar];rfl
      ·rw [nC e]
     rw [this];exact a'.nodup
theorem alc (h:ln E rs G A g gr) (aA:kx F G) (sch:bR) (n:Nat):(mv F sch n=(false,F)/\F.gz=[])\/∃ i m ew gg,wT i m G=some gg/\mv F sch n=(true,ew)/\kx ew gg/\(F=G->ew=gg):=by
 unfold Go.Proofs.YtmkljjbioomepaaGreat.mv;cases ao:F.gz[t' F sch n]? with
 |some x=>exact .inr (Zq h aA (dn ao))
 |none=>
  refine .inl ⟨rfl,?_⟩;rcases Q1 F.gz.length with e | uV
  ·exact zh.1 e
  ·exfalso;have aK:t' F sch n<F.gz.length:=by
    unfold t';split
    ·have af:=L' (sch.getD n 0) (b:=(F.gz.length:Int)) (by omega);have al:=Mp (sch.getD n 0) (b:=(F.gz.length:Int)) (by omega);omega
    ·exact uV
   rw [cp aK] at ao;cases ao
theorem fN.trans {E:Env} {A B C:cd} (h:fN E A B) (gH:fN E B C):fN E A C:=⟨λm x=>gH.eo m (h.eo m x),λm x=>gH.gq m (h.gq m x),λm x=>gH.hF m (h.hF m x),λm x=>gH.fA m (h.fA m x),λm l x=>gH.cO m l (h.cO m l x)⟩
def l5 (rs:eI) (G:a9) (g:kt) (gr:Nat->fa):Nat:=gR G 0+AE g.aQ+(rs.map λc=>gR G c+lI (gr c).aQ).sum
structure rN (E:Env) (rs cs:eI) (F:a9) (ts:List ir) (G:a9) (A:cd) (g:kt) (gr:Nat->fa):Prop where
 p9:ln E rs G A g gr
 AF:kx F G
 len:ts.length=cs.length
 j9:∀ (k c:Nat) (t:ir),cs[k]?=some c->ts[k]?=some t->(c=0/\F=G/\zB E A g t)\/(c ∈ rs/\vy E c (gr c) t)
def Dg (rs:eI) (G:a9) (g:kt) (gr:Nat->fa) (c:Nat):Prop:=(c=0->g.aQ=6\/g.aQ=7\/∃ C,G.bl[0]?=some C/\¬ mO C)/\(c ∈ rs->(gr c).aQ=10\/(gr c).aQ=11\/∃ C,G.bl[c]?=some C/\¬ mO C)
theorem Rg (aI:di E) (gS:∀ c ∈ rs,1<=c/\c<6) {cs:eI} (dG:cs.Nodup):∀ (l:List ir) {pre:List ir} {F G:a9} {g:kt} {gr:Nat->fa},rN E rs cs F (pre++l) G A g gr->
  ∃ gg cU ie,rN E rs cs (turns F l).1 (pre++(turns F l).2) gg A cU ie/\l5 rs gg cU ie<=l5 rs G g gr/\(∀ k c:Nat,k<pre.length->cs[k]?=some c->Dg rs G g gr c->Dg rs gg cU ie c)/\∀ k c:Nat,pre.length<=k->cs[k]?=some c->Dg rs gg cU ie c
 | [],pre,F,G,g,gr,h=>⟨G,g,gr,h,eJ _,λ_ _ _ _ p=>p,λk c af al=>by have:=h.len;have:=dy al;simp at *;omega⟩
 |t::l,pre,F,G,g,gr,h=>by
  have oa:0 ∉ rs:=λe=>by have:=gS 0 e;omega
  have lY:=h.len;rw [gp,l8] at lY;obtain ⟨c,J6⟩:∃ c,cs[pre.length]?=some c:=⟨_,cp (by omega)⟩;have aZ:(pre++t::l)[pre.length]?=some t:=by rw [nB (eJ _),xL];rfl
  have uV:∀ {k:Nat},cs[k]?=some c->k=pre.length:=λ{k} J=>(Q9 (dy J) dG).1 (J.trans J6.symm)
  have hlen:((pre++[(eW F t).2])++l).length=cs.length:=by simp;omega
  have ez:∀ {k c':Nat} {hC:ir},cs[k]?=some c'->((pre++[(eW F t).2])++l)[k]?=some hC->(k=pre.length/\c'=c/\hC=(eW F t).2)\/(c'≠c/\(pre++t::l)[k]?=some hC):=λ{k c' hC} J dQ=>by
   by_cases e:k=pre.length
   ·subst e;rw [ue,nB (eJ _),xL] at dQ;rw [J6] at J;cases J;exact .inl ⟨rfl,rfl,(zf dQ).symm⟩
   ·refine .inr ⟨λbg=>e (uV (by rw [<-bg];exact J)),?_⟩;rw [<-dQ,ue];by_cases aK:k<pre.length
    ·rw [nA aK,nA aK]
    ·obtain ⟨z,aE⟩:∃ z,k - pre.length=z+1:=⟨k - pre.length - 1,by omega⟩;rw [nB (l₁:=pre) (l₂:=[(eW F t).2]++l) (show pre.length<=k by omega),nB (l₁:=pre) (l₂:=t::l) (show pre.length<=k by omega),aE];rfl
  have key:∃ oA bs By,rN E rs cs (eW F t).1 ((pre++[(eW F t).2])++l) oA A bs By/\l5 rs oA bs By<=l5 rs G g gr/\(∀ k c':Nat,k<pre.length->cs[k]?=some c'->Dg rs G g gr c'->Dg rs oA bs By c')/\Dg rs oA bs By c:=by
   rcases h.j9 _ c t J6 aZ with ⟨rfl,rfl,bq⟩ | ⟨ym,bq⟩
   ·obtain ⟨bs,dr,c2,eA,hE,jU,_⟩:=aon aI oa h.p9 bq;refine ⟨_,bs,gr,⟨dr,.inl rfl,hlen,λk c' hC J dQ=>?_⟩,?_,λk c' J kd ar=>?_,λ_=>?_,λe=>absurd e oa⟩
    ·rcases ez J dQ with ⟨_,rfl,rfl⟩ | ⟨cj,g⟩
     ·exact .inl ⟨rfl,rfl,c2⟩
     ·rcases h.j9 k c' hC J g with ⟨e,_⟩ | b
      ·exact absurd e cj
      ·exact .inr b
    ·have:(rs.map λc=>gR (eW F t).1 c+lI (gr c).aQ).sum<=(rs.map λc=>gR F c+lI (gr c).aQ).sum:=IF λk J=>by
      have:gR (eW F t).1 k=gR F k:=by unfold gR;rw [hE k (λe=>oa (by rw [<-e];exact J))]
      omega
     unfold l5;omega
    ·have cj:c'≠0:=λe=>by rw [e] at kd;have:=uV kd;omega
     refine ⟨λe=>absurd e cj,λym=>?_⟩
     rw [hE c' cj];exact ar.2 ym
    ·rcases jU with jU | jU | ⟨_,jU⟩
     ·exact .inl jU
     ·exact .inr (.inl jU)
     ·exact .inr (.inr jU)
   ·have eC:=gS c ym;have Ef:c≠0:=by omega
    obtain ⟨s,dr,c2,eA,hE,jU,_⟩:=an0 aI gS h.p9 ym bq;obtain ⟨b1,aP⟩:=h.AF.eW Ef bq.fE;refine ⟨(eW G t).1,g,nt gr c s,⟨dr,aP,hlen,λk c' hC J dQ=>?_⟩,?_,λk c' J kd ar=>?_,λe=>absurd e Ef,λ_=>?_⟩
    ·rcases ez J dQ with ⟨_,rfl,rfl⟩ | ⟨cj,apF⟩
     ·exact .inr ⟨ym,by rw [h',b1];exact c2⟩
     ·rcases h.j9 k c' hC J apF with ⟨e,bg,b⟩ | ⟨e,b⟩
      ·subst bg;exact .inl ⟨e,rfl,b⟩
      ·exact .inr ⟨e,by rw [rm cj];exact b⟩
    ·have af:gR (eW G t).1 0=gR G 0:=by unfold gR;rw [hE 0 (λe=>Ef e.symm)]
     have:(rs.map λk=>gR (eW G t).1 k+lI (nt gr c s k).aQ).sum<=(rs.map λk=>gR G k+lI (gr k).aQ).sum:=IF λk J=>by
      by_cases e:k=c
      ·subst e;rw [h'];exact eA
      ·have:gR (eW G t).1 k=gR G k:=by unfold gR;rw [hE k e]
       rw [rm e];omega
     unfold l5;omega
    ·have cj:c'≠c:=λe=>by rw [e] at kd;have:=uV kd;omega
     refine ⟨λe=>?_,λaqR=>?_⟩
     ·rw [hE 0 (λe=>Ef e.symm)];exact ar.1 e
     ·rw [hE c' cj,rm cj];exact ar.2 aqR
    ·rw [h'];rcases jU with jU | jU | ⟨_,jU⟩
     ·exact .inl jU
     ·exact .inr (.inl jU)
     ·exact .inr (.inr jU)
  obtain ⟨oA,bs,By,eK,fj,fL,g5⟩:=key;obtain ⟨gg,cU,ie,wD,nb,EG,Vr⟩:=Rg aI gS dG l eK;have Cb:turns F (t::l)=((turns (eW F t).1 l).1,(eW F t).2::(turns (eW F t).1 l).2):=rfl;rw [Cb];refine ⟨gg,cU,ie,by rw [ue] at wD;exact wD,ud nb fj,λk c' J kd ar=>EG k c' (by simp;omega) kd (fL k c' J kd ar),λk c' J kd=>?_⟩;by_cases e:k=pre.length
  ·subst e;rw [J6] at kd;cases kd;exact EG pre.length c (by simp) J6 g5
  ·exact Vr k c' (by simp;omega) kd
theorem Zr (aI:di E) (gS:∀ c ∈ rs,1<=c/\c<6) (h:rN E rs cs F ts G A g gr) {m:Nat} {ew gg:a9} (aX:wT i m G=some gg) (aA:kx ew gg) (cM:F=G->ew=gg):∃ A' cU ie,rN E rs cs ew ts gg A' cU ie/\l5 rs gg cU ie<l5 rs G g gr/\fN E A A':=by
 obtain ⟨A',cU,ie,eK,fj,fL,g5,oo,wv,C,C',auz,auA,auB,auy⟩:=amU aI gS h.p9 aX;have oa:0 ∉ rs:=λe=>by have:=gS 0 e;omega
 refine ⟨A',cU,ie,⟨eK,aA,h.len,λk c t J aZ=>?_⟩,?_,oo⟩
 ·rcases h.j9 k c t J aZ with ⟨e,bg,b⟩ | ⟨e,b⟩
  ·exact .inl ⟨e,cM bg,b.aO fj g5⟩
  ·exact .inr ⟨e,b.aO (fL c)⟩
 ·have oh:∀ c,(ie c).aQ=(gr c).aQ:=λc=>RL (fL c)
  have aK:gR gg i<gR G i:=by unfold gR;rw [auz,auA];exact auB
  have Ep:∀ k,k≠i->gR gg k=gR G k:=λk J=>by unfold gR;rw [auy k J]
  unfold l5;rw [fj];rcases wv with e | e
  ·subst e;have:(rs.map λc=>gR gg c+lI (ie c).aQ).sum<=(rs.map λc=>gR G c+lI (gr c).aQ).sum:=IF λk J=>by rw [oh,Ep k (λe=>oa (by rw [<-e];exact J))];exact eJ _
   omega
  ·have aD:=gS i e;have af:=Ep 0 (by omega);have:(rs.map λc=>gR gg c+lI (ie c).aQ).sum<(rs.map λc=>gR G c+lI (gr c).aQ).sum:=Z4 (i:=i) (λk J=>by
    rw [oh];by_cases ta:k=i
    ·subst ta;omega
    ·rw [Ep k ta];exact eJ _) e (by rw [oh];omega)
   omega
def C1 (ts:List ir):Prop:=∀ t ∈ ts,t.ix=true
theorem am5 (gS:∀ c ∈ rs,1<=c/\c<6) (h:rN E rs cs F ts G A g gr) (ar:∀ c ∈ cs,Dg rs G g gr c) (aM:F.gz=[]):C1 ts:=λt aZ=>by
 obtain ⟨k,J⟩:=hn.1 aZ;obtain ⟨c,ab⟩:∃ c,cs[k]?=some c:=⟨_,cp (by rw [<-h.len];exact dy J)⟩;have fO:=ar c (dn ab);rcases h.j9 k c t ab J with ⟨e,bg,bq⟩ | ⟨e,bq⟩
 ·rcases fO.1 e with p | p | ⟨C,b0,aj⟩
  ·exact (bq.fin p).1
  ·exact (bq.ref p).1
  ·subst bg;exact absurd (af7 aM b0) aj
 ·rcases fO.2 e with p | p | ⟨C,b0,aj⟩
  ·exact (bq.fin p).1
  ·exact (bq.busy p).1
  ·have:=gS c e;rw [<-h.AF.ld (by omega)] at b0;exact absurd (af7 aM b0) aj
theorem Wt:∀ {ts:List ir} {F:a9},C1 ts->turns F ts=(F,ts)
 | [],F,_=>rfl
 |t::ts,F,h=>by
  have pX:eW F t=(F,t):=by unfold eW;rw [if_pos (.inl (h t iA))]
  show ((turns (eW F t).1 ts).1,(eW F t).2::(turns (eW F t).1 ts).2)=_;rw [pX];show ((turns F ts).1,t::(turns F ts).2)=_;rw [Wt λx ao=>h x (jz _ ao)]
theorem aap (aI:di E) (gS:∀ c ∈ rs,1<=c/\c<6) {cs:eI} (dG:cs.Nodup) (ds sch:bR):∀ (f n:Nat) {F G:a9} {ts:List ir} {A:cd} {g:kt} {gr:Nat->fa},rN E rs cs F ts G A g gr->
  ∃ gg A' cU ie,rN E rs cs (m0 ds sch [] f n F ts).1 (m0 ds sch [] f n F ts).2 gg A' cU ie/\fN E A A'/\l5 rs gg cU ie<=l5 rs G g gr/\(l5 rs G g gr<f->C1 (m0 ds sch [] f n F ts).2)
 | 0,n,F,G,ts,A,g,gr,h=>⟨G,A,g,gr,h,fN.refl E A,eJ _,λhw=>by omega⟩
 |f+1,n,F,G,ts,A,g,gr,h=>by
  obtain ⟨oA,bs,By,eK,fj,_,g5⟩:=Rg aI gS dG ts (pre:=[]) h;rw [xN] at eK;unfold m0;have ed:r' F ds n []=F:=rfl;rw [ed];rcases alc eK.p9 eK.AF sch n with ⟨e,aM⟩ | ⟨i,m,ew,gg,aX,e,aA,cM⟩
  ·rw [e,if_neg (by simp)];refine ⟨oA,A,bs,By,eK,fN.refl E A,fj,λ_=>am5 gS eK (λc ab=>?_) aM⟩;obtain ⟨k,J⟩:=hn.1 ab;exact g5 k c (Md _) J
  ·rw [e,if_pos rfl];obtain ⟨mz,bI,Ob,wD,nb,EG⟩:=Zr aI gS eK aX aA cM;obtain ⟨aik,Mt,dd,apG,iU,lG,At,p3⟩:=aap aI gS dG ds sch f (n+1) wD;exact ⟨aik,Mt,dd,apG,iU,EG.trans lG,by omega,λhw=>p3 (by omega)⟩
theorem YP (aI:di E) (gS:∀ c ∈ rs,1<=c/\c<6) (dG:cs.Nodup) (h:rN E rs cs F ts G A g gr) (sch:bR) (most:Nat) :
  ∃ gg A' cU ie,rN E rs cs (ib F ts sch [] most).1 (ib F ts sch [] most).2 gg A' cU ie/\fN E A A'/\l5 rs gg cU ie<=l5 rs G g gr/\(l5 rs G g gr<most->C1 (ib F ts sch [] most).2):=by
 unfold ib;obtain ⟨oA,iB,bs,By,eK,fj,g5,fL⟩:=aap aI gS dG (ts.map dB.bw) sch most 0 h;obtain ⟨iY,bI,Ob,wD,nb,_,_⟩:=Rg aI gS dG _ (pre:=[]) eK;rw [xN] at wD;refine ⟨iY,iB,bI,Ob,wD,fj,by omega,λhw=>?_⟩
 have:=fL hw;rw [Wt this];exact this
theorem am6 (aI:di E) (gS:∀ c ∈ rs,1<=c/\c<6) (h:rN E rs cs F ts G A g gr) (ao:x ∈ F.gz):∃ ew gg A' cU ie,F.step x=(true,ew)/\rN E rs cs ew ts gg A' cU ie/\l5 rs gg cU ie<l5 rs G g gr/\fN E A A':=by obtain ⟨i,m,ew,gg,aX,e,aA,cM⟩:=Zq h.p9 h.AF ao;obtain ⟨mz,bI,Ob,wD,nb,EG⟩:=Zr aI gS h aX aA cM;exact ⟨ew,gg,mz,bI,Ob,e,wD,nb,EG⟩
end
end
section
open iH

end
section
open iH
theorem ald {x:Nat} (ao:x<18446744073709551616):jC .u64 (x:Int) 255=((x % 256:Nat):Int):=by have ak:jC .u64 (x:Int) ((2 ^ 8 - 1:Nat):Int)=(x:Int) % (2 ^ 8:Nat):=WH (by omega) (by omega) 8 (by omega);have ak:jC .u64 (x:Int) 255=(x:Int) % 256:=ak;rw [ak];omega
theorem X7 (bc:256 * a<18446744073709551616) (J:k<255):ii ((256 * a:Nat):Int) k=((256 * a+(k+1):Nat):Int):=by
 unfold ii;have e:((k:Int)+1)=((k+1:Nat):Int):=by omega
 rw [e,L6 _ _ bc (by omega)];congr 1;exact (Nat.two_pow_add_eq_or_of_lt (i:=8) (by omega) a).symm
theorem am7:fr .u64 ((256 * a:Nat):Int) 8=(a:Int):=by show Int.fdiv ((256 * a:Nat):Int) 256=_;rw [Mb _ (by decide)];omega
theorem ajv (bc:256 * (a+1)<18446744073709551616):t_ ((256 * a:Nat):Int)=((256 * (a+1):Nat):Int):=by unfold t_;rw [am7];show IntKind.u64.wrap (((a:Int)+1) * 256)=_;rw [qJ (by omega) (by omega)];omega
theorem aiU {p:a6} (h:rq p=true):∃ a:Nat,p.Head=((256 * a:Nat):Int)/\1<=a/\a<=281474976710654:=by
 simp only [rq,sF,vf,iz,decide_eq_true_eq,beq_iff_eq] at h;obtain ⟨⟨af,al⟩,aL⟩:=h;have e:fr .u64 p.Head 8=p.Head / 256:=by show Int.fdiv p.Head 256=_;rw [Mb _ (by decide)]
 rw [e] at af al;obtain ⟨x,ao⟩:∃ x:Nat,p.Head=x:=⟨p.Head.toNat,by omega⟩;rw [ao] at af al aL ⊢;rw [ald (by omega)] at aL;exact ⟨x / 256,by omega,by omega,by omega⟩
theorem ale {l:List a6} (h:∀ i,i<l.length->qZ l i=true):∀ a b (bc:a<l.length) (ak:b<l.length),a<b->l[a].b5<l[b].b5:=by
 intro a b bc ak zU;induction b with
 |zero=>omega
 |succ b c5=>
  have af:=h (b+1) ak;simp only [qZ,Ml,decide_eq_true_eq,gd] at af;have pg:b<l.length:=by omega
  rw [Nat.add_sub_cancel,cp pg,cp ak] at af;have af:l[b].b5<l[b+1].b5:=af.resolve_left (by omega);by_cases e:a=b
  ·subst e;exact af
  ·have:=c5 pg (by omega);omega
theorem X8 {L:Int} (h:oR l L=true):∃ k:Nat,l=(k:Int)/\96<=k/\(k:Int)<L:=by simp only [oR,decide_eq_true_eq] at h;exact ⟨l.toNat,by omega,by omega,by omega⟩
theorem hx.awA {E:Env} {j:eP} (aw:j.valid=0) (ab:j.bw=(i:Int)) (e8:i<6) (hw:j.v=rD E.n) (bE:j.lines=E.L) (aX:j.writes≠[]) (ed:∀ p ∈ j.writes,p.Head=E.base p.b5.toNat 0) (aA:∀ s ∈ j.reads,s.Head=E.base s.b5.toNat 0):hx E i j:=by
 have ss:=aw;have hlen:0<j.writes.length:=Mk.2 aX;unfold eP.valid at aw;split at aw
 ·omega
 split at aw
 ·next h=>exact absurd aw h
 split at aw
 ·omega
 next Km=>
 split at aw
 ·next h=>exact absurd aw h.2
 next af=>
 split at aw
 ·omega
 next abi=>
 split at aw
 ·omega
 next ik=>
 split at aw
 ·omega
 next gS=>
 have af:jD j.seq j.writes j.lines=0:=Decidable.not_not.1 λe=>af ⟨hlen,e⟩
 unfold jD at af;split at af
 ·omega
 split at af
 ·omega
 next pr=>
 split at af
 ·omega
 next ps=>
 split at af
 ·omega
 next Po=>
 have ps:∀ p ∈ j.writes,oR p.b5 j.lines=true:=lM.1 (by simpa using ps);have ik:∀ p ∈ j.reads,oR p.b5 j.lines=true:=lM.1 (by simpa using ik);have Po:∀ i,i<j.writes.length->qZ j.writes i=true/\rq (j.writes.getD i nf)=true:=λi aD=>by have:=lM.1 (show (List.range j.writes.length).all (λi=>qZ j.writes i && rq (j.writes.getD i nf))=true by simpa using Po) i (jT.2 aD);rwa [iz] at this
 have gS:∀ i,i<j.reads.length->wR j.reads j.writes i=true:=λi aD=>lM.1 (show (List.range j.reads.length).all (wR j.reads j.writes)=true by simpa using gS) i (jT.2 aD)
 have aK:=ale λi aD=>(Po i aD).1
 have ack:∀ p ∈ j.writes,∃ a:Nat,p.Head=((256 * a:Nat):Int)/\1<=a/\a<=281474976710654:=λp ar=>by obtain ⟨k,J,rfl⟩:=Q_ ar;have:=(Po k J).2;rw [gd,cp J] at this;exact aiU this
 refine ⟨ab,e8,ss,hw,aX,by omega,by omega,λp ar=>?_,λp ar=>?_,λp ar q aM e=>?_,?_,ed,λp ar k J=>?_,λp ar=>?_,aA,λs Pc p ar e=>?_⟩
 ·obtain ⟨k,bY,bg,dF⟩:=X8 (ps p ar);exact ⟨k,bY,bg,by omega⟩
 ·obtain ⟨k,bY,bg,dF⟩:=X8 (ik p ar);exact ⟨k,bY,bg,by omega⟩
 ·obtain ⟨a,bc,rfl⟩:=Q_ ar;obtain ⟨b,ak,rfl⟩:=Q_ aM;rcases Nat.lt_trichotomy a b with h | h | h
  ·have:=aK a b bc ak h;omega
  ·subst h;rfl
  ·have:=aK b a ak bc h;omega
 ·rw [List.nodup_iff_pairwise_ne,List.pairwise_map,WN];intro a b bc ak zU e;have:=aK a b bc ak zU;omega
 ·obtain ⟨a,e,af,al⟩:=ack p ar;rw [e,X7 (by omega) (by omega),X7 (by omega) (by omega)];exact ⟨by omega,λe=>by omega⟩
 ·obtain ⟨a,e,af,al⟩:=ack p ar;rw [e,ajv (by omega)];omega
 ·obtain ⟨k,J,rfl⟩:=Q_ Pc;have:=gS k J;simp only [wR,iz,gd,cp J,FC,has,Q6,decide_eq_true_eq] at this;exact this.2 p ar e.symm
end
section
open iH
def IS (l k:Nat):Int:=if k=0 then 256 else 0
def Mq (n L:Nat):Bool:=
 let w:=fmt L n
 w.length == L * 8 && (w.getD 0 0 == 1 && (w.getD 1 0 == 1 && ((List.range 6).all (λc=>w.getD (24+c) 0 == 1 && w.getD (32+c) 0 == 0) && (List.range (L - 96)).all λq=>(List.range 8).all λk=>w.getD ((q+96) * 8+k) 0 == IS 0 k)))
end
section
open IntKind
variable (w:av) (R:dW) {a b c:Nat} {s:ax} {i k l:Int} {A B:bh} {j:aB}
def PF (cJ:bh) (s1:ax) (a b:Nat) (s2 dE:Int) (j:aB):aB:=.pointer (some cJ)::ad s1 a b::I s2::ag j 0 4 (I dE::ag j 4 137 [])
def aeD  (j:aB):aB:=ag j 0 145 []
def PG (cJ:bh) (s1:ax) (a b:Nat) (s2 dE s8:Int) (j:aB):aB:=.pointer (some cJ)::ad s1 a b::I s2::ag j 0 4 (I dE::I s8::ag j 4 136 [])
def aeE (a:bh) (s1:ax) (b c:Nat) (s2 dE:Int) (j:aB):aB:=.pointer (some a)::ad s1 b c::I s2::ag j 0 4 (I dE::ag j 4 137 [])
def PH (cJ:bh) (s1:ax) (a b:Nat) (s2 dE c:Int) (j:aB):aB:=.pointer (some cJ)::ad s1 a b::I s2::ag j 0 4 (I dE::ag j 4 5 (I c::ag j 9 131 []))
def aeF (a:bh) (s1:ax) (b c:Nat) (s2 dE:Int) (j:aB):aB:=.pointer (some a)::ad s1 b c::I s2::ag j 0 4 (I dE::ag j 4 137 [])
theorem wn:bS prog f27 [bM a,ad s b c,I i] R w=(dT prog (e0 f27 [1,0,1,0,0]) (PF (ae a 0) s b c i 0 (bQ 3 (U false::bQ 137 []))) (a8 0 (ba f27 [1,1] R)) w):=by kernel_rfl
theorem awu (d:aB->aV):W prog (sb f27 [1,0,1,0,0]) (PF A s a b i k j) (bk d (a8 0 (ba f27 [1,1] R))) w=(cond (k<(a:Nat)) (dT prog (e0 f27 [1,0,1,0,0,1,0,0,0,1,0,0]) (PG A s a b i k 96 (ag j 0 4 (ag j 5 13 (I k::ad s a b::eZ a::U (k<(a:Nat))::ag j 22 119 [])))) (a8 2 (bk (λc w=>W prog (sb f27 [1,0,1,0,0,1,0,0,1]) c (a8 1 (bk (λc w=>W prog (sb f27 [1,0,1,0,0,1,1]) c (bk d (a8 0 (ba f27 [1,1] R))) w) (bk d (a8 0 (ba f27 [1,1] R))))) w) (a8 1 (bk (λc w=>W prog (sb f27 [1,0,1,0,0,1,1]) c (bk d (a8 0 (ba f27 [1,1] R))) w) (bk d (a8 0 (ba f27 [1,1] R))))))) w) (W prog (sb f27 [1,1]) (aeD  (jp A::ad s a b::I i::ag j 0 4 (I k::ag j 4 14 (I k::ad s a b::eZ a::U (k<(a:Nat))::ag j 22 119 [])))) (c3 f27 R) w)):=by kernel_rfl
theorem ayc:W prog (sb f27 [1,1]) (aeD  j) (c3 f27 R) w=(R (U true) w):=by kernel_rfl
theorem awv (q:aB->aV) (z:aB->aV):W prog (sb f27 [1,0,1,0,0,1,0,0,0,1,0,0]) (PG A s a b i k l j) (bk z (a8 2 (bk (λp w=>W prog (sb f27 [1,0,1,0,0,1,0,0,1]) p (a8 1 (bk (λp w=>W prog (sb f27 [1,0,1,0,0,1,1]) p (bk q (a8 0 (ba f27 [1,1] R))) w) (bk q (a8 0 (ba f27 [1,1] R))))) w) (a8 1 (bk (λp w=>W prog (sb f27 [1,0,1,0,0,1,1]) p (bk q (a8 0 (ba f27 [1,1] R))) w) (bk q (a8 0 (ba f27 [1,1] R)))))))) w=(cond (l<i) (cb s a 0 3 λx=>cQ w x λc=>Calls prog 30 #[.pointer (some A),I c,I l] w λe E=>a6.ex λn=>∃ (d:Bool),e=.returned (.tuple #[n.val,U d])/\bb E #[I 0,ah 0,ah 0,ah 0,ah 0,ah 0,ah 0,ah 0,ah 0] 73 λt D=>bJ D (ae t 0) 0 n.cells λB=>cb s a k 3 λu=>cQ B u λf=>Calls prog 30 #[.pointer (some A),I f,I l] B λe C=>a6.ex λm=>∃ (g:Bool),e=.returned (.tuple #[m.val,U g])/\bb C #[I 0,ah 0,ah 0,ah 0,ah 0,ah 0,ah 0,ah 0,ah 0] 73 λv F=>bJ F (ae v 0) 0 m.cells λo=>cond (!d) (R (U false) o) (cond (!g) (R (U false) o) (mS o (ae t 0) λr=>mS o (ae v 0) λy=>F3 prog 73 r.val y.val λ(eq:Bool)=>cond (!eq) (R (U false) o) (fR o (ae t 1) λh=>cond (((jC .u64 h 255):Int) != 0) (R (U false) o) (z (PG A s a b i k (i64.wrap (l+1)) (ag j 0 4 (jp (ae t 0)::U d::jp (ae v 0)::U g::ag j 8 15 (I l::I i::U (l<i)::I l::I (i64.wrap (l+1))::.tuple #[n.val,U d]::jp A::ad s a b::jp x::jp x::I c::I l::.tuple #[n.val,U d]::n.val::U d::.tuple #[m.val,U g]::jp A::ad s a b::I k::jp u::jp u::I f::I l::.tuple #[m.val,U g]::m.val::U g::U d::U (!d)::U false::U g::U (!g)::U (!g)::U false::r.val::y.val::U (!eq)::U (!eq)::U false::jp (ae t 1)::ah h::ah (jC .u64 h 255)::U (((jC .u64 h 255):Int) != 0)::U (((jC .u64 h 255):Int) != 0)::ag j 66 74 [])))) o))))) (W prog (sb f27 [1,0,1,0,0,1,0,0,1]) (aeE A s a b i k (ag j 0 4 (I l::ag j 4 19 (I l::I i::U (l<i)::ag j 26 114 [])))) (a8 1 (bk (λp w=>W prog (sb f27 [1,0,1,0,0,1,1]) p (bk q (a8 0 (ba f27 [1,1] R))) w) (bk q (a8 0 (ba f27 [1,1] R))))) w)):=by kernel_rfl
theorem axK (c:aB->aV):W prog (sb f27 [1,0,1,0,0,1,0,0,1]) (aeE A s a b i k j) (a8 1 (bk (λd w=>W prog (sb f27 [1,0,1,0,0,1,1]) d (bk c (a8 0 (ba f27 [1,1] R))) w) (bk c (a8 0 (ba f27 [1,1] R))))) w=(dT prog (e0 f27 [1,0,1,0,0,1,0,0,1,1,0,0]) (PH A s a b i k 0 (ag j 0 9 (ag j 10 131 []))) (a8 4 (a8 1 (bk (λd w=>W prog (sb f27 [1,0,1,0,0,1,1]) d (bk c (a8 0 (ba f27 [1,1] R))) w) (bk c (a8 0 (ba f27 [1,1] R)))))) w):=by kernel_rfl
theorem aww (D:aB->aV) (bF:aB->aV):W prog (sb f27 [1,0,1,0,0,1,0,0,1,1,0,0]) (PH A s a b i k l j) (bk bF (a8 4 (a8 1 (bk (λfS w=>W prog (sb f27 [1,0,1,0,0,1,1]) fS (bk D (a8 0 (ba f27 [1,1] R))) w) (bk D (a8 0 (ba f27 [1,1] R))))))) w=(cond (l<6) (dP w λT B=>cb s a 0 3 λE=>eG B E λd=>dI 49 #[I l] T λf bG=>B bG/\Qd 20 #[.pointer (some A),I d,I f] bG λg h X=>dP X λP K=>cb s a k 3 λx=>eG K x λe=>dI 49 #[I l] P λG O=>K O/\Qd 20 #[.pointer (some A),I e,I G] O λu m S=>dP S λQ L=>cb s a 0 3 λy=>eG L y λn=>dI 50 #[I l] Q λo H=>L H/\Qd 20 #[.pointer (some A),I n,I o] H λp q V=>dP V λz N=>cb s a k 3 λF=>eG N F λr=>dI 50 #[I l] z λc M=>N M/\Qd 20 #[.pointer (some A),I r,I c] M λt v C=>cond (!h) (R (U false) C) (cond (!m) (R (U false) C) (cond (!q) (R (U false) C) (cond (!v) (R (U false) C) (cond (g != u) (R (U false) C) (cond (p != t) (R (U false) C) (bF (PH A s a b i k (i64.wrap (l+1)) (ag j 0 9 (ah g::U h::ah u::U m::ah p::U q::ah t::U v::ag j 17 49 [I l,U (l<6),I l,I (i64.wrap (l+1)),.tuple #[ah g,U h],jp A,ad s a b,jp E,jp E,I d,I l,I f,.tuple #[ah g,U h],ah g,U h,.tuple #[ah u,U m],jp A,ad s a b,I k,jp x,jp x,I e,I l,I G,.tuple #[ah u,U m],ah u,U m,.tuple #[ah p,U q],jp A,ad s a b,jp y,jp y,I n,I l,I o,.tuple #[ah p,U q],ah p,U q,.tuple #[ah t,U v],jp A,ad s a b,I k,jp F,jp F,I r,I l,I c,.tuple #[ah t,U v],ah t,U v,U h,U (!h),U false,U m,U (!m),U (!m),U false,U q,U (!q),U (!q),U false,U v,U (!v),U (!v),U false,ah g,ah u,U ((g:Int) != u),U ((g:Int) != u),U false,ah p,ah t,U ((p:Int) != t),U ((p:Int) != t)]))) C))))))) (W prog (sb f27 [1,0,1,0,0,1,1]) (aeF A s a b i k (ag j 0 9 (I l::ag j 9 57 (I l::U (l<6)::ag j 68 72 [])))) (bk D (a8 0 (ba f27 [1,1] R))) w)):=by kernel_rfl
theorem axL (c:aB->aV):W prog (sb f27 [1,0,1,0,0,1,1]) (aeF A s a b i k j) (bk c (a8 0 (ba f27 [1,1] R))) w=(c (PF A s a b i (i64.wrap (k+1)) (ag j 0 22 (I k::I (i64.wrap (k+1))::ag j 24 117 []))) w):=by kernel_rfl
def PB (fM:bh) (rz:ax) (a b:Nat) (c:bh) (d:Int) (j:aB):aB:=ag j 0 6 (.pointer (some fM)::ag j 6 2 (ad rz a b::ag j 8 1 (.pointer (some c)::I d::ag j 9 39 [])))
def aeL (a b:bh) (j:aB):aB:=ag j 0 6 (.pointer (some a)::ag j 6 4 (.pointer (some b)::ag j 10 40 []))
theorem aCo:bS prog f30 [bM a,I i,I k] R w=(bb w #[I 0,ah 0,ah 0,ah 0,ah 0,ah 0,ah 0,ah 0,ah 0] 73 λl y=>wL 39 #[bM a,I i] y λj r=>cond (Option.isNone j) (bJ r (ae l 0) 0 [I 0,ah 0,ah 0,ah 0,ah 0,ah 0,ah 0,ah 0,ah 0] λo=>mS o (ae l 0) λh=>o=o/\R (.tuple #[h.val,U false]) o) (dI 54 #[I k] r λb v=>HB 40 #[.pointer j,I b,I 8] v λc d f g n=>cond (g != 0) (bJ n (ae l 0) 0 [I 0,ah 0,ah 0,ah 0,ah 0,ah 0,ah 0,ah 0,ah 0] λm=>mS m (ae l 0) λe=>m=m/\R (.tuple #[e.val,U false]) m) (cond ((d:Int) != 8) (bJ n (ae l 0) 0 [I 0,ah 0,ah 0,ah 0,ah 0,ah 0,ah 0,ah 0,ah 0] λp=>mS p (ae l 0) λq=>p=p/\R (.tuple #[q.val,U false]) p) (cb c d 0 1 λt=>fR n t λx=>bb n #[I 0,ah 0,ah 0,ah 0,ah 0,ah 0,ah 0,ah 0,ah 0] 73 λs u=>bJ u (ae s 0) 0 [I k,ah x,ah 0,ah 0,ah 0,ah 0,ah 0,ah 0,ah 0] λz=>dT prog (e0 f30 [1,1,1,1,1,1,0,1,0,0]) (PB (ae l 0) c d f (ae s 0) 0 (jp (ae a 0)::I i::I k::bQ 3 (U false::.pointer j::I g::jp (ae a 0)::I i::.pointer j::.pointer j::U (Option.isNone j)::undef::.tuple #[ad c d f,I g]::.pointer j::I k::I b::.tuple #[ad c d f,I g]::ad c d f::I g::I g::U ((g:Int) != 0)::U false::ad c d f::eZ d::U ((d:Int) != 8)::U ((d:Int) != 8)::undef::I k::ad c d f::jp t::ah x::.agg #[I k,ah x,ah 0,ah 0,ah 0,ah 0,ah 0,ah 0,ah 0]::bQ 13 []))) (a8 0 (ba f30 [1,1,1,1,1,1,1] R)) z)))):=by kernel_rfl
theorem aw1 (c:aB->aV):W prog (sb f30 [1,1,1,1,1,1,0,1,0,0]) (PB A s a b B i j) (bk c (a8 0 (ba f30 [1,1,1,1,1,1,1] R))) w=(cond (i<7) (cb s a (i64.wrap (1+i)) 1 λd=>fR w d λx=>tE (cX B 2) 7 i 1 λf=>ev w f (ah x) λe=>c (PB A s a b B (i64.wrap (i+1)) (ag j 0 35 [I i,U (i<7),I i,I (i64.wrap (i+1)),I i,ad s a b,I i,I (i64.wrap (1+i)),jp d,ah x,cz B 2,jp f,aW j 47])) e) (W prog (sb f30 [1,1,1,1,1,1,1]) (aeL A B (ag j 0 8 (ad s a b::aW j 8::I i::ag j 9 26 (I i::U (i<7)::ag j 37 11 [])))) (c3 f30 R) w)):=by kernel_rfl
theorem ayr:W prog (sb f30 [1,1,1,1,1,1,1]) (aeL A B j) (c3 f30 R) w=(mS w B λr=>bJ w A 0 r.cells λa=>mS a A λc=>a=a/\R (.tuple #[c.val,U true]) a):=by kernel_rfl
theorem ay5:bS prog f41 [I i] R w=(cond (i>=0) (R (U (i<6)) w) (R (U false) w)):=by kernel_rfl
theorem aze:bS prog f49 [I i] R w=(fu 41 #[I i] w λa b=>cond (!a) (R (I (-1)) b) (R (I (i64.wrap (32+i))) b)):=by kernel_rfl
theorem azC:bS prog f50 [I i] R w=(fu 41 #[I i] w λa b=>cond (!a) (R (I (-1)) b) (R (I (i64.wrap (24+i))) b)):=by kernel_rfl
theorem ay6:bS prog f54 [I i] R w=(cond (i<96) (R (I (-1)) w) (cond (i>=256) (R (I (-1)) w) (R (I (i64.wrap (i * 8))) w))):=by kernel_rfl
end
section
theorem alf (w:av) (af:96<=l) (al:l<256):bK 54 [.int .i64 l] w λv w'=>v=.int .i64 (l * 8)/\w'=w:=by refine bO Tryz.func54 ?_;rw [ay6];refine eX (by simp;omega) (eX (by simp;omega) ⟨?_,rfl⟩);rw [cn (by omega) (by omega)]
def bt.g6 (n:bt) (l:Nat):a6:=⟨l,n.get (l * 8),n.get (l * 8+1),n.get (l * 8+2),n.get (l * 8+3),n.get (l * 8+4),n.get (l * 8+5),n.get (l * 8+6),n.get (l * 8+7)⟩
theorem alg {at_ c q:Nat} (aM:q<c) (au:at_+c<=n.words.length):(n.read at_ c)[q]?=some (n.get (at_+q)):=by unfold bt.read;have aX:n.words[at_+q]?=some (n.get (at_+q)):=bt.get_some (by omega);rw [j_,j_,Ig aM,uf,aX]
theorem akN {l:Nat} (aD:i<7):((n.g6 l).cells.take (2+i)++List.replicate (7 - i) (Value.int .u64 0)).set (2+i) (Value.int .u64 (n.get (l * 8+(1+i))))=(n.g6 l).cells.take (2+(i+1))++List.replicate (7 - (i+1)) (Value.int .u64 0):=by
 have h:i=0\/i=1\/i=2\/i=3\/i=4\/i=5\/i=6:=by omega
 rcases h with rfl | rfl | rfl | rfl | rfl | rfl | rfl<;>rfl
theorem FN {A:bB} {aG:Nat->Tag} {w:av} {a3:Nat} {X:cF} (h:c4 A aG w a3 X) {x:mm} (ao:X.nodes[i]?=some x) {l:Nat} (au:96<=l/\l<256) (hw:l * 8+8<=x.n.words.length) (aC:x.n.down=false) :
  bK 30 [ptr a3,.int .i64 i,.int .i64 l] w λv w'=>v=.tuple #[(x.n.g6 l).val,.bool true]/\ai w w':=by
 refine bO Tryz.func30 ?_;rw [ptr,aCo];rintro b1 w1 bA br;obtain ⟨bm,a1⟩:=b4 bA br;have bm:aF w1 b1 (a6.cells ⟨0,0,0,0,0,0,0,0,0⟩) hs:=bm;clear br;have af:=h.new a1;refine aR (WA af ao) ?_;rintro v ct ⟨rfl,rfl⟩;refine ⟨_,rfl,eX rfl ?_⟩;refine aR (alf _ (l:=(l:Int)) (by omega) (by omega)) ?_;rintro v cS ⟨rfl,rfl⟩;refine ⟨_,rfl,?_⟩;have GF:x.n.iM ((l:Int) * 8) 8=0:=by unfold bt.iM;rw [if_neg (by omega),if_neg (by simp [aC])]
 refine aR (MR (af.node i x ao).node ((l:Int) * 8) 8) ?_;rintro v b2 (⟨ab,_⟩ | ⟨_,a,cap,rfl,bf,aq,bc⟩)
 ·exact absurd GF ab
 have a':∀ q,q<8->(x.n.read ((l:Int) * 8) 8)[q]?=some (x.n.get (l * 8+q)):=λq aM=>by have:=alg (n:=x.n) (at_:=l * 8) (c:=8) aM (by omega);simpa using this
 have hlen:(x.n.read ((l:Int) * 8) 8).length=8:=bt.Qf GF;have dw:=aq.rd;obtain ⟨lP,fZ,rfl⟩:∃ b o,a=⟨b,o,none⟩:=by
  rcases dw with aA | ⟨b,o,he,_⟩
  ·have:=congrArg List.length aA;simp [us,hlen] at this
  ·simp at he;exact ⟨b,o,he⟩
 have adb:∀ z,ai b2 z->∀ q,q<8->z.cell? ⟨lP,fZ+q,none⟩=some (.int .u64 (x.n.get (l * 8+q))):=λz aE q aM=>by
  rcases dw.new aE with aA | ⟨b,o,he,jl⟩
  ·have:=congrArg List.length aA;simp [us,hlen] at this
  ·simp at he;obtain ⟨rfl,rfl⟩:=he;exact jl q _ (by simp [us,a' q aM])
 have fI:=a1.size;have j2:=bf.size;have g3:=bm.lt;refine ⟨_,_,_,_,rfl,eX rfl (eX rfl ?_)⟩;refine hc (by omega) (by decide) ⟨_,by simpa using adb b2 (ay.refl _ _) 0 (by omega),?_⟩;refine g0 (vs:=a6.cells ⟨l,x.n.get (l * 8),0,0,0,0,0,0,0⟩) rfl (a6.single _) λaP c6 cv bP bz=>?_
 refine e2 mix (λq env z=>∃ (i:Nat) (aT:aH),q=7 - i/\i<=7/\env=PB ⟨b1,0,none⟩ (some ⟨lP,fZ,none⟩) 8 cap ⟨aP,0,none⟩ i aT/\ai b2 z/\aF z aP ((x.n.g6 l).cells.take (2+i)++List.replicate (7 - i) (.int .u64 0)) hs) 7
  ⟨0,_,rfl,by omega,rfl,bz,bP⟩ ?_
 rintro q env z ⟨i,aT,rfl,aD,rfl,da,zX⟩;rw [aw1];refine bL (λaK=>?_) (λhQ=>?_)
 ·have hR:i<7:=by omega
  rw [cn (x:=1+(i:Int)) (by omega) (by omega)];refine hc (by omega) (by omega) ⟨x.n.get (l * 8+(1+i)),?_,?_⟩
  ·have:=adb z da (1+i) (by omega);simpa [show (1+(i:Int)).toNat=1+i by omega] using this
  refine yR (by omega) (by omega) ?_;have e:0+2+(i:Int).toNat * 1=2+i:=by omega
  rw [e];refine FU zX (by rw [gp,o2,Q',a6.len];omega) λdq DY eN=>?_
  rw [cn (x:=(i:Int)+1) (by omega) (by omega)];rw [akN hR] at DY;exact ⟨7 - (i+1),by omega,i+1,_,rfl,by omega,rfl,da.trans eN λk J e=>by have bg:k=aP:=e;omega,DY⟩
 ·have arD:i=7:=by omega
  subst arD;rw [ayr];have zX:aF z aP (x.n.g6 l).cells hs:=zX;have Ve:aF z b1 (a6.cells ⟨0,0,0,0,0,0,0,0,0⟩) hs:=ai.an (bf.new da) bm;refine a6.bd (x.n.g6 l) ⟨cD zX rfl,?_⟩;refine gL Ve rfl (a6.single _) λdq sd eN=>?_
  refine a6.bd (x.n.g6 l) ⟨cD sd rfl,rfl,rfl,?_⟩;exact ((a1.new bf).new da).trans eN λk J e=>by omega
end
end Go.Proofs.YtmkljjbioomepaaGreat
