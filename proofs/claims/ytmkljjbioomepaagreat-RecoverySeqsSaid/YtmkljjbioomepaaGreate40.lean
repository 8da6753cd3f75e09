import Derived.Test.YtmkljjbioomepaaGreate39
import Derived.Test.YtmkljjbioomepaaGreate36
import Derived.Test.YtmkljjbioomepaaGreate37
import Derived.Test.YtmkljjbioomepaaGreatProg
import Derived.Test.YtmkljjbioomepaaGreate03
import Derived.Test.YtmkljjbioomepaaGreate16
import Derived.Test.YtmkljjbioomepaaGreate15
import Derived.Test.YtmkljjbioomepaaGreate27
import Derived.Test.YtmkljjbioomepaaGreate14
set_option linter.all false
set_option maxHeartbeats 4000000
set_option maxRecDepth 100000
namespace Go.Proofs.YtmkljjbioomepaaGreat
open Go.Proofs.Tryz Go.bn
variable {L seq:Int} {a i k l m n x:Nat}
section
open dq dr
section
variable {E:Env} {j:b_} {ns:List aH}
def Es (p:aR):Nat×Int×Int:=(p.bm.toNat * 8,p.Head,eP p.Head ((0:Nat):Int))
theorem Of (aJ:gN E) (h:db E 0 j) (e:ns.length=E.n) (g:∀ x ∈ ns,cQ E.L false x) (hm:m<E.n):(g4 j ns).getD m bp=(ns.getD m bp).write 56 (eD j.seq j.writes):=by
 have l:=aJ.L;have o:=h.dM;have k:=kE j.seq j.writes;have d:e_ j=(List.range E.n).map λm=>b5 m ((56:Nat):Int) (eD j.seq j.writes):=by unfold e_;rw [h.log,h.cC];rfl
 have a:b5 m ((56:Nat):Int) (eD j.seq j.writes) ∈ e_ j:=by rw [d];exact o5 (f:=λm=>b5 m ((56:Nat):Int) (eD j.seq j.writes)) (dS.2 hm)
 obtain ⟨_,_,i,_⟩:=In (c:=0) (ns:=ns) (vs:=e_ j) (by
  have:(e_ j).map (λv=>v.node.toNat)=List.range E.n:=by rw [d,jZ];exact List.map_id' _
  rw [this];exact List.nodup_range) (λv aj=>by rw [e];exact (oQ aJ h v aj).at_) (λv aj=>((oQ aJ h v aj).run _ (g _ (cj (jF (by rw [e];exact (oQ aJ h v aj).at_))))).1)
 have:=i _ a;have this:(g4 j ns)[m]?=some (df (b5 m ((56:Nat):Int) (eD j.seq j.writes)) (ns.getD m bp)):=this;rw [lW this];have b:=(g _ (cj (jF (show m<ns.length by omega)))).len;exact (ss (by omega) (by rw [b];omega)).1
theorem Hp (aJ:gN E) (h:db E 0 j) (i:j.reads=[]) (z:ns.length=E.n) (I:∀ x ∈ ns,cQ E.L false x) (Uo:∀ p ∈ j.writes,(ns.getD 0 bp).get (p.bm.toNat * 8)=p.Head) :
  ∃ k G',Lone dr.conv 0 E.n E.L (.inl j) k ns [] (.inl (0,3)) (h3 j ns) G'/\(∀ x ∈ h3 j ns,cQ E.L false x)/\(h3 j ns).length=E.n/\k<=12000:=by
 have V:=aJ.n;have Uv:=aJ.L;have Uw:=h.dM;have Um:=kE j.seq j.writes;have aj:=h.valid;have cB:=h.some_;have hm:j.v.mem≠[]:=by rw [h.mem];intro e;have:=congrArg List.length e;simp at this <;> omega
 have b6:(g4 j ns).length=E.n:=by unfold g4;rw [(hx _ _).1];exact z
 have l2:(iR j ns).length=E.n:=by unfold iR;rw [(hx _ _).1];exact b6
 have W:(hi j ns).length=E.n:=by unfold hi;rw [(hx _ _).1];exact l2
 have X:(iS j ns).length=E.n:=by unfold iS;rw [(hx _ _).1];exact W
 have Y:(h3 j ns).length=E.n:=by unfold h3;rw [(hx _ _).1];exact X
 have v0:=oQ aJ h;have v1:=tF aJ h i;have v2:=tE aJ h;have N:=tG aJ h;have v4:=uz aJ h;obtain ⟨P,gV,cg⟩:=iO v0 z I;obtain ⟨Q,b1,b8⟩:=iO (ns:=g4 j ns) v1 b6 gV;obtain ⟨R,az,g⟩:=iO (ns:=iR j ns) v2 l2 b1;obtain ⟨Z,Ui,T⟩:=iO (ns:=hi j ns) N W az;obtain ⟨s,S,u⟩:=iO (ns:=iS j ns) v4 X Ui;have b:fr (fA j) (ct (g4 j ns) (c2 j)).2=false:=by
  have A:c2 j=(j.writes.map Es).map λt=>cS 0 (t.1:Int) t.2.1 t.2.2:=by
   rw [h.sZ V.1,i,qh,g_,jZ];refine ml λp f=>?_
   obtain ⟨l,e,_,_⟩:=h.line p f;show mz (p.bm * 8) p.Head _=cS 0 ((p.bm.toNat * 8:Nat):Int) p.Head _;rw [e];rfl
  have H:fA j=j.writes.map (·.Head):=by unfold fA;rw [i];simp
  refine Bp ?_;have C:((j.writes.map Es).map (·.1)).Nodup:=by rw [jZ];have D:=h.nodup;refine tV.2 ((tV.1 D).imp_of_mem λ{p q} f Up a=>?_);obtain ⟨l,e,_,_⟩:=h.line p f;obtain ⟨l',Us,_,_⟩:=h.line q Up;show p.bm.toNat * 8≠q.bm.toNat * 8;omega
  rw [A,(Cw (jF (show 0<(g4 j ns).length by omega)) C).1,H,jZ,jZ];refine ml λp f=>?_
  obtain ⟨l,e,Ut,Uu⟩:=h.line p f;have J:=(I _ (cj (jF (show 0<ns.length by omega)))).len;show (⟨0,[((g4 j ns).getD 0 bp).get (p.bm.toNat * 8)]⟩:aC)=⟨0,[p.Head]⟩;rw [Of aJ h z I (by omega),rf (by rw [J];omega),if_neg (by omega),Uo p f]
 have Ux:=tD v0;have Uy:=tD v1;have Uz:=tD v2;have UA:=tD N;have UB:=tD v4;have UC:(e_ j).length=E.n:=by unfold e_;rw [h.log];simp
 have UD:(gM j).length=E.n:=by unfold gM;rw [h.log];simp
 have lj:(c2 j).length=j.writes.length:=by unfold c2;rw [i];simp
 have UE:(fo j).length=j.writes.length+1:=by rw [h.ov V.1];simp
 have vQ:(hW j).length=(E.n - 1) * (j.writes.length+1):=by
  rw [h.qG,List.length_flatten,jZ];have:(List.map (List.length ∘ λm=>j.writes.map (ep (m+1))++[jC 0 j.seq (m+1)]) (List.range (E.n - 1)))=List.replicate (E.n - 1) (j.writes.length+1):=by rw [<-mj (n:=E.n - 1),<-List.map_const'];simp
  rw [this,List.sum_replicate_nat]
 have Uq:(hW j).length<=(E.n - 1) * 13:=by rw [vQ];exact Nat.mul_le_mul_left _ (by omega)
 have w:∀ {vs:List aG},(∀ v ∈ vs,jA 0 E.n E.L v)->gy E.n E.L vs=0:=λaj=>kw rfl (by omega) λv hm=>(aj v hm).go
 have go:∀ {k:Nat} {ns1 ns':List aH} {G G':List (List aC)} {vs:List aG} {o:dr.conv.O},cX j G=(vs,(0,0),false)->G.length<=100->vs≠[]->vs.length<=1024->(∀ v ∈ vs,jA 0 E.n E.L v)->j0 0 ns1 vs->Lone dr.conv 0 E.n E.L (.inl j) k (ct ns1 vs).1 (G++[(ct ns1 vs).2]) o ns' G'->Lone dr.conv 0 E.n E.L (.inl j) (h_ vs+k) ns1 G o ns' G':=λ{k ns1 ns' G G' vs o} e Un Ul B F y d=>
  .go (by omega) (by show (cX j G).2.2=false;rw [e]) (by show (cX j G).1=vs;rw [e]) Ul B (w F) y d
 have fin:∀ {ns1:List aH} {G:List (List aC)},cX j G=([],(0,3),true)->G.length<=100->Lone dr.conv 0 E.n E.L (.inl j) 0 ns1 G (.inl (0,3)) ns1 G:=λ{ns1 G} e Un=>by
  have Uj:(dr.conv.next (.inl j) G).2.1=.inl (0,3):=by show Sum.inl (cX j G).2.1=_;rw [e]
  rw [<-Uj];exact .fin (by omega) (by show (cX j G).2.2=true;rw [e])
 have a:=tJ aj cB hm;by_cases c:hW j=[]
 ·have U:iS j ns=hi j ns:=by unfold iS;rw [c];rfl
  have Uk:h3 j ns=(ct (hi j ns) (fo j)).1:=by unfold h3;rw [U]
  rw [U] at u s;have M:=go (ns1:=hi j ns) (LD aj cB hm cg b8 b g c) (by simp) (rW aj cB hm) (by omega) v4 s (fin (LF aj cB hm cg b8 b g c u) (by simp));have K:=go (CV aj cB hm cg b8 b) (by simp) a.2 (by omega) v2 R M;have r1:=go (CU aj cB hm cg) (by simp) (λe=>by rw [e] at lj;have:=h.some_;cases hw:j.writes with | nil=>exact this hw | cons p l=>rw [hw] at lj;simp at lj) (by omega) v1 Q K;have r:=go (CT aj cB hm) (by simp) a.1 (by omega) v0 P r1;rw [<-Uk] at r;exact ⟨_,_,r,S,Y,by omega⟩
 ·have Ur:=go (ns1:=iS j ns) (Nh aj cB hm cg b8 b g c T) (by simp) (rW aj cB hm) (by omega) v4 s (fin (Ni aj cB hm cg b8 b g c T u) (by simp));have M:=go (ns1:=hi j ns) (Ng aj cB hm cg b8 b g c) (by simp) c (by omega) N Z Ur;have K:=go (CV aj cB hm cg b8 b) (by simp) a.2 (by omega) v2 R M;have r1:=go (CU aj cB hm cg) (by simp) (λe=>by rw [e] at lj;have:=h.some_;cases hw:j.writes with | nil=>exact this hw | cons p l=>rw [hw] at lj;simp at lj) (by omega) v1 Q K;have r:=go (CT aj cB hm) (by simp) a.1 (by omega) v0 P r1;exact ⟨_,_,r,S,Y,by omega⟩
end
end
section
open dq dr
section
variable {c n L:Nat} {a q:Nat} {w:Int}
theorem lw:∀ {vs:List aG} {ns:List aH},ns.length=n->(∀ x ∈ ns,cQ L false x)->(∀ v ∈ vs,jA c n L v/\(v.node.toNat=q->∀ x,cQ L false x->(df v x).get a=x.get a))->((ct ns vs).1.getD q bp).get a=(ns.getD q bp).get a
 | [],ns,_,_,_=>rfl
 |v::vs,ns,g,i,h=>by
  obtain ⟨f,j⟩:=h v d_;have b:v.node.toNat<ns.length:=by rw [g];exact f.at_
  have d:=i _ (cj (jF b));rw [mK];simp only;rw [lw (vs:=vs) (by rw [je];exact g) (λx hm=>by
   rcases ks hm with e | rfl
   ·exact i x e
   ·exact (f.run _ d).2.1) λu hu=>h u (e2 _ hu)]
  by_cases e:v.node.toNat=q
  ·subst e;rw [lW (ei b),j rfl _ d]
  ·rw [cK,gg e,<-cK]
theorem rF:∀ {vs:List aG} {ns:List aH},ns.length=n->(∀ x ∈ ns,cQ L false x)->(∀ v ∈ vs,jA c n L v/\(v.node.toNat=q->∀ x,cQ L false x->(df v x).get a=x.get a\/(df v x).get a=w))->((ns.getD q bp).get a=w\/∃ v ∈ vs,v.node.toNat=q/\∀ x,cQ L false x->(df v x).get a=w)->((ct ns vs).1.getD q bp).get a=w
 | [],ns,_,_,_,he=>by
  rcases he with e | ⟨v,aj,_⟩
  ·exact e
  ·cases aj
 |v::vs,ns,j,o,h,he=>by
  obtain ⟨i,p⟩:=h v d_;have b:v.node.toNat<ns.length:=by rw [j];exact i.at_
  have d:=o _ (cj (jF b));rw [mK];simp only;refine rF (vs:=vs) (by rw [je];exact j) (λx hm=>by
   rcases ks hm with e | rfl
   ·exact o x e
   ·exact (i.run _ d).2.1) (λu hu=>h u (e2 _ hu)) ?_
  rcases he with e | ⟨u,hu,k,l⟩
  ·refine .inl ?_;by_cases g:v.node.toNat=q
   ·subst g;rw [lW (ei b)];rcases p rfl _ d with f | f
    ·rw [f];exact e
    ·exact f
   ·rw [cK,gg g,<-cK];exact e
  ·rcases dy.1 hu with rfl | hu
   ·subst k;exact .inl (by rw [lW (ei b)];exact l _ d)
   ·exact .inr ⟨u,hu,k,l⟩
theorem tH {b:Nat} {ws:a4} {x:aH} (d:cQ L false x) (e:b % 8=0) (c:b+ws.length<=L * 8):(df (b5 m b ws) x).get a=if b<=a/\a<b+ws.length then ws.getD (a - b) 0 else x.get a:=by rw [(ss e (by rw [d.len];exact c)).1,rf (by rw [d.len];exact c)]
end
end
section
open dq dr
section
variable {E:Env} {j:b_} {ns:List aH} {a m:Nat}
theorem uA (aJ:gN E) (h:db E 0 j) {v:aG} (aj:v ∈ e_ j) {x:aH} (d:cQ E.L false x):(df v x).get a=if 56<=a/\a<56+(eD j.seq j.writes).length then (eD j.seq j.writes).getD (a - 56) 0 else x.get a:=by have e:=aJ.L;have f:=h.dM;have c:=kE j.seq j.writes;unfold e_ at aj;rw [h.log,h.cC] at aj;obtain ⟨m,_,rfl⟩:=cD.1 aj;exact tH (m:=m) (b:=56) d (by omega) (by omega)
theorem uB (aJ:gN E) (h:db E 0 j) {v:aG} (aj:v ∈ gM j) {x:aH} (d:cQ E.L false x):(df v x).get a=if a=48 then eg j.seq else x.get a:=by
 have f:=aJ.L;unfold gM at aj;rw [h.log,h.cC] at aj;obtain ⟨m,_,rfl⟩:=cD.1 aj;have e:=tH (m:=m) (b:=48) (ws:=[eg j.seq]) (a:=a) d (by omega) (by simp;omega);refine (show (df _ x).get a=_ from e).trans ?_;by_cases c:a=48
 ·subst c;rw [if_pos (by simp),if_pos rfl];rfl
 ·rw [if_neg (by simp;omega),if_neg c]
theorem N3 (aJ:gN E) (h:db E 0 j) (f:j.reads=[]) {v:aG} (aj:v ∈ c2 j) {x:aH} (g:a<768):(df v x).get a=x.get a:=by
 have c:=aJ.n;rw [h.sZ c.1,f,qh,g_] at aj;obtain ⟨p,d,rfl⟩:=cD.1 aj;obtain ⟨l,e,b6,l2⟩:=h.line p d;have b:mz (p.bm * 8) p.Head (eP p.Head ((0:Nat):Int))=cS 0 ((l * 8:Nat):Int) p.Head (eP p.Head ((0:Nat):Int)):=by rw [e];rfl
 rw [b,kR.1];exact wM (by omega)
theorem wx (aJ:gN E) (h:db E 0 j) {p:aR} (c:p ∈ j.writes) {x:aH} (d:cQ E.L false x) (f:a<768):(df (ep m p) x).get a=x.get a:=by
 obtain ⟨l,e,b6,l2⟩:=h.line p c;have b:ep m p=b5 m ((l * 8:Nat):Int) (hc p):=by unfold ep;rw [e];congr 1
 rw [b,tH d (by omega) (by show l * 8+8<=_;omega)];exact if_neg (by omega)
theorem oY (aJ:gN E) (h:db E 0 j) {x:aH} (d:cQ E.L false x):(df (jC 0 j.seq m) x).get a=if a=32 then j.seq else x.get a:=by
 have f:=aJ.L;have e:=tH (m:=m) (b:=32) (ws:=[j.seq]) (a:=a) d (by omega) (by simp;omega);refine (show (df (jC 0 j.seq m) x).get a=_ from e).trans ?_;by_cases c:a=32
 ·subst c;rw [if_pos (by simp),if_pos rfl];rfl
 ·rw [if_neg (by simp;omega),if_neg c]
theorem Mk (aJ:gN E) (h:db E 0 j) (G:j.reads=[]) (r:ns.length=E.n) (b:∀ x ∈ ns,cQ E.L false x) (hm:m<E.n) :
  ((h3 j ns).getD m bp).get 48=eg j.seq/\((h3 j ns).getD m bp).get 56=j.seq/\((h3 j ns).getD m bp).get 32=j.seq/\∀ a,a<768->a≠48->a≠32->(a<56\/168<=a)->((h3 j ns).getD m bp).get a=(ns.getD m bp).get a:=by
 have F:=aJ.n;have P:=aJ.L;have Q:=h.dM;have M:=kE j.seq j.writes;have b6:(g4 j ns).length=E.n:=by unfold g4;rw [(hx _ _).1];exact r
 have l2:(iR j ns).length=E.n:=by unfold iR;rw [(hx _ _).1];exact b6
 have s:(hi j ns).length=E.n:=by unfold hi;rw [(hx _ _).1];exact l2
 have H:(iS j ns).length=E.n:=by unfold iS;rw [(hx _ _).1];exact s
 have v0:=oQ aJ h;have v1:=tF aJ h G;have v2:=tE aJ h;have B:=tG aJ h;have v4:=uz aJ h;obtain ⟨_,gV,_⟩:=iO v0 r b;obtain ⟨_,b1,_⟩:=iO (ns:=g4 j ns) v1 b6 gV;obtain ⟨_,az,_⟩:=iO (ns:=iR j ns) v2 l2 b1;obtain ⟨_,C,_⟩:=iO (ns:=hi j ns) B s az;have O:∀ a,(a<56\/168<=a)->((g4 j ns).getD m bp).get a=(ns.getD m bp).get a:=λa d=>lw r b λv aj=>⟨v0 v aj,λ_ x b=>by rw [uA aJ h aj b];exact if_neg (by omega)⟩
 have s1:∀ a,a<768->((iR j ns).getD m bp).get a=((g4 j ns).getD m bp).get a:=λa d=>lw b6 gV λv aj=>⟨v1 v aj,λ_ x b=>N3 aJ h G aj d⟩
 have s2:∀ a,a≠48->((hi j ns).getD m bp).get a=((iR j ns).getD m bp).get a:=λa d=>lw l2 b1 λv aj=>⟨v2 v aj,λ_ x b=>by rw [uB aJ h aj b];exact if_neg d⟩
 have i:∀ v ∈ hW j,(∃ q p,p ∈ j.writes/\v=ep q p)\/∃ q,v=jC 0 j.seq q:=λv aj=>by
  rw [h.qG] at aj;obtain ⟨g,N,aj⟩:=kZ.1 aj;obtain ⟨q,_,rfl⟩:=cD.1 N;rcases gH.1 aj with aj | aj
  ·obtain ⟨p,c,rfl⟩:=cD.1 aj;exact .inl ⟨_,p,c,rfl⟩
  ·rcases dy.1 aj with rfl | aj
   ·exact .inr ⟨_,rfl⟩
   ·cases aj
 have l:∀ v ∈ fo j,(∃ p,p ∈ j.writes/\v=ep 0 p)\/v=jC 0 j.seq 0:=λv aj=>by
  rw [h.ov F.1] at aj;rcases dy.1 aj with rfl | aj
  ·exact .inr rfl
  ·obtain ⟨p,c,rfl⟩:=cD.1 aj;exact .inl ⟨p,c,rfl⟩
 have z:∀ a,a<768->a≠32->((iS j ns).getD m bp).get a=((hi j ns).getD m bp).get a:=λa d e=>lw s az λv aj=>⟨B v aj,λ_ x b=>by
  rcases i v aj with ⟨q,p,c,rfl⟩ | ⟨q,rfl⟩
  ·exact wx aJ h c b d
  ·rw [oY aJ h b];exact if_neg e⟩
 have A:∀ a,a<768->a≠32->((h3 j ns).getD m bp).get a=((iS j ns).getD m bp).get a:=λa d e=>lw H C λv aj=>⟨v4 v aj,λ_ x b=>by
  rcases l v aj with ⟨p,c,rfl⟩ | rfl
  ·exact wx aJ h c b d
  ·rw [oY aJ h b];exact if_neg e⟩
 have k:b5 m ((56:Nat):Int) (eD j.seq j.writes) ∈ e_ j:=by unfold e_;rw [h.log,h.cC];exact o5 (f:=λm=>b5 m ((56:Nat):Int) (eD j.seq j.writes)) (dS.2 hm)
 have o:b5 m ((48:Nat):Int) [eg j.seq] ∈ gM j:=by unfold gM;rw [h.log,h.cC];exact o5 (f:=λm=>b5 m ((48:Nat):Int) [eg j.seq]) (dS.2 hm)
 have u:((g4 j ns).getD m bp).get 56=j.seq:=rF r b (λv aj=>⟨v0 v aj,λ_ x b=>.inr (by rw [uA aJ h aj b,if_pos (by omega)];rfl)⟩) (.inr ⟨_,k,rfl,λx b=>by rw [uA aJ h k b,if_pos (by omega)];rfl⟩);have t:((hi j ns).getD m bp).get 48=eg j.seq:=rF l2 b1 (λv aj=>⟨v2 v aj,λ_ x b=>.inr (by rw [uB aJ h aj b,if_pos rfl])⟩) (.inr ⟨_,o,rfl,λx b=>by rw [uB aJ h o b,if_pos rfl]⟩);refine ⟨by rw [A 48 (by omega) (by omega),z 48 (by omega) (by omega),t],by rw [A 56 (by omega) (by omega),z 56 (by omega) (by omega),s2 56 (by omega),s1 56 (by omega),u],?_,λa y J D K=>by rw [A a y D,z a y D,s2 a J,s1 a y,O a K]⟩;refine rF (w:=j.seq) H C (λv aj=>⟨v4 v aj,λ_ x b=>by
  rcases l v aj with ⟨p,c,rfl⟩ | rfl
  ·exact .inl (wx aJ h c b (by omega))
  ·exact .inr (by rw [oY aJ h b,if_pos rfl])⟩) ?_
 by_cases I:m=0
 ·subst I;refine .inr ⟨jC 0 j.seq 0,by rw [h.ov F.1];exact d_,rfl,λx b=>by rw [oY aJ h b,if_pos rfl]⟩
 ·refine .inl (rF (w:=j.seq) s az (λv aj=>⟨B v aj,λ_ x b=>by
   rcases i v aj with ⟨q,p,c,rfl⟩ | ⟨q,rfl⟩
   ·exact .inl (wx aJ h c b (by omega))
   ·exact .inr (by rw [oY aJ h b,if_pos rfl])⟩) (.inr ⟨jC 0 j.seq m,?_,rfl,λx b=>by rw [oY aJ h b,if_pos rfl]⟩))
  rw [h.qG];refine kZ.2 ⟨j.writes.map (ep (m - 1+1))++[jC 0 j.seq (m - 1+1)],o5 (f:=λm=>j.writes.map (ep (m+1))++[jC 0 j.seq (m+1)]) (dS.2 (by omega)),gH.2 (.inr ?_)⟩;rw [show m - 1+1=m by omega];exact d_
end
end
section
open dq dr
section
variable {E:Env} {j:b_} {ns:List aH} {a m:Nat}
theorem uo (aJ:gN E) (h:db E 0 j) {p:aR} (d:p ∈ j.writes) {x:aH} (f:cQ E.L false x):(df (ep m p) x).get a=if p.bm.toNat * 8<=a/\a<p.bm.toNat * 8+8 then (hc p).getD (a - p.bm.toNat * 8) 0 else x.get a:=by
 obtain ⟨l,e,b6,l2⟩:=h.line p d;have b:ep m p=b5 m ((l * 8:Nat):Int) (hc p):=by unfold ep;rw [e];congr 1
 have c:p.bm.toNat=l:=by omega
 rw [b,tH f (by omega) (by show l * 8+8<=_;omega),c];rfl
theorem N4 (aJ:gN E) (h:db E 0 j) (r:j.reads=[]) (f:ns.length=E.n) (a:∀ x ∈ ns,cQ E.L false x) {p:aR} (b:p ∈ j.writes) (z:k<8):((h3 j ns).getD 0 bp).get (p.bm.toNat * 8+k)=(hc p).getD k 0:=by
 have g:=aJ.n;have b6:(g4 j ns).length=E.n:=by unfold g4;rw [(hx _ _).1];exact f
 have l2:(iR j ns).length=E.n:=by unfold iR;rw [(hx _ _).1];exact b6
 have i:(hi j ns).length=E.n:=by unfold hi;rw [(hx _ _).1];exact l2
 have s:(iS j ns).length=E.n:=by unfold iS;rw [(hx _ _).1];exact i
 obtain ⟨_,gV,_⟩:=iO (oQ aJ h) f a;obtain ⟨_,b1,_⟩:=iO (ns:=g4 j ns) (tF aJ h r) b6 gV;obtain ⟨_,az,_⟩:=iO (ns:=iR j ns) (tE aJ h) l2 b1;obtain ⟨_,o,_⟩:=iO (ns:=hi j ns) (tG aJ h) i az;obtain ⟨l,e,u,y⟩:=h.line p b;refine rF (w:=(hc p).getD k 0) s o (λv aj=>⟨uz aJ h v aj,λ_ x a=>?_⟩) (.inr ⟨ep 0 p,by rw [h.ov g.1];exact e2 _ (o5 b),rfl,λx a=>?_⟩)
 ·rw [h.ov g.1] at aj;rcases dy.1 aj with rfl | aj
  ·exact .inl (by rw [oY aJ h a];exact if_neg (by omega))
  ·obtain ⟨q,c,rfl⟩:=cD.1 aj;obtain ⟨l',t,_,_⟩:=h.line q c;by_cases d:q.bm=p.bm
   ·have:=h.uniq q c p b d;subst this;exact .inr (by rw [uo aJ h c a,if_pos (by omega)];congr 1;omega)
   ·exact .inl (by rw [uo aJ h c a];exact if_neg (by omega))
 ·rw [uo aJ h b a,if_pos (by omega)];congr 1;omega
theorem Ml (aJ:gN E) (h:db E 0 j) (o:j.reads=[]) (i:ns.length=E.n) (a:∀ x ∈ ns,cQ E.L false x) (s:96<=l) (d:∀ p ∈ j.writes,p.bm.toNat≠l) (H:k<8):((h3 j ns).getD m bp).get (l * 8+k)=(ns.getD m bp).get (l * 8+k):=by
 have t:=aJ.n;have G:=h.dM;have y:=kE j.seq j.writes;have b6:(g4 j ns).length=E.n:=by unfold g4;rw [(hx _ _).1];exact i
 have l2:(iR j ns).length=E.n:=by unfold iR;rw [(hx _ _).1];exact b6
 have r:(hi j ns).length=E.n:=by unfold hi;rw [(hx _ _).1];exact l2
 have B:(iS j ns).length=E.n:=by unfold iS;rw [(hx _ _).1];exact r
 obtain ⟨_,gV,_⟩:=iO (oQ aJ h) i a;obtain ⟨_,b1,_⟩:=iO (ns:=g4 j ns) (tF aJ h o) b6 gV;obtain ⟨_,az,_⟩:=iO (ns:=iR j ns) (tE aJ h) l2 b1;obtain ⟨_,u,_⟩:=iO (ns:=hi j ns) (tG aJ h) r az;have f:∀ {q:Nat} {p:aR},p ∈ j.writes->∀ x,cQ E.L false x->(df (ep q p) x).get (l * 8+k)=x.get (l * 8+k):=λ{q p} b x a=>by have:=d p b;rw [uo aJ h b a];exact if_neg (by omega)
 have c:∀ {q:Nat} x,cQ E.L false x->(df (jC 0 j.seq q) x).get (l * 8+k)=x.get (l * 8+k):=λ{q} x a=>by rw [oY aJ h a];exact if_neg (by omega)
 have F:((h3 j ns).getD m bp).get (l * 8+k)=((iS j ns).getD m bp).get (l * 8+k):=lw B u λv aj=>⟨uz aJ h v aj,λ_ x a=>by
  rw [h.ov t.1] at aj;rcases dy.1 aj with rfl | aj
  ·exact c x a
  ·obtain ⟨q,A,rfl⟩:=cD.1 aj;exact f A x a⟩
 have D:((iS j ns).getD m bp).get (l * 8+k)=((hi j ns).getD m bp).get (l * 8+k):=lw r az λv aj=>⟨tG aJ h v aj,λ_ x a=>by
  rw [h.qG] at aj;obtain ⟨g,z,aj⟩:=kZ.1 aj;obtain ⟨q,_,rfl⟩:=cD.1 z;rcases gH.1 aj with aj | aj
  ·obtain ⟨p,b,rfl⟩:=cD.1 aj;exact f b x a
  ·rcases dy.1 aj with rfl | aj
   ·exact c x a
   ·cases aj⟩
 have s2:((hi j ns).getD m bp).get (l * 8+k)=((iR j ns).getD m bp).get (l * 8+k):=lw l2 b1 λv aj=>⟨tE aJ h v aj,λ_ x a=>by rw [uB aJ h aj a];exact if_neg (by omega)⟩
 have s1:((iR j ns).getD m bp).get (l * 8+k)=((g4 j ns).getD m bp).get (l * 8+k):=lw b6 gV λv aj=>⟨tF aJ h o v aj,λ_ x a=>by
  rw [h.sZ t.1,o,qh,g_] at aj;obtain ⟨p,b,rfl⟩:=cD.1 aj;obtain ⟨l',e,_,_⟩:=h.line p b;have:=d p b;have w:mz (p.bm * 8) p.Head (eP p.Head ((0:Nat):Int))=cS 0 ((l' * 8:Nat):Int) p.Head (eP p.Head ((0:Nat):Int)):=by rw [e];rfl
  rw [w,kR.1];exact wM (by omega)⟩
 have C:((g4 j ns).getD m bp).get (l * 8+k)=(ns.getD m bp).get (l * 8+k):=lw i a λv aj=>⟨oQ aJ h v aj,λ_ x a=>by rw [uA aJ h aj a];exact if_neg (by omega)⟩
 rw [F,D,s2,s1,C]
end
end
section
open dq

end
section
open dq
section
variable {F G:aB}
end
section
variable {E:Env} {rs:d9} {F G:aB} {g:lC}
def Gv (ts:List jf):Prop:=∀ t ∈ ts,t.e0=true
theorem z_:∀ {ts:List jf} {F:aB},Gv ts->turns F ts=(F,ts)
 | [],F,_=>rfl
 |t::ts,F,h=>by
  have a:b4 F t=(F,t):=by unfold b4;rw [if_pos (.inl (h t d_))]
  show ((turns (b4 F t).1 ts).1,(b4 F t).2::(turns (b4 F t).1 ts).2)=_;rw [a];show ((turns F ts).1,t::(turns F ts).2)=_;rw [z_ λx b=>h x (e2 _ b)]
end
end
section
open dq

end
section
open dq
theorem Bq (b:x<18446744073709551616):gw .u64 (x:Int) 255=((x % 256:Nat):Int):=by have a:gw .u64 (x:Int) ((2 ^ 8 - 1:Nat):Int)=(x:Int) % (2 ^ 8:Nat):=Ao (by omega) (by omega) 8 (by omega);have a:gw .u64 (x:Int) 255=(x:Int) % 256:=a;rw [a];omega
theorem JA (f:256 * a<18446744073709551616):n4 .u64 ((256 * a:Nat):Int) 255=((256 * a:Nat):Int):=by
 unfold n4;show IntKind.u64.wrap ((BitVec.ofInt 64 ((256 * a:Nat):Int) &&& ~~~ BitVec.ofInt 64 ((255:Nat):Int)).toNat:Int)=_;rw [BitVec.ofInt_natCast,BitVec.ofInt_natCast];have e:BitVec.ofNat 64 (256 * a) &&& ~~~ BitVec.ofNat 64 255=BitVec.ofNat 64 (256 * a):=by
  apply BitVec.eq_of_getLsbD_eq;intro i g;rw [BitVec.getLsbD_and,BitVec.getLsbD_not,BitVec.getLsbD_ofNat,BitVec.getLsbD_ofNat];have b:(256 * a).testBit i=(decide (i>=8) && a.testBit (i - 8)):=Nat.testBit_two_pow_mul (i:=8) (a:=a) (j:=i);have c:(255:Nat).testBit i=decide (i<8):=Nat.testBit_two_pow_sub_one 8 i;rw [b,c];by_cases d:i<8
  ·have:¬ i>=8:=by omega
   simp [this]
  ·simp [d];omega
 rw [e,BitVec.toNat_ofNat,p9 (by omega)];exact jt (by omega) (by omega)
theorem zL (b:256 * a<18446744073709551616) (c:k<255):eP ((256 * a:Nat):Int) k=((256 * a+(k+1):Nat):Int):=by
 unfold eP;have e:((k:Int)+1)=((k+1:Nat):Int):=by omega
 rw [e,tz _ _ b (by omega)];congr 1;exact (Nat.two_pow_add_eq_or_of_lt (i:=8) (by omega) a).symm
theorem Cn:c5 .u64 ((256 * a:Nat):Int) 8=(a:Int):=by show Int.fdiv ((256 * a:Nat):Int) 256=_;rw [tN _ (by decide)];omega
theorem zM (b:256 * (a+1)<18446744073709551616):m6 ((256 * a:Nat):Int)=((256 * (a+1):Nat):Int):=by unfold m6;rw [Cn];show IntKind.u64.wrap (((a:Int)+1) * 256)=_;rw [jt (by omega) (by omega)];omega
theorem IL {p:aR} (h:hP p=true):∃ a:Nat,p.Head=((256 * a:Nat):Int)/\1<=a/\a<=281474976710654:=by
 simp only [hP,jI,l9,eH,decide_eq_true_eq,beq_iff_eq] at h;obtain ⟨⟨b,c⟩,d⟩:=h;have e:c5 .u64 p.Head 8=p.Head / 256:=by show Int.fdiv p.Head 256=_;rw [tN _ (by decide)]
 rw [e] at b c;obtain ⟨x,f⟩:∃ x:Nat,p.Head=x:=⟨p.Head.toNat,by omega⟩;rw [f] at b c d ⊢;rw [Bq (by omega)] at d;exact ⟨x / 256,by omega,by omega,by omega⟩
theorem JB {p:aR} (h:p.Head=((256 * a:Nat):Int)) (b:1<=a) (c:a<=281474976710654):hP p=true:=by simp only [hP,jI,l9,eH,decide_eq_true_eq,beq_iff_eq];rw [h,Cn,Bq (by omega)];omega
theorem K3 {l:List aR} (h:∀ i,i<l.length->jg l i=true):∀ a b (g:a<l.length) (f:b<l.length),a<b->l[a].bm<l[b].bm:=by
 intro a b g f j;induction b with
 |zero=>omega
 |succ b k=>
  have c:=h (b+1) f;simp only [jg,r2,decide_eq_true_eq,cK] at c;have d:b<l.length:=by omega
  rw [Nat.add_sub_cancel,bM d,bM f] at c;have c:l[b].bm<l[b+1].bm:=c.resolve_left (by omega);by_cases e:a=b
  ·subst e;exact c
  ·have:=k d (by omega);omega
theorem AB {l:Int} (h:hh l L=true):∃ k:Nat,l=(k:Int)/\96<=k/\(k:Int)<L:=by simp only [hh,decide_eq_true_eq] at h;exact ⟨l.toNat,by omega,by omega,by omega⟩
theorem db.QK {E:Env} {j:b_} (aj:j.valid=0) (K:j.aP=(i:Int)) (J:i<6) (hw:j.v=h9 E.n) (R:j.lines=E.L) (F:j.writes≠[]) (M:∀ p ∈ j.writes,p.Head=E.base p.bm.toNat 0) (P:∀ s ∈ j.reads,s.Head=E.base s.bm.toNat 0):db E i j:=by
 have D:=aj;have hlen:0<j.writes.length:=r0.2 F;unfold b_.valid at aj;split at aj
 ·omega
 split at aj
 ·next h=>exact absurd aj h
 split at aj
 ·omega
 next N=>
 split at aj
 ·next h=>exact absurd aj h.2
 next d=>
 split at aj
 ·omega
 next I=>
 split at aj
 ·omega
 next l=>
 split at aj
 ·omega
 next o=>
 have d:ff j.seq j.writes j.lines=0:=Decidable.not_not.1 λe=>d ⟨hlen,e⟩
 unfold ff at d;split at d
 ·omega
 split at d
 ·omega
 next Q=>
 split at d
 ·omega
 next r=>
 split at d
 ·omega
 next f=>
 have r:∀ p ∈ j.writes,hh p.bm j.lines=true:=gd.1 (by simpa using r);have l:∀ p ∈ j.reads,hh p.bm j.lines=true:=gd.1 (by simpa using l);have f:∀ i,i<j.writes.length->jg j.writes i=true/\hP (j.writes.getD i hB)=true:=λi w=>by have:=gd.1 (show (List.range j.writes.length).all (λi=>jg j.writes i && hP (j.writes.getD i hB))=true by simpa using f) i (dS.2 w);rwa [eH] at this
 have o:∀ i,i<j.reads.length->l5 j.reads j.writes i=true:=λi w=>gd.1 (show (List.range j.reads.length).all (l5 j.reads j.writes)=true by simpa using o) i (dS.2 w)
 have g:=K3 λi w=>(f i w).1
 have u:∀ p ∈ j.writes,∃ a:Nat,p.Head=((256 * a:Nat):Int)/\1<=a/\a<=281474976710654:=λp c=>by obtain ⟨k,t,rfl⟩:=wY c;have:=(f k t).2;rw [cK,bM t] at this;exact IL this
 refine ⟨K,J,D,hw,F,by omega,by omega,λp c=>?_,λp c=>?_,λp c q O e=>?_,?_,M,λp c k t=>?_,λp c=>?_,P,λs C p c e=>?_⟩
 ·obtain ⟨k,z,A,G⟩:=AB (r p c);exact ⟨k,z,A,by omega⟩
 ·obtain ⟨k,z,A,G⟩:=AB (l p c);exact ⟨k,z,A,by omega⟩
 ·obtain ⟨a,x,rfl⟩:=wY c;obtain ⟨b,y,rfl⟩:=wY O;rcases Nat.lt_trichotomy a b with h | h | h
  ·have:=g a b x y h;omega
  ·subst h;rfl
  ·have:=g b a y x h;omega
 ·rw [List.nodup_iff_pairwise_ne,tV,w6];intro a b x y B e;have:=g a b x y B;omega
 ·obtain ⟨a,e,d,H⟩:=u p c;rw [e,zL (by omega) (by omega),zL (by omega) (by omega)];exact ⟨by omega,λe=>by omega⟩
 ·obtain ⟨a,e,d,H⟩:=u p c;rw [e,zM (by omega)];omega
 ·obtain ⟨k,t,rfl⟩:=wY C;have:=o k t;simp only [l5,eH,cK,bM t,qg,has,wT,decide_eq_true_eq] at this;exact this.2 p c e.symm
theorem AD {W:List aR} (f:98<=L/\L<=256) (g:1<=seq/\seq<1073741824) (e:1<=W.length) (b:W.length<=12) (hw:∀ p ∈ W,hh p.bm L=true) (c:W.Pairwise λp q=>p.bm<q.bm) (d:∀ p ∈ W,hP p=true):ff seq W L=0:=by
 unfold ff;rw [if_neg (by omega),if_neg (by omega),if_neg,if_neg]
 ·rw [o4,gd];intro i a;have a:=dS.1 a;rw [eH,cK,bM a];refine ⟨?_,d _ (jw a)⟩;unfold jg;rw [r2];cases i with
  |zero=>exact .inl rfl
  |succ i=>right;rw [cK,cK,Nat.add_sub_cancel,bM (by omega),bM a];exact decide_eq_true (w6.1 c i (i+1) (by omega) a (by omega))
 ·rw [o4,gd];exact hw
theorem Hq (a:1<=n/\n<=5):(h9 n).valid 5=0:=by
 obtain rfl | rfl | rfl | rfl | rfl:n=1\/n=2\/n=3\/n=4\/n=5:=by omega
 all_goals rfl
theorem K4 {W:List aR} (j:i<6) (g:1<=n/\n<=5) (c:98<=L/\L<=256) (h:1<=seq/\seq<1073741824) (b:1<=W.length) (a:W.length<=12) (hw:∀ p ∈ W,hh p.bm L=true) (d:W.Pairwise λp q=>p.bm<q.bm) (f:∀ p ∈ W,hP p=true):b_.valid ⟨(i:Int),seq,L,h9 n,[],W⟩=0:=by unfold b_.valid;simp only;rw [if_neg (by omega),if_neg (by rw [Hq g];simp),if_neg (by omega),if_neg (λe=>e.2 (AD c h b a hw d f)),if_neg (by simp),if_neg (by simp),if_neg (by simp)]
end
section
open dq
def yc (l k:Nat):Int:=if k=0 then 256 else 0
def uq (n L:Nat):Bool:=
 let w:=fmt L n
 w.length == L * 8 && (w.getD 0 0 == 1 && (w.getD 1 0 == 1 && ((List.range 6).all (λc=>w.getD (24+c) 0 == 1 && w.getD (32+c) 0 == 0) && (List.range (L - 96)).all λq=>(List.range 8).all λk=>w.getD ((q+96) * 8+k) 0 == yc 0 k)))
end
section
open IntKind
variable (w:al) (R:cp) {a b:Nat} {i k:Int} {A B:aV} {s:an} {j:aq}
def vC (e:aV) (f:an) (a b:Nat) (c:aV) (d:Int) (j:aq):aq:=ag j 0 6 (.pointer (some e)::ag j 6 2 (ae f a b::ag j 8 1 (.pointer (some c)::ab d::ag j 9 39 [])))
def EE (a b:aV) (j:aq):aq:=ag j 0 6 (.pointer (some a)::ag j 6 4 (.pointer (some b)::ag j 10 40 []))
theorem TF:bd prog f30 [a' a,ab i,ab k] R w=(aQ w #[ab 0,ah 0,ah 0,ah 0,ah 0,ah 0,ah 0,ah 0,ah 0] 73 λl y=>mR 39 #[a' a,ab i] y λj s=>cond (Option.isNone j) (a_ s (af l 0) 0 [ab 0,ah 0,ah 0,ah 0,ah 0,ah 0,ah 0,ah 0,ah 0] λp=>hG p (af l 0) λh=>p=p/\R (.tuple #[h.val,ad false]) p) (cm 54 #[ab k] s λb v=>s_ 40 #[.pointer j,ab b,ab 8] v λc d f g m=>cond (g != 0) (a_ m (af l 0) 0 [ab 0,ah 0,ah 0,ah 0,ah 0,ah 0,ah 0,ah 0,ah 0] λo=>hG o (af l 0) λe=>o=o/\R (.tuple #[e.val,ad false]) o) (cond ((d:Int) != 8) (a_ m (af l 0) 0 [ab 0,ah 0,ah 0,ah 0,ah 0,ah 0,ah 0,ah 0,ah 0] λn=>hG n (af l 0) λq=>n=n/\R (.tuple #[q.val,ad false]) n) (bB c d 0 1 λt=>dN m t λx=>aQ m #[ab 0,ah 0,ah 0,ah 0,ah 0,ah 0,ah 0,ah 0,ah 0] 73 λr u=>a_ u (af r 0) 0 [ab k,ah x,ah 0,ah 0,ah 0,ah 0,ah 0,ah 0,ah 0] λz=>cx prog (cY f30 [1,1,1,1,1,1,0,1,0,0]) (vC (af l 0) c d f (af r 0) 0 (jp (af a 0)::ab i::ab k::bx 3 (ad false::.pointer j::ab g::jp (af a 0)::ab i::.pointer j::.pointer j::ad (Option.isNone j)::undef::.tuple #[ae c d f,ab g]::.pointer j::ab k::ab b::.tuple #[ae c d f,ab g]::ae c d f::ab g::ab g::ad ((g:Int) != 0)::ad false::ae c d f::du d::ad ((d:Int) != 8)::ad ((d:Int) != 8)::undef::ab k::ae c d f::jp t::ah x::.agg #[ab k,ah x,ah 0,ah 0,ah 0,ah 0,ah 0,ah 0,ah 0]::bx 13 []))) (aW 0 (aZ f30 [1,1,1,1,1,1,1] R)) z)))):=by kernel_rfl
theorem Q2 (c:aq->aE):W prog (sb f30 [1,1,1,1,1,1,0,1,0,0]) (vC A s a b B i j) (a1 c (aW 0 (aZ f30 [1,1,1,1,1,1,1] R))) w=(cond (i<7) (bB s a (i64.wrap (1+i)) 1 λd=>dN w d λx=>ow (bS B 2) 7 i 1 λf=>cE w f (ah x) λe=>c (vC A s a b B (i64.wrap (i+1)) (ag j 0 35 [ab i,ad (i<7),ab i,ab (i64.wrap (i+1)),ab i,ae s a b,ab i,ab (i64.wrap (1+i)),jp d,ah x,bE B 2,jp f,aN j 47])) e) (W prog (sb f30 [1,1,1,1,1,1,1]) (EE A B (ag j 0 8 (ae s a b::aN j 8::ab i::ag j 9 26 (ab i::ad (i<7)::ag j 37 11 [])))) (bW f30 R) w)):=by kernel_rfl
theorem RZ:W prog (sb f30 [1,1,1,1,1,1,1]) (EE A B j) (bW f30 R) w=(hG w B λr=>a_ w A 0 r.cells λa=>hG a A λc=>a=a/\R (.tuple #[c.val,ad true]) a):=by kernel_rfl
theorem SF:bd prog f54 [ab i] R w=(cond (i<96) (R (ab (-1)) w) (cond (i>=256) (R (ab (-1)) w) (R (ab (i64.wrap (i * 8))) w))):=by kernel_rfl
end
section
theorem K5 (w:al) {l:Int} (a:96<=l) (b:l<256):ba 54 [.int .i64 l] w λv w'=>v=.int .i64 (l * 8)/\w'=w:=by refine bc Tryz.func54 ?_;rw [SF];refine dw (by simp;omega) (dw (by simp;omega) ⟨?_,rfl⟩);rw [bA (by omega) (by omega)]
def aH.eE (n:aH) (l:Nat):aR:=⟨l,n.get (l * 8),n.get (l * 8+1),n.get (l * 8+2),n.get (l * 8+3),n.get (l * 8+4),n.get (l * 8+5),n.get (l * 8+6),n.get (l * 8+7)⟩
theorem K6 {n:aH} {at_ c q:Nat} (a:q<c) (d:at_+c<=n.words.length):(n.read at_ c)[q]?=some (n.get (at_+q)):=by unfold aH.read;have b:n.words[at_+q]?=some (n.get (at_+q)):=aH.get_some (by omega);rw [fT,fT,z0 a,kW,b]
theorem K7 {n:aH} (a:i<7):((n.eE l).cells.take (2+i)++List.replicate (7 - i) (Value.int .u64 0)).set (2+i) (Value.int .u64 (n.get (l * 8+(1+i))))=(n.eE l).cells.take (2+(i+1))++List.replicate (7 - (i+1)) (Value.int .u64 0):=by
 have h:i=0\/i=1\/i=2\/i=3\/i=4\/i=5\/i=6:=by omega
 rcases h with rfl | rfl | rfl | rfl | rfl | rfl | rfl<;>rfl
theorem x1 {A:a2} {ar:Nat->Tag} {w:al} {aM:Nat} {X:bl} (h:bX A ar w aM X) {x:iz} (O:X.nodes[i]?=some x) (Un:96<=l/\l<256) (hw:l * 8+8<=x.n.words.length) (aA:x.n.down=false) :
  ba 30 [ptr aM,.int .i64 i,.int .i64 l] w λv w'=>v=.tuple #[(x.n.eE l).val,.bool true]/\ai w w':=by
 refine bc Tryz.func30 ?_;rw [ptr,TF];rintro b1 w1 G E;obtain ⟨g,t⟩:=bk G E;have g:av w1 b1 (aR.cells ⟨0,0,0,0,0,0,0,0,0⟩) eN:=g;clear E;have N:=h.new t;refine aD (Ae N O) ?_;rintro v bH ⟨rfl,rfl⟩;refine ⟨_,rfl,dw rfl ?_⟩;refine aD (K5 _ (l:=(l:Int)) (by omega) (by omega)) ?_;rintro v bY ⟨rfl,rfl⟩;refine ⟨_,rfl,?_⟩;have p:x.n.e3 ((l:Int) * 8) 8=0:=by unfold aH.e3;rw [if_neg (by omega),if_neg (by simp [aA])]
 refine aD (xJ (N.node i x O).node ((l:Int) * 8) 8) ?_;rintro v br (⟨R,_⟩ | ⟨_,a,cap,rfl,u,Y,Ul⟩)
 ·exact absurd p R
 have S:∀ q,q<8->(x.n.read ((l:Int) * 8) 8)[q]?=some (x.n.get (l * 8+q)):=λq J=>by have:=K6 (n:=x.n) (at_:=l * 8) (c:=8) J (by omega);simpa using this
 have hlen:(x.n.read ((l:Int) * 8) 8).length=8:=aH.v5 p;have D:=Y.rd;obtain ⟨M,dg,rfl⟩:∃ b o,a=⟨b,o,none⟩:=by
  rcases D with K | ⟨b,o,he,_⟩
  ·have:=congrArg List.length K;simp [us,hlen] at this
  ·simp at he;exact ⟨b,o,he⟩
 have C:∀ z,ai br z->∀ q,q<8->z.cell? ⟨M,dg+q,none⟩=some (.int .u64 (x.n.get (l * 8+q))):=λz au q J=>by
  rcases D.new au with K | ⟨b,o,he,r⟩
  ·have:=congrArg List.length K;simp [us,hlen] at this
  ·simp at he;obtain ⟨rfl,rfl⟩:=he;exact r q _ (by simp [us,S q J])
 have Z:=t.size;have Ui:=u.size;have V:=g.lt;refine ⟨_,_,_,_,rfl,dw rfl (dw rfl ?_)⟩;refine dT (by omega) (by decide) ⟨_,by simpa using C br (ao.refl _ _) 0 (by omega),?_⟩;refine dU (vs:=aR.cells ⟨l,x.n.get (l * 8),0,0,0,0,0,0,0⟩) rfl (aR.single _) λaz Uo Q L I=>?_
 refine c1 mix (λq env z=>∃ (i:Nat) (P:aw),q=7 - i/\i<=7/\env=vC ⟨b1,0,none⟩ (some ⟨M,dg,none⟩) 8 cap ⟨az,0,none⟩ i P/\ai br z/\av z az ((x.n.eE l).cells.take (2+i)++List.replicate (7 - i) (.int .u64 0)) eN) 7
  ⟨0,_,rfl,by omega,rfl,I,L⟩ ?_
 rintro q env z ⟨i,P,rfl,Um,rfl,f,d⟩;rw [Q2];refine a9 (λW=>?_) (λT=>?_)
 ·have B:i<7:=by omega
  rw [bA (x:=1+(i:Int)) (by omega) (by omega)];refine dT (by omega) (by omega) ⟨x.n.get (l * 8+(1+i)),?_,?_⟩
  ·have:=C z f (1+i) (by omega);simpa [show (1+(i:Int)).toNat=1+i by omega] using this
  refine tx (by omega) (by omega) ?_;have e:0+2+(i:Int).toNat * 1=2+i:=by omega
  rw [e];refine rT d (by rw [c8,gR,w2,aR.len];omega) λUj j s=>?_
  rw [bA (x:=(i:Int)+1) (by omega) (by omega)];rw [K7 B] at j;exact ⟨7 - (i+1),by omega,i+1,_,rfl,by omega,rfl,f.trans s λk U e=>by have Uk:k=az:=e;omega,j⟩
 ·have H:i=7:=by omega
  subst H;rw [RZ];have d:av z az (x.n.eE l).cells eN:=d;have F:av z b1 (aR.cells ⟨0,0,0,0,0,0,0,0,0⟩) eN:=ai.ak (u.new f) g;refine aR.aS (x.n.eE l) ⟨bI d rfl,?_⟩;refine dC F rfl (aR.single _) λUj y s=>?_
  refine aR.aS (x.n.eE l) ⟨bI y rfl,rfl,rfl,?_⟩;exact ((t.new u).new f).trans s λk U e=>by omega
end
section
theorem G7 (l:List aR) (p:aR):(hz (l++[p])).flatten=(hz l).flatten++p.cells:=by simp [hz]
theorem Mm {u:al} {a:an} {cap:Nat} {L:List aR} (i:aY u eN 9 a n cap (hz L).flatten) {p:aR} (o:n<=1000000) {K:Nat->an->Nat->Nat->aE}
  (s:∀ b ap e g,b=u.heap.size->aY g eN 9 ap (n+1) e (hz (L++[p])).flatten->ao (aL a) u g->(∀ k,aL ap k->aL a k\/u.heap.size<=k)->K b ap (n+1) e g) :
  ∀ b1 j,b1=u.heap.size->j=u.alloc (.cells p.cells.toArray eN)->∃ (ap:an) (d c:Nat),∃ g,(Builtin.append_ #[37,37] 37 #[(.slice a n cap),(.slice (some ⟨b1,0,none⟩) 1 1)]).run prog j=.ok (.slice ap d c) g/\K b1 ap d c g:=by
 obtain ⟨inf,r,au,f,q⟩:=fp (T:=eN) (z:=.agg #[.int .i64 0,.int .u64 0,.int .u64 0,.int .u64 0,.int .u64 0,.int .u64 0,.int .u64 0,.int .u64 0,.int .u64 0]) (n:=9) (m:=72) (by kernel_rfl);rw [<-f] at i;refine nI Tryz.underlying37 r au (by rw [f];rfl) (by omega) i (by rw [f];rfl) (aR.single p) (by omega) (by omega) ?_;intro b ap e g l h;rw [f,<-G7] at h;exact s b ap e g l h
end
section
open dq
def uR (x q:Nat):Bool:=(x+1) / 2 ^ q % 2 == 1
def lf (x i:Nat):d9:=((List.range i).filter (uR x)).map (96+·)
def eu (x:Nat):d9:=lf x 4
def ns (l:d9):a4:=l.map Int.ofNat
theorem FF (x i:Nat):lf x (i+1)=lf x i++(if uR x i=true then [96+i] else []):=by unfold lf;rw [k0,zY,jx];congr 1;cases h:uR x i<;>simp [h]
theorem IM:∀ x,x<14->∀ i,i<4->(gw .i64 (c5 .i64 (((x+1:Nat):Int)) ((i:Nat):Int)) 1 == 1)=uR x i:=by decide
theorem q4 (h:l ∈ eu x):96<=l/\l<100:=by simp only [eu,lf,cD,List.mem_filter,dS] at h;obtain ⟨q,⟨a,_⟩,rfl⟩:=h;omega
theorem G8 (x i:Nat):(lf x i).length<=i:=by unfold lf;rw [fc];exact kq (z1 _ _) (by simp)
theorem zl:∀ y,y<14->1<=(eu y).length/\(eu y).length<=3:=by decide
def px (l:Nat):aR:=⟨l,256,1,0,0,0,0,0,0⟩
def Fo (n y:Nat):b_:=⟨0,1,101,h9 n,[],(eu y).map px⟩
def CE (n:Nat):Bool:=(fmt 101 n).getD 48 0 == 0 && (fmt 101 n).getD 49 0 == 0
theorem zB (a:1<=n/\n<=3):uq n 101=true/\CE n=true:=by
 obtain rfl | rfl | rfl:n=1\/n=2\/n=3:=by omega
 all_goals exact ⟨by kernel_rfl,by kernel_rfl⟩
end
end Go.Proofs.YtmkljjbioomepaaGreat
