import Derived.Test.YtmkljjbioomepaaGreate42
import Derived.Test.YtmkljjbioomepaaGreatProg
import Derived.Test.YtmkljjbioomepaaGreate03
import Derived.Test.YtmkljjbioomepaaGreate02
import Derived.Test.YtmkljjbioomepaaGreatRows
import Derived.WalkKit
import Derived.ProofKit
import Derived.OpenShut
import Derived.Deep.Slices
set_option linter.all false
set_option maxHeartbeats 4000000
set_option maxRecDepth 100000
namespace Go.Proofs.YtmkljjbioomepaaGreat
open Go.Proofs.Tryz Go.bn
variable {P:Program} {gV b8 k:Nat} {e t:TypeId} {held:Bool} {gr:an} {cn:List MemPlace} {r:Reach} {dV:a4} {v:a0} {w:al}
section
open dr
def sO:Nat->aB->List jf->Option (aB×List jf)
 | 0,_,_=>none
 |f+1,F,l=>match turns F l with
  | (cw,l')=>match fL cw [] 0 with
   | (true,a)=>sO f a l'
   | (false,a)=>some (a,l')
theorem JG (F:aB) (n:Nat):fL F [] n=fL F [] 0:=by unfold fL kn;simp
theorem C_ (cs:a4):∀ (f f' n:Nat) {F:aB} {l:List jf} {e:aB×List jf},sO f F l=some e->f<=f'->gl cs [] [] f' n F l=e
 | 0,f',n,F,l,e,h,a=>by cases h
 |f+1,0,n,F,l,e,h,a=>by omega
 |f+1,f'+1,n,F,l,e,h,a=>by
  unfold sO at h;unfold gl;have c:iP F cs n []=F:=rfl;rw [c,JG];cases g:turns F l with
  |mk cw l'=>
   rw [g] at h;simp only at h ⊢;cases d:fL cw [] 0 with
   |mk b i=>
    rw [d] at h;cases b with
    |true=>simp only at h ⊢;rw [if_pos trivial];exact C_ cs f f' (n+1) h (by omega)
    |false=>simp only at h ⊢;rw [if_neg (λh=>nomatch h)];exact p_ h
def DO:aB×List jf:=eX (aB.fresh 1 2 101) [o_ 1 0] [] [] 3
def EF (t:jf):Bool:=match t.out with
 | .inl _=>false
 | .inr o=>o.Code == 0 && (o.iH == 3 && o.j1 == 2)
def DN (e:aB×List jf):Bool:=match e.2 with
 | [t]=>t.e0 && (EF t && match e.1.nodes with
  | [x]=>!x.down && (x.words.length == 808 && x.get 768 == 256)
  | _=>false)
 | _=>false
def DM:Bool:=match DO with
 | (a,b6)=>(match a.nodes with
  | [x]=>!x.down && (x.words.length == 808 && x.get 768 == 257)
  | _=>false) && (b6.length == 1 && match a.die 0 with
   | (true,b)=>(match sO 60 b [qB 1 1] with
    |some e=>DN e
    |none=>false)
   | (false,_)=>false)
theorem Nw:DM=true:=by kernel_rfl
structure Gz (xI BP BQ:aB) (b6:List jf) (t:jf) (wy wz:aH):Prop where
 d1:eX (aB.fresh 1 2 101) [o_ 1 0] [] [] 3=(xI,b6)
 lj:xI.nodes=[wy]/\wy.down=false/\wy.words.length=808/\wy.get 768=257
 die:xI.die 0=(true,BP)
 d3:ut BP (qB 1 1)=(BQ,[t])
 vQ:BQ.nodes=[wz]/\wz.down=false/\wz.words.length=808/\wz.get 768=256
 one:∃ t1,b6=[t1]
 e0:t.e0=true
 out:∃ o:dj,t.out=.inr o/\o.Code=0/\o.iH=3/\o.j1=2
theorem Om:∃ q s r b6 t f g,Gz q s r b6 t f g:=by
 have h:=Nw;unfold DM at h;cases C:DO with
 |mk q b6=>
 rw [C] at h;simp only [eH] at h;obtain ⟨i,u,d⟩:=h;have k:∃ f,q.nodes=[f]/\f.down=false/\f.words.length=808/\f.get 768=257:=by
  cases j:q.nodes with
  |nil=>rw [j] at i;cases i
  |cons x l=>
   cases l with
   |nil=>rw [j] at i;simp only [eH,qg,beq_iff_eq] at i;exact ⟨x,rfl,i⟩
   |cons y l=>rw [j] at i;cases i
 obtain ⟨f,k⟩:=k;cases aA:q.die 0 with
 |mk b s=>
 rw [aA] at d;cases b with
 |false=>cases d
 |true=>
 simp only at d;cases B:sO 60 s [qB 1 1] with
 |none=>rw [B] at d;cases d
 |some e=>
 rw [B] at d;obtain ⟨r,E⟩:=e;unfold DN at d;simp only at d;cases E with
 |nil=>cases d
 |cons t l=>
 cases l with
 |cons a l=>cases d
 |nil=>
 simp only [eH] at d;obtain ⟨D,c,p⟩:=d;have n:∃ g,r.nodes=[g]/\g.down=false/\g.words.length=808/\g.get 768=256:=by
  cases j:r.nodes with
  |nil=>rw [j] at p;cases p
  |cons x l=>
   cases l with
   |nil=>rw [j] at p;simp only [eH,qg,beq_iff_eq] at p;exact ⟨x,rfl,p⟩
   |cons y l=>rw [j] at p;cases p
 obtain ⟨g,n⟩:=n;have A:ut s (qB 1 1)=(r,[t]):=by unfold ut eX;rw [C_ _ 60 20000 0 B (by omega)];exact z_ λF w=>by simp at w;rw [w];exact D
 refine ⟨q,s,r,b6,t,f,g,C,k,aA,A,n,?_,D,?_⟩
 ·rw [beq_iff_eq] at u;exact wZ.1 u
 unfold EF at c;cases z:t.out with
 |inl o=>rw [z] at c;cases c
 |inr o=>rw [z] at c;simp only [eH,beq_iff_eq] at c;exact ⟨o,rfl,c⟩
end
section
open dr
theorem x2 {X:bl} {F:aB} (h:X.pure=F) {x:aH} (a:F.nodes=[x]):∃ y,X.nodes[0]?=some y/\y.n=x:=by rw [<-h] at a;obtain ⟨y,b,rfl⟩:=ur (f:=λy:iz=>y.n) (l:=X.nodes) (y:=x) (by simpa [bl.pure] using a);exact ⟨y,by rw [b];rfl,rfl⟩
theorem Mn {X:bl} {F:aB} (h:X.pure=F) (a:cb F):X.bP.length<=100000000:=by
 have b:=a.le;have c:X.bP.length=F.bP.length:=by rw [<-h];simp [bl.pure]
 omega
theorem Hd (n c:Nat):mh (qB n c):=λ_=>by show ([]:List (List aC)).length<=200;simp
section
attribute [local irreducible] eX ut
theorem Mo (w:al):ba 14 [] w λv u=>v=.bool true/\ai w u:=by
 obtain ⟨UX,UY,Vv,b6,t,VI,VJ,p⟩:=Om;obtain ⟨t1,rfl⟩:=p.one;have Ux:eu 0=[96]:=by decide
 have W:cb (aB.fresh 1 2 101):=cb.fresh (by omega) (by omega) (by omega);have I:cb UX:=by have:=cb.eX W [o_ 1 0] [] [] 3;rw [p.d1] at this;exact this
 have UD:cb UY:=by have:=I.die 0;rw [p.die] at this;exact this
 refine bc Tryz.func14 ?_;rw [SG];refine aD (Ca (n:=1) (c:=2) (lines:=101) (by omega) (by omega) (by omega)) ?_;rintro v bH ⟨aM,A,ar,X,rfl,Uw,Uj,U1,Uy⟩;refine ⟨_,_,rfl,dw rfl ?_⟩;rintro b1 bY Uz Uo;obtain ⟨M,r⟩:=bk Uz Uo;have M:av bY b1 (is (ns [96])) 3:=M;clear Uo;obtain ⟨UV,UL,f⟩:=x2 (x:=⟨fmt 101 1,false⟩) Uy rfl;have hlen:UV.n.words.length=808:=by rw [f];obtain ⟨h,_⟩:=zB (n:=1) (by omega);simp only [uq,eH,beq_iff_eq] at h;exact h.1
 refine aD (AF (Uw.new r) (n:=1) (by omega) UL (by rw [f]) (L:=[96]) (λl U5=>by simp at U5 <;> omega) (by simp) (cc:=1) (e9 M rfl) 0 1) ?_;rintro v br ⟨dn,c0,dY,rfl,J,aj,b,UK⟩;have UC:gJ UV.n [96]=[px 96]:=by have:=JF (n:=1) (y:=0) (by omega) (by omega) f;rw [Ux] at this;exact this
 rw [UC] at b;have U9:=r.size;have U_:=J.size;refine cf.aS (hR 0 1 101 dn c0 1 dY) ⟨true,rfl,?_⟩;refine dU (vs:=(hR 0 1 101 dn c0 1 dY).cells) rfl (cf.single _) λaz VG U2 N UG=>?_
 refine dw rfl (cf.aS (hR 0 1 101 dn c0 1 dY) ⟨bI N rfl,?_⟩);rintro Vz UU UA Up;obtain ⟨UO,K⟩:=bk UA Up;clear Up;have U6:=N.lt;have U':=K.size;have d:ai br UU:=UG.new K;have Uk:ai w br:=Uj.new (r.new J);have O:bX A ar br aM X:=Uw.new (r.new J);have H:∀ k,A k->k<bH.heap.size:=λk D=>Uw.low k D
 have UI:gn (λk=>A k\/k=az) UU (hR 0 1 101 dn c0 1 dY) (o_ 1 0):=by
  have UH:o_ 1 0=kV 0 ⟨0,1,101,h9 1,[],[px 96]⟩:=by unfold o_ Fo;rw [Ux];rfl
  rw [UH];refine Bs ((aj.mono λk U7 D=>D.resolve_right (by omega)).new d) (b.rd.new d) rfl (by simp) ?_ ?_
  ·exact g0 b.rd λk D Uv=>by
    have VC:=UK _ D;have VD:=b.lt D;rcases Uv with Uv | Uv
    ·have:=H _ Uv;omega
    ·omega
  ·have:=Nv (y:=0);rw [Ux] at this;exact this
 refine aD (A8 O d (b1:=az) ⟨by omega,by omega⟩ (by rw [Uy];exact W) UI (Hc 1 0) (pc:=1) (e9 UO (by simp)) (sch:=[]) (sa:=none) (sc:=0) ⟨.inl rfl,.inl rfl⟩ (λx Vb=>by cases Vb) (most:=3) (by omega) (by rw [Uy];exact p.d1)) ?_;rintro v Vs ⟨la,lc,r1,Vt,VK,Vw,rfl,S,q,Va,_,UB⟩;refine ⟨_,_,_,rfl,?_⟩;obtain ⟨lj,Vf,vQ,Vg⟩:=p.lj;obtain ⟨Ut,UM,g⟩:=x2 q lj;refine aD (x1 S.b9 UM (l:=96) (by omega) (by rw [g];omega) (by rw [g];exact Vf)) ?_;rintro v u8 ⟨rfl,Z⟩;refine aR.aS (Ut.n.eE 96) ⟨true,rfl,?_⟩;refine dU (vs:=(Ut.n.eE 96).cells) rfl (aR.single _) λVA VH U3 UP Ui=>?_
 have T:=S.new (Z.new Ui);have UE:(Ut.n.eE 96).Head=257:=by have:(Ut.n.eE 96).Head=Ut.n.get 768:=rfl;rw [this,g,Vg]
 refine dw rfl ⟨_,UP.cell (i:=1) rfl,dw (by rw [UE];rfl) ?_⟩;refine aD (Dl T.b9 (by rw [q];exact I.ca.ok) (Mn q I) 0) ?_;rintro v UR ⟨rfl,Ul⟩;rw [q,p.die] at Ul ⊢;obtain ⟨UW,VL,Vx,z,U,_,_,_,P⟩:=T.op Ul;refine ⟨_,rfl,dw rfl ?_⟩;refine aD (DE (A:=λk=>UW k\/k=az) (λk D=>z.b9.low k D) (n:=1) (by omega) 1 0) ?_;rintro v Vo ⟨UQ,rfl,E,UJ⟩;refine cf.aS (rl 1 0 UQ) ⟨rfl,?_⟩;have B:=z.new E;refine aD (xw B.b9 (by rw [U];exact UD) (t:=qB 1 1) (Bt UJ ⟨by omega,by omega⟩) (Hd 1 1)) ?_;rintro v US Ul;rw [U] at Ul;obtain ⟨Vu,VM,Vy,R,V,⟨Vn,UT,s,rfl,Um⟩,_,_,Q⟩:=B.op Ul;rw [p.d3] at s V;have s:Vn=t:=by simpa using s.symm
 subst s;have Uq:av US az (hR 0 1 101 dn c0 1 dY).cells 45:=by have UZ:av Vs az (hR 0 1 101 dn c0 1 dY).cells 45:=UB.trans (ai.ak K N);have U0:av UR az (hR 0 1 101 dn c0 1 dY).cells 45:=(P az rfl).trans (ai.ak (Z.new Ui) UZ);exact (Q az rfl).trans (ai.ak E U0)
 refine cf.aS UT ⟨rfl,?_⟩;refine dC (vs:=UT.cells) Uq rfl (cf.single _) λVp Ur Y=>?_
 have C:=R.local Y λk e=>e
 obtain ⟨Vc,Vd,VE,Ve⟩:=p.vQ;obtain ⟨Uu,UN,j⟩:=x2 V Vc;refine aD (x1 C.b9 UN (l:=96) (by omega) (by rw [j];omega) (by rw [j];exact Vd)) ?_;rintro v Vq ⟨rfl,F⟩;refine aR.aS (Uu.n.eE 96) ⟨true,rfl,?_⟩;refine dU (vs:=(Uu.n.eE 96).cells) rfl (aR.single _) λVB Vr U4 Us G=>?_
 have a:=ai.ak (F.new G) Ur;obtain ⟨o,U8,Vh,Vi,Vj⟩:=p.out;have Un:=Um.out;rw [U8] at Un;obtain ⟨Vk,Vl,VF,Vm⟩:=Un;have UF:(Uu.n.eE 96).Head=256:=by have:(Uu.n.eE 96).Head=Uu.n.get 768:=rfl;rw [this,j,Ve]
 refine ⟨_,a.cell (i:=24) rfl,fK (Um.e0.trans p.e0) ⟨_,a.cell (i:=26) rfl,fK (by rw [Vk,Vh];rfl) ⟨_,a.cell (i:=33) rfl,fK (by rw [Vl,Vi];rfl) ⟨_,a.cell (i:=35) rfl,fK (by rw [Vm,Vj];rfl) (fK rfl ⟨_,Us.cell (i:=1) rfl,?_,?_⟩)⟩⟩⟩⟩
 ·rw [UF];rfl
 ·exact (C.new (F.new G)).hS O Uk U1
end
end
section
open IntKind
variable (w:al) (R:cp) {i k l m:Int} {s t u:an} {a b c d:Nat} {j:aq}
def qJ (e:Int) (s1:an) (a b:Nat) (s2:Int) (h:an) (c d:Nat) (i:an) (f g:Int) (j:aq):aq:=ab e::ae s1 a b::ab s2::ae h c d::ag j 0 5 (.pointer i::ag j 5 1 (ab f::ab g::ag j 6 129 []))
def yH (d:Int) (s1:an) (a b:Nat) (e:an) (c:Int) (j:aq):aq:=ab d::ae s1 a b::ag j 0 7 (.pointer e::ag j 7 1 (ab c::ag j 8 130 []))
theorem QT:bd prog f8 [ab i,ae s a b,ab k,ae t c d] R w=(cond ((a:Int)>4) (R (ad true) w) (cond ((a:Int)<1) (R (ad true) w) (cond ((c:Int)>100) (R (ad true) w) (cm 12 #[ab i,ab 3] w λf m=>E0 23 #[ab (i64.wrap (f+1)),ab 4,ab 101] m λg h j=>cond (!h) (R (ad false) j) (dm 14 #[] j λe l=>cond (!e) (R (ad false) l) (cx prog (cY f8 [1,1,1,1,1,1,0,1,0,0]) (qJ (i64.wrap (f+1)) s a b k t c d g 0 0 (bx 4 (ad false::ad h::bx 4 (ae s a b::du a::ad ((a:Int)>4)::ad false::ae s a b::du a::ad ((a:Int)<1)::ad ((a:Int)<1)::ad false::ae t c d::du c::ad ((c:Int)>100)::ad ((c:Int)>100)::ab i::ab f::ab (i64.wrap (f+1))::.tuple #[.pointer g,ad h]::ab (i64.wrap (f+1))::.tuple #[.pointer g,ad h]::.pointer g::ad h::ad h::ad (!h)::ad false::ad e::ad (!e)::ad (!e)::bx 98 [])))) (aW 0 (aZ f8 [1,1,1,1,1,1,1] R)) l)))))):=by kernel_rfl
theorem Pf (a8:aq->aE):W prog (sb f8 [1,1,1,1,1,1,0,1,0,0]) (qJ i s a b k t c d u l m j) (a1 a8 (aW 0 (aZ f8 [1,1,1,1,1,1,1] R))) w=(cond (m<(a:Nat)) (bB s a m 1 λK=>bG w K λx=>cm 12 #[ab x,ab 4] w λh Y=>bB s a m 1 λL=>bG Y L λa5=>eF 19 #[ab a5] Y λf G B U=>Calls prog 24 #[.pointer u,ab i,ab 0,ab (i64.wrap ((i64.wrap (l+1))+h)),ae f G B] U λe Uj=>cf.ex λD=>∃ (C:Bool),e=.returned (.tuple #[D.val,ad C])/\aQ Uj #[ab 0,ab 0,ab 0,ab 0,ab 0,ab 0,ab 0,ah 0,ab 0,ab 0,ab 0,ab 0,a3,a3,a3,ab 0,ab 0,ab 0,ab 0,a3,ab 0,ab 0,ah 0,a3,ad false,ad false,ab 0,ab 0,a3,ab 0,a3,ah 0,ab 0,ab 0,ab 0,ab 0] 45 λE Uk=>a_ Uk (af E 0) 0 D.cells λH=>cond (!C) (R (ad false) H) (cond (m<(i64.wrap ((a:Nat) - 1))) (ey H (af E 0) λr=>pV 26 #[.pointer u,r.val] H λI Ui=>a_ Ui (af E 0) 0 I.cells λN=>bG N (af E 26) λn=>cond (n != 0) (R (ad false) N) (a8 (qJ i s a b k t c d u (i64.wrap ((i64.wrap (l+1))+h)) (i64.wrap (m+1)) (ag j 0 6 (jp (af E 0)::ad C::ag j 8 29 (ab m::ae s a b::du a::ad (m<(a:Nat))::ab m::ab (i64.wrap (m+1))::ab l::ab (i64.wrap (l+1))::ae s a b::ab m::jp K::ab x::ab h::ab (i64.wrap ((i64.wrap (l+1))+h))::.tuple #[D.val,ad C]::.pointer u::ab i::ab (i64.wrap ((i64.wrap (l+1))+h))::ae s a b::ab m::jp L::ab a5::ae f G B::.tuple #[D.val,ad C]::D.val::ad C::ad C::ad (!C)::ab m::ae s a b::du a::ab (i64.wrap ((a:Nat) - 1))::ad (m<(i64.wrap ((a:Nat) - 1)))::.pointer u::r.val::I.val::jp (af E 26)::ab n::ad ((n:Int) != 0)::ag j 76 59 [])))) N)) (cu H λQ F=>rh F (af E 0) λM=>(aQ Q M.cells.toArray 45 λZ P=>F P/\cm 12 #[ab k,ab 60] P λo O=>F O/\eF 15 #[.pointer u,ae (bj Z) 1 1,ae t c d,a3,ab o] O λp q g J=>F J/\a8 (qJ i s a b k t c d u (i64.wrap ((i64.wrap (l+1))+h)) (i64.wrap (m+1)) (ag j 0 6 (jp (af E 0)::ad C::ag j 8 29 (ab m::ae s a b::du a::ad (m<(a:Nat))::ab m::ab (i64.wrap (m+1))::ab l::ab (i64.wrap (l+1))::ae s a b::ab m::jp K::ab x::ab h::ab (i64.wrap ((i64.wrap (l+1))+h))::.tuple #[D.val,ad C]::.pointer u::ab i::ab (i64.wrap ((i64.wrap (l+1))+h))::ae s a b::ab m::jp L::ab a5::ae f G B::.tuple #[D.val,ad C]::D.val::ad C::ad C::ad (!C)::ab m::ae s a b::du a::ab (i64.wrap ((a:Nat) - 1))::ad (m<(i64.wrap ((a:Nat) - 1)))::ag j 70 6 (.pointer u::M.val::ae (bj Z) 1 1::ae t c d::ab k::ab o::ae p q g::ag j 83 52 []))))) J)/\cm 12 #[ab k,ab 60] Q λA V=>F V/\aQ V M.cells.toArray 45 λX S=>F S/\eF 15 #[.pointer u,ae (bj X) 1 1,ae t c d,a3,ab A] S λv y z T=>F T/\a8 (qJ i s a b k t c d u (i64.wrap ((i64.wrap (l+1))+h)) (i64.wrap (m+1)) (ag j 0 6 (jp (af E 0)::ad C::ag j 8 29 (ab m::ae s a b::du a::ad (m<(a:Nat))::ab m::ab (i64.wrap (m+1))::ab l::ab (i64.wrap (l+1))::ae s a b::ab m::jp K::ab x::ab h::ab (i64.wrap ((i64.wrap (l+1))+h))::.tuple #[D.val,ad C]::.pointer u::ab i::ab (i64.wrap ((i64.wrap (l+1))+h))::ae s a b::ab m::jp L::ab a5::ae f G B::.tuple #[D.val,ad C]::D.val::ad C::ad C::ad (!C)::ab m::ae s a b::du a::ab (i64.wrap ((a:Nat) - 1))::ad (m<(i64.wrap ((a:Nat) - 1)))::ag j 70 6 (.pointer u::M.val::ae (bj X) 1 1::ae t c d::ab k::ab A::ae v y z::ag j 83 52 []))))) T))) (W prog (sb f8 [1,1,1,1,1,1,1]) (yH i s a b u l (ab k::ae t c d::ag j 0 6 (ab m::ag j 6 31 (ab m::ae s a b::du a::ad (m<(a:Nat))::ag j 41 94 [])))) (bW f8 R) w)):=by kernel_rfl
theorem Px:W prog (sb f8 [1,1,1,1,1,1,1]) (yH i s a b t k j) (bW f8 R) w=(dm 22 #[.pointer t,ab 0] w λd C=>cond (!d) (R (ad false) C) (pV 16 #[ab i,ab 1,ah 0] C λe E=>pV 26 #[.pointer t,e.val] E λv G=>aQ G #[ab 0,ab 0,ab 0,ab 0,ab 0,ab 0,ab 0,ah 0,ab 0,ab 0,ab 0,ab 0,a3,a3,a3,ab 0,ab 0,ab 0,ab 0,a3,ab 0,ab 0,ah 0,a3,ad false,ad false,ab 0,ab 0,a3,ab 0,a3,ah 0,ab 0,ab 0,ab 0,ab 0] 45 λz D=>a_ D (af z 0) 0 v.cells λB=>bB s a (i64.wrap ((a:Nat) - 1)) 1 λF=>bG B F λx=>cm 12 #[ab x,ab 4] B λf u=>cond ((a:Int) == 1) (bG u (af z 26) λg=>cond (g != 0) (R (ad false) u) (bG u (af z 35) λh=>cond (h<=0) (R (ad false) u) (bG u (af z 35) λc=>cond (c>(i64.wrap (k+1))) (R (ad false) u) (bG u (af z 33) λA=>cond (A != 3) (R (ad true) u) (bG u (af z 34) λl=>cond (l == k) (bG u (af z 35) λm=>R (ad ((m:Int) == (i64.wrap (k+1)))) u) (R (ad false) u)))))) (bG u (af z 26) λn=>cond (n != 0) (R (ad false) u) (bG u (af z 35) λo=>cond (o<=(i64.wrap ((i64.wrap (k - 1)) - f))) (R (ad false) u) (bG u (af z 35) λp=>cond (p>(i64.wrap (k+1))) (R (ad false) u) (bG u (af z 33) λq=>cond (q != 3) (R (ad true) u) (bG u (af z 34) λr=>cond (r == k) (bG u (af z 35) λy=>R (ad ((y:Int) == (i64.wrap (k+1)))) u) (R (ad false) u)))))))):=by kernel_rfl
end
section
open dr
def yl (n:Nat) (dV:a4) (i:Nat) (s:Int) (F:aB):Prop:=
 (i<dV.length/\o8 n i s F/\0<=s/\s<=4 * (i:Int)/\(i=0->s=0))\/
 (i=dV.length/\∃ last a c G' v b q,0<=last/\last<s/\s<=4 * (i:Int)/\last=s - 1 - dV.getD (i - 1) 0 % 4/\(i=1->last=0)/\cb F/\F.die 0=(true,a)/\cb a/\eX a [nj 1 (mS n)] [] [] 20000=(c,[⟨1,.inr (mS n),G',true,false,.inr ⟨0,v,b,q,0⟩⟩])/\last<q/\q<=s+1/\(v=3->b=s/\q=s+1))
noncomputable abbrev DX:Func:=f8
abbrev uX (w:al):cp:=λv u=>v=.bool true/\ai w u
section
attribute [local irreducible] eX
theorem JH {z:al} {aM:Nat} {A:a2} {ar:Nat->Tag} {X:bl} {F:aB} {n:Nat} (Uy:1<=n/\n<=3) (Uz:1<=dV.length/\dV.length<=4) (P:bg w gr (is dV)) (N:∀ x ∈ dV,dO x) {s:Int} (I:mo w z aM A ar X F) (Uu:yl n dV dV.length s F) (UA:aw) :
  W prog (sub (bh DX) [1,1,1,1,1,1,1]) (yH n gr dV.length b8 (some ⟨aM,0,none⟩) s UA) (dh prog DX (uX w)) z:=by
 rcases Uu with ⟨h,_⟩ | ⟨_,last,UG,Uk,G',v,Uj,q,UI,UJ,UK,Up,Uq,V,Ur,Us,Ut,UL,Uo,r⟩
 ·omega
 rw [Px];have l:=I.pure;have O:X.bP.length<=100000000:=by
  have H:=V.le;have UM:X.bP.length=F.bP.length:=by rw [<-l];simp [bl.pure]
  omega
 refine aD (Dl I.b9 (by rw [l];exact V.ca.ok) O 0) ?_;rintro v1 bH ⟨rfl,Z⟩;rw [l,Ur] at Z ⊢;obtain ⟨T,UE,G,t,_,_,_⟩:=I.op Z;refine ⟨_,rfl,dw rfl ?_⟩;refine aD (DE (A:=T) (λk Ux=>t.b9.low k Ux) (n:=n) (by omega) 1 0) ?_;rintro v2 bY ⟨dn,rfl,u,R⟩;refine cf.aS (rl 1 0 dn) ⟨rfl,?_⟩;have f:=t.jo u;have d:=f.pure;refine aD (xw f.b9 (by rw [d];exact Us) (Bt R ⟨by omega,by omega⟩) (λ_=>by show ([]:List (List aC)).length<=200;simp)) ?_;rintro UD br c;have L:ut G.pure (nj 1 (mS n))=(Uk,[⟨1,.inr (mS n),G',true,false,.inr ⟨0,v,Uj,q,0⟩⟩]):=by rw [d];exact Ut
 have c:dD T UE bY aM (ut G.pure (nj 1 (mS n))).1 br λB=>∃ E a,(ut G.pure (nj 1 (mS n))).2=[E]/\UD=a.val/\gn B br a E:=c
 rw [L] at c;obtain ⟨UF,UQ,UH,J,⟨E,a,Un,rfl,Q⟩,_,_⟩:=f.op c;obtain rfl:_=E:=by simpa using Un
 refine cf.aS a ⟨rfl,?_⟩;refine dU (vs:=a.cells) rfl (cf.single _) λb1 UO Uv S y=>?_
 have g:=J.jo y;have C:a.Code=0/\a.iH=v/\a.Seq=Uj/\a.j1=q:=by have h:=Q.out;exact ⟨h.1,h.2.1,h.2.2.1,h.2.2.2⟩
 obtain ⟨Ui,UB,UC,D⟩:=C;obtain ⟨i,UN⟩:∃ i,dV.length=i+1:=⟨dV.length - 1,by omega⟩;have j:i<dV.length:=by omega
 refine v3 ((P.new g.new)) (bM j) (by rw [bA (by omega) (by omega)];omega) rfl λb o Uw=>⟨_,Uw _ (ao.refl _ _),?_⟩
 refine aD (p0 _ _ _ (N _ (jw j)) (by omega)) ?_;rintro UP p ⟨rfl,rfl⟩;rw [if_neg (by omega)];refine ⟨_,rfl,?_⟩;have M:dV.getD (dV.length - 1) 0=dV[i]:=by rw [cK,show dV.length - 1=i by omega,bM j];rfl
 rw [M] at Up;have Ul:IntKind.i64.wrap (s+1)=s+1:=bA (by omega) (by omega);have Um:IntKind.i64.wrap (IntKind.i64.wrap (s - 1) - dV[i] % 4)=last:=by rw [bA (x:=s - 1) (by omega) (by omega),bA (by omega) (by omega)];omega
 dsimp only;rw [Ul,Um];have Y:∀ {K:Prop},(q=s+1->v=3->K)->v=3->K:=λh e=>h (r e).2 e
 have cell:∀ {k:Nat} {x:a0},a.cells[k]?=some x->p.cell? ⟨b1,k,none⟩=some x:=λh=>S.cell h
 have rest:(∃ iH,p.cell? ⟨b1,33,none⟩=some (.int .i64 iH)/\cond (iH != 3) (uX w (.bool true) p) (∃ Seq,p.cell? ⟨b1,34,none⟩=some (.int .i64 Seq)/\cond (Seq == s) (∃ U,p.cell? ⟨b1,35,none⟩=some (.int .i64 U)/\uX w (.bool (U == s+1)) p) (uX w (.bool false) p))):=by
  refine ⟨_,cell (k:=33) rfl,?_⟩;rw [UB];by_cases e:v=3
  ·obtain ⟨f1,f2⟩:=r e;refine dw (by rw [e];rfl) ⟨_,cell (k:=34) rfl,fK (by rw [UC,f1];simp) ⟨_,cell (k:=35) rfl,?_,g.new⟩⟩;rw [D,f2];simp
  ·exact fK (by simp [e]) ⟨rfl,g.new⟩
 by_cases H:dV.length=1
 ·have:=Uq H;refine fK (by rw [H];rfl) ⟨_,cell (k:=26) rfl,dw (by rw [Ui];rfl) ⟨_,cell (k:=35) rfl,a9 (λh=>by rw [D] at h;omega) λ_=>⟨_,cell (k:=35) rfl,a9 (λh=>by rw [D] at h;omega) λ_=>rest⟩⟩⟩
 ·refine dw (by simpa using (show (dV.length:Int)≠1 by omega)) ⟨_,cell (k:=26) rfl,dw (by rw [Ui];rfl) ⟨_,cell (k:=35) rfl,a9 (λh=>by rw [D] at h;omega) λ_=>⟨_,cell (k:=35) rfl,a9 (λh=>by rw [D] at h;omega) λ_=>rest⟩⟩⟩
end
end
section
open dr
section
attribute [local irreducible] eX
theorem TU (w:al) {UF V:Int} {UE:an} {UI:Nat} {sch:a4} (VA:dO UF) (Uk:bg w gr (is dV)) (Ut:∀ x ∈ dV,dO x) (Vg:dO V) (U9:bg w UE (is sch)) (U0:∀ x ∈ sch,dO x) :
  ba 8 [.int .i64 UF,.slice gr dV.length b8,.int .i64 V,.slice UE sch.length UI] w λv u=>v=.bool true/\ai w u:=by
 refine bc Tryz.func8 ?_;rw [QT];refine a9 (λh=>⟨rfl,ao.refl _ _⟩) (λVW=>a9 (λh=>⟨rfl,ao.refl _ _⟩) (λVy=>a9 (λh=>⟨rfl,ao.refl _ _⟩) (λ_=>?_)))
 refine aD (p0 _ _ _ VA (by omega)) ?_;rintro v bH ⟨rfl,U'⟩;obtain rfl:w=bH:=U'.symm;rw [if_neg (by omega)];refine ⟨_,rfl,?_⟩;obtain ⟨n,VF,R⟩:∃ n:Nat,UF % 3+1=n/\1<=n/\n<=3:=⟨(UF % 3+1).toNat,by omega,by omega⟩;rw [bA (x:=UF % 3+1) (by omega) (by omega),VF];refine aD (Ca (n:=n) (c:=4) (lines:=101) (by omega) (by omega) (by omega)) ?_;rintro v bY ⟨aM,A,ar,X,rfl,Vi,Uw,Vh,Vk⟩;refine ⟨_,_,rfl,dw rfl ?_⟩;refine aD (Mo _) ?_;rintro v br ⟨rfl,E⟩;refine ⟨_,rfl,dw rfl ?_⟩;have Up:mo w br aM A ar X (aB.fresh n 4 101):=⟨Vi.new E,Vk,Uw.new E,Vh⟩;refine c1 mix (λm env z=>∃ (i:Nat) (s:Int) (A:a2) (ar:Nat->Tag) (X:bl) (F:aB) (Vp:aw),m=dV.length - i/\i<=dV.length/\env=qJ n gr dV.length b8 V UE sch.length UI (some ⟨aM,0,none⟩) s i Vp/\mo w z aM A ar X F/\yl n dV i s F) dV.length
  ⟨0,0,A,ar,X,_,_,rfl,by omega,rfl,Up,.inl ⟨by omega,K_ R,by omega,by omega,λ_=>rfl⟩⟩ ?_
 clear Up Vi Vk Vh Uw E;rintro m env z ⟨i,s,A,ar,X,F,Vp,rfl,VX,rfl,P,Vj⟩;rw [Pf];refine a9 (λU5=>?_) (λVC=>?_)
 ·have t:i<dV.length:=by omega
  rcases Vj with ⟨_,r,UM,Vz,Vf⟩ | ⟨e,_⟩
  rotate_left
  ·omega
  have U:=Ut _ (jw t);have UZ:dV.getD i 0=dV[i]:=by rw [cK,bM t];rfl
  refine v3 (Uk.new P.new) (bM t) rfl rfl λb o UU=>⟨_,UU _ (ao.refl _ _),?_⟩
  refine aD (p0 _ _ _ U (by omega)) ?_;rintro v VZ ⟨rfl,rfl⟩;rw [if_neg (by omega)];refine ⟨_,rfl,?_⟩;refine v3 (Uk.new P.new) (bM t) rfl rfl λb o UU=>⟨_,UU _ (ao.refl _ _),?_⟩
  obtain ⟨y,VK,B⟩:∃ y:Nat,(dV[i] % 14).toNat=y/\y<14:=⟨(dV[i] % 14).toNat,rfl,by omega⟩;refine aD (K8 U) ?_;rw [VK];rintro v V0 ⟨VV,cc,rfl,U8,Uv⟩;refine ⟨_,_,_,rfl,?_⟩;obtain ⟨seq,Uz,K,Vl⟩:∃ seq,s+1+dV[i] % 4=seq/\s<seq/\seq<=s+4:=⟨_,rfl,by omega,by omega⟩;have Vu:IntKind.i64.wrap (IntKind.i64.wrap (s+1)+dV[i] % 4)=seq:=by rw [bA (x:=s+1) (by omega) (by omega),bA (by omega) (by omega)];exact Uz
  have Vv:IntKind.i64.wrap ((dV.length:Int) - 1)=(dV.length:Int) - 1:=bA (by omega) (by omega);have Vw:IntKind.i64.wrap ((i:Int)+1)=((i+1:Nat):Int):=by rw [bA (by omega) (by omega)];omega
  dsimp only;rw [Vu,Vv,Vw];have Q:=P.jo Uv;have D:=P.pure;have U6:0<X.nodes.length:=by have:=r.len;rw [<-D] at this;simp [bl.pure] at this;omega
  obtain ⟨x,Vo⟩:∃ x,X.nodes[0]?=some x:=⟨_,bM U6⟩;have S:F.nodes[0]?=some x.n:=by rw [<-D];simp [bl.pure,Vo]
  have Ux:=(r.mem 0 _ S).1;have VJ:=Ux.len;have UW:=Og (y:=y) (r.fR _ S) (by omega);refine aD (AF Q.b9 (n:=n) (by omega) Vo Ux.up (L:=eu y) (λl VD=>by have:=q4 VD;omega) (by have:=(zl y B).2;omega) U8 0 seq) ?_;rintro v Ve ⟨dn,c0,dY,rfl,G,aj,J,Va⟩;refine cf.aS (hR 0 seq 101 dn c0 (eu y).length dY) ⟨true,rfl,?_⟩;refine dU (vs:=(hR 0 seq 101 dn c0 (eu y).length dY).cells) rfl (cf.single _) λb1 UK VB p f=>?_
  refine dw rfl ?_;have UD:(eu y).length=(gJ x.n (eu y)).length:=by simp [gJ]
  have j:ai w Ve:=Q.new.new G;have C:bX A ar Ve aM X:=Q.b9.new G;have VE:=p.lt;have Vm:=G.size;have Vn:=f.size;have UB:∀ {u},ai UK u->gn (λk=>A k\/k=b1) u (hR 0 seq 101 dn c0 (eu y).length dY) (kV 0 (kh n y seq x.n)):=λ{u} hu=>by
   refine Bs ((aj.mono λk U5 T=>T.resolve_right (by omega)).new (f.new hu)) (J.rd.new (f.new hu)) UD (by rw [<-UD];have:=(zl y B).2;omega) (g0 J.rd λk T UJ=>?_) UW;have Vy:=Va _ T;have Vf:=J.lt T;rcases UJ with UJ | UJ
   ·have:=Q.b9.low _ UJ;omega
   ·omega
  have UA:mh (kV 0 (kh n y seq x.n)):=λ_=>by show ([]:List (List aC)).length<=200;simp
  refine a9 (λU4=>?_) (λU3=>?_)
  ·
   refine cf.aS (hR 0 seq 101 dn c0 (eu y).length dY) ⟨bI p rfl,?_⟩;obtain ⟨cw,G',Ui,Ur⟩:=K9 r R B (by omega) UM K (by omega) S;have Uq:fe A ar Ve aM (λk=>k=b1) UK A ar X:=fe.start C f λk T=>by rw [T];exact ⟨by omega,by omega⟩
   have UR:ut X.pure (kV 0 (kh n y seq x.n))=(cw,[⟨0,.inl (kh n y seq x.n),G',true,false,.inl (0,3)⟩]):=by rw [D];exact Ui
   have a:=xw Uq.b9 (by rw [D];exact r.fg) (UB (ao.refl _ _)) UA;rw [UR] at a;refine aD a ?_;rintro v u8 VG;obtain ⟨VU,VT,Vt,UO,UQ,⟨VQ,Vc,Vx,rfl,U_⟩,_,_,U2⟩:=Uq.op VG;obtain rfl:_=VQ:=by simpa using Vx
   refine cf.aS Vc ⟨rfl,?_⟩;have Vb:av u8 b1 (hR 0 seq 101 dn c0 (eu y).length dY).cells 45:=(U2 b1 rfl).trans p;refine dC (vs:=Vc.cells) Vb rfl (cf.single _) λUm O U1=>?_
   have Y:=UO.local U1 λk e=>e
   have UV:Vc.Code=0:=U_.out.1;refine ⟨_,O.cell (i:=26) rfl,dw (by rw [UV];rfl) ?_⟩;exact ⟨dV.length - (i+1),by omega,i+1,seq,_,VT,Vt,cw,_,rfl,by omega,rfl,⟨Y.b9,UQ,Y.hS C j P.own,Y.owns C j P.own⟩,.inl ⟨by omega,Ur,by omega,by omega,λe=>by omega⟩⟩
  ·
   have Uu:dV.length=i+1:=by omega
   obtain ⟨UH,t1,Vq,Ui,UX,Us,UY,Vr,G',VR,VP,VO,Uy,VL,VM,VN⟩:=Nu r R B (by omega) UM K (by omega) S sch (V % 60).toNat
   have Uj:((V % 60).toNat:Int)=V % 60:=by omega
   have H:yl n dV (i+1) seq UH:=.inr ⟨by omega,s,Vq,Vr,G',VR,VP,VO,UM,K,by omega,by rw [show i+1 - 1=i by omega,UZ];omega,λe=>Vf (by omega),UX,Us,UY,Uy,VL,VM,VN⟩;rintro u8 UC;have d:ai UK u8:=by rw [UC];exact cL _
   clear UC;refine ⟨λq=>av q b1 (hR 0 seq 101 dn c0 (eu y).length dY).cells 45,ai.ak d p,cf.aS (hR 0 seq 101 dn c0 (eu y).length dY) ⟨λq VH=>bI VH rfl,?_⟩⟩;have tail:∀ {UL:al} {aX:an},ai UK UL->bg UL aX (hR 0 seq 101 dn c0 (eu y).length dY).cells->ba 15 [ptr aM,.slice aX 1 1,.slice UE sch.length UI,.slice none 0 0,.int .i64 (V % 60)] UL λv Um=>∃ la lc,v=.slice la 1 lc/\av Um b1 (hR 0 seq 101 dn c0 (eu y).length dY).cells 45/\∃ (Un:a2) (UG:Nat->Tag) (Uo:bl),mo w Um aM Un UG Uo UH:=λ{UL aX} I U7=>by have VI:=I.size;have a:=A8 C (f.new I) (b1:=b1) ⟨by omega,by omega⟩ (by rw [D];exact r.fg) (UB I) UA (pc:=1) U7 (sch:=sch) (sc:=UI) (sa:=UE) (LG U9 (j.new (f.new I)) λk T=>T.elim (P.own k) λe=>(by have:=j.size;omega)) U0 (most:=(V % 60).toNat) (by omega) (by rw [D];exact Ui);rw [Uj] at a;refine aD a ?_;rintro v Um ⟨la,lc,VY,B',VS,Vs,rfl,UN,UP,_,_,UT⟩;exact ⟨_,rfl,la,lc,rfl,UT.trans (ai.ak I p),_,VS,Vs,UN.b9,UP,UN.hS C j P.own,UN.owns C j P.own⟩
   refine ⟨?_,?_⟩
   ·rintro az Um Z N;obtain ⟨O,g⟩:=bk Z N;clear N;refine ⟨ai.ak (d.new g) p,?_⟩;refine aD (p0 _ _ _ Vg (by omega)) ?_;rintro v Ul ⟨rfl,M⟩;obtain rfl:Um=Ul:=M.symm;rw [if_neg (by omega)];refine ⟨_,rfl,ai.ak (d.new g) p,?_⟩;refine aD (tail (d.new g) (e9 O (by simp))) ?_;rintro v Vd ⟨la,lc,rfl,US,Un,UG,Uo,W⟩;exact ⟨_,_,_,rfl,US,dV.length - (i+1),by omega,i+1,seq,Un,UG,Uo,UH,_,rfl,by omega,rfl,W,H⟩
   ·refine aD (p0 _ _ _ Vg (by omega)) ?_;rintro v Ul ⟨rfl,M⟩;obtain rfl:u8=Ul:=M.symm;rw [if_neg (by omega)];refine ⟨_,rfl,ai.ak d p,?_⟩;rintro az Um Z N;obtain ⟨O,g⟩:=bk Z N;clear N;refine ⟨ai.ak (d.new g) p,?_⟩;refine aD (tail (d.new g) (e9 O (by simp))) ?_;rintro v Vd ⟨la,lc,rfl,US,Un,UG,Uo,W⟩;exact ⟨_,_,_,rfl,US,dV.length - (i+1),by omega,i+1,seq,Un,UG,Uo,UH,_,rfl,by omega,rfl,W,H⟩
 ·have Uu:i=dV.length:=by omega
  subst Uu;exact JH R ⟨by omega,by omega⟩ Uk Ut P Vj _
end
end
section
open Go.ChangeShapes Go.WideShapes Go.ChangeAt Go.RowKit
theorem laid:laidOutB prog=true:=by kernel_rfl
theorem Oh:ownKnob prog.godebug=none:=by kernel_rfl
theorem FG {H:Type} {enc:TypeId×a0->H} {W W':al} {sp:Nat->Bool}:∀ {ts:List TypeId} {vs:aw} {ds:List (DataW H)} {cn:List MemPlace},(∀ t ∈ ts,prog.readableRec t=true/\t<prog.types.size)->DataW.TrodAll enc prog W 0 (λ_=>true) true ts vs ds cn->
  (∀ p ∈ cn,W.sameAt W' p)->(∀ p ∈ cn,sp p.block=true)->DataW.TrodAll enc prog W' 0 sp true ts vs ds cn
 | [],_,_,_,_,h,_,_=>by obtain ⟨rfl,rfl,rfl⟩:=trodAll_nil h;exact trodAll_mk0
 |t::ts,_,_,_,e,h,g,f=>by obtain ⟨v,l,d,i,a,b,rfl,rfl,rfl,j,k⟩:=trodAll_cons h;refine trodAll_cons_mk (WideElems.Trod_stays laid (e t d_).1 (e t d_).2 j (λp c=>g p (tU _ c)) λp c=>f p (tU _ c)) ?_;exact FG (λt h=>e t (e2 _ h)) k (λp c=>g p (List.mem_append_right _ c)) λp c=>f p (List.mem_append_right _ c)
theorem K' {H:Type} {enc:TypeId×a0->H} {f:Func} {s:ChangeSpec} {apart:Bool} {W W':al} {args:Array a0} {ds gs:List (DataW H)} {before:List MemPlace} {tb:TypeId} (cB:DataW.Whole enc prog f.params.toList s.vars apart W args.toList ds gs before)
  (k:Go.bn.ai W W') (e:∀ t ∈ f.params.toList,prog.readableRec t=true/\t<prog.types.size) (aj:s.vars=[]) (a:s.fn H (ds++gs)={ results:=[.lit (.bool true)],args:=ds }) (o:f.resultTypes=#[tb]) (d:prog.underlying tb=some .bool) :
  s.post enc prog f apart true false false W args (.bool true) W':=by
 have i:Go.RowKit.Below W.heap.size W W':=k.below (dd _) λ_ _ h=>h
 have b:=cB.lt;have c:=cB;obtain ⟨p,q,j,r,rfl,l,n⟩:=cB;refine ⟨ds,gs,p++q,[],p,[],c,?_,?_,?_,i.frame _,λh=>by cases h⟩
 ·rw [a,o];exact trodAll_cons_mk (shut_bool d _) trodAll_mk0
 ·rw [a];exact FG e j (λx g=>i.same (b x (tU _ g))) λx g=>by simpa using b x (tU _ g)
 ·rw [a,aj];rfl
theorem x3 {n:Int} (h:(Lit.int .i64 n).wf=true):dO n:=by have:=bounds_i64 h;exact ⟨this.1,by omega⟩
end
section
open Go.ChangeShapes Go.WideShapes Go.ChangeAt Go.RowKit
theorem A9 {sz:Nat} (b:0<sz):∀ {rows:List aw} {j:Nat} {u:a0},(∀ r ∈ rows,r.length=sz)->rows.flatten[j]?=some u->∃ r,rows[j / sz]?=some r/\r[j % sz]?=some u
 | [],j,u,_,h=>by simp at h
 |r::rows,j,u,d,h=>by
  have k:=d r d_;rw [hr,o3] at h;by_cases c:j<sz
  ·rw [if_pos (by omega)] at h;exact ⟨r,by rw [Nat.div_eq_of_lt c];rfl,by rw [p9 c];exact h⟩
  ·rw [if_neg (by omega),k] at h;obtain ⟨l,g,i⟩:=A9 b (λr a=>d r (e2 _ a)) h;have e:j / sz=(j - sz) / sz+1:=by rw [Nat.div_eq_sub_div b (by omega)]
   have f:j % sz=(j - sz) % sz:=by rw [Nat.mod_eq_sub_mod (by omega)]
   exact ⟨l,by rw [e];simpa using g,by rw [f];exact i⟩
theorem JI {a:aV} (h:w.cell? a=some v):a.spot=none:=by
 cases b:a.spot with
 |none=>rfl
 |some s=>exfalso;unfold World.cell? at h;simp only [b,Option.isSome_some,if_true] at h;split at h<;>simp_all
theorem IP {H:Type} {enc:TypeId×a0->H} {W:al} {fuel:Nat} {cs:aw} {x:DataW H×List MemPlace} (M:P.underlying t=some (.slice e)) (I:P.cellsOf e=k) (A:0<k)
  (J:DataW.trod enc P W 0 (λ_=>true) held fuel t cs=some x):∃ a cap rows,cs=[.slice a (List.length rows) cap]/\rows.length<=cap/\bg W a rows.flatten/\∀ r ∈ rows,r.length=k/\∃ fuel x,DataW.trod enc P W 0 (λ_=>true) held fuel e r=some x:=by
 rcases Deep.open_slice M J with ⟨z,_⟩ | ⟨bu,len,cap,m,n,D,C,z,_,E,_,F,_,G⟩
 ·exact ⟨none,0,[],z,dd _,.inl rfl,λx N=>by cases N⟩
 ·subst z;have hm:len<=m:=by rw [F];simp;omega
  obtain ⟨f,h⟩:=Deep.choose_lt (α:=aw) (p:=λi cs=>W.cells? 0 (bu.add (i * k)) k=some cs/\DataW.trod enc P W 0 (λ_=>true) held n e cs=some (D i,C i)) (n:=m) (λi b=>by obtain ⟨cs,o,w⟩:=G i b;rw [I] at o;exact ⟨cs,o,w⟩)
  have g:∀ (i:Nat) (r:aw),((List.range len).map f)[i]?=some r->i<len/\r=f i:=by intro i r l;have b:=cz l;simp at b;simp [b] at l;exact ⟨b,l.symm⟩
  have d:∀ r ∈ (List.range len).map f,r.length=k:=by intro r l;obtain ⟨i,b⟩:=gh.1 l;obtain ⟨b,rfl⟩:=g i r b;exact (World.cells?_some (h i (by omega)).1).2.1
  refine ⟨some bu,cap,(List.range len).map f,by simp,by simpa using E,?_,λr l=>⟨d r l,?_⟩⟩
  ·by_cases y:len=0
   ·subst y;exact .inl rfl
   ·have c:∀ (i q:Nat) (u:a0),i<len->(f i)[q]?=some u->q<k->W.cell? (bu.add (i * k+q))=some u:=by intro i q u b L B;have:=(World.cells?_some (h i (by omega)).1).2.2 q B;rw [Deep.add_add] at this;rw [this,L]
    have K:=(World.cells?_some (h 0 (by omega)).1).2.1;have O:bu.spot=none:=by have s:=c 0 0 _ (by omega) (bM (by omega)) A;have:=JI s;simpa [Addr.add] using this
    refine .inr ⟨bu.block,bu.off,by cases bu;simp_all,λj u hu=>?_⟩;obtain ⟨r,o,w⟩:=A9 A d hu;obtain ⟨b,rfl⟩:=g _ _ o;have s:=c (j / k) (j % k) u b w (Nat.mod_lt _ A);rw [tP,Nat.div_add_mod] at s;rw [<-s];unfold Addr.add;split
    ·rename_i y;subst y;cases bu;simp_all
    ·cases bu;simp_all
  ·obtain ⟨i,b⟩:=gh.1 l;obtain ⟨b,rfl⟩:=g i r b;exact ⟨n,_,(h i (by omega)).2⟩
theorem JJ {H:Type} {enc:TypeId×a0->H} {W:al} {d:DataW H} (g:P.underlying t=some (.slice e)) (n:P.cellsOf e=k) (p:0<k) (f:Value.okWide P W r gV t v)
  (aA:DataW.Trod enc P W 0 (λ_=>true) held t v d cn):∃ a cap rows,v=.slice a (List.length rows) cap/\bg W a rows.flatten/\∀ r ∈ rows,r.length=k/\∃ fuel x,DataW.trod enc P W 0 (λ_=>true) held fuel e r=some x:=by
 obtain ⟨a,len,cap,rfl⟩:=okWide_slice g f;obtain ⟨fuel,o⟩:=aA;obtain ⟨h,b,rows,i,_,j,l⟩:=IP g n p o;have c:[Value.slice a len cap]=[.slice h rows.length b]:=i;simp at c;obtain ⟨rfl,rfl,rfl⟩:=c;exact ⟨_,_,_,rfl,j,l⟩
theorem AG {H:Type} {enc:TypeId×a0->H} {W:al} {d:DataW H} (q:P.underlying t=some (.slice e)) (he:P.underlying e=some (.int .i64)) (o:P.cellsOf e=1) (c:Value.okWide P W r gV t v)
  (aA:DataW.Trod enc P W 0 (λ_=>true) held t v d cn):∃ a cap xs,v=.slice a (List.length xs) cap/\bg W a (is xs)/\∀ x ∈ xs,dO x:=by
 obtain ⟨a,cap,rows,rfl,l,k⟩:=JJ q o (by omega) c aA;have hint:∀ r ∈ rows,∃ n,r=[.int .i64 n]/\dO n:=by intro r j;obtain ⟨_,fuel,x,b⟩:=k r j;obtain ⟨n,e,_,w⟩:=DataW.trod_int he b;exact ⟨n,e,x3 w⟩
 clear k;have key:∀ rows:List aw,(∀ r ∈ rows,∃ n,r=[Value.int .i64 n]/\dO n)->∃ xs:a4,rows.length=xs.length/\rows.flatten=is xs/\∀ x ∈ xs,dO x:=by
  intro rows;induction rows with
  |nil=>intro _;exact ⟨[],rfl,rfl,λx b=>by cases b⟩
  |cons r rows s=>
   intro h;obtain ⟨n,rfl,p⟩:=h r d_;obtain ⟨xs,f,g,i⟩:=s λr j=>h r (e2 _ j)
   refine ⟨n::xs,by simp [f],by simp [is,g],λx b=>?_⟩;rcases dy.1 b with rfl | b
   ·exact p
   ·exact i x b
 obtain ⟨xs,f,g,i⟩:=key rows hint;exact ⟨a,cap,xs,by rw [f],by rw [<-g];exact l,i⟩
end
end Go.Proofs.YtmkljjbioomepaaGreat
