import Derived.Test.YtmkljjbioomepaaGreatf27
import Derived.Test.YtmkljjbioomepaaGreatf14
import Derived.Test.YtmkljjbioomepaaGreatf23
set_option linter.all false
set_option maxHeartbeats 4000000
set_option maxRecDepth 100000
namespace Go.Proofs.YtmkljjbioomepaaGreat
open Go.Proofs.Tryz Go.bd
section
def nC (W:List aD)(x:aO)(k:Nat):Nat:=hY (W.take k) x
def q5 (W:List aD)(x:aO)(k:Nat):Nat:=nV (W.take k) x
theorem Pd {W:List aD}{x:aO}{k:Nat}{q:aD}(h:W[k]?=some q):(nC W x (k+1):Int)=nC W x k+gA (kY (lK x q) q):=by
 unfold nC hY;rw[tK,h];simp only[Option.toList,zk,hi,List.filter_cons,List.filter_nil]
 grind[kY,lK,gA]
theorem Pe {W:List aD}{x:aO}{k:Nat}{q:aD}(h:W[k]?=some q):(q5 W x (k+1):Int)=q5 W x k+gA (kC (lK x q)):=by
 unfold q5 nV;rw[tK,h];simp only[Option.toList,zk,hi,List.filter_cons,List.filter_nil]
 grind[kC,lK,gA]
theorem Sd (W:List aD)(x:aO)(k:Nat):nC W x k<=W.length:=m2 (Jt _ _) (by grind)
theorem Se (W:List aD)(x:aO)(k:Nat):q5 W x k<=W.length:=m2 (Jt _ _) (by grind)
theorem ao.H2 {w z c:aj}{a:Nat}(f:ai w z)(d:ao (λb=>b=a) z c)(g:w.heap.size<=a):ai w c:=f.trans d λi h e=>by grind
theorem NC {A:a6}{av:bI}{w z:aj}{aJ:Nat}{X:bt}(h:b4 A av w aJ X)(T:ai w z){b1 d:Nat}{Z:aw}{n:Int}{ab s8:Bool}{lk:Nat}{i c:Nat}{x:d'}{job:cE}{F:ba}{W:List aD}{R:bg}
  (bb:X.nodes[i]?=some x) (aW:x.n.down=false) (a7:aq z b1 job.cells 39) (aZ:aq z d (is F) 145) (I:w.heap.size<=d) (aM:F.length=5) (a4:i<5) (aL:F[i]?=some 0) (a8:lk+W.length<1000) (E:d≠b1)
  (eT:bh w job.de (ef W).flatten) (B:job.dj=W.length) (aR:job.Client=c) (K:c<6) (f:∀ q ∈ W,96<=q.bw/\q.bw<256/\q.bw.toNat*8+8<=x.n.words.length) (U:∀ q ∈ W,vt c i (lK x.n q) q=true)
  {QX:Exit->au->aK}
  (S:∀ (j:aj) (t:au),ao (λb=>b=d) z j->aq j d (is (F.set i (hY W x.n))) 145->QX .normal (u5 ⟨aJ,0,none⟩ ⟨b1,0,none⟩ Z n ab s8 ⟨d,0,none⟩ ((lk+nV W x.n:Nat):Int) i t) j) (t:au) :
  Go.bd.W prog (sub (ay f48) [1,1,1,1,1,1,0,1,0,0,1,0,0,1,1,1,1,1,1]) (sH ⟨aJ,0,none⟩ ⟨b1,0,none⟩ Z n ab s8 ⟨d,0,none⟩ lk i t) (aV prog f48 R QX) z:=by
 rw[XA];refine cP mix (λm env j=>∃ (k:Nat) (g:Int) (dx:ba) (t:au),m=W.length-k/\k<=W.length/\g=((lk+q5 W x.n k:Nat):Int)/\dx=F.set i (nC W x.n k)/\env=sK ⟨aJ,0,none⟩ ⟨b1,0,none⟩ Z n ab s8 ⟨d,0,none⟩ g i k t/\ao (λb=>b=d) z j/\aq j d (is dx) 145) W.length
  ⟨0,_,F,_,rfl,by omega,by simp[q5,nV],?_,rfl,ao.refl _ _,aZ⟩ ?_
 ·apply jb
  grind[List.getElem?_set_self,nC,hY,List.getElem?_set_ne]
 rintro m env j ⟨k,g,dx,t,rfl,af,ag,aI,rfl,r,C⟩;refine eL (P:=prog) (fn:=f48) (R:=R) (λ_ _=>rfl) ?_;rw[V2];have p:=r.ak a7 (λe=>E e.symm);have s:ai w j:=ao.H2 T r I;refine⟨_,_,_,p.cell (i:=6) rfl,a5 (λa9=>?_) (λa9=>?_)⟩
 ·have O:k<W.length:=by grind
  obtain⟨q,H⟩:∃ q,W[k]?=some q:=⟨_,bW O⟩;have G:=cu H;obtain⟨br,l2,bm⟩:=f q G;refine⟨_,_,_,p.cell (i:=6) rfl,?_⟩;refine ei (cells:=aD.cells) aD.len (by omega) (eT.new s) H rfl B λb o _ J=>⟨q.bw,J 0 _ rfl,?_⟩
  have V:q.bw=((q.bw.toNat:Nat):Int):=by omega
  have ae:=w6 (h.new s) (i:=i) bb (l:=q.bw.toNat) (by omega) bm aW;rw[<-V]at ae;refine aE ae ?_;rintro v bp ⟨rfl,D⟩;refine aD.aT _ ⟨_,rfl,?_⟩;refine dP (vs:=(x.n.eM q.bw.toNat).cells) rfl (aD.single _) λbo b3 aP Y Q=>?_
  have a:=D.new Q;have L:=ai.ak a C;have aB:=C.lt;have a':=D.size;have y:dx.length=5:=by grind
  have u:dx[i]?=some (nC W x.n k:Int):=by grind
  have ad:=Sd W x.n k;have ah:=Se W x.n k;refine Pc (R:=R) (x:=(nC W x.n k:Int)) (lk:=g) (ai.ak a p) L Y y a4 u (by omega) (by omega) ⟨E,by omega⟩ (eT.new (s.new a)) B H aR K (U q G) ?_ (λbs bk M a1=>?_) _
  ·exactλ_ _=>rfl
  refine k9 (cb ?_);rw[V4];refine cb ?_;rw[bq (x:=(k:Int)+1) (by omega) (by omega)];refine⟨W.length-(k+1),by omega,k+1,_,_,_,rfl,by omega,?_,rfl,rfl,(r.new a).trans M λ_ _ h=>h,?_⟩
  ·grind[Pe,gA,kC,lK]
  ·have:=Pd (x:=x.n) H
   grind[nC,gA,kY,lK,List.set_set]
 ·have N:k=W.length:=by grind
  subst N;refine j9 (j0 (Gm ?_))
  grind[q5,nV,List.take_length,nC,hY]
end
section
open IntKind
variable (w:aj)(R:bg){A B C:aw}{i:Int}{F:Bool}{j:al}
theorem VO (b:bH):W prog (sb f48 [1,1,1,1,1,1,1,1,0,1,0,0,1,0,0,1,1,0]) (pA A B i F C 0 0 j) (aV prog f48 R b) w=(ck w λd e=>gC C 5 0 1 λc=>cA e c λa=>cond (a>0) (b .normal (hB A B i F C 0 ((0:Int) == 0) (ae j 0 16 (ag 0::ae j 16 190 (ab 0::ad (0>0)::ad false::a1 25 [ad false,ad false,ab 0,ad ((0:Int) == 0),ad true,jp c,ab a,ad (a>0),ad (a>0),ad true,ag 0,ad ((0:Int) == 0),ad ((0:Int) == 0)])))) d) (b .normal (hB A B i F C 0 false (ae j 0 16 (ag 0::ae j 16 190 (ab 0::ad (0>0)::ad false::a1 25 [ad false,ad false,ab 0,ad ((0:Int) == 0),ad true,jp c,ab a,ad (a>0),ad (a>0),ad false,undef,undef,ad false])))) d)):=by kernel_rfl
theorem VP (b:bH):W prog (sb f48 [1,1,1,1,1,1,1,1,0,1,0,0,1,0,0,1,1,0]) (pA A B i F C 0 1 j) (aV prog f48 R b) w=(ck w λd e=>gC C 5 0 1 λc=>cA e c λa=>cond (a>0) (b .normal (hB A B i F C 0 ((1:Int) == 0) (ae j 0 16 (ag 1::ae j 16 190 (ab 0::ad (0>0)::ad false::a1 25 [ad false,ad false,ab 0,ad ((0:Int) == 0),ad true,jp c,ab a,ad (a>0),ad (a>0),ad true,ag 1,ad ((1:Int) == 0),ad ((1:Int) == 0)])))) d) (b .normal (hB A B i F C 0 false (ae j 0 16 (ag 1::ae j 16 190 (ab 0::ad (0>0)::ad false::a1 25 [ad false,ad false,ab 0,ad ((0:Int) == 0),ad true,jp c,ab a,ad (a>0),ad (a>0),ad false,undef,undef,ad false])))) d)):=by kernel_rfl
theorem Vs (c:bH):W prog (sb f48 [1,1,1,1,1,1,1,1,0,1,0,0,1,0,0,1,1,0]) (pA A B i F C 1 0 j) (aV prog f48 R c) w=(ck w λf e=>gC C 5 0 1 λd=>cA e d λx=>cond (x>0) (gC C 5 1 1 λq=>cA e q λb=>dS e (br B 6) λg h a=>cond (b<(h:Nat)) (c .normal (hB A B i F C 1 true (ae j 0 16 (ag 0::ae j 16 190 (ab 1::ad (1>0)::ad true::jp d::ab x::ad (x>0)::ad true::ab 1::jp q::ab b::a7 B 6::af g h a::cd h::ad (b<(h:Nat))::ad (b<(h:Nat))::ad true::a1 11 (ad true::ad true::ad true::a1 11 []))))) f) (c .normal (hB A B i F C 1 false (ae j 0 16 (ag 0::ae j 16 190 (ab 1::ad (1>0)::ad true::jp d::ab x::ad (x>0)::ad true::ab 1::jp q::ab b::a7 B 6::af g h a::cd h::ad (b<(h:Nat))::ad (b<(h:Nat))::ad false::ag 0::ad ((0:Int) != 0)::ad false::a1 7 [ad false,ad false,ad false,ad false,ab 1,ad ((1:Int) == 0),ad false,undef,undef,undef,ad false,ad false,undef,undef,ad false])))) f)) (c .normal (hB A B i F C 1 false (ae j 0 16 (ag 0::ae j 16 190 (ab 1::ad (1>0)::ad true::jp d::ab x::ad (x>0)::ad false::a1 7 (ad false::ad false::ag 0::ad ((0:Int) != 0)::ad false::a1 7 [ad false,ad false,ad false,ad false,ab 1,ad ((1:Int) == 0),ad false,undef,undef,undef,ad false,ad false,undef,undef,ad false]))))) f)):=by kernel_rfl
theorem Vt (f:bH):W prog (sb f48 [1,1,1,1,1,1,1,1,0,1,0,0,1,0,0,1,1,0]) (pA A B i F C 1 1 j) (aV prog f48 R f) w=(ck w λt e=>gC C 5 0 1 λs=>cA e s λx=>cond (x>0) (gC C 5 1 1 λq=>cA e q λd=>dS e (br B 6) λg h a=>cond (d<(h:Nat)) (f .normal (hB A B i F C 1 true (ae j 0 16 (ag 1::ae j 16 190 (ab 1::ad (1>0)::ad true::jp s::ab x::ad (x>0)::ad true::ab 1::jp q::ab d::a7 B 6::af g h a::cd h::ad (d<(h:Nat))::ad (d<(h:Nat))::ad true::a1 11 (ad true::ad true::ad true::a1 11 []))))) t) (gC C 5 1 1 λr=>cA e r λb=>dS e (br B 6) λk l m=>cond (b<(l:Nat)) (f .normal (hB A B i F C 1 true (ae j 0 16 (ag 1::ae j 16 190 (ab 1::ad (1>0)::ad true::jp s::ab x::ad (x>0)::ad true::ab 1::jp q::ab d::a7 B 6::af g h a::cd h::ad (d<(h:Nat))::ad (d<(h:Nat))::ad false::ag 1::ad ((1:Int) != 0)::ad true::ab 1::jp r::ab b::a7 B 6::af k l m::cd l::ad (b<(l:Nat))::ad (b<(l:Nat))::ad (b<(l:Nat))::ad (b<(l:Nat))::ad true::a1 11 [])))) t) (f .normal (hB A B i F C 1 false (ae j 0 16 (ag 1::ae j 16 190 [ab 1,ad (1>0),ad true,jp s,ab x,ad (x>0),ad true,ab 1,jp q,ab d,a7 B 6,af g h a,cd h,ad (d<(h:Nat)),ad (d<(h:Nat)),ad false,ag 1,ad ((1:Int) != 0),ad true,ab 1,jp r,ab b,a7 B 6,af k l m,cd l,ad (b<(l:Nat)),ad (b<(l:Nat)),ad (b<(l:Nat)),ad (b<(l:Nat)),ad false,ab 1,ad ((1:Int) == 0),ad false,undef,undef,undef,ad false,ad false,undef,undef,ad false]))) t))) (gC C 5 1 1 λv=>cA e v λc=>dS e (br B 6) λn o p=>cond (c<(o:Nat)) (f .normal (hB A B i F C 1 true (ae j 0 16 (ag 1::ae j 16 190 (ab 1::ad (1>0)::ad true::jp s::ab x::ad (x>0)::ad false::a1 7 (ad false::ad false::ag 1::ad ((1:Int) != 0)::ad true::ab 1::jp v::ab c::a7 B 6::af n o p::cd o::ad (c<(o:Nat))::ad (c<(o:Nat))::ad (c<(o:Nat))::ad (c<(o:Nat))::ad true::a1 11 []))))) t) (f .normal (hB A B i F C 1 false (ae j 0 16 (ag 1::ae j 16 190 (ab 1::ad (1>0)::ad true::jp s::ab x::ad (x>0)::ad false::a1 7 [ad false,ad false,ag 1,ad ((1:Int) != 0),ad true,ab 1,jp v,ab c,a7 B 6,af n o p,cd o,ad (c<(o:Nat)),ad (c<(o:Nat)),ad (c<(o:Nat)),ad (c<(o:Nat)),ad false,ab 1,ad ((1:Int) == 0),ad false,undef,undef,undef,ad false,ad false,undef,undef,ad false])))) t))):=by kernel_rfl
end
section
open IntKind
variable (w:aj)(R:bg){A B C:aw}{i:Int}{F:Bool}{j:al}
theorem Vu (c:bH):W prog (sb f48 [1,1,1,1,1,1,1,1,0,1,0,0,1,0,0,1,1,0]) (pA A B i F C 2 0 j) (aV prog f48 R c) w=(ck w λf e=>gC C 5 0 1 λd=>cA e d λx=>cond (x>0) (gC C 5 2 1 λq=>cA e q λb=>dS e (br B 6) λg h a=>cond (b<(h:Nat)) (c .normal (hB A B i F C 2 true (ae j 0 16 (ag 0::ae j 16 190 (ab 2::ad (2>0)::ad true::jp d::ab x::ad (x>0)::ad true::ab 2::jp q::ab b::a7 B 6::af g h a::cd h::ad (b<(h:Nat))::ad (b<(h:Nat))::ad true::a1 11 (ad true::ad true::ad true::a1 11 []))))) f) (c .normal (hB A B i F C 2 false (ae j 0 16 (ag 0::ae j 16 190 (ab 2::ad (2>0)::ad true::jp d::ab x::ad (x>0)::ad true::ab 2::jp q::ab b::a7 B 6::af g h a::cd h::ad (b<(h:Nat))::ad (b<(h:Nat))::ad false::ag 0::ad ((0:Int) != 0)::ad false::a1 7 [ad false,ad false,ad false,ad false,ab 2,ad ((2:Int) == 0),ad false,undef,undef,undef,ad false,ad false,undef,undef,ad false])))) f)) (c .normal (hB A B i F C 2 false (ae j 0 16 (ag 0::ae j 16 190 (ab 2::ad (2>0)::ad true::jp d::ab x::ad (x>0)::ad false::a1 7 (ad false::ad false::ag 0::ad ((0:Int) != 0)::ad false::a1 7 [ad false,ad false,ad false,ad false,ab 2,ad ((2:Int) == 0),ad false,undef,undef,undef,ad false,ad false,undef,undef,ad false]))))) f)):=by kernel_rfl
theorem Wt (f:bH):W prog (sb f48 [1,1,1,1,1,1,1,1,0,1,0,0,1,0,0,1,1,0]) (pA A B i F C 2 1 j) (aV prog f48 R f) w=(ck w λt e=>gC C 5 0 1 λs=>cA e s λx=>cond (x>0) (gC C 5 2 1 λq=>cA e q λd=>dS e (br B 6) λg h a=>cond (d<(h:Nat)) (f .normal (hB A B i F C 2 true (ae j 0 16 (ag 1::ae j 16 190 (ab 2::ad (2>0)::ad true::jp s::ab x::ad (x>0)::ad true::ab 2::jp q::ab d::a7 B 6::af g h a::cd h::ad (d<(h:Nat))::ad (d<(h:Nat))::ad true::a1 11 (ad true::ad true::ad true::a1 11 []))))) t) (gC C 5 2 1 λr=>cA e r λb=>dS e (br B 6) λk l m=>cond (b<(l:Nat)) (f .normal (hB A B i F C 2 true (ae j 0 16 (ag 1::ae j 16 190 (ab 2::ad (2>0)::ad true::jp s::ab x::ad (x>0)::ad true::ab 2::jp q::ab d::a7 B 6::af g h a::cd h::ad (d<(h:Nat))::ad (d<(h:Nat))::ad false::ag 1::ad ((1:Int) != 0)::ad true::ab 2::jp r::ab b::a7 B 6::af k l m::cd l::ad (b<(l:Nat))::ad (b<(l:Nat))::ad (b<(l:Nat))::ad (b<(l:Nat))::ad true::a1 11 [])))) t) (f .normal (hB A B i F C 2 false (ae j 0 16 (ag 1::ae j 16 190 [ab 2,ad (2>0),ad true,jp s,ab x,ad (x>0),ad true,ab 2,jp q,ab d,a7 B 6,af g h a,cd h,ad (d<(h:Nat)),ad (d<(h:Nat)),ad false,ag 1,ad ((1:Int) != 0),ad true,ab 2,jp r,ab b,a7 B 6,af k l m,cd l,ad (b<(l:Nat)),ad (b<(l:Nat)),ad (b<(l:Nat)),ad (b<(l:Nat)),ad false,ab 2,ad ((2:Int) == 0),ad false,undef,undef,undef,ad false,ad false,undef,undef,ad false]))) t))) (gC C 5 2 1 λv=>cA e v λc=>dS e (br B 6) λn o p=>cond (c<(o:Nat)) (f .normal (hB A B i F C 2 true (ae j 0 16 (ag 1::ae j 16 190 (ab 2::ad (2>0)::ad true::jp s::ab x::ad (x>0)::ad false::a1 7 (ad false::ad false::ag 1::ad ((1:Int) != 0)::ad true::ab 2::jp v::ab c::a7 B 6::af n o p::cd o::ad (c<(o:Nat))::ad (c<(o:Nat))::ad (c<(o:Nat))::ad (c<(o:Nat))::ad true::a1 11 []))))) t) (f .normal (hB A B i F C 2 false (ae j 0 16 (ag 1::ae j 16 190 (ab 2::ad (2>0)::ad true::jp s::ab x::ad (x>0)::ad false::a1 7 [ad false,ad false,ag 1,ad ((1:Int) != 0),ad true,ab 2,jp v,ab c,a7 B 6,af n o p,cd o,ad (c<(o:Nat)),ad (c<(o:Nat)),ad (c<(o:Nat)),ad (c<(o:Nat)),ad false,ab 2,ad ((2:Int) == 0),ad false,undef,undef,undef,ad false,ad false,undef,undef,ad false])))) t))):=by kernel_rfl
end
section
def jF (W:List aD)(ns:List aO)(i:Nat):ba:=(ns.take i).map (λx=>(hY W x:Int))++List.replicate (5-i) 0
def mD (W:List aD)(ns:List aO)(i:Nat):Nat:=((ns.take i).map (nV W)).sum
theorem Q7 {W:List aD}{ns:List aO}{i:Nat}(b:i<=ns.length)(a:ns.length<=5):(jF W ns i).length=5:=by
 grind[jF]
theorem FT {W:List aD}{ns:List aO}{i j:Nat}{x:aO}(a:i<=ns.length)(b:j<i)(c:ns[j]?=some x):(jF W ns i)[j]?=some (hY W x:Int):=by
 grind[jF,List.getElem?_append_left]
theorem Pf {W:List aD}{ns:List aO}{i:Nat}(b:i<=ns.length)(a:i<5):(jF W ns i)[i]?=some 0:=by
 grind[jF,List.getElem?_append_right,hY]
theorem OQ {W:List aD}{ns:List aO}{i:Nat}{x:aO}(a:ns[i]?=some x)(e:i<5):(jF W ns i).set i (hY W x:Int)=jF W ns (i+1):=by
 have c:=dk a;unfold jF;rw[tK,a];have b:5-i=(5-(i+1))+1:=by omega
 rw[b,rL];have d:((ns.take i).map (λx=>(hY W x:Int))).length=i:=by grind
 simp_all
theorem OR {W:List aD}{ns:List aO}{i:Nat}{x:aO}(a:ns[i]?=some x):mD W ns (i+1)=mD W ns i+nV W x:=by
 grind[mD,List.take_add_one]
theorem R6 {W:List aD}{ns:List aO}:∀ {i:Nat},mD W ns i<=i*W.length:=by
 intro i;unfold mD;induction i with
 |zero=>simp
 |succ i a=>
  rw[tK]
  grind[nV,List.length_filter_le,Nat.add_mul]
theorem QG {W:List aD}{ns:List aO}:∀ {i:Nat},0<mD W ns i->∃ x ∈ ns,0<nV W x:=by
 intro i h;unfold mD at h;induction i with
 |zero=>grind
 |succ i a=>
  rw[tK]at h
  grind
theorem Ct {P:aO->Prop}{ns:List aO}{i:Nat}{x:aO}(a:ns[i]?=some x):(∀ y ∈ ns.take (i+1),P y)↔(∀ y ∈ ns.take i,P y)/\P x:=by
 grind[List.take_add_one,List.mem_singleton]
structure A9 (c:Nat)(job:cE)(W:List aD)(w:aj)(X:bt):Prop where
 rd:bh w job.de (ef W).flatten
 len:job.dj=W.length
 cR:job.Client=c
 qO:c<6
 seq:job.Seq=1
 HO:X.nodes.length<=3
 words:∀ x ∈ X.nodes,768<=x.n.words.length
 lines:∀ x ∈ X.nodes,∀ q ∈ W,96<=q.bw/\q.bw<256/\q.bw.toNat*8+8<=x.n.words.length
 ej:W.length<=100
 ord:AX c job.et 1 W (X.nodes.map d'.n)
theorem r7 {X:bt}{i:Nat}{x:d'}(h:X.nodes[i]?=some x):(X.nodes.map d'.n)[i]?=some x.n:=by simp[h]
theorem ND {u:aj}{A:aw}{b1 k:Nat}{n:Int}{s8:Bool}{c l:Int}{i:Nat}{job:cE}{F:ba}{f0 j:Int}{R:bg}
  (N:aq u b1 job.cells 39) (H:aq u k (is F) 145) (Y:F[0]?=some f0) (Z:F[i]?=some j) (ab:c=i) (I:c=0\/c=1\/c=2) (r:l=0\/l=1) (E:job.Seq=1)
  (ad:0<j->s8=true) (X:0<c->(0<f0\/l≠0)->¬ j<job.dj) (V:c=0->0<f0->l≠0)
  {Q:Exit->au->aK} (c4:∀ env z,Q .ret env z=cS prog f48 R .ret env z)
  (T:∀ (B:aj) (g:au),ai u B->Q .normal (BL A ⟨b1,0,none⟩ n s8 ⟨k,0,none⟩ c g) B) (g:au) :
  Go.bd.W prog (sub (ay f48) [1,1,1,1,1,1,1,1,0,1,0,0,1,0,0,1]) (sJ A ⟨b1,0,none⟩ n s8 ⟨k,0,none⟩ c l true g) Q u:=by
 have M:(is F)[0]?=some (.int .i64 f0):=by grind[is]
 have C:(is F)[i]?=some (.int .i64 j):=by grind[is]
 have d:∀ (B:aj) (g:au),ai u B->Go.bd.W prog (sub (ay f48) [1,1,1,1,1,1,1,1,0,1,0,0,1,0,0,1,1,1]) (hB A ⟨b1,0,none⟩ n s8 ⟨k,0,none⟩ c false g) Q B:=by
  intro B g ax;refine eL (P:=prog) (fn:=f48) (R:=R) (λ_ _=>by grind) ?_
  grind[Wi]
 have L:∀ (g:au),Go.bd.W prog (sub (ay f48) [1,1,1,1,1,1,1,1,0,1,0,0,1,0,0,1,1]) (pA A ⟨b1,0,none⟩ n s8 ⟨k,0,none⟩ c l g) Q u:=by
  intro g;rw[U2];refine eL (P:=prog) (fn:=f48) (R:=R) (λ_ _=>by first | rfl | exact c4 _ _) ?_;have b:∀ (w1:aj),ai u w1->(∀ y,ai w1 y->y.cell? ⟨k,0+Int.toNat 0*1,none⟩=some (.int .i64 f0))/\(∀ y,ai w1 y->y.cell? ⟨k,0+Int.toNat c*1,none⟩=some (.int .i64 j))/\(∀ y,ai w1 y->y.cell? ⟨b1,0+6,none⟩=some (.slice job.de job.dj job.fG)):=by
   intro w1 O;have s:0+Int.toNat c*1=i:=by grind
   exact⟨λy G=>(ai.ak G (ai.ak O H)).cell M,λy G=>by rw[s];exact(ai.ak G (ai.ak O H)).cell C,λy G=>(ai.ak G (ai.ak O N)).cell rfl⟩
  rcases I with rfl | I
  ·rcases r with rfl | rfl
   ·rw[VO];rintro w1 f;have a:ai u w1:=by rw[f];exact cC _
    obtain⟨o,p,q⟩:=b w1 a;refine⟨λy=>ai w1 y,ao.refl _ _,iY (by omega) (by omega) ⟨f0,o,a5 (λt=>b_ rfl (V rfl t)) (λt=>cb (d _ _ a))⟩⟩
   ·rw[VP];rintro w1 f;have a:ai u w1:=by rw[f];exact cC _
    obtain⟨o,p,q⟩:=b w1 a;refine⟨λy=>ai w1 y,ao.refl _ _,iY (by omega) (by omega) ⟨f0,o,a5 (λt=>cb (d _ _ a)) (λt=>cb (d _ _ a))⟩⟩
  ·have U:0<c:=by omega
   have D:=X U;clear V H N;rcases r with rfl | rfl
   ·rcases I with rfl | rfl;all_goals
     first | rw[Vs] | rw[Vu]
     rintro w1 f;have a:ai u w1:=by rw[f];exact cC _
     obtain⟨o,p,q⟩:=b w1 a;exact⟨λy=>ai w1 y,ao.refl _ _,iY (by omega) (by omega) ⟨f0,o,a5 (λt=>iY (by omega) (by omega) ⟨j,p,_,_,_,q,a5 (λx=>b_ x (D (.inl t))) (λ_=>cb (d _ _ a))⟩) (λ_=>cb (d _ _ a))⟩⟩
   ·rcases I with rfl | rfl;all_goals
     first | rw[Vt] | rw[Wt]
     rintro w1 f;have a:ai u w1:=by rw[f];exact cC _
     obtain⟨o,p,q⟩:=b w1 a;have h:=D (.inr (by omega));exact⟨λy=>ai w1 y,ao.refl _ _,iY (by omega) (by omega) ⟨f0,o,a5
      (λ_=>iY (by omega) (by omega) ⟨j,p,_,_,_,q,a5 (λx=>b_ x h) (λ_=>iY (by omega) (by omega) ⟨j,p,_,_,_,q,a5 (λx=>b_ x h) (λ_=>cb (d _ _ a))⟩)⟩)
      (λ_=>iY (by omega) (by omega) ⟨j,p,_,_,_,q,a5 (λx=>b_ x h) (λ_=>cb (d _ _ a))⟩)⟩⟩
 have s:0+Int.toNat c*1=i:=by grind
 rw[V1,Vr];refine eL (P:=prog) (fn:=f48) (R:=R) (λ_ _=>by first | rfl | exact c4 _ _) ?_;rw[XB];have K:∀ (g:au),aM (λenv w=>Go.bd.W prog (sub (ay f48) [1,1,1,1,1,1,1,1,0,1,0,0,1,0,0,1,0,1]) env (aM (λenv w=>Go.bd.W prog (sub (ay f48) [1,1,1,1,1,1,1,1,0,1,0,0,1,0,0,1,1]) env Q w) Q) w) (aM (λenv w=>Go.bd.W prog (sub (ay f48) [1,1,1,1,1,1,1,1,0,1,0,0,1,0,0,1,1]) env Q w) Q) .normal (u4 A ⟨b1,0,none⟩ n s8 ⟨k,0,none⟩ c l false g) u:=by intro g;refine cb ?_;refine eL (P:=prog) (fn:=f48) (R:=R) (λ_ _=>by first | rfl | exact c4 _ _) ?_;rw[Wh];exact dm rfl (cb (L _))
 have J:∀ (g:au),dh prog (cf (sub (ay f48) [1,1,1,1,1,1,1,1,0,1,0,0,1,0,0,1,0,0])) ((cf (sub (ay f48) [1,1,1,1,1,1,1,1,0,1,0,0,1,0,0,1,0,0])).drop 13) (pz A ⟨b1,0,none⟩ n s8 ⟨k,0,none⟩ c l false g) ((aV prog f48 R (aM (λenv w=>Go.bd.W prog (sub (ay f48) [1,1,1,1,1,1,1,1,0,1,0,0,1,0,0,1,0,1]) env (aM (λenv w=>Go.bd.W prog (sub (ay f48) [1,1,1,1,1,1,1,1,0,1,0,0,1,0,0,1,1]) env Q w) Q) w) (aM (λenv w=>Go.bd.W prog (sub (ay f48) [1,1,1,1,1,1,1,1,0,1,0,0,1,0,0,1,1]) env Q w) Q))) .normal) u:=by
  intro g;rw[Wg];refine dm rfl (iY (by omega) (by omega) ⟨j,by rw[s];exact H.cell C,a5 (λt=>?_) (λ_=>K _)⟩)
  grind
 refine dm rfl (dw (λS=>⟨job.Seq,N.cell (i:=1) rfl,?_⟩) (λ_=>J _));have e:(l != IntKind.u64.wrap job.Seq)=false:=by rw[E,r.resolve_left S];rfl
 grind
theorem MN {A:a6}{av:bI}{w z:aj}{aJ:Nat}{X:bt}(h:b4 A av w aJ X)(I:ai w z){b1 s:Nat}{s8:Bool}{c:Nat}{job:cE}{W:List aD}{R:bg}(a:A9 c job W w X)
  (V:aq z b1 job.cells 39) (U:aq z s (is (jF W (X.nodes.map d'.n) X.nodes.length)) 145) (S:s8=true↔∀ x ∈ X.nodes.map d'.n,ij (h9 x c) job.et=(true,1,W)) (ae:∀ u,ai z u->R (.bool true) u) (r:au) :
  Go.bd.W prog (sub (ay f48) [1,1,1,1,1,1,1,1]) (x5 ⟨aJ,0,none⟩ ⟨b1,0,none⟩ X.nodes.length s8 ⟨s,0,none⟩ r) (cS prog f48 R) z:=by
 refine eL (P:=prog) (fn:=f48) (R:=R) (λ_ _=>rfl) ?_;rw[Xz];have Y:=a.HO;have Z:(X.nodes.map d'.n).length=X.nodes.length:=by simp
 refine cP mix (λm env L=>∃ (i:Nat) (r:au),m=X.nodes.length-i/\i<=X.nodes.length/\env=sI ⟨aJ,0,none⟩ ⟨b1,0,none⟩ X.nodes.length s8 ⟨s,0,none⟩ i r/\ai z L) X.nodes.length
  ⟨0,_,rfl,by omega,rfl,ao.refl _ _⟩ ?_
 rintro m env L ⟨i,r,rfl,O,rfl,f⟩;refine eL (P:=prog) (fn:=f48) (R:=R) (λ_ _=>rfl) ?_;rw[V0];have l:=ai.ak f V;have y:=ai.ak f U;refine a5 (λq=>?_) (λq=>?_)
 ·have o:i<X.nodes.length:=by omega
  obtain⟨x,j⟩:∃ x,X.nodes[i]?=some x:=⟨_,bW o⟩;obtain⟨Q,b⟩:∃ x,X.nodes[0]?=some x:=⟨_,bW (by omega)⟩;have d:=cu j;have K:=a.ord.up x.n (zy d);have ab:=a.words x d;have T:=a.qO;refine⟨job.Client,l.cell (i:=0) rfl,?_⟩;rw[a.cR];refine aE (Qt _ a.qO) ?_;rintro v bp ⟨rfl,J⟩;obtain rfl:L=bp:=J.symm;refine⟨_,rfl,?_⟩;refine aE (R4 (h.new (I.new f)) j (at_:=32+c) (by omega) K) ?_;rintro v b3 ⟨rfl,g⟩;refine⟨_,_,rfl,?_⟩;have G:=ai.ak g l;have C:=ai.ak g y;have t:=a.ord.clock x.n (zy d);have D:=FT (W:=W) (i:=X.nodes.length) (by omega) o (r7 j);have B:=FT (W:=W) (i:=X.nodes.length) (by omega) (by omega) (r7 b);have N:(is (jF W (X.nodes.map d'.n) X.nodes.length))[i]?=some (.int .i64 (hY W x.n:Int)):=by grind[is]
  have M:(is (jF W (X.nodes.map d'.n) X.nodes.length))[0]?=some (.int .i64 (hY W Q.n:Int)):=by grind[is]
  have k:x.n.get (32+c)=r3 c x.n:=rfl;rw[k];refine ND (R:=R) G C B D rfl (by omega) t a.seq (λq=>S.2 (a.ord.comm ⟨x.n,zy d,by omega⟩)) (λq p=>?_) (λq p=>?_) ?_ (λaf ad H=>?_) _
  ·have:=a.ord.last i x.n Q.n (r7 j) (r7 b) (by omega) (p.imp (λe=>by omega) id);rw[this,a.len];omega
  ·have E:i=0:=by omega
   subst E;rw[b]at j;cases j;exact a.ord.first x.n (r7 b) (by omega)
  ·exactλ_ _=>rfl
  ·refine k9 (cb ?_);rw[Wj];refine cb ?_;rw[bq (x:=(i:Int)+1) (by omega) (by omega)];exact⟨X.nodes.length-(i+1),by omega,i+1,_,rfl,by omega,rfl,(f.new g).new H⟩
 ·have F:i=X.nodes.length:=by omega
  subst F;refine j9 (j0 (cb ?_))
  grind[XC]
end
section
theorem NF (B:ba)(lines:Int):(hp B lines).2.2.length<=12:=by
 unfold hp;split
 ·simp
 split
 ·simp
 rename_i b a;split
 ·simp
 split
 ·have c:¬ 12<B.getD 1 0:=λe=>a (.inr (.inr (.inr (.inl e))))
  grind[hx,List.length_map,List.length_range]
 ·simp
theorem GT (L:ba)(lines:Int):(jP L lines).2.2.length<=12:=NF _ _
theorem KB (L:ba)(lines:Int):(ij L lines).2.2.length<=12:=by
 grind[ij,GT]
theorem NG {A:a6}{av:bI}{w:aj}{aJ:Nat}{X:bt}(h:b4 A av w aJ X){c:Nat}{job:cE}{W:List aD}(g:A9 c job W w X) :
  a9 48 [ptr aJ,job.val] w λv w'=>v=.bool true/\ai w w':=by
 refine a' Tryz.func48 ?_;rw[ptr,ww];generalize bQ:(λ(v:bl) (w':aj)=>v=.bool true/\ai w w')=R;have da:=g.HO;have df:(X.nodes.map d'.n).length=X.nodes.length:=by simp
 rintro b1 w1 bR bh;obtain⟨q,aW⟩:=bo bR bh;have q:aq w1 b1 job.cells 39:=q;clear bh;refine⟨_,q.cell (i:=1) rfl,_,_,_,q.cell (i:=6) rfl,?_⟩;refine dP (vs:=[.int .i64 job.Seq,.slice job.de job.dj job.fG]) rfl (by intro v ar;simp at ar;rcases ar with rfl | rfl<;>rfl) λaz cD cZ br U=>?_
 have bs:aq cD az (cX.cells ⟨job.Seq,job.de,job.dj,job.fG⟩) 144:=br;have I:=aW.new U;refine aE (AB (h.new I)) ?_;rintro v dq ⟨rfl,cj⟩;obtain rfl:cD=dq:=cj.symm;refine⟨_,rfl,?_⟩;rintro j cG bV bk;obtain⟨ae,V⟩:=bo bV bk;have ae:aq cG j (is [0,0,0,0,0]) 145:=ae;clear bk;have aR:=I.new V;have dk:=aW.size;have dn:=U.size;have cA:=q.lt;have cC:=br.lt;have H:w.heap.size<=j:=by omega
 have bm:=ai.ak V (ai.ak U q);have bx:=ai.ak V bs;have M:∀ (z:aj),ai w z->lJ 0 z ⟨job.Seq,job.de,job.dj,job.fG⟩ ((1:Int),W):=λz ax=>⟨g.seq,g.rd.new ax,g.len,λ_ _=>Nat.zero_le _⟩
 refine cP mix (λm env z=>∃ (i:Nat) (af G:Bool) (F:ba) (lk:Nat) (d:au),m=X.nodes.length - i/\i<=X.nodes.length/\F=jF W (X.nodes.map d'.n) i/\lk=mD W (X.nodes.map d'.n) i/\env=sF ⟨aJ,0,none⟩ ⟨b1,0,none⟩ ⟨az,0,none⟩ X.nodes.length af G ⟨j,0,none⟩ lk i d/\ao (λb=>b=j) cG z/\aq z j (is F) 145/\
   (af=true↔∀ x ∈ (X.nodes.map d'.n).take i,jP (h9 x c) job.et=(true,1,W))/\(G=true↔∀ x ∈ (X.nodes.map d'.n).take i,ij (h9 x c) job.et=(true,1,W))) X.nodes.length
  ⟨0,true,true,_,0,_,rfl,by omega,rfl,by simp[mD],rfl,ao.refl _ _,ae,by simp,by simp⟩ ?_
 rintro m env z ⟨i,af,G,F,lk,d,rfl,cy,dv,b6,rfl,C,cx,cr,cv⟩;have p:ai w z:=ao.H2 aR C H;have ag:=C.ak bm (λe=>by omega);have dh:=C.ak bx (λe=>by omega);have bO:F.length=5:=by grind[Q7]
 have S:i<X.nodes.length->∀ (QX:Exit->au->aK),(∀ (a f:Bool) (d:au) (s:aj),ao (λb=>b=j) z s->aq s j (is (jF W (X.nodes.map d'.n) (i+1))) 145->(a=true↔∀ y ∈ (X.nodes.map d'.n).take (i+1),jP (h9 y c) job.et=(true,1,W))->(f=true↔∀ y ∈ (X.nodes.map d'.n).take (i+1),ij (h9 y c) job.et=(true,1,W))->
   QX .normal (sF ⟨aJ,0,none⟩ ⟨b1,0,none⟩ ⟨az,0,none⟩ X.nodes.length a f ⟨j,0,none⟩ ((mD W (X.nodes.map d'.n) (i+1):Nat):Int) ((i+1:Nat):Int) d) s)->
   Go.bd.W prog (sub (ay f48) [1,1,1,1,1,1,0,1,0,0]) (sF ⟨aJ,0,none⟩ ⟨b1,0,none⟩ ⟨az,0,none⟩ X.nodes.length af G ⟨j,0,none⟩ lk i d) (aV prog f48 R QX) z:=by
  intro T QX cY;rw[Hl];refine a5 (λ_=>?_) (λbG=>b_ (by omega) bG);obtain⟨x,bH⟩:∃ x,X.nodes[i]?=some x:=⟨_,bW T⟩;have ad:=cu bH;have D:=r7 bH;have bb:=g.ord.up x.n (zy ad);have ck:=g.words x ad;have c6:=g.qO;refine⟨job.Client,ag.cell (i:=0) rfl,?_⟩;rw[g.cR];refine aE (RD (h.new p) bH bb ck g.qO) ?_;rintro v bp ⟨⟨la,lc,rfl,ah,aI,aB⟩,aZ⟩;refine⟨_,_,_,rfl,dm rfl ⟨job.et,(ai.ak aZ ag).cell (i:=2) rfl,?_⟩⟩;refine aE (ES aI aB ah job.et) ?_;rintro v b3 ⟨⟨bK,rfl,cd⟩,a1⟩;refine cX.aT bK ⟨_,rfl,?_⟩;refine dP (vs:=bK.cells) rfl (cX.single _) λdr bz c1 cl Y=>?_
  have k:ai z bz:=(aZ.new a1).new Y;have b5:=ai.ak k ag;have a4:=ai.ak k dh;have c9:=ai.ak k cx;have aP:=aI.new (a1.new Y);have a7:=cd.new Y;have bX:∀ (a:Bool) (d:au) (E:aj) (Q:Exit->au->aK),(a=true↔∀ y ∈ (X.nodes.map d'.n).take (i+1),jP (h9 y c) job.et=(true,1,W))->ai bz E->(∀ env z,Q .ret env z=cS prog f48 R .ret env z)->
    (∀ (f:Bool) (d:au) (s:aj),ao (λb=>b=j) z s->aq s j (is (jF W (X.nodes.map d'.n) (i+1))) 145->(f=true↔∀ y ∈ (X.nodes.map d'.n).take (i+1),ij (h9 y c) job.et=(true,1,W))->Q .normal (u5 ⟨aJ,0,none⟩ ⟨b1,0,none⟩ ⟨az,0,none⟩ X.nodes.length a f ⟨j,0,none⟩ ((mD W (X.nodes.map d'.n) (i+1):Nat):Int) i d) s)->
    Go.bd.W prog (sub (ay f48) [1,1,1,1,1,1,0,1,0,0,1,0,0,1,1,1,1]) (sG ⟨aJ,0,none⟩ ⟨b1,0,none⟩ ⟨az,0,none⟩ X.nodes.length a G ⟨j,0,none⟩ lk i la 120 lc d) Q E:=by
   intro a d E Q t l c4 Z;refine eL (P:=prog) (fn:=f48) (R:=R) (λ_ _=>by grind) ?_;rw[W7];refine⟨job.et,(ai.ak l b5).cell (i:=2) rfl,?_⟩;refine aE (Le (aP.new l) aB ah job.et) ?_;rintro v dw ⟨⟨aN,rfl,cf⟩,b9⟩;refine cX.aT aN ⟨_,rfl,?_⟩;refine dP (vs:=aN.cells) rfl (cX.single _) λdt bL c5 cm J=>?_
   have K:ai bz bL:=(l.new b9).new J;have ca:=ai.ak K a4;have L:ai z bL:=k.new K;have a8:=cf.new J;have N:∀ (f:Bool) (d:au) (bN:aj),ai bL bN->(f=true↔∀ y ∈ (X.nodes.map d'.n).take (i+1),ij (h9 y c) job.et=(true,1,W))->Go.bd.W prog (sub (ay f48) [1,1,1,1,1,1,0,1,0,0,1,0,0,1,1,1,1,1,1]) (sH ⟨aJ,0,none⟩ ⟨b1,0,none⟩ ⟨az,0,none⟩ X.nodes.length a f ⟨j,0,none⟩ lk i d) (aV prog f48 R Q) bN:=by
    intro f d bN r B;have o:=L.new r;have hle:=R6 (W:=W) (ns:=X.nodes.map d'.n) (i:=i);have c_:=g.ej;have hmul:i*W.length<=4*W.length:=rB _ (by omega);refine NC h (p.new o) bH bb (ai.ak o ag) (ai.ak o cx) H bO (by omega) (by grind[Pf]) (by omega) (by omega) g.rd g.len g.cR g.qO (g.lines x ad) (g.ord.eM i x.n D) (λs dp bD O=>?_) d
    ·have cH:F.set i (hY W x.n:Int)=jF W (X.nodes.map d'.n) (i+1):=by grind[OQ]
     have cK:=OR (W:=W) D;rw[cH]at O;rw[b6,<-cK];exact Z _ _ _ ((ao.b7 o).trans bD λ_ _ h=>h) O B
   rw[VZ];refine eL (P:=prog) (fn:=f48) (R:=R) (λ_ _=>by first | rfl | exact c4 _ _) ?_;rw[Xu];have ab:=Ct (P:=λy=>ij (h9 y c) job.et=(true,1,W)) D;refine ek (λcL=>ek (λcN=>?_) (λcN=>?_)) (λcL=>?_)
   ·refine cX.aT aN ⟨bJ (vs:=aN.cells) cm rfl,cX.aT _ ⟨bJ ca rfl,?_⟩⟩;refine aE (ET a8 (M bL (p.new L)) (by grind[KB,h9])) ?_;rintro v bN ⟨⟨b,rfl,O⟩,r⟩;refine⟨_,rfl,cb (N _ _ _ r ?_)⟩
    grind
   ·refine cb (N _ _ _ (ao.refl _ _) ?_)
    grind
   ·refine cb (N _ _ _ (ao.refl _ _) ?_)
    grind
  rw [VW];refine eL (P:=prog) (fn:=f48) (R:=R) (λ_ _=>rfl) ?_;rw [W5];have ab:=Ct (P:=λy=>jP (h9 y c) job.et=(true,1,W)) D;have ch:∀ (a:Bool) (d:au) (E:aj),ai bz E->(a=true↔∀ y ∈ (X.nodes.map d'.n).take (i+1),jP (h9 y c) job.et=(true,1,W))->Go.bd.W prog (sub (ay f48) [1,1,1,1,1,1,0,1,0,0,1,0,0,1,1,1,1]) (sG ⟨aJ,0,none⟩ ⟨b1,0,none⟩ ⟨az,0,none⟩ X.nodes.length a G ⟨j,0,none⟩ lk i la 120 lc d)
    (aL 1 (aM (λenv w=>Go.bd.W prog (sub (ay f48) [1,1,1,1,1,1,0,1,0,0,1,1]) env (aV prog f48 R QX) w) (aV prog f48 R QX))) E:=by
   intro a d E l t;refine bX a d E _ t l (λ_ _=>rfl) (λf d s bD O B=>k9 (cb ?_));rw[Wl];rw[bq (x:=(i:Int)+1) (by omega) (by omega)]
   grind
  refine ek (λcq=>ek (λcM=>?_) (λcM=>?_)) (λcq=>?_)
  ·refine cX.aT bK ⟨bJ (vs:=bK.cells) cl rfl,cX.aT _ ⟨bJ a4 rfl,?_⟩⟩;refine aE (ET a7 (M bz (p.new k)) (by grind[GT,h9])) ?_;rintro v E ⟨⟨b,rfl,O⟩,l⟩;refine⟨_,rfl,cb (ch _ _ _ l ?_)⟩
   grind
  ·refine cb (ch _ _ _ (ao.refl _ _) ?_)
   grind
  ·refine cb (ch _ _ _ (ao.refl _ _) ?_)
   grind
 refine eL (P:=prog) (fn:=f48) (R:=R) (λ_ _=>rfl) ?_;by_cases T:i<X.nodes.length
 ·refine S T _ λa f d s bD O t B=>cb ?_
  exact⟨X.nodes.length-(i+1),by omega,i+1,a,f,_,_,_,rfl,by omega,rfl,rfl,rfl,C.trans bD λ_ _ h=>h,O,t,B⟩
 have bY:i=X.nodes.length:=by omega
 subst bY;rw[rM (by omega)]at cr cv;rw[Hl];refine a5 (λbG=>b_ bG (by omega)) (λ_=>?_)
 refine j9 (j0 (cb ?_));rw[pu,Vq];refine eL (P:=prog) (fn:=f48) (R:=R) (λ_ _=>rfl) ?_;rw[W6];have cQ:∀ (d:au),Go.bd.W prog (sub (ay f48) [1,1,1,1,1,1,1,1]) (x5 ⟨aJ,0,none⟩ ⟨b1,0,none⟩ X.nodes.length G ⟨j,0,none⟩ d) (cS prog f48 R) z:=λd=>by refine MN h p g ag (by grind) cv (λu hu=>?_) d;rw[<-bQ];exact⟨rfl,p.new hu⟩
 have cO:∀ (d:au),aM (λenv w=>Go.bd.W prog (sub (ay f48) [1,1,1,1,1,1,1,0,1]) env (aM (λenv w=>Go.bd.W prog (sub (ay f48) [1,1,1,1,1,1,1,1]) env (cS prog f48 R) w) (cS prog f48 R)) w) (aM (λenv w=>Go.bd.W prog (sub (ay f48) [1,1,1,1,1,1,1,1]) env (cS prog f48 R) w) (cS prog f48 R)) .normal (x4 ⟨aJ,0,none⟩ ⟨b1,0,none⟩ X.nodes.length G ⟨j,0,none⟩ false d) z:=by intro d;refine cb ?_;refine eL (P:=prog) (fn:=f48) (R:=R) (λ_ _=>rfl) ?_;rw[Xt];exact dm rfl (cb (cQ _))
 refine a5 (λbG=>?_) (λ_=>cO _);have cq:af=true:=cr.2 (g.ord.whole (QG (i:=X.nodes.length) (by omega)))
 grind
end
namespace gW
abbrev dH:=cr
abbrev gp:bU:=45
abbrev xr:bU:=46
structure gE (A:a6)(w:aj)(r:dH)(t:ca conv):Prop where
 kind:r.Kind=MA t.job
 a3:r.Client=t.a3
 eU:r.lL=t.eU
 bad:r.wx=t.bad
 a_:hO A w r.Af t.a_
 fw:r.wS=t.a_.length
 gc:r.wS<=r.Ah
 job:w7 A w r t.job
 out:xh A w r t.out
 len:t.a_.length<=201
theorem gE.aC {A A':a6}{w w':aj}{r:dH}{t:ca conv}(h:gE A w r t)(b:ao A w w')(a:∀ k,k<w.heap.size->A' k->A k):gE A' w' r t:=
 ⟨h.kind,h.a3,h.eU,h.bad,h.a_.aC b a,h.fw,h.gc,h.job.aC b a,h.out.aC b a,h.len⟩
theorem gE.fail {A:a6}{w:aj}{r:dH}{t:ca conv}(h:gE A w r t):gE A w {r with lL:=true,wx:=true} t.fail:=
 ⟨h.kind,h.a3,rfl,rfl,h.a_,h.fw,h.gc,h.job,h.out,h.len⟩
theorem r8 {z:aj}{b1 az:Nat}{r:dH}{cs:au}{R:bg}(b:aq z b1 r.cells gp)(c:aq z az cs gp)(f:cs.length=36)(e:∀ w',ao (λk=>k=az) z w'->R r.val w') :
  cr.ex λx=>b6 z ⟨b1,0,none⟩ 0 x.cells/\dT z ⟨az,0,none⟩ 0 x.cells/\∀ w',w'=cv z ⟨az,0,none⟩ 0 x.cells->cr.ex λy=>b6 w' ⟨az,0,none⟩ 0 y.cells/\w'=w'/\R y.val w':=by
 refine cr.aT r ⟨bJ b rfl,?_⟩;refine dI (vs:=r.cells) c (by rw[f];rfl) (cr.single r) λw' a d=>?_
 exact cr.aT r ⟨bJ a rfl,rfl,e w' d⟩
def sn (A:a6)(av:bI)(w:aj)(aJ:Nat)(x:aH×ca conv)(v:bl)(w':aj):Prop:=
 dV A av w aJ x.1 w' λB=>∃ r:dH,v=r.val/\gE B w' r x.2
theorem xg {A:a6}{av:bI}{w z w':aj}{aJ b1 az:Nat}{B:a6}{d:bI}{X:bt}{r:dH}{t:ca conv}(h:fa A av w aJ (λk=>k=b1\/k=az) z B d X)(c:gE (λk=>B k\/k=b1\/k=az) z r t)(a:ao (λk=>k=az) z w') :
  sn A av w aJ (X.pure,t) r.val w':=
 (h.local a λ_ e=>.inr e).done ⟨r,rfl,c.aC (a.mono λ_ _ e=>.inr (.inr e)) λk _ b=>.inl b⟩
def hz (ts:List (dH×ca conv)):List au:=ts.map λx=>x.1.cells
theorem oI (ts:List (dH×ca conv)):∀ r ∈ hz ts,r.length=36:=by intro r a;simp only[hz,dD]at a;obtain⟨x,_,rfl⟩:=a;rfl
theorem z1 {ts:List (dH×ca conv)}{i:Nat}{x:dH×ca conv}(h:ts[i]?=some x):(hz ts)[i]?=some x.1.cells:=by simp[hz,h]
theorem CG (ts:List (dH×ca conv)):∀ u ∈ (hz ts).flatten,single u=true:=by
 intro u hu;obtain⟨r,a,b⟩:=rJ.1 hu;simp only[hz,dD]at a
 grind[cr.single]
end gW
namespace gW
theorem R7 {A:a6}{z:aj}{r:dH}{t:ca conv}(h:gE A z r t)(bV:∀ k,A k->k<z.heap.size) :
  a9 65 [r.val] z λv br=>ai z br/\∃ (aa:an) (ac:Nat) (f:List aI) (bW:dH),v=.tuple #[.slice aa f.length ac,bW.val]/\bh br aa (dQ f).flatten/\(∀ k,aP aa k->z.heap.size<=k)/\er (λk=>k<z.heap.size) br f (conv.next t.job t.a_).1/\gE A br bW t.told:=by
 refine a' Tryz.func65 ?_;rw[Z9];rintro b1 bp bs a8;obtain⟨W,a7⟩:=bo bs a8;have W:aq bp b1 r.cells gp:=W;clear a8;rintro az b3 bx bb;obtain⟨P,aB⟩:=bo bx bb;obtain⟨a4,P,ab⟩:∃ cs,aq b3 az cs gp/\cs.length=r.cells.length:=⟨_,P,rfl⟩;clear bb;have E:=a7.new aB;have b6:=a7.size;have b9:=aB.size;have bY:=W.lt;have b4:=P.lt;have b:=ai.ak aB W;cases F:t.job with
 |inl c=>
  have ag:r.Kind=3:=by rw[h.kind,F];rfl
  have af:e2.qz A z r.iQ c:=by have:=h.job;rw[F]at this;exact this
  have l:t.told={t with eU:=(ea c t.a_).2.2,out:=.inl (ea c t.a_).2.1}:=by unfold ca.told;rw[F];rfl
  have U:conv.next (.inl c) t.a_=((ea c t.a_).1,.inl (ea c t.a_).2.1,(ea c t.a_).2.2):=rfl;refine⟨_,b.cell (i:=0) rfl,dm (by grind) (dm (by grind) (fq (by grind) ?_))⟩;refine cE.aT r.iQ ⟨bJ b rfl,_,_,_,b.cell (i:=23) rfl,?_⟩;have p:ao A z b3:=ao.b7 E;have bk:e2.qz A b3 r.iQ c:=af.aC (A':=A) p λ_ _ e=>e
  have bK:=h.a_.aC (A':=A) p λ_ _ e=>e
  have ae:=P5 bk.at_ (λ_=>bk.jX) bK h.fw h.gc;refine aE ae ?_;rintro v bz ⟨aa,ac,f,rfl,I,K,bH,V⟩;refine⟨_,_,_,bG.aT ⟨(ea c t.a_).2.1.1,(ea c t.a_).2.1.2⟩ ⟨(ea c t.a_).2.2,rfl,?_⟩⟩;refine dP (vs:=bG.cells ⟨(ea c t.a_).2.1.1,(ea c t.a_).2.1.2⟩) rfl (bG.single _) λa1 bq bD S B=>?_
  rintro Y L;have j:ai bq Y:=by rw[L];exact cC _
  clear L;have bN:=I.size;have bO:=B.size;have bQ:=j.size;have a:=ai.ak j S;have d:=(I.new B).new j;have O:=ai.ak d b;have Q:=ai.ak d P;refine⟨λy=>aq y a1 (bG.cells ⟨(ea c t.a_).2.1.1,(ea c t.a_).2.1.2⟩) eQ,a,_,λy D=>D.cell (i:=0) rfl,_,λy D=>D.cell (i:=1) rfl,?_⟩;refine kj O (i:=24) rfl λb_ aM g=>⟨g.ak a (by omega),?_⟩
  refine kj aM (i:=26) rfl λcb aR x=>⟨x.ak (g.ak a (by omega)) (by omega),?_⟩
  refine kj aR (i:=32) rfl λu8 T H=>?_
  rintro Z M;have C:ai u8 Z:=by rw[M];exact cC _
  clear M;have s:ao (λk=>k=b1) Y u8:=(g.trans x λ_ _ e=>e).trans H λ_ _ e=>e
  have T:aq u8 b1 (cr.cells {r with lL:=(ea c t.a_).2.2,Code:=(ea c t.a_).2.1.1,qp:=(ea c t.a_).2.1.2}) gp:=T;have aV:=ai.ak C T;have R:aq Z az a4 gp:=ai.ak C (s.ak Q (by omega));have G:ao (λk=>k=b1) Y Z:=s.new C;refine⟨λy=>ai Z y,ao.refl _ _,cr.aT {r with lL:=(ea c t.a_).2.2,Code:=(ea c t.a_).2.1.1,qp:=(ea c t.a_).2.1.2} ⟨λy D=>bJ (ai.ak D aV) rfl,?_⟩⟩;refine dI R (by rw[ab];rfl) (cr.single _) λaZ aW ah=>?_
  refine cr.aT {r with lL:=(ea c t.a_).2.2,Code:=(ea c t.a_).2.1.1,qp:=(ea c t.a_).2.1.2} ⟨bJ aW rfl,rfl,?_⟩;have w:ao (λk=>k=b1\/k=az) Y aZ:=(G.mono λk _ e=>.inl e).trans (ah.mono λk _ e=>.inr e) λ_ _ e=>e
  have J:ai z aZ:=(E.new d).trans w λk bL e=>by omega
  have q:ao (λk=>k=b1\/k=az) bz aZ:=(ao.b7 (B.new j)).trans w λ_ _ e=>e
  refine⟨J,aa,ac,f,_,rfl,K.aC q (gF K λk ag e=>by grind),λk ag=>by grind,?_,?_⟩
  ·rw[U];exact V.aC (q.mono λk _ e=>by grind) λk _ e=>by grind
  ·have n:=h.aC (A':=A) (ao.b7 J) λ_ _ e=>e
   rw[l];exact⟨n.kind,n.a3,rfl,n.bad,n.a_,n.fw,n.gc,n.job,⟨rfl,rfl⟩,n.len⟩
 |inr X=>
  have ag:r.Kind=4:=by rw[h.kind,F];rfl
  have af:qA A z r.Recover X:=by have:=h.job;rw[F]at this;exact this
  have l:t.told={t with eU:=(fz X t.a_).2.2,out:=.inr (fz X t.a_).2.1}:=by unfold ca.told;rw[F];rfl
  have U:conv.next (.inr X) t.a_=((fz X t.a_).1,.inr (fz X t.a_).2.1,(fz X t.a_).2.2):=rfl;refine⟨_,b.cell (i:=0) rfl,dm (by grind) (dm (by grind) (dm (by grind) (fq (by grind) ?_)))⟩;refine c3.aT r.Recover ⟨bJ b rfl,_,_,_,b.cell (i:=23) rfl,?_⟩;have p:ao A z b3:=ao.b7 E;have bk:qA A b3 r.Recover X:=af.aC (A':=A) p λ_ _ e=>e
  have bK:=h.a_.aC (A':=A) p λ_ _ e=>e
  refine aE (PZ bk.at_ bK h.fw h.gc) ?_;rintro v bz ⟨aa,ac,f,rfl,I,K,bH,V⟩;generalize b5:fz X t.a_=N at V l U;obtain⟨cd,o,bm⟩:=N;refine⟨_,_,_,dA.aT o ⟨bm,rfl,?_⟩⟩;refine dP (vs:=o.cells) rfl (dA.single _) λa1 bq bD S B=>?_
  rintro Y L;have j:ai bq Y:=by rw[L];exact cC _
  clear L;have bN:=I.size;have bO:=B.size;have bQ:=j.size;have S:aq bq a1 o.cells pr:=S;have a:=ai.ak j S;have d:=(I.new B).new j;have O:=ai.ak d b;have Q:=ai.ak d P;refine⟨λy=>aq y a1 o.cells pr,a,_,λy D=>D.cell (i:=0) rfl,_,λy D=>D.cell (i:=1) rfl,_,λy D=>D.cell (i:=2) rfl,_,λy D=>D.cell (i:=3) rfl,?_⟩;have off:∀ {u bF:aj},ao (λk=>k=b1) u bF->aq u a1 o.cells pr->aq bF a1 o.cells pr:=λag bX=>ag.ak bX (by omega)
  refine kj O (i:=24) rfl λb_ aM g=>⟨off g a,?_⟩
  refine kj aM (i:=26) rfl λcb aR x=>⟨off x (off g a),?_⟩
  refine kj aR (i:=33) rfl λu8 T H=>⟨off H (off x (off g a)),?_⟩
  refine kj T (i:=34) rfl λv1 bR ad=>⟨off ad (off H (off x (off g a))),?_⟩
  refine kj bR (i:=35) rfl λv2 aL a5=>?_
  rintro Z M;have C:ai v2 Z:=by rw[M];exact cC _
  clear M;have s:ao (λk=>k=b1) Y v2:=(((g.trans x λ_ _ e=>e).trans H λ_ _ e=>e).trans ad λ_ _ e=>e).trans a5 λ_ _ e=>e
  have aL:aq v2 b1 (cr.cells {r with lL:=bm,Code:=o.Code,k4:=o.k4,Seq:=o.Seq,k2:=o.k2}) gp:=aL;have aV:=ai.ak C aL;have R:aq Z az a4 gp:=ai.ak C (s.ak Q (by omega));have G:ao (λk=>k=b1) Y Z:=s.new C;refine⟨λy=>ai Z y,ao.refl _ _,cr.aT {r with lL:=bm,Code:=o.Code,k4:=o.k4,Seq:=o.Seq,k2:=o.k2} ⟨λy D=>bJ (ai.ak D aV) rfl,?_⟩⟩;refine dI R (by rw[ab];rfl) (cr.single _) λaZ aW ah=>?_
  refine cr.aT {r with lL:=bm,Code:=o.Code,k4:=o.k4,Seq:=o.Seq,k2:=o.k2} ⟨bJ aW rfl,rfl,?_⟩;have w:ao (λk=>k=b1\/k=az) Y aZ:=(G.mono λk _ e=>.inl e).trans (ah.mono λk _ e=>.inr e) λ_ _ e=>e
  have J:ai z aZ:=(E.new d).trans w λk bL e=>by omega
  have q:ao (λk=>k=b1\/k=az) bz aZ:=(ao.b7 (B.new j)).trans w λ_ _ e=>e
  refine⟨J,aa,ac,f,_,rfl,K.aC q (gF K λk ag e=>by grind),λk ag=>by grind,?_,?_⟩
  ·rw[U];exact V.aC (q.mono λk _ e=>by grind) λk _ e=>by grind
  ·have n:=h.aC (A':=A) (ao.b7 J) λ_ _ e=>e
   rw[l];exact⟨n.kind,n.a3,rfl,n.bad,n.a_,n.fw,n.gc,n.job,⟨rfl,rfl,rfl,rfl⟩,n.len⟩
end gW
namespace gW
def EA (o b1 az:Nat)(z:aj)(R:bg):Prop:=
 ∃ (g:an) (fw gc:Nat),z.cell? ⟨b1,23,none⟩=some (.slice g fw gc)/\(bif (decide ((fw:Int)>200))then
  ((∃ u,z.cell? ⟨b1,24,none⟩=some u)/\z.frozen? ⟨b1,24,none⟩=false/\∀ d,d=z.setCell ⟨b1,24,none⟩ (.bool true)->(∃ u,d.cell? ⟨b1,25,none⟩=some u)/\d.frozen? ⟨b1,25,none⟩=false/\∀ f,f=d.setCell ⟨b1,25,none⟩ (.bool true)->
   cr.ex λx=>b6 f ⟨b1,0,none⟩ 0 x.cells/\dT f ⟨az,0,none⟩ 0 x.cells/\∀ w',w'=cv f ⟨az,0,none⟩ 0 x.cells->cr.ex λy=>b6 w' ⟨az,0,none⟩ 0 y.cells/\w'=w'/\R y.val w')
  else(cr.ex λr=>b6 z ⟨b1,0,none⟩ 0 r.cells/\Calls prog 65 #[r.val] z λe n=>∃ (a:an) (e4 ac:Nat),cr.ex λj=>e=.returned (.tuple #[.slice a e4 ac,j.val])/\dT n ⟨b1,0,none⟩ 0 j.cells/\∀ b,b=cv n ⟨b1,0,none⟩ 0 j.cells->
   ∃ l:Bool,b.cell? ⟨b1,24,none⟩=some (.bool l)/\(bif (!l) then (∃ cR:Int,b.cell? ⟨b1,1,none⟩=some (.int .i64 cR)/\Calls prog 66 #[.pointer (some ⟨o,0,none⟩),.int .i64 cR,.slice a e4 ac] b λe c=>∃ k:Int,e=.returned (.int .i64 k)/\(bif (k != 0) then
     ((∃ u,c.cell? ⟨b1,24,none⟩=some u)/\c.frozen? ⟨b1,24,none⟩=false/\∀ h,h=c.setCell ⟨b1,24,none⟩ (.bool true)->(∃ u,h.cell? ⟨b1,25,none⟩=some u)/\h.frozen? ⟨b1,25,none⟩=false/\∀ i,i=h.setCell ⟨b1,25,none⟩ (.bool true)->
      cr.ex λx=>b6 i ⟨b1,0,none⟩ 0 x.cells/\dT i ⟨az,0,none⟩ 0 x.cells/\∀ w',w'=cv i ⟨az,0,none⟩ 0 x.cells->cr.ex λy=>b6 w' ⟨az,0,none⟩ 0 y.cells/\w'=w'/\R y.val w')
     else(cr.ex λx=>b6 c ⟨b1,0,none⟩ 0 x.cells/\dT c ⟨az,0,none⟩ 0 x.cells/\∀ w',w'=cv c ⟨az,0,none⟩ 0 x.cells->cr.ex λy=>b6 w' ⟨az,0,none⟩ 0 y.cells/\w'=w'/\R y.val w')))
    else(cr.ex λx=>b6 b ⟨b1,0,none⟩ 0 x.cells/\dT b ⟨az,0,none⟩ 0 x.cells/\∀ w',w'=cv b ⟨az,0,none⟩ 0 x.cells->cr.ex λy=>b6 w' ⟨az,0,none⟩ 0 y.cells/\w'=w'/\R y.val w'))))
theorem FU {A:a6}{av:bI}{w z:aj}{aJ b1 az:Nat}{B:a6}{E:bI}{X:bt}{r:dH}{t:ca conv}(h:fa A av w aJ (λk=>k=b1\/k=az) z B E X)(s:b1≠az)(c:aq z b1 r.cells gp){cs:au}(n:aq z az cs gp)(o:cs.length=36)(D:gE (λk=>B k\/k=b1\/k=az) z r t) :
  (∃ u,z.cell? ⟨b1,24,none⟩=some u)/\z.frozen? ⟨b1,24,none⟩=false/\∀ l,l=z.setCell ⟨b1,24,none⟩ (.bool true)->(∃ u,l.cell? ⟨b1,25,none⟩=some u)/\l.frozen? ⟨b1,25,none⟩=false/\∀ j,j=l.setCell ⟨b1,25,none⟩ (.bool true)->
   cr.ex λx=>b6 j ⟨b1,0,none⟩ 0 x.cells/\dT j ⟨az,0,none⟩ 0 x.cells/\∀ w',w'=cv j ⟨az,0,none⟩ 0 x.cells->cr.ex λy=>b6 w' ⟨az,0,none⟩ 0 y.cells/\w'=w'/\sn A av w aJ (X.pure,t.fail) y.val w':=by
 refine⟨⟨_,c.cell rfl⟩,c.frozen,?_⟩;rintro l f;have q:ao (λk=>k=b1) z l:=by rw[f];exact eY _ _ _ _
 have a:=c.setCell (i:=24) (.bool true);rw[<-f]at a;clear f;refine⟨⟨_,a.cell rfl⟩,a.frozen,?_⟩;rintro j g;have d:ao (λk=>k=b1) z j:=by rw[g];exact q.setCell (.inl rfl) _
 have b:=a.setCell (i:=25) (.bool true);rw[<-g]at b;clear g;have b:aq j b1 ({r with lL:=true,wx:=true}:dH).cells gp:=b;refine r8 b (d.ak n λe=>s e.symm) o λw' p=>?_
 exact xg (h.local d λ_ e=>.inl e) ((D.aC (d.mono λ_ _ e=>.inr (.inl e)) λ_ _ C=>C).fail) p
theorem FV {A:a6}{av:bI}{w z:aj}{aJ b1 az:Nat}{B:a6}{ag:bI}{X:bt}{r:dH}{t:ca conv}(h:fa A av w aJ (λk=>k=b1\/k=az) z B ag X)(U:Good X.pure)(u:b1≠az)
  (b:aq z b1 r.cells gp) {cs:au} (o:aq z az cs gp) (f:cs.length=36) (V:gE (λk=>B k\/k=b1\/k=az) z r t) :
  EA aJ b1 az z (sn A av w aJ (kd X.pure t)):=by
 unfold EA kd;have ae:=V.fw;refine⟨_,_,_,b.cell rfl,a5 (λad=>?_) (λad=>?_)⟩
 ·rw[bm (by omega)];exact FU h u b o f V
 ·rw[aW (by omega)];refine cr.aT r ⟨bJ b rfl,?_⟩;refine aE (R7 V (λk K=>h.cn.low k K)) ?_;rintro v aI ⟨s,aa,ac,d,J,rfl,F,R,W,g⟩;refine⟨_,_,_,cr.aT J ⟨rfl,?_⟩⟩;have Y:=b.lt;have Z:=o.lt;refine dI (vs:=J.cells) (ai.ak s b) rfl (cr.single J) λL a c=>?_
  have C:ao (λk=>k=b1) z L:=(ao.b7 s).trans c λ_ _ e=>e
  have M:=(h.new s).local c λ_ e=>.inl e
  have G:=g.aC (A':=λk=>B k\/k=b1\/k=az) (c.mono λ_ _ e=>.inr (.inl e)) λ_ _ P=>P
  have l:aq L az cs gp:=C.ak o λe=>u e.symm
  have n:bh L aa (dQ d).flatten:=F.aC c (gF F λk K e=>by grind);refine⟨_,a.cell rfl,eu (λT=>?_) (λT=>?_)⟩
  ·have D:(conv.next t.job t.a_).2.2=false:=by rw[<-T];exact g.eU.symm
   rw[aW (by grind)];refine⟨_,a.cell rfl,?_⟩;have E:((dQ d).flatten=[])\/gn (λk=>B k\/k=b1\/k=az) aa:=gF n λk K e=>by have N:=R k K;have aB:=h.cn.low k e;omega
   have I:er (λk=>B k\/k=b1\/k=az) L d (conv.next t.job t.a_).1:=W.aC (c.mono λk _ e=>by grind) λk _ P=>h.cn.low k P
   have Q:J.Client=t.a3:=g.a3;rw[Q];refine aE (RX M.cn U.ok t.a3 (lcap:=ac) n E I) ?_;rintro v ab ⟨rfl,af⟩;obtain⟨B',aL,ah,N,y,_,S,O,x⟩:=M.op af;have i:aq ab b1 J.cells gp:=(x b1 (.inl rfl)).trans a;have j:aq ab az cs gp:=(x az (.inr rfl)).trans l;have H:=G.aC (A':=λk=>B' k\/k=b1\/k=az) S O;refine⟨_,rfl,dw (λp=>?_) (λp=>?_)⟩
   ·rw[bm p,<-y];exact FU N u i j f H
   ·rw[aW (λe=>e p)];refine r8 i j f λw' q=>?_
    rw[<-y];exact xg N H q
  ·have D:(conv.next t.job t.a_).2.2=true:=by rw[<-T];exact g.eU.symm
   rw[bm D];refine r8 a l f λw' q=>?_
   exact xg M G q
theorem AR {A:a6}{av:bI}{w:aj}{aJ:Nat}{X:bt}(h:b4 A av w aJ X)(M:Good X.pure){r:dH}{t:ca conv}(aI:gE A w r t)(aB:ma t) :
  a9 34 [ptr aJ,r.val] w (sn A av w aJ (b5 X.pure t)):=by
 refine a' Tryz.func34 ?_;rw[ptr,Z8];rintro b1 w1 V P az R W Q;obtain⟨E,L⟩:=bo V P;obtain⟨p,C⟩:=bo W Q;have a:aq R b1 r.cells gp:=ai.ak C E;have a4:=E.lt;have aM:=L.size;have a7:=p.lt;have aP:=C.size;clear P Q E;have x:=L.new C;have D:b1≠az:=by omega
 have H:fa A av w aJ (λk=>k=b1\/k=az) R A av X:=fa.start h x λk bk=>by omega
 have N:gE (λk=>A k\/k=b1\/k=az) R r t:=aI.aC (ao.b7 x) λk aZ bh=>by
  grind
 have c:∀ w',ao (λk=>k=az) R w'->sn A av w aJ (X.pure,t) r.val w':=λw' ad=>xg H N ad
 unfold b5;have B:r.Client=t.a3:=aI.a3;refine⟨_,a.cell rfl,?_⟩;rw[aI.eU];cases ah:t.eU with
 |true=>refine fq rfl ?_;rw[bm (.inl rfl)];exact r8 a p rfl c
 |false=>
  refine dm rfl ?_;refine⟨_,a.cell rfl,?_⟩;rw[B];refine aE (E8 H.cn _) ?_;rintro v bq ⟨rfl,rfl⟩;refine⟨_,rfl,eu (λaL=>?_) (λaL=>?_)⟩
  ·rw[bm (.inr (.inl aL))];exact r8 a p rfl c
  refine⟨_,a.cell rfl,?_⟩;rw[B];refine aE (MJ H.cn _) ?_;rintro v br ⟨rfl,rfl⟩;refine⟨_,rfl,a5 (λhw=>?_) (λhw=>?_)⟩
  ·rw[bm (.inr (.inr (by omega)))];exact r8 a p rfl c
  rw[aW (by grind)];refine⟨_,a.cell rfl,?_⟩;rw[B];refine aE (RV H.cn _) ?_;rintro v aR a1;obtain⟨B',bs,aT,S,I,j,ae,T,G⟩:=H.op a1;have l:aq aR b1 r.cells gp:=(G b1 (.inl rfl)).trans a;have u:=(G az (.inr rfl)).trans p;have s:=N.aC (A':=λk=>B' k\/k=b1\/k=az) ae T;have y:Good aT.pure:=by rw[I];exact M.take _
  have O:∀ ds,(X.pure.take t.a3).1=some ds->ds.length<=1024:=λds=>Om M
  have hlen:=aB ah;rw[<-I];generalize (X.pure.take t.a3).1=a8 at j O ⊢;cases a8 with
  |none=>have j:v=.tuple #[.slice none 0 0,.bool false]:=j;subst j;refine⟨_,_,_,_,rfl,dm rfl ?_⟩;exact FV S y D l u rfl s
  |some ds=>
   obtain⟨b,raw,rfl,Y,K,ag⟩:=j;refine⟨_,_,_,_,rfl,fq rfl ?_⟩;refine⟨_,_,_,l.cell rfl,?_⟩;rw[s.fw];refine On s.a_ (by omega) Y K ag (O ds rfl) S.cn.low (by rw[K.1]) ?_;intro bb ap cap z aV ab J q;have n:=ai.ak q l;refine⟨⟨_,n.cell rfl⟩,n.frozen,?_⟩;rintro F o;have f:ao (λk=>k=b1) z F:=by rw[o];exact eY _ _ _ _
   have d:=n.setCell (i:=23) (.slice ap (t.a_.length+1) cap);rw[<-o]at d;clear o;have d:aq F b1 ({r with Af:=ap,wS:=t.a_.length+1,Ah:=cap}:dH).cells gp:=d;refine FV ((S.new q).local f λ_ e=>.inl e) y D d (f.ak (ai.ak q u) λe=>D e.symm) rfl ?_;have af:ao (λk=>B' k\/k=b1\/k=az) aR F:=(ao.b7 q).trans f λ_ _ e=>.inr (.inl e)
   have g:=s.aC (A':=λk=>B' k\/k=b1\/k=az) af λ_ _ U=>U
   have Z:(t.a_++[ds]).length=t.a_.length+1:=by simp
   exact⟨g.kind,g.a3,g.eU,g.bad,ab.aC (f.mono λ_ _ e=>.inr (.inl e)) λ_ _ U=>U,Z.symm,J,g.job,g.out,by show(t.a_++[ds]).length<=201;omega⟩
end gW
end Go.Proofs.YtmkljjbioomepaaGreat
