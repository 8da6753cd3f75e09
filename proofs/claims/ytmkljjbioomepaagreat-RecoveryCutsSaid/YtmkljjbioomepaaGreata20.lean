import Derived.Test.YtmkljjbioomepaaGreatProg
import Derived.Test.YtmkljjbioomepaaGreata03
import Derived.Test.YtmkljjbioomepaaGreata19
set_option linter.all false
set_option maxHeartbeats 4000000
set_option maxRecDepth 100000
namespace Go.Proofs.YtmkljjbioomepaaGreat
open Go.Proofs.Tryz Go.b8
variable {A M:bB} {B b bo i n pc mr tb:Nat} {G:List (List a_)} {K:cl->aV} {Q:dW} {R:dM} {S:aV} {T:kb} {a pa lH:ax} {j:eP} {cI:bp} {r:fW} {u b_ ct w0 z:av} {vs:List bn}
section
open IntKind
variable (w:av) (R:dW) {a b c d e f g h:Nat} {A B:bh} {s t u v:ax} {i k:Int} {j:aB} {F:Bool}
def NZ (cJ s2:bh) (dS:ax) (a b:Nat) (eV:ax) (c d:Nat) (fM:ax) (f g:Nat) (h:ax) (i k:Nat) (l m:Int) (j:aB):aB:=.pointer (some cJ)::ag j 0 1 (.pointer (some s2)::ag j 1 1 (ad dS a b::ad eV c d::ad fM f g::ag j 2 15 (ad h i k::I l::I m::ag j 17 130 [])))
def ad9 (a b:bh) (dS:ax) (c d:Nat) (eV:ax) (f g:Nat) (fM:ax) (h i:Nat) (j:aB):aB:=.pointer (some a)::ag j 0 1 (.pointer (some b)::ag j 1 1 (ad dS c d::ad eV f g::ad fM h i::ag j 2 148 []))
def N0 (cJ s2:bh) (dS:ax) (a b:Nat) (eV:ax) (c d:Nat) (fM:ax) (f g:Nat) (h:ax) (i k:Nat) (l m:Int) (j:aB):aB:=.pointer (some cJ)::ag j 0 1 (.pointer (some s2)::ag j 1 1 (ad dS a b::ad eV c d::ad fM f g::ag j 2 57 (ad h i k::I l::I m::ag j 59 88 [])))
def SX (a b:bh) (dS:ax) (c d:Nat) (eV:ax) (f g:Nat) (fM:ax) (h i:Nat) (j:aB):aB:=.pointer (some a)::ag j 0 1 (.pointer (some b)::ag j 1 1 (ad dS c d::ad eV f g::ad fM h i::ag j 2 148 []))
def Gl (cJ s2:bh) (dS:ax) (a b:Nat) (eV:ax) (c d:Nat) (fM:ax) (f g:Nat) (h:Bool) (i:ax) (k l:Nat) (m n:Int) (j:aB):aB:=.pointer (some cJ)::ag j 0 1 (.pointer (some s2)::ag j 1 1 (ad dS a b::ad eV c d::ad fM f g::ag j 2 7 (U h::ag j 9 84 (ad i k l::I m::I n::ag j 93 53 []))))
def SY (a b:bh) (eV:ax) (c d:Nat) (f:Bool) (j:aB):aB:=.pointer (some a)::ag j 0 1 (.pointer (some b)::ag j 1 2 (ad eV c d::ag j 3 8 (U f::ag j 11 140 [])))
theorem axH:bS prog f173 [bM a] R w=(bb w #[I 0,I 0] 171 λf e=>de e (ae a 6) λd b c=>dT prog (e0 f173 [1,1,1,0,1,0,0]) (NZ (ae a 0) (ae f 0) none 0 0 none 0 0 none 0 0 d b c (b:Nat) 0 (undef::U false::bQ 11 (jp (ae a 0)::jp (ae a 0)::jp (ae a 0)::jp (ae a 6)::bQ 130 []))) (a8 0 (ba f173 [1,1,1,1] R)) e):=by kernel_rfl
theorem au1 (K:aB->aV):W prog (sb f173 [1,1,1,0,1,0,0]) (NZ A B s a b t c d u e f v g h i k j) (bk K (a8 0 (ba f173 [1,1,1,1] R))) w=(cond (k<i) (cb v g k 9 λP=>mS w P λr=>bb w #[I 0,ah 0,ah 0,ah 0,ah 0,ah 0,ah 0,ah 0,ah 0] 73 λD e9=>bJ e9 (ae D 0) 0 r.cells λY=>dP Y λe_ C=>Lq C (ae D 0) λL=>eG C A λn=>mR 211 #[L.val,I n] e_ λo p X=>dP X λee F=>mu F (cX A 8) λV=>eG F (ae D 0) λq=>qG F (ae D 1) λl=>dI 108 #[I q] ee λm T=>F T/\hX 212 #[.pointer (some A),V.val,.agg #[I 3,I 0,I m,I 0,ah l,ah o,bC,ah 0,I 0]] T λN S=>F S/\bb S N.cells.toArray 158 λM bG=>F bG/\fk 125 (ad s a b) (ad (b7 M) 1 1) bG λG E x bF=>F bF/\fR bF (ae D 1) λy=>bb bF #[ah y] 30 λO Z=>fk 94 (ad u e f) (ad (b7 O) 1 1) Z λz Q fS H=>K (NZ A B G E x t c d z Q fS v g h i (i64.wrap (k+1)) (aW j 0::aW j 1::aW j 2::jp (ae D 0)::ah o::I p::ag j 6 11 (U (k<i)::jp P::r.val::.tuple #[ah o,I p]::L.val::jp A::jp A::jp A::jp A::I n::.tuple #[ah o,I p]::ah o::I p::ad s a b::jp A::jp A::jp A::cz A 8::V.val::jp (ae D 0)::I q::I m::jp (ae D 1)::ah l::ah o::.agg #[I 3,I 0,I m,I 0,ah l,ah o,bC,ah 0,I 0]::N.val::ad (b7 M) 1 1::ad G E x::ad u e f::jp (ae D 1)::ah y::ad (b7 O) 1 1::ad z Q fS::I (i64.wrap (k+1))::ag j 52 95 []))) H) (W prog (sb f173 [1,1,1,1]) (ad9 A B s a b t c d u e f (ag j 0 17 (ad v g h::I i::I k::U (k<i)::ag j 18 129 []))) (c3 f173 R) w)):=by kernel_rfl
theorem avF:W prog (sb f173 [1,1,1,1]) (ad9 A B s a b t c d u e f j) (c3 f173 R) w=(de w (cX A 5) λk l m=>dT prog (e0 f173 [1,1,1,1,0,1,0,0]) (N0 A B s a b t c d u e f k l m (l:Nat) 0 (ag j 0 55 (jp A::jp A::jp A::cz A 5::ag j 62 88 []))) (a8 2 (ba f173 [1,1,1,1,1] R)) w):=by kernel_rfl
theorem au2 (L:aB->aV):W prog (sb f173 [1,1,1,1,0,1,0,0]) (N0 A B s a b t c d u e f v g h i k j) (bk L (a8 2 (ba f173 [1,1,1,1,1] R))) w=(cond (k<i) (cb v g k 2 λM=>VK w M λr=>bb w #[I 0,ah 0] 274 λD Q=>bJ Q (ae D 0) 0 r.cells λP=>dP P λT C=>mu C (cX A 8) λy=>eG C (ae D 0) λn=>dI 108 #[I n] T λo bF=>C bF/\hX 212 #[.pointer (some A),y.val,.agg #[I 1,I 0,I o,I 1,ah 0,ah 0,bC,ah 0,I 0]] bF λz N=>C N/\bb N z.cells.toArray 158 λbG H=>C H/\fk 125 (ad s a b) (ad (b7 bG) 1 1) H λF p q G=>C G/\fR G (ae D 1) λl=>bb G #[ah l] 30 λK O=>fk 94 (ad u e f) (ad (b7 K) 1 1) O λm E x S=>L (N0 A B F p q t c d m E x v g h i (i64.wrap (k+1)) (ag j 0 7 (jp (ae D 0)::ag j 8 51 (U (k<i)::jp M::r.val::ad s a b::jp A::jp A::jp A::cz A 8::y.val::jp (ae D 0)::I n::I o::.agg #[I 1,I 0,I o,I 1,ah 0,ah 0,bC,ah 0,I 0]::z.val::ad (b7 bG) 1 1::ad F p q::ad u e f::jp (ae D 1)::ah l::ad (b7 K) 1 1::ad m E x::I (i64.wrap (k+1))::ag j 81 66 [])))) S) (W prog (sb f173 [1,1,1,1,1]) (SX A B s a b t c d u e f (ag j 0 59 (ad v g h::I i::I k::U (k<i)::ag j 60 87 []))) (c3 f173 R) w)):=by kernel_rfl
theorem avn:W prog (sb f173 [1,1,1,1,1]) (SX A B s a b t c d u e f j) (c3 f173 R) w=(Calls prog 213 #[.pointer (some A),ad s a b,I 1] w λg q=>∃ k l m,cl.ex λo=>∃ n,g=.returned (.tuple #[ad k l m,o.val,U n])/\bJ q B 0 o.cells λi=>cond (!n) (gT i B λr=>bJ i B 0 r.cells λh=>gT h B λp=>h=h/\R (.tuple #[p.val,U false]) h) (dT prog (e0 f173 [1,1,1,1,1,1,1,1,0,1,0,0]) (Gl A B s a b t c d u e f false k l m (l:Nat) 0 (aW j 0::U n::ag j 2 6 (ad k l m::ag j 10 74 (.tuple #[ad k l m,o.val,U n]::jp A::ad s a b::.tuple #[ad k l m,o.val,U n]::ad k l m::o.val::U n::U n::U (!n)::aW j 93::ag j 97 53 [])))) (a8 4 (ba f173 [1,1,1,1,1,1,1,1,1] R)) i)):=by kernel_rfl
theorem au3 (bF:aB->aV):W prog (sb f173 [1,1,1,1,1,1,1,1,0,1,0,0]) (Gl A B s a b t c d u e f F v g h i k j) (bk bF (a8 4 (ba f173 [1,1,1,1,1,1,1,1,1] R))) w=(cond (k<i) (cb v g k 2 λK=>Cw w K λr=>bb w #[I 0,bC] 131 λH ee=>bJ ee (ae H 0) 0 r.cells λV=>dP V λe7 E=>Qb E (ae H 0) λbG=>cb u e k 1 λy=>qG E y λx=>p5 196 #[bG.val] e7 λo G=>E G/\cond (o != x) (bF (Gl A B s a b t c d u e f true v g h i (i64.wrap (k+1)) (ag j 0 9 (I k::jp (ae H 0)::ag j 11 82 (U (k<i)::I k::jp K::r.val::U ((o:Int) != x)::bG.val::ah o::ad u e f::I k::jp y::ah x::U ((o:Int) != x)::ag j 105 27 (I (i64.wrap (k+1))::ag j 133 13 []))))) G) (cb s a k 9 λz=>cQ G z λp=>cond (p == 3) (cb s a k 9 λT=>u_ G T λS=>bb G #[I 0,I 0,I 0,I 0,ah 0,ah 0,bC,ah 0,I 0] 158 λD e_=>bJ e_ (ae D 0) 0 S.cells λZ=>dP Z λY L=>cb s a k 9 λM=>qG L (cX M 5) λq=>cb s a k 9 λN=>qG L (cX N 4) λl=>ev Y (ae D 4) (ah q) λO=>L O/\ev O (ae D 5) (ah l) λfS=>u_ fS (ae D 0) λP=>bb fS P.cells.toArray 158 λQ X=>fk 125 (ad t c d) (ad (b7 Q) 1 1) X λC m n e9=>bF (Gl A B s a b C m n u e f F v g h i (i64.wrap (k+1)) (ag j 0 9 (I k::jp (ae H 0)::jp (ae D 0)::ag j 12 81 (U (k<i)::I k::jp K::r.val::U ((o:Int) != x)::bG.val::ah o::ad u e f::I k::jp y::ah x::U ((o:Int) != x)::U ((p:Int) == 3)::ad s a b::I k::jp z::jp z::I p::U ((p:Int) == 3)::ad s a b::I k::jp T::S.val::ad s a b::I k::jp M::cz M 5::ah q::ad s a b::I k::jp N::cz N 4::ah l::jp (ae D 4)::jp (ae D 5)::ad t c d::P.val::ad (b7 Q) 1 1::ad C m n::I (i64.wrap (k+1))::ag j 133 13 [])))) e9) (bF (Gl A B s a b t c d u e f F v g h i (i64.wrap (k+1)) (ag j 0 9 (I k::jp (ae H 0)::ag j 11 82 (U (k<i)::I k::jp K::r.val::U ((o:Int) != x)::bG.val::ah o::ad u e f::I k::jp y::ah x::U ((o:Int) != x)::U ((p:Int) == 3)::ad s a b::I k::jp z::jp z::I p::U ((p:Int) == 3)::ag j 112 20 (I (i64.wrap (k+1))::ag j 133 13 []))))) G))) (W prog (sb f173 [1,1,1,1,1,1,1,1,1]) (SY A B t c d F (aW j 0::aW j 1::ad s a b::ad u e f::ag j 2 91 (ad v g h::I i::I k::U (k<i)::ag j 94 52 []))) (c3 f173 R) w)):=by kernel_rfl
theorem avo:W prog (sb f173 [1,1,1,1,1,1,1,1,1]) (SY A B s a b F j) (c3 f173 R) w=(cond (!F) (bJ w B 0 [I 0,I 0] λd=>gT d B λl=>d=d/\R (.tuple #[l.val,U true]) d) (Calls prog 213 #[.pointer (some A),ad s a b,I 1] w λe t=>∃ g h i,cl.ex λm=>∃ k,e=.returned (.tuple #[ad g h i,m.val,U k])/\bJ t B 0 m.cells λp=>cond k (bJ p B 0 [I 7,I 1] λq=>gT q B λr=>bJ q B 0 r.cells λf=>gT f B λn=>f=f/\R (.tuple #[n.val,U false]) f) (gT p B λu=>bJ p B 0 u.cells λc=>gT c B λo=>c=c/\R (.tuple #[o.val,U false]) c))):=by kernel_rfl
end
section
def Hk (j:eP):bp:=j.v.mem.headD qD
def uy (j:eP) (p:a6):bn:=addr j.v.number (Hk j) ⟨3,0,p.b5 * 8,0,p.Head,ii p.Head j.bw,[],0,0⟩
def zo (j:eP) (s:h3):bn:=addr j.v.number (Hk j) ⟨1,0,s.b5 * 8,1,0,0,[],0,0⟩
def f9 (j:eP):List bn:=j.writes.map (uy j)++j.reads.map (zo j)
def ou (j:eP):bR:=j.writes.map (·.Head)++j.reads.map (·.Head)
def F2 (v:bn):bn:={ v with old:=v.new,new:=v.old }
def mQ:List bn->bR->List a_->List bn
 |v::vs,x::xs,d::ds=>(if gZ d=x/\v.kind=3 then [F2 v] else [])++mQ vs xs ds
 | _,_,_=>[]
def ov:bR->List a_->Bool
 |x::xs,d::ds=>decide (gZ d≠x) || ov xs ds
 | _,_=>false
def rB (j:eP) (G:List (List a_)):dM:=
 if (dz G (f9 j) 1).ok=false then dz G (f9 j) 1
 else if ov (ou j) (dz G (f9 j) 1).done=false then ⟨true,[],(0,0),(dz G (f9 j) 1).bD,none,false⟩
 else if (dz (dz G (f9 j) 1).bD (mQ (f9 j) (ou j) (dz G (f9 j) 1).done) 1).ok=true then ⟨false,[],(7,1),(dz (dz G (f9 j) 1).bD (mQ (f9 j) (ou j) (dz G (f9 j) 1).done) 1).bD,none,false⟩
 else dz (dz G (f9 j) 1).bD (mQ (f9 j) (ou j) (dz G (f9 j) 1).done) 1
theorem Xt:∀ {a:List bn} {b:bR} {c:List a_} {v:bn} {x:Int} {d:a_},a.length=c.length->b.length=c.length->mQ (a++[v]) (b++[x]) (c++[d])=mQ a b c++(if gZ d=x/\v.kind=3 then [F2 v] else [])
 | [],[],[],v,x,d,_,_=>by simp [mQ]
 | _::a,_::b,_::c,v,x,d,af,al=>by simp only [List.cons_append,mQ];rw [Xt (by simpa using af) (by simpa using al),ue]
 | [],_,_::_,_,_,_,h,_=>by simp at h
 | _::_,_,[],_,_,_,h,_=>by simp at h
 | _,[],_::_,_,_,_,_,h=>by simp at h
 | _,_::_,[],_,_,_,_,h=>by simp at h
theorem Xu:∀ {b:bR} {c:List a_} {x:Int} {d:a_},b.length=c.length->ov (b++[x]) (c++[d])=(ov b c || decide (gZ d≠x))
 | [],[],x,d,_=>by simp [ov]
 | _::b,_::c,x,d,h=>by simp only [List.cons_append,ov];rw [Xu (by simpa using h),Bool.or_assoc]
 | [],_::_,_,_,h=>by simp at h
 | _::_,[],_,_,h=>by simp at h
theorem WE:∀ {a:List bn} {b:bR} {c:List a_},(mQ a b c).length<=a.length
 |v::a,y::b,d::c=>by
  have:=@WE a b c;unfold mQ;rw [gp];split
  ·simp;omega
  ·simp;omega
 | [],_,_=>by simp [mQ]
 | _::_,[],_=>by simp [mQ]
 | _::_,_::_,[]=>by simp [mQ]
theorem cy.Vn {cap:Nat} (h:cy w0 u a n cap vs) (jH:∀ x ∈ vs,x.words=[]) (J:ay M u b_) (c1:∀ k,a7 a k->¬ M k):cy w0 b_ a n cap vs:=by obtain ⟨⟨dD,aq,aw⟩,au,aJ⟩:=h;refine ⟨⟨dD,aq.aO J c1,aw.1,λi v x af al=>?_⟩,au,aJ⟩;have ao:=aw.2 i v x af al;have he:=jH x (dn al);have hg:ei (λk=>M k\/(k<w0.heap.size\/a7 a k)) u v x:=⟨ao.eq,ao.rd,ao.nil,.inl he,ao.wf,ao.new,ao.old,ao.key,ao.hd,ao.cap,ao.sU⟩;exact (hg.aO (J.mono λk _ e=>.inl e) λ_ _ e=>e).mono λk e=>.inr e
theorem k'.after {ff jP:av} (h:k' A w0 ff tb B R jP) (J:ay (λk=>k=tb) u ff):k' A w0 u tb B R jP:=
 ⟨J.trans h.aO λ_ _ e=>e,h.j9⟩
theorem R6 {o:cl} (aE:aF u b o.cells h7) (J:∀ c6,ay (λk=>k=b) u c6->K o c6) :
  cl.ex λr=>df u ⟨b,0,none⟩ 0 r.cells/\ha u ⟨b,0,none⟩ 0 r.cells/\∀ aY,aY=dO u ⟨b,0,none⟩ 0 r.cells->cl.ex λres=>df aY ⟨b,0,none⟩ 0 res.cells/\aY=aY/\K res aY:=
 cl.bd o ⟨cD aE rfl,gL aE rfl (cl.single _) λaY cx ek=>cl.bd o ⟨cD cx rfl,rfl,J aY ek⟩⟩
structure zv (w0 ct:av) (bo tb:Nat) (r:fW) (cI:bp) (j:eP) (z:av) (pa:ax) (n pc:Nat) (lH:ax) (mr:Nat) (vs:List bn) (ws:bR):Prop where
 fz:iS w0 z bo tb r cI j
 new:ai ct z
 rF:cy ct z pa n pc vs
 jx:∀ x ∈ vs,x.words=[]
 own:bu z zF 1 lH n mr (us ws)
 Ln:∀ k,a7 lH k->ct.heap.size<=k
 wl:ws.length=n
theorem zv.ck {w0 ct:av} {bo tb:Nat} {r:fW} {cI:bp} {j:eP} {z cZ:av} {pa:ax} {n pc:Nat} {lH:ax} {mr:Nat} {vs:List bn} {ws:bR} (h:zv w0 ct bo tb r cI j z pa n pc lH mr vs ws) (aj:ai z cZ):zv w0 ct bo tb r cI j cZ pa n pc lH mr vs ws:=
 ⟨h.fz.ck aj,h.new.new aj,h.rF.new aj,h.jx,bu.new aj h.own,h.Ln,h.wl⟩
theorem zv.push {e':av} {ws:bR} (h:zv w0 ct bo tb r cI j z pa n pc lH mr vs ws) (aj:ai z e') {v:a0} {x:bn} (aw:ei (λk=>k<z.heap.size) e' v x) (atX:x.words=[]) (aJ:n<=1000) (JT:w0.heap.size<=ct.heap.size)
  {Gj:Nat} {cs:aH} {Gb:TypeId} (ph:aF e' Gj cs Gb) (oJ:Gb≠d8) (r8:Gb≠zF) {y:Int} (gl:∀ cZ,aF cZ Gj cs Gb->iS w0 cZ bo tb r cI j->S cZ) {b1:Nat} {dq:av} (ak:b1=e'.heap.size) (aE:dq=e'.alloc (.cells v.cells.toArray d8)) {rd:av->Int->Prop} (dw:∀ cZ,aF cZ Gj cs Gb->rd cZ y) {N:ax->Nat->Nat->av->Int->Nat->av->ax->Nat->Nat->aV}
  (kE:∀ ap ac h5 bT hh qk iZ cZ,zv w0 ct bo tb r cI j cZ ap (n+1) ac qk iZ (vs++[x]) (ws++[y])->N ap (n+1) ac h5 y bT hh qk (n+1) iZ cZ) :
  S dq/\∃ (ap:ax) (fi ac:Nat),∃ h5,(Builtin.append_ #[k7,k7] k7 #[(.slice pa n pc),(.slice (some ⟨b1,0,none⟩) 1 1)]).run prog dq=.ok (.slice ap fi ac) h5/\S h5/\∃ y:Int,rd h5 y/\∀ bT hh,bT=h5.heap.size->hh=h5.alloc (.cells #[(.int .u64 y)] zF)->∃ (qk:ax) (qj iZ:Nat),∃ gK,(Builtin.append_ #[94,94] 94 #[(.slice lH n mr),(.slice (some ⟨bT,0,none⟩) 1 1)]).run prog hh=.ok (.slice qk qj iZ) gK/\N ap fi ac h5 y bT hh qk qj iZ gK:=by
 have bP:ai e' dq:=by rw [aE];exact mE _ _
 have eC:=h.fz.ck aj;refine ⟨gl _ (ai.an bP ph) (eC.ck bP),?_⟩;have cr:=aj.size;refine cy.u9 h.rF h.new aj aw (by omega) ak aE λap bU h5 aL ek bf=>?_
 have fP:=h.rF;have mi:∀ k,a7 pa k->ct.heap.size<=k/\∃ cs,aF z k cs d8:=λk J=>by obtain ⟨dD,aq,_⟩:=fP.ex;exact ⟨fP.kD k J,jX aq J⟩
 have abT:aF h5 Gj cs Gb:=ek.an ph λe=>by obtain ⟨_,mY,dG⟩:=mi _ e;exact (ai.an aj dG).ne ph (λe=>oJ e.symm) rfl
 have q7:iS w0 h5 bo tb r cI j:=eC.aO ek λk J=>by
  obtain ⟨af,mY,dG⟩:=mi k J;refine ⟨by omega,λe=>?_⟩
  exact (e▸ai.an aj dG).ne eC.an (by decide) rfl
 refine ⟨gl _ abT q7,y,dw _ abT,?_⟩;rintro bT hh ej dk;obtain ⟨dL,bz⟩:=b4 ej dk;have dL:aF hh bT (us [y]) zF:=dL;clear dk;have KH:bu h5 zF 1 lH n mr (us ws):=(bu.new aj h.own).aO ek λk J e=>by obtain ⟨_,mY,dG⟩:=mi k e;obtain ⟨Jj,yn⟩:=jX h.own J;exact dG.ne yn (by decide) rfl
 refine ID (bu.new bz KH) (l2:=[y]) (m:=1) (jk dL rfl) rfl (by omega) λqk iZ gK e8 eu DX=>?_
 have j2:=bf.size;have aqD:∀ k,a7 qk k->ct.heap.size<=k:=λk J=>by
  rcases DX k J with e | e
  ·exact h.Ln k e
  ·have:=bz.size;omega
 have jH:∀ k5 ∈ vs++[x],k5.words=[]:=λk5 qA=>by
  rcases qT.1 qA with e | e
  ·exact h.jx k5 e
  ·simp at e;subst e;exact atX
 have UI:∀ k,a7 lH k->∃ cs,aF hh k cs zF:=λk J=>jX (bu.new bz KH) J
 refine kE ap bU h5 bT hh qk iZ gK ⟨(q7.ck bz).aO eu λk J=>?_,(bf.new bz).trans eu λk aK e=>by have:=h.Ln k e;omega,(aL.new bz).Vn jH eu λk J e=>?_,jH,e8,aqD,by rw [gp,h.wl];rfl⟩
 ·obtain ⟨mY,dG⟩:=UI k J;refine ⟨by have:=h.Ln k J;omega,λe=>?_⟩
  exact (e▸dG).ne (q7.ck bz).an (by decide) rfl
 ·obtain ⟨mY,dG⟩:=UI k e;obtain ⟨dD,aq,_⟩:=(aL.new bz).ex;obtain ⟨Jj,yn⟩:=jX aq J;exact dG.ne yn (by decide) rfl
end
section
theorem Ct {f:Int} (h:(dz G vs f).ok=true):(dz G vs f).ask=none/\(dz G vs f).gb=false/\(dz G vs f).out=(0,0):=by
 unfold dz at h ⊢;split at h
 ·cases h
 ·rename_i af;rw [if_neg af];split at h
  ·cases h
  ·rename_i al;rw [if_neg al];exact ⟨rfl,rfl,rfl⟩
theorem k'.ok (h:k' A w0 u tb B R b_) (bc:R.ask=none) (hw:R.gb=false) (k:Bool) (d:List a_) (o:Int×Int):k' A w0 u tb B ⟨k,d,o,R.bD,none,false⟩ b_:=by obtain ⟨J,er,aZ,yG,oK⟩:=h;rw [bc] at oK;exact ⟨J,er,aZ,by rw [yG,hw],oK⟩
theorem k'.clean (h:k' A w0 u tb B R b_) (bc:R.ask=none) (hw:R.gb=false):∃ er,h2 A w0 b_ tb er R.bD/\kl er:=by obtain ⟨J,er,aZ,yG,oK⟩:=h;rw [bc] at oK;exact ⟨er,aZ,oK,by rw [yG,hw]⟩
theorem Y7 {α:Type} {cells:α->aH} {sz:Nat} (cr:∀ x,(cells x).length=sz) (aN:0<sz) {l:List α} (gl:∀ y,S y->bW y a (l.map cells).flatten) (hu:S u) {x:α} (ao:l[i]?=some x) {z:Int} (aE:z=i) (aj:n=l.length) {K:bh->Prop}
  (J:∀ b o,(∀ y,S y->∀ (q:Nat) (v:bx),(cells x)[q]?=some v->y.cell? ⟨b,o+q,none⟩=some v)->K ⟨b,o,none⟩):cb a n z sz K:=by
 subst aE aj;have aK:=dy ao;have aX:∀ r ∈ l.map cells,r.length=sz:=λr aA=>by obtain ⟨y,_,rfl⟩:=eQ.1 aA;exact cr y
 obtain ⟨b,o,rfl,af,al⟩:=(gl u hu).row (sz:=sz) aX aN (i:=i) (r:=cells x) (by simp [ao]);refine hc (by omega) (by omega) ?_;have:=J b (o+i * sz) λy az q v aw=>by obtain ⟨b',gk,e,_,bI⟩:=(gl y az).row (sz:=sz) aX aN (i:=i) (r:=cells x) (by simp [ao]);simp at e;obtain ⟨rfl,rfl⟩:=e;exact bI q v aw
 simpa using this
theorem aoJ {zs:aH} (aE:aF u b zs h7) (au:zs.length=2) (c f:Int) (J:∀ c6,ay (λk=>k=b) u c6->K ⟨c,f⟩ c6) :
  ha u ⟨b,0,none⟩ 0 [(.int .i64 c),(.int .i64 f)]/\∀ aS,aS=dO u ⟨b,0,none⟩ 0 [(.int .i64 c),(.int .i64 f)]->cl.ex λr=>df aS ⟨b,0,none⟩ 0 r.cells/\ha aS ⟨b,0,none⟩ 0 r.cells/\∀ aY,aY=dO aS ⟨b,0,none⟩ 0 r.cells->cl.ex λres=>df aY ⟨b,0,none⟩ 0 res.cells/\aY=aY/\K res aY:=
 gL aE (vs:=cl.cells ⟨c,f⟩) (by rw [au];rfl) (cl.single _) λaS bP eN=>R6 bP λc6 dv=>J c6 (eN.trans dv λ_ _ e=>e)
theorem ax3 {l:bR} (h:bW u a (us l)) {x:Int} (ao:l[i]?=some x) {z:Int} (aE:z=i) (aj:n=l.length) {K:bh->Prop}
  (J:∀ b o,(∀ y,ai u y->y.cell? ⟨b,o,none⟩=some (.int .u64 x))->K ⟨b,o,none⟩):cb a n z 1 K:=by
 subst aE aj;have aK:=dy ao;have Aj:(us l)[i]?=some (.int .u64 x):=by simp [us,ao]
 rcases h with he | ⟨b,o,rfl,ab⟩
 ·rw [he] at Aj;cases Aj
 ·refine hc (by omega) (by omega) ?_;have:=J b (o+i) λy az=>(bW.new az (.inr ⟨b,o,rfl,ab⟩)).cell Aj
  simpa using this
theorem Xb:∀ (b:bR) (c:List a_),ov (b.take c.length) c=ov b c
 | [],c=>by simp
 |x::b,[]=>by simp [ov]
 |x::b,d::c=>by simp only [l8,List.take_succ_cons,ov];rw [Xb b c]
theorem Xc:∀ (a:List bn) (b:bR) (c:List a_),mQ (a.take c.length) (b.take c.length) c=mQ a b c
 | [],b,c=>by simp [mQ]
 |v::a,[],c=>by simp only [List.take_nil];cases c<;>simp [mQ]
 |v::a,x::b,[]=>by simp [mQ]
 |v::a,x::b,d::c=>by simp only [l8,List.take_succ_cons,mQ];rw [Xc a b c]
variable {A:bB} {w0 u:av} {bo tb b1:Nat} {r:fW} {cI:bp} {j:eP}
structure zu (A:bB) (w0 u z:av) (bo tb b1:Nat) (r:fW) (cI:bp) (j:eP) (R:dM):Prop where
 fz:iS w0 z bo tb r cI j
 co:∃ o:cl,aF z b1 o.cells h7
 j9:∃ T,h2 A w0 z tb T R.bD/\kl T
 aO:ay (λk=>k=tb) u z
theorem zu.new {z cZ:av} {R:dM} (h:zu A w0 u z bo tb b1 r cI j R) (aj:ai z cZ):zu A w0 u cZ bo tb b1 r cI j R:=by obtain ⟨af,⟨o,al⟩,⟨T,aL,ca⟩,c9⟩:=h;exact ⟨af.ck aj,⟨o,ai.an aj al⟩,⟨T,aL.new aj,ca⟩,c9.new aj⟩
theorem zu.auO {cZ:av} (h:zu A w0 u z bo tb b1 r cI j R) (J:ay M z cZ) (c1:∀ k,M k->w0.heap.size<=k/\u.heap.size<=k/\k≠bo/\k≠b1/\k≠tb):zu A w0 u cZ bo tb b1 r cI j R:=by obtain ⟨af,⟨o,al⟩,⟨T,aL,ca⟩,c9⟩:=h;exact ⟨af.aO J λk e=>⟨(c1 k e).1,(c1 k e).2.2.1⟩,⟨o,J.an al λe=>(c1 _ e).2.2.2.1 rfl⟩,⟨T,aL.aO J λe=>(c1 _ e).2.2.2.2 rfl,ca⟩,c9.trans J λk aK e=>by have:=c1 k e;omega⟩
theorem alo {Ft:av} {vs us:List bn} (b3:(dz G vs 1).ok=true) (fs:zu A w0 u z bo tb b1 r cI j (dz G vs 1)) (Ex:ai w0 Ft) (bA:u.heap.size<=b1) (zV:b1<Ft.heap.size) (Ag:tb<u.heap.size) (Ph:u.heap.size<=Ft.heap.size)
  {CJ:ax} {un CK:Nat} (aw:cy Ft z CJ un CK us) (hlen:us.length<=100000) (SC:Bool) (aT:aH)
  (gi:∀ v w',sR A w0 u tb u.heap.size (if SC=false then ⟨true,[],(0,0),(dz G vs 1).bD,none,false⟩
   else if (dz (dz G vs 1).bD us 1).ok=true then ⟨false,[],(7,1),(dz (dz G vs 1).bD us 1).bD,none,false⟩ else dz (dz G vs 1).bD us 1) v w'->Q v w') :
  W prog (sub (b6 f173) [1,1,1,1,1,1,1,1,1]) (SY ⟨bo,0,none⟩ ⟨b1,0,none⟩ CJ un CK SC aT) (ga prog f173 Q) z:=by
 rw [avo];obtain ⟨aqN,⟨o,gu⟩,⟨T,bq,c7⟩,m7⟩:=fs;cases SC with
 |false=>
  refine vI gu rfl 0 0 λc6 dv=>gi _ _ ⟨rfl,?_⟩
  have aN:k' A w0 u tb Ft.heap.size ⟨true,[],(0,0),(dz G vs 1).bD,none,false⟩ z:=⟨m7,T,bq,c7.gb,c7.fi⟩;exact aN.put (ay.refl _ _) (ay.refl _ _) dv bA zV (by omega) Ph
 |true=>
  have ij:=FW aqN bq c7 Ex (by omega) aw hlen 1;refine aR ij ?_;rintro v mU ⟨f8,dc,raw,rfl,hT,_⟩;have Ae:=hT.after m7;have fQ:aF mU b1 o.cells h7:=hT.aO.an gu (by omega);refine ⟨_,_,_,cl.bd ⟨(dz (dz G vs 1).bD us 1).out.1,(dz (dz G vs 1).bD us 1).out.2⟩ ⟨(dz (dz G vs 1).bD us 1).ok,rfl,?_⟩⟩;refine gL fQ rfl (cl.single _) λu8 gN fe=>?_
  have aEp:=Ae.put (B':=u.heap.size) (ay.refl _ _) (ay.refl _ _) fe bA zV (by omega) Ph;cases O1:(dz (dz G vs 1).bD us 1).ok with
  |true=>
   obtain ⟨bc,hw,_⟩:=Ct O1;have atq:=Ae.ok bc hw false [] (7,1);have KP:=atq.put (B':=Ft.heap.size) (ay.refl _ _) (ay.refl _ _) fe bA zV (by omega) (eJ _);refine aoJ gN rfl 7 1 λc6 dv=>gi _ _ ?_
   simp only [Bool.true_eq_false,if_false,if_true,O1];exact ⟨rfl,KP.put (ay.refl _ _) (ay.refl _ _) dv bA zV (by omega) Ph⟩
  |false=>
   have KP:=Ae.put (B':=Ft.heap.size) (ay.refl _ _) (ay.refl _ _) fe bA zV (by omega) (eJ _);refine R6 gN λc6 dv=>gi _ _ ?_
   simp only [Bool.true_eq_false,if_false,if_true,O1,FA];refine ⟨?_,KP.put (ay.refl _ _) (ay.refl _ _) dv bA zV (by omega) Ph⟩;rw [O1]
theorem alp (f_:zv w0 ct bo tb r cI j z pa n pc lH mr (f9 j) (ou j)) (gx:ai u ct) (U4:ai w0 u) (bq:h2 A w0 z tb T G) (c7:kl T) (gu:aF z b1 (cl.cells ⟨0,0⟩) h7)
  (bA:u.heap.size<=b1) (zV:b1<ct.heap.size) (Ag:tb<u.heap.size) (JT:bo<u.heap.size) (aT:aH) (gi:∀ v w',sR A w0 u tb u.heap.size (rB j G) v w'->Q v w') :
  W prog (sub (b6 f173) [1,1,1,1,1]) (SX ⟨bo,0,none⟩ ⟨b1,0,none⟩ pa n pc none 0 0 lH n mr aT) (ga prog f173 Q) z:=by
 rw [avn];have atk:=gx.size;have UU:=U4.size;have aj:=f_.rF.len;have ps:=f_.wl;have a':=f_.fz.du;have GP:=a'.H3;have OG:=a'.Qg;have v3:n<=36:=by rw [aj];unfold f9;simp only [gp,jS];omega
 have da:ai u z:=gx.new f_.new;have ij:=FW f_.fz bq c7 (U4.new gx) (by omega) f_.rF (by omega) 1;refine aR ij ?_;rintro v c6 ⟨f8,dc,raw,rfl,hT,dw,dX,ik⟩;refine ⟨_,_,_,cl.bd ⟨(dz G (f9 j) 1).out.1,(dz G (f9 j) 1).out.2⟩ ⟨(dz G (f9 j) 1).ok,rfl,?_⟩⟩;have dk:aF c6 b1 (cl.cells ⟨0,0⟩) h7:=hT.aO.an gu (by omega);have Ae:=hT.after (ay.db da);refine gL dk rfl (cl.single _) λff dL g_=>?_
 unfold rB at gi;cases b3:(dz G (f9 j) 1).ok with
 |false=>
  have KP:=Ae.put (B':=ct.heap.size) (ay.refl _ _) (ay.refl _ _) g_ bA zV (by omega) (eJ _);refine R6 dL λjP eu=>gi _ _ ?_
  rw [if_pos b3];refine ⟨?_,KP.put (ay.refl _ _) (ay.refl _ _) eu bA zV (by omega) atk⟩;rw [b3]
 |true=>
  rw [if_neg (by rw [b3];simp)] at gi;obtain ⟨bc,hw,aq⟩:=Ct b3;obtain ⟨er,q4,th⟩:=hT.clean bc hw;have OK:ay (λk=>k=tb\/k=b1) z ff:=(hT.aO.mono λk _ e=>.inl e).trans (g_.mono λk _ e=>.inr e) λ_ _ e=>e
  have abn:zu A w0 u ff bo tb b1 r cI j (dz G (f9 j) 1):=by
   refine ⟨f_.fz.aO OK λk e=>?_,⟨_,dL⟩,⟨er,q4.aO g_ (by omega),th⟩,((ay.db da).trans hT.aO λ_ _ e=>e).trans g_ λk aK e=>by omega⟩;have af:=f_.fz.sM;have al:=f_.fz.ne;rcases e with e | e
   ·exact ⟨by omega,by omega⟩
   ·exact ⟨by omega,by omega⟩
  have pY:cy ct ff pa n pc (f9 j):=f_.rF.Vn f_.jx OK λk J e=>by have:=f_.rF.kD k J;omega
  have Ab:bu ff zF 1 lH n mr (us (ou j)):=f_.own.aO OK λk J e=>by have:=f_.Ln k J;omega
  obtain ⟨⟨QB,G_,wm⟩,Cc,adA⟩:=pY;have adB:=G_.rd;have atH:=f_.jx;have atS:=Ab.rd;have U3:=abn.fz.new;have aD2:=dL.lt;have j0:=dX.1;have aEx:ct.heap.size<=ff.heap.size:=by have af:=f_.new.size;have al:=OK.size;omega
  clear Ab;refine e2 mix (λq env y=>∃ (i:Nat) (x9:Bool) (CJ:ax) (un CK:Nat) (aT:aH),q=raw.length - i/\i<=raw.length/\x9=ov ((ou j).take i) ((dz G (f9 j) 1).done.take i)/\env=Gl ⟨bo,0,none⟩ ⟨b1,0,none⟩ pa n pc CJ un CK lH n mr x9 f8 raw.length dc raw.length i aT/\ai ff y/\cy ff y CJ un CK (mQ ((f9 j).take i) ((ou j).take i) ((dz G (f9 j) 1).done.take i))/\zu A w0 u y bo tb b1 r cI j (dz G (f9 j) 1)) raw.length
   ⟨0,false,none,0,0,_,rfl,by omega,rfl,rfl,ay.refl _ _,cy.nil _ _,abn⟩ ?_
  rintro q env y ⟨i,x9,CJ,un,CK,aT,rfl,aD,Tt,rfl,kG,rj,Og⟩;rw [au3];have aEy:=rj.len;have aEz:=@WE ((f9 j).take i) ((ou j).take i) ((dz G (f9 j) 1).done.take i);have aEA:((f9 j).take i).length<=n:=by rw [o2];omega
  refine bL (λaK=>?_) (λhQ=>?_)
  ·have hR:i<raw.length:=by omega
   obtain ⟨d,aC⟩:∃ d,raw[i]?=some d:=⟨_,cp hR⟩;have aEd:raw.length=(f9 j).length:=ik.resolve_left λe=>by rw [e] at hR;simp at hR
   obtain ⟨x,ao⟩:∃ x,(dz G (f9 j) 1).done[i]?=some x:=⟨_,cp (by omega)⟩;obtain ⟨qQ,Vd⟩:∃ qQ,(ou j)[i]?=some qQ:=⟨_,cp (by omega)⟩;obtain ⟨v1,oj⟩:∃ v1,(f9 j)[i]?=some v1:=⟨_,cp (by omega)⟩;obtain ⟨r1,v'⟩:∃ r1,QB[i]?=some r1:=⟨_,cp (by have:=wm.1;omega)⟩;have pP:=dX.2 i d x aC ao;have j4:=wm.2 i r1 v1 v' oj;have Pj:=atH v1 (dn oj);have s':ov ((ou j).take (i+1)) ((dz G (f9 j) 1).done.take (i+1))=(ov ((ou j).take i) ((dz G (f9 j) 1).done.take i) || decide (gZ x≠qQ)):=by rw [iW,iW,Vd,ao];exact Xu (by rw [o2,o2];omega)
   have Gt:mQ ((f9 j).take (i+1)) ((ou j).take (i+1)) ((dz G (f9 j) 1).done.take (i+1))=mQ ((f9 j).take i) ((ou j).take i) ((dz G (f9 j) 1).done.take i)++(if gZ x=qQ/\v1.kind=3 then [F2 v1] else []):=by rw [iW,iW,iW,Vd,ao,oj];exact Xt (by rw [o2,o2];omega) (by rw [o2,o2];omega)
   refine hq (cells:=cL.cells) cL.len (by omega) (dw.new (U3.new kG)) aC rfl rfl λb o gD _=>cL.bd d ⟨gD,?_⟩
   refine g0 (vs:=d.cells) rfl (cL.single _) λbT dq ej cx a5=>?_
   rintro h5 Cd;have bf:ai dq h5:=by rw [Cd];exact eh _
   clear Cd;have Ue:=(kG.new a5).new bf;refine ⟨λy=>ai h5 y,ay.refl _ _,cL.bd d ⟨λy az=>cD (ai.an (bf.new az) cx) rfl,?_⟩⟩;refine ax3 (atS.new Ue) Vd rfl (by omega) λec tK m4=>⟨qQ,λy az=>m4 y az,?_⟩
   have Tq:=E6 (pP.aO (ay.db (U3.new Ue)) λ_ _ e=>e);refine aR Tq ?_;rintro v hh ⟨rfl,bz⟩;have GY:=Ue.new bz;have Ei:=(a5.new bf).new bz;refine ⟨_,rfl,bz,fX (λe=>?_) (λe=>?_)⟩
   ·rw [if_neg λh=>e h.1,qd] at Gt;rw [cn (x:=(i:Int)+1) (by omega) (by omega)];exact ⟨raw.length - (i+1),by omega,i+1,true,CJ,un,CK,_,rfl,by omega,by rw [s'];simp [e],rfl,GY,by rw [Gt];exact rj.new Ei,Og.new Ei⟩
   ·have aa5:x9=ov ((ou j).take (i+1)) ((dz G (f9 j) 1).done.take (i+1)):=by rw [s',Tt];simp [e]
    have acs:r1.Kind=v1.kind:=by rw [j4.eq];rfl
    refine hq (cells:=a0.cells) a0.len (by omega) (adB.new GY) v' rfl (by have:=wm.1;omega) λjB Hp aDH UG=>⟨_,UG 0 _ rfl,gX (λdF=>?_) (λdF=>?_)⟩
    ·rw [if_pos ⟨e,by rw [<-acs];exact dF⟩] at Gt;refine hq (cells:=a0.cells) a0.len (by omega) (adB.new GY) v' rfl (by have:=wm.1;omega) λfJ awf Tr aEb=>a0.bd r1 ⟨Tr,?_⟩
     refine g0 (vs:=r1.cells) rfl (a0.single _) λkz gK jt Pw bH=>?_
     rintro jq adU;have cg:ai gK jq:=by rw [adU];exact eh _
     clear adU;have e4:=ai.an cg Pw;have Pk:=bu.new ((GY.new bH).new cg) G_;have aqu:∀ k,a7 pa k->k≠kz:=λk J=>by obtain ⟨cs,dG⟩:=jX G_ J;have af:=dG.lt;have al:=GY.size;omega
     refine ⟨λy=>bu y d8 9 pa n pc (gG QB).flatten,Pk,?_⟩;refine Y7 (S:=λy=>bu y d8 9 pa n pc (gG QB).flatten) (cells:=a0.cells) a0.len (by omega) (λy az=>az.rd) Pk v' rfl (by have:=wm.1;omega) λx5 aEO UH=>⟨r1.ai,λy az=>UH y az 5 _ rfl,?_⟩
     refine Y7 (S:=λy=>bu y d8 9 pa n pc (gG QB).flatten) (cells:=a0.cells) a0.len (by omega) (λy az=>az.rd) Pk v' rfl (by have:=wm.1;omega) λnG aEP asV=>⟨r1.Old,λy az=>asV y az 4 _ rfl,?_⟩
     refine sQ e4 (i:=4) rfl λnw fQ eD=>⟨Pk.aO eD λk J e=>aqu k J e,?_⟩
     refine sQ fQ (i:=5) rfl λo0 gN fe=>?_
     have yB:=cg.size;have acT:ai y o0:=(((Ei.new bH).new cg).trans eD λk aK e=>by have:=Ei.size;omega).trans fe λk aK e=>by have:=Ei.size;omega
     refine a0.bd { r1 with Old:=r1.ai,ai:=r1.Old } ⟨cD gN rfl,?_⟩;rintro aC9 aE' aqv K9;have atM:ei (λk=>k<y.heap.size) o0 { r1 with Old:=r1.ai,ai:=r1.Old } (F2 v1):=by
      refine ⟨?_,?_,λ_=>Pj,.inl Pj,λz aE=>?_,j4.old,j4.new,j4.key,j4.hd,j4.cap,j4.sU⟩
      ·have DE:=j4.eq;rw [DE];rfl
      ·rw [show (F2 v1).words=[] from Pj];exact .inl rfl
      ·rw [show (F2 v1).words=[] from Pj] at aE;cases aE
     refine cy.u9 rj kG acT atM (by omega) aqv K9 λap ac y9 h4 fK gJ=>?_
     rw [cn (x:=(i:Int)+1) (by omega) (by omega)];refine ⟨raw.length - (i+1),by omega,i+1,x9,ap,un+1,ac,_,rfl,by omega,aa5,rfl,gJ,by rw [Gt];exact h4,(Og.new acT).auO fK λk J=>?_⟩;have:=rj.kD k J;exact ⟨by omega,by omega,by omega,by omega,by omega⟩
    ·rw [if_neg λh=>dF (by rw [acs];exact h.2),qd] at Gt;rw [cn (x:=(i:Int)+1) (by omega) (by omega)];exact ⟨raw.length - (i+1),by omega,i+1,x9,CJ,un,CK,_,rfl,by omega,aa5,rfl,GY,by rw [Gt];exact rj.new Ei,Og.new Ei⟩
  ·have uM:i=(dz G (f9 j) 1).done.length:=by omega
   rw [uM,nx,Xb] at Tt;rw [uM,nx,Xc] at rj;have aDn:=@WE (f9 j) (ou j) (dz G (f9 j) 1).done;refine alo b3 Og U3 bA (by omega) Ag (by omega) rj (by omega) x9 _ λv w' aw=>gi v w' ?_
   rw [Tt] at aw;exact aw
end
section
abbrev aaG:TypeId:=274
theorem amD (gu:iS w0 u bo tb r cI j) (bq:h2 A w0 u tb T G) (c7:kl T) :
  bK 173 [ptr bo] u (sR A w0 u tb u.heap.size (rB j G)):=by
 refine bO Tryz.func173 ?_;rw [ptr,axH];rintro b1 ct bA gx;obtain ⟨bm,a1⟩:=b4 bA gx;have bm:aF ct b1 (cl.cells ⟨0,0⟩) h7:=bm;clear gx;have eC:=gu.ck a1;have oJ:=bq.new a1;have hlen:=gu.cH.cO.len;have fI:=a1.size;have g3:=bm.lt;have lY:=bq.an.lt;have a':=gu.du;have od:=a'.bw;have GP:=a'.H3;have OG:=a'.Qg;have J_:=gu.cH.bw;have lx:=gu.mem;have tp:=a'.hd cI (dn lx);have JQ:gF cI.dJ:=by unfold gF;omega
 have U4:=eC.new.size;have aa6:Hk j=cI:=by
  unfold Hk;cases pT:j.v.mem with
  |nil=>rw [pT] at lx;cases lx
  |cons x xs=>rw [pT] at lx;simp at lx;subst lx;rfl
 refine ⟨_,_,_,eC.an.cell (i:=6) rfl,?_⟩;refine e2 mix (λq env z=>∃ (i:Nat) (pa:ax) (pc:Nat) (lH:ax) (mr:Nat) (aT:aH),q=j.writes.length - i/\i<=j.writes.length/\env=NZ ⟨bo,0,none⟩ ⟨b1,0,none⟩ pa i pc none 0 0 lH i mr r.hO r.gO r.mC r.gO i aT/\zv w0 ct bo tb r cI j z pa i pc lH mr ((j.writes.take i).map (uy j)) ((j.writes.take i).map (·.Head))) j.writes.length
  ⟨0,none,0,none,0,_,rfl,by omega,rfl,⟨eC,ay.refl _ _,cy.nil _ _,(λx ao=>by simp at ao),bu.nil _ _ _,(λk J=>absurd J yP),rfl⟩⟩ ?_
 rintro q env z ⟨i,pa,pc,lH,mr,aT,rfl,aD,rfl,f_⟩;rw [au1,hlen];refine bL (λaK=>?_) (λhQ=>?_)
 ·obtain ⟨p,ar⟩:∃ p,j.writes[i]?=some p:=⟨_,cp (by omega)⟩;have kH:=dn ar;have gw:=a'.wl p kH;have oh:=a'.af6 p kH;have KK:=gu.cH.cO.u64 p kH;refine hq (cells:=a6.cells) a6.len (by omega) (gu.cH.cO.rd.new f_.fz.new) ar rfl rfl λb o gD _=>a6.bd p ⟨gD,?_⟩
  refine g0 (vs:=p.cells) rfl (a6.single _) λbT dq ej cx a5=>?_
  rintro h5 Cd;have bf:ai dq h5:=by rw [Cd];exact eh _
  clear Cd;have sj:=a5.new bf;refine ⟨λy=>aF y bT p.cells hs/\iS w0 y bo tb r cI j,⟨ai.an bf cx,f_.fz.ck sj⟩,a6.bd p ⟨λy az=>cD az.1 rfl,_,λy az=>az.2.an.cell (i:=0) rfl,?_⟩⟩;refine aR (Ri h5 p oh.1 (by omega)) ?_;rintro v hh ⟨rfl,bz⟩;refine ⟨_,_,rfl,?_⟩;rintro gK Pw;have bH:ai hh gK:=by rw [Pw];exact eh _
  clear Pw;have mh:=(sj.new bz).new bH;have Ou:=ai.an ((bf.new bz).new bH) cx;have OA:=f_.fz.ck mh;refine ⟨λy=>aF y bT p.cells hs/\iS w0 y bo tb r cI j,⟨Ou,OA⟩,bp.bd cI ⟨λy az=>cD az.2.an rfl,_,λy az=>az.1.cell (i:=0) rfl,_,λy az=>az.1.cell (i:=1) rfl,?_⟩⟩;refine aR (Fo gK gw.1 gw.2) ?_;rintro v jq ⟨rfl,rfl⟩;refine ⟨_,rfl,⟨Ou,OA⟩,?_⟩;rw [J_];have j4:ei (λ_=>False) jq ⟨3,0,p.b5 * 8,0,p.Head,ii p.Head j.bw,none,0,0,0,0⟩ ⟨3,0,p.b5 * 8,0,p.Head,ii p.Head j.bw,[],0,0⟩:=CF (.inl rfl) rfl (by omega) (λ_=>rfl) (λx ao=>by cases ao) (by simp) KK (Zl _ _);have ij:=HF OA JQ j4;refine aR ij ?_;rintro v nw ⟨bX,rfl,d_,dg⟩;refine a0.bd bX ⟨rfl,⟨ai.an dg Ou,OA.ck dg⟩,?_⟩;rintro jB o0 ih gN;have S5:=f_.ck mh;have SK:addr j.v.number cI ⟨3,0,p.b5 * 8,0,p.Head,ii p.Head j.bw,[],0,0⟩=uy j p:=by unfold uy;rw [aa6]
  rw [SK] at d_;refine S5.push dg d_ rfl (by omega) (by omega) (ai.an dg Ou) (by decide) (by decide) (y:=p.Head) (S:=λy=>aF y bT p.cells hs/\iS w0 y bo tb r cI j) (λcZ af al=>⟨af,al⟩) ih gN (rd:=λcZ y=>cZ.cell? ⟨bT,1,none⟩=some (.int .u64 y)) (λcZ h=>h.cell (i:=1) rfl) λap ac n4 fJ ub qk iZ cZ DP=>?_
  rw [cn (x:=(i:Int)+1) (by omega) (by omega)];have bY:(j.writes.take i).map (uy j)++[uy j p]=(j.writes.take (i+1)).map (uy j):=by rw [iW,ar];simp
  have bg:(j.writes.take i).map (·.Head)++[p.Head]=(j.writes.take (i+1)).map (·.Head):=by rw [iW,ar];simp
  rw [bY,bg] at DP;exact ⟨j.writes.length - (i+1),by omega,i+1,ap,ac,qk,iZ,_,rfl,by omega,by rw [<-hlen];rfl,DP⟩
 ·have uM:i=j.writes.length:=by omega
  subst uM;simp only [nx] at f_;rw [avF];have ik:=gu.cH.len;refine ⟨_,_,_,f_.fz.an.cell (i:=5) rfl,?_⟩;refine e2 mix (λq env z=>∃ (i:Nat) (pa:ax) (pc:Nat) (lH:ax) (mr:Nat) (aT:aH),q=j.reads.length - i/\i<=j.reads.length/\env=N0 ⟨bo,0,none⟩ ⟨b1,0,none⟩ pa (j.writes.length+i) pc none 0 0 lH (j.writes.length+i) mr r.Reads r.s5 r.Bi r.s5 i aT/\zv w0 ct bo tb r cI j z pa (j.writes.length+i) pc lH mr (j.writes.map (uy j)++(j.reads.take i).map (zo j)) (j.writes.map (·.Head)++(j.reads.take i).map (·.Head))) j.reads.length
   ⟨0,pa,pc,lH,mr,_,rfl,by omega,rfl,by rw [List.take_zero,Mm,Mm,qd,qd];exact f_⟩ ?_
  rintro q env z ⟨i,pa,pc,lH,mr,aT,rfl,aD,rfl,f_⟩;rw [au2,ik];refine bL (λaK=>?_) (λhQ=>?_)
  ·obtain ⟨p,ar⟩:∃ p,j.reads[i]?=some p:=⟨_,cp (by omega)⟩;have kH:=dn ar;have gw:=a'.AF p kH;refine hq (cells:=h3.cells) h3.len (by omega) (gu.cH.rd.new f_.fz.new) ar rfl rfl λb o gD _=>h3.bd p ⟨gD,?_⟩
   refine g0 (vs:=p.cells) rfl (h3.single _) λbT dq ej cx a5=>?_
   rintro h5 Cd;have bf:ai dq h5:=by rw [Cd];exact eh _
   clear Cd;have sj:=a5.new bf;have Ot:=ai.an bf cx;have Oz:=f_.fz.ck sj;refine ⟨λy=>aF y bT p.cells aaG/\iS w0 y bo tb r cI j,⟨Ot,Oz⟩,bp.bd cI ⟨λy az=>cD az.2.an rfl,_,λy az=>az.1.cell (i:=0) rfl,?_⟩⟩;refine aR (Fo h5 gw.1 gw.2) ?_;rintro v jq ⟨rfl,rfl⟩;refine ⟨_,rfl,⟨Ot,Oz⟩,?_⟩;have j4:ei (λ_=>False) jq ⟨1,0,p.b5 * 8,1,0,0,none,0,0,0,0⟩ ⟨1,0,p.b5 * 8,1,0,0,[],0,0⟩:=CF (.inl rfl) rfl (by omega) (λ_=>rfl) (λx ao=>by cases ao) (by simp) mw mw;have ij:=HF Oz JQ j4;refine aR ij ?_;rintro v nw ⟨bX,rfl,d_,dg⟩;refine a0.bd bX ⟨rfl,⟨ai.an dg Ot,Oz.ck dg⟩,?_⟩;rintro jB o0 ih gN;have S5:=f_.ck sj;have SK:addr j.v.number cI ⟨1,0,p.b5 * 8,1,0,0,[],0,0⟩=zo j p:=by unfold zo;rw [aa6]
   rw [SK] at d_;refine S5.push dg d_ rfl (by omega) (by omega) (ai.an dg Ot) (by decide) (by decide) (y:=p.Head) (S:=λy=>aF y bT p.cells aaG/\iS w0 y bo tb r cI j) (λcZ af al=>⟨af,al⟩) ih gN (rd:=λcZ y=>cZ.cell? ⟨bT,1,none⟩=some (.int .u64 y)) (λcZ h=>h.cell (i:=1) rfl) λap ac n4 fJ ub qk iZ cZ DP=>?_
   rw [cn (x:=(i:Int)+1) (by omega) (by omega)];have bY:j.writes.map (uy j)++(j.reads.take i).map (zo j)++[zo j p]=j.writes.map (uy j)++(j.reads.take (i+1)).map (zo j):=by rw [iW,ar];simp
   have bg:j.writes.map (·.Head)++(j.reads.take i).map (·.Head)++[p.Head]=j.writes.map (·.Head)++(j.reads.take (i+1)).map (·.Head):=by rw [iW,ar];simp
   rw [bY,bg] at DP;exact ⟨j.reads.length - (i+1),by omega,i+1,ap,ac,qk,iZ,_,rfl,by omega,by rw [<-ik];rfl,DP⟩
  ·have uM:i=j.reads.length:=by omega
   subst uM;simp only [nx] at f_;have Kt:=f_.new;refine alp f_ a1 gu.new (oJ.new Kt) c7 (ai.an Kt bm) (by omega) g3 lY gu.an.lt _ λv w' aw=>aw
end
end Go.Proofs.YtmkljjbioomepaaGreat
