import Derived.Test.YtmkljjbioomepaaGreatProg
import Derived.Test.YtmkljjbioomepaaGreatb03
import Derived.Test.YtmkljjbioomepaaGreatb19
set_option linter.all false
set_option maxHeartbeats 4000000
set_option maxRecDepth 100000
namespace Go.Proofs.YtmkljjbioomepaaGreat
open Go.Proofs.Tryz Go.bu
variable {A M:a3} {B b aX i n pc hb tb:Nat} {G:List (List aO)} {K:bA->aE} {Q:cB} {R:cq} {S:aE} {T:fV} {a pa gP:an} {j:cU} {bN:aY} {r:dv} {u bs bE w0 z:ak} {vs:List aW}
section
open IntKind
variable (w:ak) (R:cB) {a b c d e f g h:Nat} {A B:aS} {s t u v:an} {i k:Int} {j:aq} {F:Bool}
def wW (e s2:aS) (n:an) (a b:Nat) (o:an) (c d:Nat) (p:an) (f g:Nat) (h:an) (i k:Nat) (l m:Int) (j:aq):aq:=.pointer (some e)::ag j 0 1 (.pointer (some s2)::ag j 1 1 (ae n a b::ae o c d::ae p f g::ag j 2 15 (ae h i k::ab l::ab m::ag j 17 130 [])))
def FF (a b:aS) (e:an) (c d:Nat) (k:an) (f g:Nat) (l:an) (h i:Nat) (j:aq):aq:=.pointer (some a)::ag j 0 1 (.pointer (some b)::ag j 1 1 (ae e c d::ae k f g::ae l h i::ag j 2 148 []))
def wX (e s2:aS) (n:an) (a b:Nat) (o:an) (c d:Nat) (p:an) (f g:Nat) (h:an) (i k:Nat) (l m:Int) (j:aq):aq:=.pointer (some e)::ag j 0 1 (.pointer (some s2)::ag j 1 1 (ae n a b::ae o c d::ae p f g::ag j 2 57 (ae h i k::ab l::ab m::ag j 59 88 [])))
def z8 (a b:aS) (e:an) (c d:Nat) (k:an) (f g:Nat) (l:an) (h i:Nat) (j:aq):aq:=.pointer (some a)::ag j 0 1 (.pointer (some b)::ag j 1 1 (ae e c d::ae k f g::ae l h i::ag j 2 148 []))
def r8 (e s2:aS) (o:an) (a b:Nat) (p:an) (c d:Nat) (q:an) (f g:Nat) (h:Bool) (i:an) (k l:Nat) (m n:Int) (j:aq):aq:=.pointer (some e)::ag j 0 1 (.pointer (some s2)::ag j 1 1 (ae o a b::ae p c d::ae q f g::ag j 2 7 (ad h::ag j 9 84 (ae i k l::ab m::ab n::ag j 93 53 []))))
def z9 (a b:aS) (e:an) (c d:Nat) (f:Bool) (j:aq):aq:=.pointer (some a)::ag j 0 1 (.pointer (some b)::ag j 1 2 (ae e c d::ag j 3 8 (ad f::ag j 11 140 [])))
theorem SL:bf prog f173 [a_ a] R w=(aQ w #[ab 0,ab 0] 171 λf e=>b5 e (af a 6) λd b c=>cv prog (c0 f173 [1,1,1,0,1,0,0]) (wW (af a 0) (af f 0) none 0 0 none 0 0 none 0 0 d b c (b:Nat) 0 (undef::ad false::bb 11 (jp (af a 0)::jp (af a 0)::jp (af a 0)::jp (af a 6)::bb 130 []))) (aM 0 (aP f173 [1,1,1,1] R)) e):=by kernel_rfl
theorem QJ (O:aq->aE):W prog (sb f173 [1,1,1,0,1,0,0]) (wW A B s a b t c d u e f v g h i k j) (aU O (aM 0 (aP f173 [1,1,1,1] R))) w=(cond (k<i) (bm v g k 9 λM=>hv w M λr=>aQ w #[ab 0,ah 0,ah 0,ah 0,ah 0,ah 0,ah 0,ah 0,ah 0] 73 λD X=>a' X (af D 0) 0 r.cells λU=>ct U λJ C=>uM C (af D 0) λL=>cN C A λn=>ht 211 #[L.val,ab n] J λo p Z=>ct Z λY F=>hc F (bT A 8) λK=>cN F (af D 0) λq=>jM F (af D 1) λl=>cm 108 #[ab q] Y λm I=>F I/\eL 212 #[.pointer (some A),K.val,.agg #[ab 3,ab 0,ab m,ab 0,ah l,ah o,a5,ah 0,ab 0]] I λa6 T=>F T/\aQ T a6.cells.toArray 158 λN P=>F P/\c9 125 (ae s a b) (ae (bn N) 1 1) P λG E x H=>F H/\dr H (af D 1) λy=>aQ H #[ah y] 30 λS V2=>c9 94 (ae u e f) (ae (bn S) 1 1) V2 λz V Q a7=>O (wW A B G E x t c d z V Q v g h i (i64.wrap (k+1)) (aF j 0::aF j 1::aF j 2::jp (af D 0)::ah o::ab p::ag j 6 11 (ad (k<i)::jp M::r.val::.tuple #[ah o,ab p]::L.val::jp A::jp A::jp A::jp A::ab n::.tuple #[ah o,ab p]::ah o::ab p::ae s a b::jp A::jp A::jp A::bq A 8::K.val::jp (af D 0)::ab q::ab m::jp (af D 1)::ah l::ah o::.agg #[ab 3,ab 0,ab m,ab 0,ah l,ah o,a5,ah 0,ab 0]::a6.val::ae (bn N) 1 1::ae G E x::ae u e f::jp (af D 1)::ah y::ae (bn S) 1 1::ae z V Q::ab (i64.wrap (k+1))::ag j 52 95 []))) a7) (W prog (sb f173 [1,1,1,1]) (FF A B s a b t c d u e f (ag j 0 17 (ae v g h::ab i::ab k::ad (k<i)::ag j 18 129 []))) (bZ f173 R) w)):=by kernel_rfl
theorem Q8:W prog (sb f173 [1,1,1,1]) (FF A B s a b t c d u e f j) (bZ f173 R) w=(b5 w (bT A 5) λk l m=>cv prog (c0 f173 [1,1,1,1,0,1,0,0]) (wX A B s a b t c d u e f k l m (l:Nat) 0 (ag j 0 55 (jp A::jp A::jp A::bq A 5::ag j 62 88 []))) (aM 2 (aP f173 [1,1,1,1,1] R)) w):=by kernel_rfl
theorem QK (a7:aq->aE):W prog (sb f173 [1,1,1,1,0,1,0,0]) (wX A B s a b t c d u e f v g h i k j) (aU a7 (aM 2 (aP f173 [1,1,1,1,1] R))) w=(cond (k<i) (bm v g k 2 λL=>Au w L λr=>aQ w #[ab 0,ah 0] 274 λC O=>a' O (af C 0) 0 r.cells λS=>ct S λT E=>hc E (bT A 8) λy=>cN E (af C 0) λn=>cm 108 #[ab n] T λo N=>E N/\eL 212 #[.pointer (some A),y.val,.agg #[ab 1,ab 0,ab o,ab 1,ah 0,ah 0,a5,ah 0,ab 0]] N λz K=>E K/\aQ K z.cells.toArray 158 λH M=>E M/\c9 125 (ae s a b) (ae (bn H) 1 1) M λF p q G=>E G/\dr G (af C 1) λl=>aQ G #[ah l] 30 λa6 P=>c9 94 (ae u e f) (ae (bn a6) 1 1) P λm D x Q=>a7 (wX A B F p q t c d m D x v g h i (i64.wrap (k+1)) (ag j 0 7 (jp (af C 0)::ag j 8 51 (ad (k<i)::jp L::r.val::ae s a b::jp A::jp A::jp A::bq A 8::y.val::jp (af C 0)::ab n::ab o::.agg #[ab 1,ab 0,ab o,ab 1,ah 0,ah 0,a5,ah 0,ab 0]::z.val::ae (bn H) 1 1::ae F p q::ae u e f::jp (af C 1)::ah l::ae (bn a6) 1 1::ae m D x::ab (i64.wrap (k+1))::ag j 81 66 [])))) Q) (W prog (sb f173 [1,1,1,1,1]) (z8 A B s a b t c d u e f (ag j 0 59 (ae v g h::ab i::ab k::ad (k<i)::ag j 60 87 []))) (bZ f173 R) w)):=by kernel_rfl
theorem RJ:W prog (sb f173 [1,1,1,1,1]) (z8 A B s a b t c d u e f j) (bZ f173 R) w=(Calls prog 213 #[.pointer (some A),ae s a b,ab 1] w λg q=>∃ k l m,bA.ex λo=>∃ n,g=.returned (.tuple #[ae k l m,o.val,ad n])/\a' q B 0 o.cells λi=>cond (!n) (dV i B λr=>a' i B 0 r.cells λh=>dV h B λp=>h=h/\R (.tuple #[p.val,ad false]) h) (cv prog (c0 f173 [1,1,1,1,1,1,1,1,0,1,0,0]) (r8 A B s a b t c d u e f false k l m (l:Nat) 0 (aF j 0::ad n::ag j 2 6 (ae k l m::ag j 10 74 (.tuple #[ae k l m,o.val,ad n]::jp A::ae s a b::.tuple #[ae k l m,o.val,ad n]::ae k l m::o.val::ad n::ad n::ad (!n)::aF j 93::ag j 97 53 [])))) (aM 4 (aP f173 [1,1,1,1,1,1,1,1,1] R)) i)):=by kernel_rfl
theorem QL (a7:aq->aE):W prog (sb f173 [1,1,1,1,1,1,1,1,0,1,0,0]) (r8 A B s a b t c d u e f F v g h i k j) (aU a7 (aM 4 (aP f173 [1,1,1,1,1,1,1,1,1] R))) w=(cond (k<i) (bm v g k 2 λK=>pI w K λr=>aQ w #[ab 0,a5] 131 λH V=>a' V (af H 0) 0 r.cells λU=>ct U λZ E=>xG E (af H 0) λa6=>bm u e k 1 λy=>jM E y λx=>jq 196 #[a6.val] Z λo G=>E G/\cond (o != x) (a7 (r8 A B s a b t c d u e f true v g h i (i64.wrap (k+1)) (ag j 0 9 (ab k::jp (af H 0)::ag j 11 82 (ad (k<i)::ab k::jp K::r.val::ad ((o:Int) != x)::a6.val::ah o::ae u e f::ab k::jp y::ah x::ad ((o:Int) != x)::ag j 105 27 (ab (i64.wrap (k+1))::ag j 133 13 []))))) G) (bm s a k 9 λz=>bS G z λp=>cond (p == 3) (bm s a k 9 λT=>lR G T λQ=>aQ G #[ab 0,ab 0,ab 0,ab 0,ah 0,ah 0,a5,ah 0,ab 0] 158 λD Y=>a' Y (af D 0) 0 Q.cells λV2=>ct V2 λJ M=>bm s a k 9 λN=>jM M (bT N 5) λq=>bm s a k 9 λL=>jM M (bT L 4) λl=>cI J (af D 4) (ah q) λO=>M O/\cI O (af D 5) (ah l) λS=>lR S (af D 0) λI=>aQ S I.cells.toArray 158 λP X=>c9 125 (ae t c d) (ae (bn P) 1 1) X λC m n V3=>a7 (r8 A B s a b C m n u e f F v g h i (i64.wrap (k+1)) (ag j 0 9 (ab k::jp (af H 0)::jp (af D 0)::ag j 12 81 (ad (k<i)::ab k::jp K::r.val::ad ((o:Int) != x)::a6.val::ah o::ae u e f::ab k::jp y::ah x::ad ((o:Int) != x)::ad ((p:Int) == 3)::ae s a b::ab k::jp z::jp z::ab p::ad ((p:Int) == 3)::ae s a b::ab k::jp T::Q.val::ae s a b::ab k::jp N::bq N 5::ah q::ae s a b::ab k::jp L::bq L 4::ah l::jp (af D 4)::jp (af D 5)::ae t c d::I.val::ae (bn P) 1 1::ae C m n::ab (i64.wrap (k+1))::ag j 133 13 [])))) V3) (a7 (r8 A B s a b t c d u e f F v g h i (i64.wrap (k+1)) (ag j 0 9 (ab k::jp (af H 0)::ag j 11 82 (ad (k<i)::ab k::jp K::r.val::ad ((o:Int) != x)::a6.val::ah o::ae u e f::ab k::jp y::ah x::ad ((o:Int) != x)::ad ((p:Int) == 3)::ae s a b::ab k::jp z::jp z::ab p::ad ((p:Int) == 3)::ag j 112 20 (ab (i64.wrap (k+1))::ag j 133 13 []))))) G))) (W prog (sb f173 [1,1,1,1,1,1,1,1,1]) (z9 A B t c d F (aF j 0::aF j 1::ae s a b::ae u e f::ag j 2 91 (ae v g h::ab i::ab k::ad (k<i)::ag j 94 52 []))) (bZ f173 R) w)):=by kernel_rfl
theorem RK:W prog (sb f173 [1,1,1,1,1,1,1,1,1]) (z9 A B s a b F j) (bZ f173 R) w=(cond (!F) (a' w B 0 [ab 0,ab 0] λc=>dV c B λl=>c=c/\R (.tuple #[l.val,ad true]) c) (Calls prog 213 #[.pointer (some A),ae s a b,ab 1] w λe u=>∃ g h i,bA.ex λm=>∃ k,e=.returned (.tuple #[ae g h i,m.val,ad k])/\a' u B 0 m.cells λp=>cond k (a' p B 0 [ab 7,ab 1] λq=>dV q B λr=>a' q B 0 r.cells λd=>dV d B λn=>d=d/\R (.tuple #[n.val,ad false]) d) (dV p B λt=>a' p B 0 t.cells λf=>dV f B λo=>f=f/\R (.tuple #[o.val,ad false]) f))):=by kernel_rfl
end
section
def sq (j:cU):aY:=j.v.mem.headD jI
def lI (j:cU) (p:aK):aW:=addr j.v.number (sq j) ⟨3,0,p.bo * 8,0,p.Head,eK p.Head j.a1,[],0,0⟩
def n4 (j:cU) (s:eQ):aW:=addr j.v.number (sq j) ⟨1,0,s.bo * 8,1,0,0,[],0,0⟩
def dC (j:cU):List aW:=j.writes.map (lI j)++j.reads.map (n4 j)
def ik (j:cU):bd:=j.writes.map (·.Head)++j.reads.map (·.Head)
def rQ (v:aW):aW:={ v with old:=v.new,new:=v.old }
def hs:List aW->bd->List aO->List aW
 |v::vs,x::xs,d::ds=>(if d8 d=x/\v.kind=3 then [rQ v] else [])++hs vs xs ds
 | _,_,_=>[]
def il:bd->List aO->Bool
 |x::xs,d::ds=>decide (d8 d≠x) || il xs ds
 | _,_=>false
def ka (j:cU) (G:List (List aO)):cq:=
 if (cg G (dC j) 1).ok=false then cg G (dC j) 1
 else if il (ik j) (cg G (dC j) 1).done=false then ⟨true,[],(0,0),(cg G (dC j) 1).a4,none,false⟩
 else if (cg (cg G (dC j) 1).a4 (hs (dC j) (ik j) (cg G (dC j) 1).done) 1).ok=true then ⟨false,[],(7,1),(cg (cg G (dC j) 1).a4 (hs (dC j) (ik j) (cg G (dC j) 1).done) 1).a4,none,false⟩
 else cg (cg G (dC j) 1).a4 (hs (dC j) (ik j) (cg G (dC j) 1).done) 1
theorem BS:∀ {a:List aW} {b:bd} {c:List aO} {v:aW} {x:Int} {d:aO},a.length=c.length->b.length=c.length->hs (a++[v]) (b++[x]) (c++[d])=hs a b c++(if d8 d=x/\v.kind=3 then [rQ v] else [])
 | [],[],[],v,x,d,_,_=>by simp [hs]
 | _::a,_::b,_::c,v,x,d,e,f=>by simp only [List.cons_append,hs];rw [BS (by simpa using e) (by simpa using f),lr]
 | [],_,_::_,_,_,_,h,_=>by simp at h
 | _::_,_,[],_,_,_,h,_=>by simp at h
 | _,[],_::_,_,_,_,_,h=>by simp at h
 | _,_::_,[],_,_,_,_,h=>by simp at h
theorem BT:∀ {b:bd} {c:List aO} {x:Int} {d:aO},b.length=c.length->il (b++[x]) (c++[d])=(il b c || decide (d8 d≠x))
 | [],[],x,d,_=>by simp [il]
 | _::b,_::c,x,d,h=>by simp only [List.cons_append,il];rw [BT (by simpa using h),Bool.or_assoc]
 | [],_::_,_,_,h=>by simp at h
 | _::_,[],_,_,h=>by simp at h
theorem A2:∀ {a:List aW} {b:bd} {c:List aO},(hs a b c).length<=a.length
 |v::a,y::b,d::c=>by
  have:=@A2 a b c;unfold hs;rw [dI];split
  ·simp;omega
  ·simp;omega
 | [],_,_=>by simp [hs]
 | _::_,[],_=>by simp [hs]
 | _::_,_::_,[]=>by simp [hs]
theorem bH.Ad {cap:Nat} (h:bH w0 u a n cap vs) (c:∀ x ∈ vs,x.words=[]) (g:ao M u bs) (l:∀ k,aL a k->¬ M k):bH w0 bs a n cap vs:=by obtain ⟨⟨cl,q,al⟩,p,o⟩:=h;refine ⟨⟨cl,q.az g l,al.1,λi v x j f=>?_⟩,p,o⟩;have b:=al.2 i v x j f;have he:=c x (b7 f);have d:cF (λk=>M k\/(k<w0.heap.size\/aL a k)) u v x:=⟨b.eq,b.rd,b.nil,.inl he,b.wf,b.new,b.old,b.key,b.ef,b.cap,b.kN⟩;exact (d.az (g.mono λk _ e=>.inl e) λ_ _ e=>e).mono λk e=>.inr e
theorem gy.after {a b:ak} (h:gy A w0 a tb B R b) (c:ao (λk=>k=tb) u a):gy A w0 u tb B R b:=
 ⟨c.trans h.az λ_ _ e=>e,h.fS⟩
theorem zt {o:bA} (au:av u b o.cells eS) (f:∀ e,ao (λk=>k=b) u e->K o e) :
  bA.ex λr=>b6 u ⟨b,0,none⟩ 0 r.cells/\ec u ⟨b,0,none⟩ 0 r.cells/\∀ a,a=cr u ⟨b,0,none⟩ 0 r.cells->bA.ex λres=>b6 a ⟨b,0,none⟩ 0 res.cells/\a=a/\K res a:=
 bA.aR o ⟨bJ au rfl,dQ au rfl (bA.single _) λa d c=>bA.aR o ⟨bJ d rfl,rfl,f a c⟩⟩
structure n_ (w0 bE:ak) (aX tb:Nat) (r:dv) (bN:aY) (j:cU) (z:ak) (pa:an) (n pc:Nat) (gP:an) (hb:Nat) (vs:List aW) (ws:bd):Prop where
 di:fa w0 z aX tb r bN j
 new:ai bE z
 kd:bH bE z pa n pc vs
 fr:∀ x ∈ vs,x.words=[]
 own:a0 z om 1 gP n hb (us ws)
 uJ:∀ k,aL gP k->bE.heap.size<=k
 wl:ws.length=n
theorem n_.bz {w0 bE:ak} {aX tb:Nat} {r:dv} {bN:aY} {j:cU} {z b:ak} {pa:an} {n pc:Nat} {gP:an} {hb:Nat} {vs:List aW} {ws:bd} (h:n_ w0 bE aX tb r bN j z pa n pc gP hb vs ws) (a:ai z b):n_ w0 bE aX tb r bN j b pa n pc gP hb vs ws:=
 ⟨h.di.bz a,h.new.new a,h.kd.new a,h.fr,a0.new a h.own,h.uJ,h.wl⟩
theorem n_.push {F:ak} {ws:bd} (h:n_ w0 bE aX tb r bN j z pa n pc gP hb vs ws) (E:ai z F) {v:aG} {x:aW} (al:cF (λk=>k<z.heap.size) F v x) (V2:x.words=[]) (Wd:n<=1000) (V_:w0.heap.size<=bE.heap.size)
  {P:Nat} {cs:ax} {D:TypeId} (s:av F P cs D) (U:D≠cz) (V8:D≠om) {y:Int} (V5:∀ l,av l P cs D->fa w0 l aX tb r bN j->S l) {b1:Nat} {Q:ak} (V9:b1=F.heap.size) (au:Q=F.alloc (.cells v.cells.toArray cz)) {rd:ak->Int->Prop} (Y:∀ l,av l P cs D->rd l y) {N:an->Nat->Nat->ak->Int->Nat->ak->an->Nat->Nat->aE}
  (V7:∀ ap ac d p o jB ff l,n_ w0 bE aX tb r bN j l ap (n+1) ac jB ff (vs++[x]) (ws++[y])->N ap (n+1) ac d y p o jB (n+1) ff l) :
  S Q/\∃ (ap:an) (c8 ac:Nat),∃ d,(Builtin.append_ #[gx,gx] gx #[(.slice pa n pc),(.slice (some ⟨b1,0,none⟩) 1 1)]).run prog Q=.ok (.slice ap c8 ac) d/\S d/\∃ y:Int,rd d y/\∀ p o,p=d.heap.size->o=d.alloc (.cells #[(.int .u64 y)] om)->∃ (jB:an) (V3 ff:Nat),∃ R,(Builtin.append_ #[94,94] 94 #[(.slice gP n hb),(.slice (some ⟨p,0,none⟩) 1 1)]).run prog o=.ok (.slice jB V3 ff) R/\N ap c8 ac d y p o jB V3 ff R:=by
 have M:ai F Q:=by rw [au];exact hk _ _
 have t:=h.di.bz E;refine ⟨V5 _ (ai.aj M s) (t.bz M),?_⟩;have Wb:=E.size;refine bH.lQ h.kd h.new E al (by omega) V9 au λap G d V4 w I=>?_
 have K:=h.kd;have B:∀ k,aL pa k->bE.heap.size<=k/\∃ cs,av z k cs cz:=λk c=>by obtain ⟨cl,X,_⟩:=K.ex;exact ⟨K.gi k c,fM X c⟩
 have q:av d P cs D:=w.aj s λe=>by obtain ⟨_,i,a⟩:=B _ e;exact (ai.aj E a).ne s (λe=>U e.symm) rfl
 have u:fa w0 d aX tb r bN j:=t.az w λk c=>by
  obtain ⟨Wc,i,a⟩:=B k c;refine ⟨by omega,λe=>?_⟩
  exact (e▸ai.aj E a).ne t.aj (by decide) rfl
 refine ⟨V5 _ q u,y,Y _ q,?_⟩;rintro p o V O;obtain ⟨C,b⟩:=bl V O;have C:av o p (us [y]) om:=C;clear O;have g:a0 d om 1 gP n hb (us ws):=(a0.new E h.own).az w λk c e=>by obtain ⟨_,i,a⟩:=B k e;obtain ⟨T,f⟩:=fM h.own c;exact a.ne f (by decide) rfl
 refine tE (a0.new b g) (l2:=[y]) (m:=1) (fm C rfl) rfl (by omega) λjB ff R V6 A W=>?_
 have Wa:=I.size;have H:∀ k,aL jB k->bE.heap.size<=k:=λk c=>by
  rcases W k c with e | e
  ·exact h.uJ k e
  ·have:=b.size;omega
 have J:∀ fT ∈ vs++[x],fT.words=[]:=λfT Z=>by
  rcases jT.1 Z with e | e
  ·exact h.fr fT e
  ·simp at e;subst e;exact V2
 have L:∀ k,aL gP k->∃ cs,av o k cs om:=λk c=>fM (a0.new b g) c
 refine V7 ap G d p o jB ff R ⟨(u.bz b).az A λk c=>?_,(I.new b).trans A λk V' e=>by have:=h.uJ k e;omega,(V4.new b).Ad J A λk c e=>?_,J,V6,H,by rw [dI,h.wl];rfl⟩
 ·obtain ⟨i,a⟩:=L k c;refine ⟨by have:=h.uJ k c;omega,λe=>?_⟩
  exact (e▸a).ne (u.bz b).aj (by decide) rfl
 ·obtain ⟨i,a⟩:=L k e;obtain ⟨cl,X,_⟩:=(V4.new b).ex;obtain ⟨T,f⟩:=fM X c;exact a.ne f (by decide) rfl
end
section
theorem pF {f:Int} (h:(cg G vs f).ok=true):(cg G vs f).ask=none/\(cg G vs f).dE=false/\(cg G vs f).out=(0,0):=by
 unfold cg at h ⊢;split at h
 ·cases h
 ·rename_i a;rw [if_neg a];split at h
  ·cases h
  ·rename_i b;rw [if_neg b];exact ⟨rfl,rfl,rfl⟩
theorem gy.ok (h:gy A w0 u tb B R bs) (e:R.ask=none) (hw:R.dE=false) (k:Bool) (d:List aO) (o:Int×Int):gy A w0 u tb B ⟨k,d,o,R.a4,none,false⟩ bs:=by obtain ⟨f,c,g,b,a⟩:=h;rw [e] at a;exact ⟨f,c,g,by rw [b,hw],a⟩
theorem gy.clean (h:gy A w0 u tb B R bs) (d:R.ask=none) (hw:R.dE=false):∃ b,eP A w0 bs tb b R.a4/\fY b:=by obtain ⟨f,b,e,c,a⟩:=h;rw [d] at a;exact ⟨b,e,a,by rw [c,hw]⟩
theorem Dy {α:Type} {cells:α->ax} {sz:Nat} (c:∀ x,(cells x).length=sz) (f:0<sz) {l:List α} (g:∀ y,S y->bh y a (l.map cells).flatten) (hu:S u) {x:α} (d:l[i]?=some x) {z:Int} (au:z=i) (s:n=l.length) {K:aS->Prop}
  (k:∀ b o,(∀ y,S y->∀ (q:Nat) (v:a2),(cells x)[q]?=some v->y.cell? ⟨b,o+q,none⟩=some v)->K ⟨b,o,none⟩):bm a n z sz K:=by
 subst au s;have p:=cb d;have h:∀ r ∈ l.map cells,r.length=sz:=λr t=>by obtain ⟨y,_,rfl⟩:=cT.1 t;exact c y
 obtain ⟨b,o,rfl,A,B⟩:=(g u hu).row (sz:=sz) h f (i:=i) (r:=cells x) (by simp [d]);refine ee (by omega) (by omega) ?_;have:=k b (o+i * sz) λy w q v al=>by obtain ⟨b',C,e,_,j⟩:=(g y w).row (sz:=sz) h f (i:=i) (r:=cells x) (by simp [d]);simp at e;obtain ⟨rfl,rfl⟩:=e;exact j q v al
 simpa using this
theorem PJ {zs:ax} (au:av u b zs eS) (n:zs.length=2) (c f:Int) (l:∀ g,ao (λk=>k=b) u g->K ⟨c,f⟩ g) :
  ec u ⟨b,0,none⟩ 0 [(.int .i64 c),(.int .i64 f)]/\∀ a,a=cr u ⟨b,0,none⟩ 0 [(.int .i64 c),(.int .i64 f)]->bA.ex λr=>b6 a ⟨b,0,none⟩ 0 r.cells/\ec a ⟨b,0,none⟩ 0 r.cells/\∀ d,d=cr a ⟨b,0,none⟩ 0 r.cells->bA.ex λres=>b6 d ⟨b,0,none⟩ 0 res.cells/\d=d/\K res d:=
 dQ au (vs:=bA.cells ⟨c,f⟩) (by rw [n];rfl) (bA.single _) λa j h=>zt j λg i=>l g (h.trans i λ_ _ e=>e)
theorem Tv {l:bd} (h:bh u a (us l)) {x:Int} (d:l[i]?=some x) {z:Int} (au:z=i) (j:n=l.length) {K:aS->Prop}
  (f:∀ b o,(∀ y,ai u y->y.cell? ⟨b,o,none⟩=some (.int .u64 x))->K ⟨b,o,none⟩):bm a n z 1 K:=by
 subst au j;have g:=cb d;have c:(us l)[i]?=some (.int .u64 x):=by simp [us,d]
 rcases h with he | ⟨b,o,rfl,e⟩
 ·rw [he] at c;cases c
 ·refine ee (by omega) (by omega) ?_;have:=f b (o+i) λy k=>(bh.new k (.inr ⟨b,o,rfl,e⟩)).cell c
  simpa using this
theorem BB:∀ (b:bd) (c:List aO),il (b.take c.length) c=il b c
 | [],c=>by simp
 |x::b,[]=>by simp [il]
 |x::b,d::c=>by simp only [g7,List.take_succ_cons,il];rw [BB b c]
theorem BC:∀ (a:List aW) (b:bd) (c:List aO),hs (a.take c.length) (b.take c.length) c=hs a b c
 | [],b,c=>by simp [hs]
 |v::a,[],c=>by simp only [List.take_nil];cases c<;>simp [hs]
 |v::a,x::b,[]=>by simp [hs]
 |v::a,x::b,d::c=>by simp only [g7,List.take_succ_cons,hs];rw [BC a b c]
variable {A:a3} {w0 u:ak} {aX tb b1:Nat} {r:dv} {bN:aY} {j:cU}
structure n9 (A:a3) (w0 u z:ak) (aX tb b1:Nat) (r:dv) (bN:aY) (j:cU) (R:cq):Prop where
 di:fa w0 z aX tb r bN j
 co:∃ o:bA,av z b1 o.cells eS
 fS:∃ T,eP A w0 z tb T R.a4/\fY T
 az:ao (λk=>k=tb) u z
theorem n9.new {z b:ak} {R:cq} (h:n9 A w0 u z aX tb b1 r bN j R) (a:ai z b):n9 A w0 u b aX tb b1 r bN j R:=by obtain ⟨c,⟨o,d⟩,⟨T,e,f⟩,g⟩:=h;exact ⟨c.bz a,⟨o,ai.aj a d⟩,⟨T,e.new a,f⟩,g.new a⟩
theorem n9.Qu {c:ak} (h:n9 A w0 u z aX tb b1 r bN j R) (b:ao M z c) (a:∀ k,M k->w0.heap.size<=k/\u.heap.size<=k/\k≠aX/\k≠b1/\k≠tb):n9 A w0 u c aX tb b1 r bN j R:=by obtain ⟨d,⟨o,f⟩,⟨T,g,i⟩,l⟩:=h;exact ⟨d.az b λk e=>⟨(a k e).1,(a k e).2.2.1⟩,⟨o,b.aj f λe=>(a _ e).2.2.2.1 rfl⟩,⟨T,g.az b λe=>(a _ e).2.2.2.2 rfl,i⟩,l.trans b λk n e=>by have:=a k e;omega⟩
theorem Mj {n:ak} {vs us:List aW} (L:(cg G vs 1).ok=true) (J:n9 A w0 u z aX tb b1 r bN j (cg G vs 1)) (y:ai w0 n) (c:u.heap.size<=b1) (a:b1<n.heap.size) (M:tb<u.heap.size) (h:u.heap.size<=n.heap.size)
  {F:an} {un H:Nat} (al:bH n z F un H us) (hlen:us.length<=100000) (d:Bool) (N:ax)
  (dH:∀ v w',kL A w0 u tb u.heap.size (if d=false then ⟨true,[],(0,0),(cg G vs 1).a4,none,false⟩
   else if (cg (cg G vs 1).a4 us 1).ok=true then ⟨false,[],(7,1),(cg (cg G vs 1).a4 us 1).a4,none,false⟩ else cg (cg G vs 1).a4 us 1) v w'->Q v w') :
  W prog (sub (bp f173) [1,1,1,1,1,1,1,1,1]) (z9 ⟨aX,0,none⟩ ⟨b1,0,none⟩ F un H d N) (dD prog f173 Q) z:=by
 rw [RK];obtain ⟨q,⟨o,p⟩,⟨T,C,k⟩,s⟩:=J;cases d with
 |false=>
  refine mf p rfl 0 0 λE e=>dH _ _ ⟨rfl,?_⟩
  have I:gy A w0 u tb n.heap.size ⟨true,[],(0,0),(cg G vs 1).a4,none,false⟩ z:=⟨s,T,C,k.dE,k.c8⟩;exact I.put (ao.refl _ _) (ao.refl _ _) e c a (by omega) h
 |true=>
  have i:=rN q C k y (by omega) al hlen 1;refine aC i ?_;rintro v O ⟨dB,dc,raw,rfl,t,_⟩;have f:=t.after s;have B:av O b1 o.cells eS:=t.az.aj p (by omega);refine ⟨_,_,_,bA.aR ⟨(cg (cg G vs 1).a4 us 1).out.1,(cg (cg G vs 1).a4 us 1).out.2⟩ ⟨(cg (cg G vs 1).a4 us 1).ok,rfl,?_⟩⟩;refine dQ B rfl (bA.single _) λu8 x l=>?_
  have D:=f.put (B':=u.heap.size) (ao.refl _ _) (ao.refl _ _) l c a (by omega) h;cases b:(cg (cg G vs 1).a4 us 1).ok with
  |true=>
   obtain ⟨K,hw,_⟩:=pF b;have w:=f.ok K hw false [] (7,1);have g:=w.put (B':=n.heap.size) (ao.refl _ _) (ao.refl _ _) l c a (by omega) (cQ _);refine PJ x rfl 7 1 λE e=>dH _ _ ?_
   simp only [Bool.true_eq_false,if_false,if_true,b];exact ⟨rfl,g.put (ao.refl _ _) (ao.refl _ _) e c a (by omega) h⟩
  |false=>
   have g:=f.put (B':=n.heap.size) (ao.refl _ _) (ao.refl _ _) l c a (by omega) (cQ _);refine zt x λE e=>dH _ _ ?_
   simp only [Bool.true_eq_false,if_false,if_true,b,rn];refine ⟨?_,g.put (ao.refl _ _) (ao.refl _ _) e c a (by omega) h⟩;rw [b]
theorem Mk (g:n_ w0 bE aX tb r bN j z pa n pc gP hb (dC j) (ik j)) (V_:ai u bE) (X:ai w0 u) (Xk:eP A w0 z tb T G) (WH:fY T) (WI:av z b1 (bA.cells ⟨0,0⟩) eS)
  (V3:u.heap.size<=b1) (R:b1<bE.heap.size) (WU:tb<u.heap.size) (Xo:aX<u.heap.size) (WB:ax) (dH:∀ v w',kL A w0 u tb u.heap.size (ka j G) v w'->Q v w') :
  W prog (sub (bp f173) [1,1,1,1,1]) (z8 ⟨aX,0,none⟩ ⟨b1,0,none⟩ pa n pc none 0 0 gP n hb WB) (dD prog f173 Q) z:=by
 rw [RJ];have Wr:=V_.size;have Xw:=X.size;have Xt:=g.kd.len;have XA:=g.wl;have W7:=g.di.cf;have Xr:=W7.s3;have Xs:=W7.xM;have W9:n<=36:=by rw [Xt];unfold dC;simp only [dI,ft];omega
 have Wq:ai u z:=V_.new g.new;have V4:=rN g.di Xk WH (X.new V_) (by omega) g.kd (by omega) 1;refine aC V4 ?_;rintro v XB ⟨dB,dc,raw,rfl,I,WS,Wk,WT⟩;refine ⟨_,_,_,bA.aR ⟨(cg G (dC j) 1).out.1,(cg G (dC j) 1).out.2⟩ ⟨(cg G (dC j) 1).ok,rfl,?_⟩⟩;have WY:av XB b1 (bA.cells ⟨0,0⟩) eS:=I.az.aj WI (by omega);have Ws:=I.after (ao.b4 Wq);refine dQ WY rfl (bA.single _) λWd Wc O=>?_
 unfold ka at dH;cases E:(cg G (dC j) 1).ok with
 |false=>
  have Wt:=Ws.put (B':=bE.heap.size) (ao.refl _ _) (ao.refl _ _) O V3 R (by omega) (cQ _);refine zt Wc λXS WL=>dH _ _ ?_
  rw [if_pos E];refine ⟨?_,Wt.put (ao.refl _ _) (ao.refl _ _) WL V3 R (by omega) Wr⟩;rw [E]
 |true=>
  rw [if_neg (by rw [E];simp)] at dH;obtain ⟨Xl,hw,XM⟩:=pF E;obtain ⟨Xf,WD,Wj⟩:=I.clean Xl hw;have p:ao (λk=>k=tb\/k=b1) z Wd:=(I.az.mono λk _ e=>.inl e).trans (O.mono λk _ e=>.inr e) λ_ _ e=>e
  have Wg:n9 A w0 u Wd aX tb b1 r bN j (cg G (dC j) 1):=by
   refine ⟨g.di.az p λk e=>?_,⟨_,Wc⟩,⟨Xf,WD.az O (by omega),Wj⟩,((ao.b4 Wq).trans I.az λ_ _ e=>e).trans O λk V6 e=>by omega⟩;have W4:=g.di.kH;have W5:=g.di.ne;rcases e with e | e
   ·exact ⟨by omega,by omega⟩
   ·exact ⟨by omega,by omega⟩
  have Wu:bH bE Wd pa n pc (dC j):=g.kd.Ad g.fr p λk N e=>by have:=g.kd.gi k N;omega
  have F:a0 Wd om 1 gP n hb (us (ik j)):=g.own.az p λk N e=>by have:=g.uJ k N;omega
  obtain ⟨⟨w,Wa,B⟩,Xz,Xy⟩:=Wu;have V:=Wa.rd;have Wv:=g.fr;have Ww:=F.rd;have J:=Wg.di.new;have W8:=Wc.lt;have Xp:=Wk.1;have Xa:bE.heap.size<=Wd.heap.size:=by have W4:=g.new.size;have W5:=p.size;omega
  clear F;refine c2 mix (λq env y=>∃ (i:Nat) (V2:Bool) (Wy:an) (un Wz:Nat) (WB:ax),q=raw.length - i/\i<=raw.length/\V2=il ((ik j).take i) ((cg G (dC j) 1).done.take i)/\env=r8 ⟨aX,0,none⟩ ⟨b1,0,none⟩ pa n pc Wy un Wz gP n hb V2 dB raw.length dc raw.length i WB/\ai Wd y/\bH Wd y Wy un Wz (hs ((dC j).take i) ((ik j).take i) ((cg G (dC j) 1).done.take i))/\n9 A w0 u y aX tb b1 r bN j (cg G (dC j) 1)) raw.length
   ⟨0,false,none,0,0,_,rfl,by omega,rfl,rfl,ao.refl _ _,bH.nil _ _,Wg⟩ ?_
  rintro q env y ⟨i,V2,Wy,un,Wz,WB,rfl,XL,V5,rfl,V9,l,L⟩;rw [QL];have Xx:=l.len;have Xb:=@A2 ((dC j).take i) ((ik j).take i) ((cg G (dC j) 1).done.take i);have Xc:((dC j).take i).length<=n:=by rw [iM];omega
  refine a8 (λV6=>?_) (λXq=>?_)
  ·have C:i<raw.length:=by omega
   obtain ⟨d,ar⟩:∃ d,raw[i]?=some d:=⟨_,bD C⟩;have W_:raw.length=(dC j).length:=WT.resolve_left λe=>by rw [e] at C;simp at C
   obtain ⟨x,WW⟩:∃ x,(cg G (dC j) 1).done[i]?=some x:=⟨_,bD (by omega)⟩;obtain ⟨WA,Wb⟩:∃ WA,(ik j)[i]?=some WA:=⟨_,bD (by omega)⟩;obtain ⟨v1,V'⟩:∃ v1,(dC j)[i]?=some v1:=⟨_,bD (by omega)⟩;obtain ⟨r1,H⟩:∃ r1,w[i]?=some r1:=⟨_,bD (by have:=B.1;omega)⟩;have WK:=Wk.2 i d x ar WW;have f:=B.2 i r1 v1 H V';have s:=Wv v1 (b7 V');have W3:il ((ik j).take (i+1)) ((cg G (dC j) 1).done.take (i+1))=(il ((ik j).take i) ((cg G (dC j) 1).done.take i) || decide (d8 x≠WA)):=by rw [fc,fc,Wb,WW];exact BT (by rw [iM,iM];omega)
   have We:hs ((dC j).take (i+1)) ((ik j).take (i+1)) ((cg G (dC j) 1).done.take (i+1))=hs ((dC j).take i) ((ik j).take i) ((cg G (dC j) 1).done.take i)++(if d8 x=WA/\v1.kind=3 then [rQ v1] else []):=by rw [fc,fc,fc,Wb,WW,V'];exact BS (by rw [iM,iM];omega) (by rw [iM,iM];omega)
   refine er (cells:=bO.cells) bO.len (by omega) (WS.new (J.new V9)) ar rfl rfl λb o WG _=>bO.aR d ⟨WG,?_⟩
   refine ea (vs:=d.cells) rfl (bO.single _) λXF XC Xm WX Wo=>?_
   rintro Xd Y;have V7:ai XC Xd:=by rw [Y];exact cE _
   clear Y;have D:=(V9.new Wo).new V7;refine ⟨λy=>ai Xd y,ao.refl _ _,bO.aR d ⟨λy K=>bJ (ai.aj (V7.new K) WX) rfl,?_⟩⟩;refine Tv (Ww.new D) Wb rfl (by omega) λXG XN WF=>⟨WA,λy K=>WF y K,?_⟩
   have M:=q9 (WK.az (ao.b4 (J.new D)) λ_ _ e=>e);refine aC M ?_;rintro v XT ⟨rfl,V8⟩;have c:=D.new V8;have a:=(Wo.new V7).new V8;refine ⟨_,rfl,V8,dw (λe=>?_) (λe=>?_)⟩
   ·rw [if_neg λh=>e h.1,i'] at We;rw [bC (x:=(i:Int)+1) (by omega) (by omega)];exact ⟨raw.length - (i+1),by omega,i+1,true,Wy,un,Wz,_,rfl,by omega,by rw [W3];simp [e],rfl,c,by rw [We];exact l.new a,L.new a⟩
   ·have Wf:V2=il ((ik j).take (i+1)) ((cg G (dC j) 1).done.take (i+1)):=by rw [W3,V5];simp [e]
    have Wn:r1.Kind=v1.kind:=by rw [f.eq];rfl
    refine er (cells:=aG.cells) aG.len (by omega) (V.new c) H rfl (by have:=B.1;omega) λXH XO W6 WP=>⟨_,WP 0 _ rfl,dY (λWC=>?_) (λWC=>?_)⟩
    ·rw [if_pos ⟨e,by rw [<-Wn];exact WC⟩] at We;refine er (cells:=aG.cells) aG.len (by omega) (V.new c) H rfl (by have:=B.1;omega) λdq XP Wi Xu=>aG.aR r1 ⟨Wi,?_⟩
     refine ea (vs:=r1.cells) rfl (aG.single _) λXg XD Xn Wx Wp=>?_
     rintro XE Z;have P:ai XD XE:=by rw [Z];exact cE _
     clear Z;have WZ:=ai.aj P Wx;have t:=a0.new ((c.new Wp).new P) Wa;have Wh:∀ k,aL pa k->k≠Xg:=λk N=>by obtain ⟨cs,WJ⟩:=fM Wa N;have W4:=WJ.lt;have W5:=c.size;omega
     refine ⟨λy=>a0 y cz 9 pa n pc (dP w).flatten,t,?_⟩;refine Dy (S:=λy=>a0 y cz 9 pa n pc (dP w).flatten) (cells:=aG.cells) aG.len (by omega) (λy K=>K.rd) t H rfl (by have:=B.1;omega) λXI XQ WQ=>⟨r1.ai,λy K=>WQ y K 5 _ rfl,?_⟩
     refine Dy (S:=λy=>a0 y cz 9 pa n pc (dP w).flatten) (cells:=aG.cells) aG.len (by omega) (λy K=>K.rd) t H rfl (by have:=B.1;omega) λXJ XR WR=>⟨r1.Old,λy K=>WR y K 4 _ rfl,?_⟩
     refine kK WZ (i:=4) rfl λXU W0 Wm=>⟨t.az Wm λk N e=>Wh k N e,?_⟩
     refine kK W0 (i:=5) rfl λXe W1 WM=>?_
     have Xv:=P.size;have U:ai y Xe:=(((a.new Wp).new P).trans Wm λk V6 e=>by have:=a.size;omega).trans WM λk V6 e=>by have:=a.size;omega
     refine aG.aR { r1 with Old:=r1.ai,ai:=r1.Old } ⟨bJ W1 rfl,?_⟩;rintro XK XW WE W2;have WV:cF (λk=>k<y.heap.size) Xe { r1 with Old:=r1.ai,ai:=r1.Old } (rQ v1):=by
      refine ⟨?_,?_,λ_=>s,.inl s,λz au=>?_,f.old,f.new,f.key,f.ef,f.cap,f.kN⟩
      ·have Xh:=f.eq;rw [Xh];rfl
      ·rw [show (rQ v1).words=[] from s];exact .inl rfl
      ·rw [show (rQ v1).words=[] from s] at au;cases au
     refine bH.lQ l V9 U WV (by omega) WE W2 λap ac XV Xj WN WO=>?_
     rw [bC (x:=(i:Int)+1) (by omega) (by omega)];refine ⟨raw.length - (i+1),by omega,i+1,V2,ap,un+1,ac,_,rfl,by omega,Wf,rfl,WO,by rw [We];exact Xj,(L.new U).Qu WN λk N=>?_⟩;have:=l.gi k N;exact ⟨by omega,by omega,by omega,by omega,by omega⟩
    ·rw [if_neg λh=>WC (by rw [Wn];exact h.2),i'] at We;rw [bC (x:=(i:Int)+1) (by omega) (by omega)];exact ⟨raw.length - (i+1),by omega,i+1,V2,Wy,un,Wz,_,rfl,by omega,Wf,rfl,c,by rw [We];exact l.new a,L.new a⟩
  ·have Wl:i=(cg G (dC j) 1).done.length:=by omega
   rw [Wl,hx,BB] at V5;rw [Wl,hx,BC] at l;have Xi:=@A2 (dC j) (ik j) (cg G (dC j) 1).done;refine Mj E L J V3 (by omega) WU (by omega) l (by omega) V2 _ λv w' al=>dH v w' ?_
   rw [V5] at al;exact al
end
section
abbrev E4:TypeId:=274
theorem OD (a:fa w0 u aX tb r bN j) (Wu:eP A w0 u tb T G) (Wk:fY T) :
  a9 173 [ptr aX] u (kL A w0 u tb u.heap.size (ka j G)):=by
 refine bc Tryz.func173 ?_;rw [ptr,SL];rintro b1 bE Wi V';obtain ⟨L,J⟩:=bl Wi V';have L:av bE b1 (bA.cells ⟨0,0⟩) eS:=L;clear V';have X:=a.bz J;have Wh:=Wu.new J;have hlen:=a.bM.bQ.len;have WE:=J.size;have Wn:=L.lt;have Wr:=Wu.aj.lt;have Z:=a.cf;have Wy:=Z.a1;have Wz:=Z.s3;have WA:=Z.xM;have Wm:=a.bM.a1;have w:=a.mem;have WD:=Z.ef bN (b7 w);have P:dN bN.cn:=by unfold dN;omega
 have Wv:=X.new.size;have V6:sq j=bN:=by
  unfold sq;cases V7:j.v.mem with
  |nil=>rw [V7] at w;cases w
  |cons x xs=>rw [V7] at w;simp at w;subst w;rfl
 refine ⟨_,_,_,X.aj.cell (i:=6) rfl,?_⟩;refine c2 mix (λq env z=>∃ (i:Nat) (pa:an) (pc:Nat) (gP:an) (hb:Nat) (Wb:ax),q=j.writes.length - i/\i<=j.writes.length/\env=wW ⟨aX,0,none⟩ ⟨b1,0,none⟩ pa i pc none 0 0 gP i hb r.eu r.dO r.gX r.dO i Wb/\n_ w0 bE aX tb r bN j z pa i pc gP hb ((j.writes.take i).map (lI j)) ((j.writes.take i).map (·.Head))) j.writes.length
  ⟨0,none,0,none,0,_,rfl,by omega,rfl,⟨X,ao.refl _ _,bH.nil _ _,(λx Wa=>by simp at Wa),a0.nil _ _ _,(λk WC=>absurd WC nA),rfl⟩⟩ ?_
 rintro q env z ⟨i,pa,pc,gP,hb,Wb,rfl,WB,rfl,g⟩;rw [QJ,hlen];refine a8 (λWo=>?_) (λWl=>?_)
 ·obtain ⟨p,K⟩:∃ p,j.writes[i]?=some p:=⟨_,bD (by omega)⟩;have H:=b7 K;have F:=Z.wl p H;have Wp:=Z.Hc p H;have Wq:=a.bM.bQ.u64 p H;refine er (cells:=aK.cells) aK.len (by omega) (a.bM.bQ.rd.new g.di.new) K rfl rfl λb o Y _=>aK.aR p ⟨Y,?_⟩
  refine ea (vs:=p.cells) rfl (aK.single _) λO Ws Wj M V3=>?_
  rintro Wc e;have B:ai Ws Wc:=by rw [e];exact cE _
  clear e;have d:=V3.new B;refine ⟨λy=>av y O p.cells et/\fa w0 y aX tb r bN j,⟨ai.aj B M,g.di.bz d⟩,aK.aR p ⟨λy C=>bJ C.1 rfl,_,λy C=>C.2.aj.cell (i:=0) rfl,?_⟩⟩;refine aC (yH Wc p Wp.1 (by omega)) ?_;rintro v WH ⟨rfl,V8⟩;refine ⟨_,_,rfl,?_⟩;rintro Ww U;have V9:ai WH Ww:=by rw [U];exact cE _
  clear U;have R:=(d.new V8).new V9;have n:=ai.aj ((B.new V8).new V9) M;have t:=g.di.bz R;refine ⟨λy=>av y O p.cells et/\fa w0 y aX tb r bN j,⟨n,t⟩,aY.aR bN ⟨λy C=>bJ C.2.aj rfl,_,λy C=>C.1.cell (i:=0) rfl,_,λy C=>C.1.cell (i:=1) rfl,?_⟩⟩;refine aC (ra Ww F.1 F.2) ?_;rintro v Wt ⟨rfl,rfl⟩;refine ⟨_,rfl,⟨n,t⟩,?_⟩;rw [Wm];have V4:cF (λ_=>False) Wt ⟨3,0,p.bo * 8,0,p.Head,eK p.Head j.a1,none,0,0,0,0⟩ ⟨3,0,p.bo * 8,0,p.Head,eK p.Head j.a1,[],0,0⟩:=pT (.inl rfl) rfl (by omega) (λ_=>rfl) (λx Wa=>by cases Wa) (by simp) Wq (Du _ _);have f:=sJ t P V4;refine aC f ?_;rintro v WI ⟨bj,rfl,I,c⟩;refine aG.aR bj ⟨rfl,⟨ai.aj c n,t.bz c⟩,?_⟩;rintro Wx WJ W V5;have V:=g.bz R;have D:addr j.v.number bN ⟨3,0,p.bo * 8,0,p.Head,eK p.Head j.a1,[],0,0⟩=lI j p:=by unfold lI;rw [V6]
  rw [D] at I;refine V.push c I rfl (by omega) (by omega) (ai.aj c n) (by decide) (by decide) (y:=p.Head) (S:=λy=>av y O p.cells et/\fa w0 y aX tb r bN j) (λN Wf Wg=>⟨Wf,Wg⟩) W V5 (rd:=λN y=>N.cell? ⟨O,1,none⟩=some (.int .u64 y)) (λN h=>h.cell (i:=1) rfl) λap ac WF dq WG jB ff N E=>?_
  rw [bC (x:=(i:Int)+1) (by omega) (by omega)];have Wd:(j.writes.take i).map (lI j)++[lI j p]=(j.writes.take (i+1)).map (lI j):=by rw [fc,K];simp
  have We:(j.writes.take i).map (·.Head)++[p.Head]=(j.writes.take (i+1)).map (·.Head):=by rw [fc,K];simp
  rw [Wd,We] at E;exact ⟨j.writes.length - (i+1),by omega,i+1,ap,ac,jB,ff,_,rfl,by omega,by rw [<-hlen];rfl,E⟩
 ·have V2:i=j.writes.length:=by omega
  subst V2;simp only [hx] at g;rw [Q8];have V_:=a.bM.len;refine ⟨_,_,_,g.di.aj.cell (i:=5) rfl,?_⟩;refine c2 mix (λq env z=>∃ (i:Nat) (pa:an) (pc:Nat) (gP:an) (hb:Nat) (Wb:ax),q=j.reads.length - i/\i<=j.reads.length/\env=wX ⟨aX,0,none⟩ ⟨b1,0,none⟩ pa (j.writes.length+i) pc none 0 0 gP (j.writes.length+i) hb r.Reads r.jX r.m8 r.jX i Wb/\n_ w0 bE aX tb r bN j z pa (j.writes.length+i) pc gP hb (j.writes.map (lI j)++(j.reads.take i).map (n4 j)) (j.writes.map (·.Head)++(j.reads.take i).map (·.Head))) j.reads.length
   ⟨0,pa,pc,gP,hb,_,rfl,by omega,rfl,by rw [List.take_zero,tj,tj,i',i'];exact g⟩ ?_
  rintro q env z ⟨i,pa,pc,gP,hb,Wb,rfl,WB,rfl,g⟩;rw [QK,V_];refine a8 (λWo=>?_) (λWl=>?_)
  ·obtain ⟨p,K⟩:∃ p,j.reads[i]?=some p:=⟨_,bD (by omega)⟩;have H:=b7 K;have F:=Z.oK p H;refine er (cells:=eQ.cells) eQ.len (by omega) (a.bM.rd.new g.di.new) K rfl rfl λb o Y _=>eQ.aR p ⟨Y,?_⟩
   refine ea (vs:=p.cells) rfl (eQ.single _) λO Ws Wj M V3=>?_
   rintro Wc e;have B:ai Ws Wc:=by rw [e];exact cE _
   clear e;have d:=V3.new B;have l:=ai.aj B M;have s:=g.di.bz d;refine ⟨λy=>av y O p.cells E4/\fa w0 y aX tb r bN j,⟨l,s⟩,aY.aR bN ⟨λy C=>bJ C.2.aj rfl,_,λy C=>C.1.cell (i:=0) rfl,?_⟩⟩;refine aC (ra Wc F.1 F.2) ?_;rintro v Wt ⟨rfl,rfl⟩;refine ⟨_,rfl,⟨l,s⟩,?_⟩;have V4:cF (λ_=>False) Wt ⟨1,0,p.bo * 8,1,0,0,none,0,0,0,0⟩ ⟨1,0,p.bo * 8,1,0,0,[],0,0⟩:=pT (.inl rfl) rfl (by omega) (λ_=>rfl) (λx Wa=>by cases Wa) (by simp) hf hf;have f:=sJ s P V4;refine aC f ?_;rintro v WI ⟨bj,rfl,I,c⟩;refine aG.aR bj ⟨rfl,⟨ai.aj c l,s.bz c⟩,?_⟩;rintro Wx WJ W V5;have V:=g.bz d;have D:addr j.v.number bN ⟨1,0,p.bo * 8,1,0,0,[],0,0⟩=n4 j p:=by unfold n4;rw [V6]
   rw [D] at I;refine V.push c I rfl (by omega) (by omega) (ai.aj c l) (by decide) (by decide) (y:=p.Head) (S:=λy=>av y O p.cells E4/\fa w0 y aX tb r bN j) (λN Wf Wg=>⟨Wf,Wg⟩) W V5 (rd:=λN y=>N.cell? ⟨O,1,none⟩=some (.int .u64 y)) (λN h=>h.cell (i:=1) rfl) λap ac WF dq WG jB ff N E=>?_
   rw [bC (x:=(i:Int)+1) (by omega) (by omega)];have Wd:j.writes.map (lI j)++(j.reads.take i).map (n4 j)++[n4 j p]=j.writes.map (lI j)++(j.reads.take (i+1)).map (n4 j):=by rw [fc,K];simp
   have We:j.writes.map (·.Head)++(j.reads.take i).map (·.Head)++[p.Head]=j.writes.map (·.Head)++(j.reads.take (i+1)).map (·.Head):=by rw [fc,K];simp
   rw [Wd,We] at E;exact ⟨j.reads.length - (i+1),by omega,i+1,ap,ac,jB,ff,_,rfl,by omega,by rw [<-V_];rfl,E⟩
  ·have V2:i=j.reads.length:=by omega
   subst V2;simp only [hx] at g;have Q:=g.new;refine Mk g J a.new (Wh.new Q) Wk (ai.aj Q L) (by omega) Wn Wr a.aj.lt _ λv w' al=>al
end
end Go.Proofs.YtmkljjbioomepaaGreat
