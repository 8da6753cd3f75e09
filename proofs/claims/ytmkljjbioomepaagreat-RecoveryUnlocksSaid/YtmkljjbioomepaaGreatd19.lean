import Derived.Test.YtmkljjbioomepaaGreatProg
import Derived.Test.YtmkljjbioomepaaGreatd03
import Derived.Test.YtmkljjbioomepaaGreatd18
set_option linter.all false
set_option maxHeartbeats 4000000
set_option maxRecDepth 100000
namespace Go.Proofs.YtmkljjbioomepaaGreat
open Go.Proofs.Tryz Go.bs
variable {A M:a6} {B b aY i n pc ho tb:Nat} {G:List (List aM)} {K:bF->aF} {Q:cz} {R:cr} {S:aF} {T:gn} {a a2 g0:an} {j:c0} {bS:a0} {r:dt} {u bw bG w0 z:ak} {vs:List aQ}
section
open IntKind
variable (w:ak) (R:cz) {a b c d e f g h:Nat} {A B:aX} {s t u v:an} {i k:Int} {j:ar} {F:Bool}
def xe (e s2:aX) (n:an) (a b:Nat) (o:an) (c d:Nat) (p:an) (f g:Nat) (h:an) (i k:Nat) (l m:Int) (j:ar):ar:=.pointer (some e)::ag j 0 1 (.pointer (some s2)::ag j 1 1 (ae n a b::ae o c d::ae p f g::ag j 2 15 (ae h i k::ab l::ab m::ag j 17 130 [])))
def Ga (a b:aX) (e:an) (c d:Nat) (k:an) (f g:Nat) (l:an) (h i:Nat) (j:ar):ar:=.pointer (some a)::ag j 0 1 (.pointer (some b)::ag j 1 1 (ae e c d::ae k f g::ae l h i::ag j 2 148 []))
def xf (e s2:aX) (n:an) (a b:Nat) (o:an) (c d:Nat) (p:an) (f g:Nat) (h:an) (i k:Nat) (l m:Int) (j:ar):ar:=.pointer (some e)::ag j 0 1 (.pointer (some s2)::ag j 1 1 (ae n a b::ae o c d::ae p f g::ag j 2 57 (ae h i k::ab l::ab m::ag j 59 88 [])))
def Aq (a b:aX) (e:an) (c d:Nat) (k:an) (f g:Nat) (l:an) (h i:Nat) (j:ar):ar:=.pointer (some a)::ag j 0 1 (.pointer (some b)::ag j 1 1 (ae e c d::ae k f g::ae l h i::ag j 2 148 []))
def si (e s2:aX) (o:an) (a b:Nat) (p:an) (c d:Nat) (q:an) (f g:Nat) (h:Bool) (i:an) (k l:Nat) (m n:Int) (j:ar):ar:=.pointer (some e)::ag j 0 1 (.pointer (some s2)::ag j 1 1 (ae o a b::ae p c d::ae q f g::ag j 2 7 (ad h::ag j 9 84 (ae i k l::ab m::ab n::ag j 93 53 []))))
def Ar (a b:aX) (e:an) (c d:Nat) (f:Bool) (j:ar):ar:=.pointer (some a)::ag j 0 1 (.pointer (some b)::ag j 1 2 (ae e c d::ag j 3 8 (ad f::ag j 11 140 [])))
theorem Uj:bf prog f173 [ba a] R w=(aS w #[ab 0,ab 0] 171 λf e=>b_ e (af a 6) λd b c=>cG prog (c7 f173 [1,1,1,0,1,0,0]) (xe (af a 0) (af f 0) none 0 0 none 0 0 none 0 0 d b c (b:Nat) 0 (undef::ad false::bD 11 (jp (af a 0)::jp (af a 0)::jp (af a 0)::jp (af a 6)::bD 130 []))) (aP 0 (aU f173 [1,1,1,1] R)) e):=by kernel_rfl
theorem Sq (N:ar->aF):W prog (sb f173 [1,1,1,0,1,0,0]) (xe A B s a b t c d u e f v g h i k j) (aZ N (aP 0 (aU f173 [1,1,1,1] R))) w=(cond (k<i) (bA v g k 9 λK=>hI w K λr=>aS w #[ab 0,ah 0,ah 0,ah 0,ah 0,ah 0,ah 0,ah 0,ah 0] 73 λD U=>a_ U (af D 0) 0 r.cells λX=>cw X λJ C=>uV C (af D 0) λQ=>cV C A λn=>hH 211 #[Q.val,ab n] J λo p Z=>cw Z λY F=>hp F (bY A 8) λS=>cV F (af D 0) λq=>j1 F (af D 1) λl=>ct 108 #[ab q] Y λm V=>F V/\eM 212 #[.pointer (some A),S.val,.agg #[ab 3,ab 0,ab m,ab 0,ah l,ah o,a5,ah 0,ab 0]] V λL I=>F I/\aS I L.cells.toArray 158 λP a9=>F a9/\db 125 (ae s a b) (ae (bo P) 1 1) a9 λG E x H=>F H/\dX H (af D 1) λy=>aS H #[ah y] 30 λM Xv=>db 94 (ae u e f) (ae (bo M) 1 1) Xv λz T O a'=>N (xe A B G E x t c d z T O v g h i (i64.wrap (k+1)) (aO j 0::aO j 1::aO j 2::jp (af D 0)::ah o::ab p::ag j 6 11 (ad (k<i)::jp K::r.val::.tuple #[ah o,ab p]::Q.val::jp A::jp A::jp A::jp A::ab n::.tuple #[ah o,ab p]::ah o::ab p::ae s a b::jp A::jp A::jp A::bL A 8::S.val::jp (af D 0)::ab q::ab m::jp (af D 1)::ah l::ah o::.agg #[ab 3,ab 0,ab m,ab 0,ah l,ah o,a5,ah 0,ab 0]::L.val::ae (bo P) 1 1::ae G E x::ae u e f::jp (af D 1)::ah y::ae (bo M) 1 1::ae z T O::ab (i64.wrap (k+1))::ag j 52 95 []))) a') (W prog (sb f173 [1,1,1,1]) (Ga A B s a b t c d u e f (ag j 0 17 (ae v g h::ab i::ab k::ad (k<i)::ag j 18 129 []))) (b7 f173 R) w)):=by kernel_rfl
theorem Tk:W prog (sb f173 [1,1,1,1]) (Ga A B s a b t c d u e f j) (b7 f173 R) w=(b_ w (bY A 5) λk l m=>cG prog (c7 f173 [1,1,1,1,0,1,0,0]) (xf A B s a b t c d u e f k l m (l:Nat) 0 (ag j 0 55 (jp A::jp A::jp A::bL A 5::ag j 62 88 []))) (aP 2 (aU f173 [1,1,1,1,1] R)) w):=by kernel_rfl
theorem Sr (M:ar->aF):W prog (sb f173 [1,1,1,1,0,1,0,0]) (xf A B s a b t c d u e f v g h i k j) (aZ M (aP 2 (aU f173 [1,1,1,1,1] R))) w=(cond (k<i) (bA v g k 2 λK=>AT w K λr=>aS w #[ab 0,ah 0] 274 λD P=>a_ P (af D 0) 0 r.cells λO=>cw O λS E=>hp E (bY A 8) λy=>cV E (af D 0) λn=>ct 108 #[ab n] S λo a'=>E a'/\eM 212 #[.pointer (some A),y.val,.agg #[ab 1,ab 0,ab o,ab 1,ah 0,ah 0,a5,ah 0,ab 0]] a' λz H=>E H/\aS H z.cells.toArray 158 λa9 N=>E N/\db 125 (ae s a b) (ae (bo a9) 1 1) N λF p q G=>E G/\dX G (af D 1) λl=>aS G #[ah l] 30 λL Q=>db 94 (ae u e f) (ae (bo L) 1 1) Q λm C x T=>M (xf A B F p q t c d m C x v g h i (i64.wrap (k+1)) (ag j 0 7 (jp (af D 0)::ag j 8 51 (ad (k<i)::jp K::r.val::ae s a b::jp A::jp A::jp A::bL A 8::y.val::jp (af D 0)::ab n::ab o::.agg #[ab 1,ab 0,ab o,ab 1,ah 0,ah 0,a5,ah 0,ab 0]::z.val::ae (bo a9) 1 1::ae F p q::ae u e f::jp (af D 1)::ah l::ae (bo L) 1 1::ae m C x::ab (i64.wrap (k+1))::ag j 81 66 [])))) T) (W prog (sb f173 [1,1,1,1,1]) (Aq A B s a b t c d u e f (ag j 0 59 (ae v g h::ab i::ab k::ad (k<i)::ag j 60 87 []))) (b7 f173 R) w)):=by kernel_rfl
theorem Tl:W prog (sb f173 [1,1,1,1,1]) (Aq A B s a b t c d u e f j) (b7 f173 R) w=(Calls prog 213 #[.pointer (some A),ae s a b,ab 1] w λg q=>∃ k l m,bF.ex λo=>∃ n,g=.returned (.tuple #[ae k l m,o.val,ad n])/\a_ q B 0 o.cells λi=>cond (!n) (dY i B λr=>a_ i B 0 r.cells λh=>dY h B λp=>h=h/\R (.tuple #[p.val,ad false]) h) (cG prog (c7 f173 [1,1,1,1,1,1,1,1,0,1,0,0]) (si A B s a b t c d u e f false k l m (l:Nat) 0 (aO j 0::ad n::ag j 2 6 (ae k l m::ag j 10 74 (.tuple #[ae k l m,o.val,ad n]::jp A::ae s a b::.tuple #[ae k l m,o.val,ad n]::ae k l m::o.val::ad n::ad n::ad (!n)::aO j 93::ag j 97 53 [])))) (aP 4 (aU f173 [1,1,1,1,1,1,1,1,1] R)) i)):=by kernel_rfl
theorem Ss (K:ar->aF):W prog (sb f173 [1,1,1,1,1,1,1,1,0,1,0,0]) (si A B s a b t c d u e f F v g h i k j) (aZ K (aP 4 (aU f173 [1,1,1,1,1,1,1,1,1] R))) w=(cond (k<i) (bA v g k 2 λa'=>pN w a' λr=>aS w #[ab 0,a5] 131 λH J=>a_ J (af H 0) 0 r.cells λV=>cw V λZ E=>xZ E (af H 0) λa9=>bA u e k 1 λy=>j1 E y λx=>jB 196 #[a9.val] Z λo G=>E G/\cond (o != x) (K (si A B s a b t c d u e f true v g h i (i64.wrap (k+1)) (ag j 0 9 (ab k::jp (af H 0)::ag j 11 82 (ad (k<i)::ab k::jp a'::r.val::ad ((o:Int) != x)::a9.val::ah o::ae u e f::ab k::jp y::ah x::ad ((o:Int) != x)::ag j 105 27 (ab (i64.wrap (k+1))::ag j 133 13 []))))) G) (bA s a k 9 λz=>bX G z λp=>cond (p == 3) (bA s a k 9 λI=>l4 G I λS=>aS G #[ab 0,ab 0,ab 0,ab 0,ah 0,ah 0,a5,ah 0,ab 0] 158 λD X=>a_ X (af D 0) 0 S.cells λXw=>cw Xw λXv L=>bA s a k 9 λM=>j1 L (bY M 5) λq=>bA s a k 9 λN=>j1 L (bY N 4) λl=>cP Xv (af D 4) (ah q) λO=>L O/\cP O (af D 5) (ah l) λQ=>l4 Q (af D 0) λT=>aS Q T.cells.toArray 158 λP Y=>db 125 (ae t c d) (ae (bo P) 1 1) Y λC m n U=>K (si A B s a b C m n u e f F v g h i (i64.wrap (k+1)) (ag j 0 9 (ab k::jp (af H 0)::jp (af D 0)::ag j 12 81 (ad (k<i)::ab k::jp a'::r.val::ad ((o:Int) != x)::a9.val::ah o::ae u e f::ab k::jp y::ah x::ad ((o:Int) != x)::ad ((p:Int) == 3)::ae s a b::ab k::jp z::jp z::ab p::ad ((p:Int) == 3)::ae s a b::ab k::jp I::S.val::ae s a b::ab k::jp M::bL M 5::ah q::ae s a b::ab k::jp N::bL N 4::ah l::jp (af D 4)::jp (af D 5)::ae t c d::T.val::ae (bo P) 1 1::ae C m n::ab (i64.wrap (k+1))::ag j 133 13 [])))) U) (K (si A B s a b t c d u e f F v g h i (i64.wrap (k+1)) (ag j 0 9 (ab k::jp (af H 0)::ag j 11 82 (ad (k<i)::ab k::jp a'::r.val::ad ((o:Int) != x)::a9.val::ah o::ae u e f::ab k::jp y::ah x::ad ((o:Int) != x)::ad ((p:Int) == 3)::ae s a b::ab k::jp z::jp z::ab p::ad ((p:Int) == 3)::ag j 112 20 (ab (i64.wrap (k+1))::ag j 133 13 []))))) G))) (W prog (sb f173 [1,1,1,1,1,1,1,1,1]) (Ar A B t c d F (aO j 0::aO j 1::ae s a b::ae u e f::ag j 2 91 (ae v g h::ab i::ab k::ad (k<i)::ag j 94 52 []))) (b7 f173 R) w)):=by kernel_rfl
theorem Tm:W prog (sb f173 [1,1,1,1,1,1,1,1,1]) (Ar A B s a b F j) (b7 f173 R) w=(cond (!F) (a_ w B 0 [ab 0,ab 0] λc=>dY c B λl=>c=c/\R (.tuple #[l.val,ad true]) c) (Calls prog 213 #[.pointer (some A),ae s a b,ab 1] w λe u=>∃ g h i,bF.ex λm=>∃ k,e=.returned (.tuple #[ae g h i,m.val,ad k])/\a_ u B 0 m.cells λp=>cond k (a_ p B 0 [ab 7,ab 1] λq=>dY q B λr=>a_ q B 0 r.cells λd=>dY d B λn=>d=d/\R (.tuple #[n.val,ad false]) d) (dY p B λt=>a_ p B 0 t.cells λf=>dY f B λo=>f=f/\R (.tuple #[o.val,ad false]) f))):=by kernel_rfl
end
section
def sB (j:c0):a0:=j.v.mem.headD jW
def lT (j:c0) (p:aK):aQ:=addr j.v.number (sB j) ⟨3,0,p.bm * 8,0,p.Head,eK p.Head j.aW,[],0,0⟩
def n7 (j:c0) (s:eQ):aQ:=addr j.v.number (sB j) ⟨1,0,s.bm * 8,1,0,0,[],0,0⟩
def dG (j:c0):List aQ:=j.writes.map (lT j)++j.reads.map (n7 j)
def rg (j:c0):a8:=j.writes.map (·.Head)++j.reads.map (·.Head)
def r9 (v:aQ):aQ:={ v with old:=v.new,new:=v.old }
def hT:List aQ->a8->List aM->List aQ
 |v::vs,x::xs,d::ds=>(if eb d=x/\v.kind=3 then [r9 v] else [])++hT vs xs ds
 | _,_,_=>[]
def iB:a8->List aM->Bool
 |x::xs,d::ds=>decide (eb d≠x) || iB xs ds
 | _,_=>false
def kl (j:c0) (G:List (List aM)):cr:=
 if (cm G (dG j) 1).ok=false then cm G (dG j) 1
 else if iB (rg j) (cm G (dG j) 1).done=false then ⟨true,[],(0,0),(cm G (dG j) 1).a7,none,false⟩
 else if (cm (cm G (dG j) 1).a7 (hT (dG j) (rg j) (cm G (dG j) 1).done) 1).ok=true then ⟨false,[],(7,1),(cm (cm G (dG j) 1).a7 (hT (dG j) (rg j) (cm G (dG j) 1).done) 1).a7,none,false⟩
 else cm (cm G (dG j) 1).a7 (hT (dG j) (rg j) (cm G (dG j) 1).done) 1
theorem Cn:∀ {a:List aQ} {b:a8} {c:List aM} {v:aQ} {x:Int} {d:aM},a.length=c.length->b.length=c.length->hT (a++[v]) (b++[x]) (c++[d])=hT a b c++(if eb d=x/\v.kind=3 then [r9 v] else [])
 | [],[],[],v,x,d,_,_=>by simp [hT]
 | _::a,_::b,_::c,v,x,d,e,f=>by simp only [List.cons_append,hT];rw [Cn (by simpa using e) (by simpa using f),lF]
 | [],_,_::_,_,_,_,h,_=>by simp at h
 | _::_,_,[],_,_,_,h,_=>by simp at h
 | _,[],_::_,_,_,_,_,h=>by simp at h
 | _,_::_,[],_,_,_,_,h=>by simp at h
theorem Co:∀ {b:a8} {c:List aM} {x:Int} {d:aM},b.length=c.length->iB (b++[x]) (c++[d])=(iB b c || decide (eb d≠x))
 | [],[],x,d,_=>by simp [iB]
 | _::b,_::c,x,d,h=>by simp only [List.cons_append,iB];rw [Co (by simpa using h),Bool.or_assoc]
 | [],_::_,_,_,h=>by simp at h
 | _::_,[],_,_,h=>by simp at h
theorem Bk:∀ {a:List aQ} {b:a8} {c:List aM},(hT a b c).length<=a.length
 |v::a,y::b,d::c=>by
  have:=@Bk a b c;unfold hT;rw [dy];split
  ·simp;omega
  ·simp;omega
 | [],_,_=>by simp [hT]
 | _::_,[],_=>by simp [hT]
 | _::_,_::_,[]=>by simp [hT]
theorem bK.Az {cap:Nat} (h:bK w0 u a n cap vs) (c:∀ x ∈ vs,x.words=[]) (g:ao M u bw) (l:∀ k,aL a k->¬ M k):bK w0 bw a n cap vs:=by obtain ⟨⟨cp,q,al⟩,p,o⟩:=h;refine ⟨⟨cp,q.aA g l,al.1,λi v x j f=>?_⟩,p,o⟩;have b:=al.2 i v x j f;have he:=c x (b5 f);have d:cL (λk=>M k\/(k<w0.heap.size\/aL a k)) u v x:=⟨b.eq,b.rd,b.nil,.inl he,b.wf,b.new,b.old,b.key,b.ee,b.cap,b.kV⟩;exact (d.aA (g.mono λk _ e=>.inl e) λ_ _ e=>e).mono λk e=>.inr e
theorem gJ.after {a b:ak} (h:gJ A w0 a tb B R b) (c:ao (λk=>k=tb) u a):gJ A w0 u tb B R b:=
 ⟨c.trans h.aA λ_ _ e=>e,h.fY⟩
theorem zQ {o:bF} (au:av u b o.cells eR) (f:∀ e,ao (λk=>k=b) u e->K o e) :
  bF.ex λr=>cf u ⟨b,0,none⟩ 0 r.cells/\eh u ⟨b,0,none⟩ 0 r.cells/\∀ a,a=cu u ⟨b,0,none⟩ 0 r.cells->bF.ex λres=>cf a ⟨b,0,none⟩ 0 res.cells/\a=a/\K res a:=
 bF.aT o ⟨bO au rfl,dQ au rfl (bF.single _) λa d c=>bF.aT o ⟨bO d rfl,rfl,f a c⟩⟩
structure od (w0 bG:ak) (aY tb:Nat) (r:dt) (bS:a0) (j:c0) (z:ak) (a2:an) (n pc:Nat) (g0:an) (ho:Nat) (vs:List aQ) (ws:a8):Prop where
 dh:fa w0 z aY tb r bS j
 new:ai bG z
 kn:bK bG z a2 n pc vs
 fB:∀ x ∈ vs,x.words=[]
 own:a1 z ou 1 g0 n ho (us ws)
 uS:∀ k,aL g0 k->bG.heap.size<=k
 wl:ws.length=n
theorem od.bB {w0 bG:ak} {aY tb:Nat} {r:dt} {bS:a0} {j:c0} {z b:ak} {a2:an} {n pc:Nat} {g0:an} {ho:Nat} {vs:List aQ} {ws:a8} (h:od w0 bG aY tb r bS j z a2 n pc g0 ho vs ws) (a:ai z b):od w0 bG aY tb r bS j b a2 n pc g0 ho vs ws:=
 ⟨h.dh.bB a,h.new.new a,h.kn.new a,h.fB,a1.new a h.own,h.uS,h.wl⟩
theorem od.push {F:ak} {ws:a8} (h:od w0 bG aY tb r bS j z a2 n pc g0 ho vs ws) (E:ai z F) {v:aG} {x:aQ} (al:cL (λk=>k<z.heap.size) F v x) (Xv:x.words=[]) (XI:n<=1000) (XD:w0.heap.size<=bG.heap.size)
  {P:Nat} {cs:ax} {D:TypeId} (s:av F P cs D) (U:D≠cF) (XB:D≠ou) {y:Int} (Xy:∀ l,av l P cs D->fa w0 l aY tb r bS j->S l) {b1:Nat} {Q:ak} (XC:b1=F.heap.size) (au:Q=F.alloc (.cells v.cells.toArray cF)) {rd:ak->Int->Prop} (Y:∀ l,av l P cs D->rd l y) {N:an->Nat->Nat->ak->Int->Nat->ak->an->Nat->Nat->aF}
  (XA:∀ ap ac d p o jN fi l,od w0 bG aY tb r bS j l ap (n+1) ac jN fi (vs++[x]) (ws++[y])->N ap (n+1) ac d y p o jN (n+1) fi l) :
  S Q/\∃ (ap:an) (da ac:Nat),∃ d,(Builtin.append_ #[gI,gI] gI #[(.slice a2 n pc),(.slice (some ⟨b1,0,none⟩) 1 1)]).run prog Q=.ok (.slice ap da ac) d/\S d/\∃ y:Int,rd d y/\∀ p o,p=d.heap.size->o=d.alloc (.cells #[(.int .u64 y)] ou)->∃ (jN:an) (Xw fi:Nat),∃ R,(Builtin.append_ #[94,94] 94 #[(.slice g0 n ho),(.slice (some ⟨p,0,none⟩) 1 1)]).run prog o=.ok (.slice jN Xw fi) R/\N ap da ac d y p o jN Xw fi R:=by
 have M:ai F Q:=by rw [au];exact hy _ _
 have t:=h.dh.bB E;refine ⟨Xy _ (ai.aj M s) (t.bB M),?_⟩;have XG:=E.size;refine bK.l3 h.kn h.new E al (by omega) XC au λap G d Xx w I=>?_
 have K:=h.kn;have B:∀ k,aL a2 k->bG.heap.size<=k/\∃ cs,av z k cs cF:=λk c=>by obtain ⟨cp,X,_⟩:=K.ex;exact ⟨K.gv k c,fT X c⟩
 have q:av d P cs D:=w.aj s λe=>by obtain ⟨_,i,a⟩:=B _ e;exact (ai.aj E a).ne s (λe=>U e.symm) rfl
 have u:fa w0 d aY tb r bS j:=t.aA w λk c=>by
  obtain ⟨XH,i,a⟩:=B k c;refine ⟨by omega,λe=>?_⟩
  exact (e▸ai.aj E a).ne t.aj (by decide) rfl
 refine ⟨Xy _ q u,y,Y _ q,?_⟩;rintro p o V O;obtain ⟨C,b⟩:=bl V O;have C:av o p (us [y]) ou:=C;clear O;have g:a1 d ou 1 g0 n ho (us ws):=(a1.new E h.own).aA w λk c e=>by obtain ⟨_,i,a⟩:=B k e;obtain ⟨T,f⟩:=fT h.own c;exact a.ne f (by decide) rfl
 refine tz (a1.new b g) (l2:=[y]) (m:=1) (fu C rfl) rfl (by omega) λjN fi R Xz A W=>?_
 have XF:=I.size;have H:∀ k,aL jN k->bG.heap.size<=k:=λk c=>by
  rcases W k c with e | e
  ·exact h.uS k e
  ·have:=b.size;omega
 have J:∀ gh ∈ vs++[x],gh.words=[]:=λgh Z=>by
  rcases iq.1 Z with e | e
  ·exact h.fB gh e
  ·simp at e;subst e;exact Xv
 have L:∀ k,aL g0 k->∃ cs,av o k cs ou:=λk c=>fT (a1.new b g) c
 refine XA ap G d p o jN fi R ⟨(u.bB b).aA A λk c=>?_,(I.new b).trans A λk XE e=>by have:=h.uS k e;omega,(Xx.new b).Az J A λk c e=>?_,J,Xz,H,by rw [dy,h.wl];rfl⟩
 ·obtain ⟨i,a⟩:=L k c;refine ⟨by have:=h.uS k c;omega,λe=>?_⟩
  exact (e▸a).ne (u.bB b).aj (by decide) rfl
 ·obtain ⟨i,a⟩:=L k e;obtain ⟨cp,X,_⟩:=(Xx.new b).ex;obtain ⟨T,f⟩:=fT X c;exact a.ne f (by decide) rfl
end
section
theorem pK {f:Int} (h:(cm G vs f).ok=true):(cm G vs f).ask=none/\(cm G vs f).dD=false/\(cm G vs f).out=(0,0):=by
 unfold cm at h ⊢;split at h
 ·cases h
 ·rename_i a;rw [if_neg a];split at h
  ·cases h
  ·rename_i b;rw [if_neg b];exact ⟨rfl,rfl,rfl⟩
theorem gJ.ok (h:gJ A w0 u tb B R bw) (e:R.ask=none) (hw:R.dD=false) (k:Bool) (d:List aM) (o:Int×Int):gJ A w0 u tb B ⟨k,d,o,R.a7,none,false⟩ bw:=by obtain ⟨f,c,g,b,a⟩:=h;rw [e] at a;exact ⟨f,c,g,by rw [b,hw],a⟩
theorem gJ.clean (h:gJ A w0 u tb B R bw) (d:R.ask=none) (hw:R.dD=false):∃ b,eP A w0 bw tb b R.a7/\ga b:=by obtain ⟨f,b,e,c,a⟩:=h;rw [d] at a;exact ⟨b,e,a,by rw [c,hw]⟩
theorem DR {α:Type} {cells:α->ax} {sz:Nat} (c:∀ x,(cells x).length=sz) (f:0<sz) {l:List α} (g:∀ y,S y->bk y a (l.map cells).flatten) (hu:S u) {x:α} (d:l[i]?=some x) {z:Int} (au:z=i) (s:n=l.length) {K:aX->Prop}
  (k:∀ b o,(∀ y,S y->∀ (q:Nat) (v:a4),(cells x)[q]?=some v->y.cell? ⟨b,o+q,none⟩=some v)->K ⟨b,o,none⟩):bA a n z sz K:=by
 subst au s;have p:=b3 d;have h:∀ r ∈ l.map cells,r.length=sz:=λr t=>by obtain ⟨y,_,rfl⟩:=cZ.1 t;exact c y
 obtain ⟨b,o,rfl,A,B⟩:=(g u hu).row (sz:=sz) h f (i:=i) (r:=cells x) (by simp [d]);refine ej (by omega) (by omega) ?_;have:=k b (o+i * sz) λy w q v al=>by obtain ⟨b',C,e,_,j⟩:=(g y w).row (sz:=sz) h f (i:=i) (r:=cells x) (by simp [d]);simp at e;obtain ⟨rfl,rfl⟩:=e;exact j q v al
 simpa using this
theorem QR {zs:ax} (au:av u b zs eR) (n:zs.length=2) (c f:Int) (l:∀ g,ao (λk=>k=b) u g->K ⟨c,f⟩ g) :
  eh u ⟨b,0,none⟩ 0 [(.int .i64 c),(.int .i64 f)]/\∀ a,a=cu u ⟨b,0,none⟩ 0 [(.int .i64 c),(.int .i64 f)]->bF.ex λr=>cf a ⟨b,0,none⟩ 0 r.cells/\eh a ⟨b,0,none⟩ 0 r.cells/\∀ d,d=cu a ⟨b,0,none⟩ 0 r.cells->bF.ex λres=>cf d ⟨b,0,none⟩ 0 res.cells/\d=d/\K res d:=
 dQ au (vs:=bF.cells ⟨c,f⟩) (by rw [n];rfl) (bF.single _) λa j h=>zQ j λg i=>l g (h.trans i λ_ _ e=>e)
theorem U6 {l:a8} (h:bk u a (us l)) {x:Int} (d:l[i]?=some x) {z:Int} (au:z=i) (j:n=l.length) {K:aX->Prop}
  (f:∀ b o,(∀ y,ai u y->y.cell? ⟨b,o,none⟩=some (.int .u64 x))->K ⟨b,o,none⟩):bA a n z 1 K:=by
 subst au j;have g:=b3 d;have c:(us l)[i]?=some (.int .u64 x):=by simp [us,d]
 rcases h with he | ⟨b,o,rfl,e⟩
 ·rw [he] at c;cases c
 ·refine ej (by omega) (by omega) ?_;have:=f b (o+i) λy k=>(bk.new k (.inr ⟨b,o,rfl,e⟩)).cell c
  simpa using this
theorem AC:∀ (b:a8) (c:List aM),iB (b.take c.length) c=iB b c
 | [],c=>by simp
 |x::b,[]=>by simp [iB]
 |x::b,d::c=>by simp only [hh,List.take_succ_cons,iB];rw [AC b c]
theorem BO:∀ (a:List aQ) (b:a8) (c:List aM),hT (a.take c.length) (b.take c.length) c=hT a b c
 | [],b,c=>by simp [hT]
 |v::a,[],c=>by simp only [List.take_nil];cases c<;>simp [hT]
 |v::a,x::b,[]=>by simp [hT]
 |v::a,x::b,d::c=>by simp only [hh,List.take_succ_cons,hT];rw [BO a b c]
variable {A:a6} {w0 u:ak} {aY tb b1:Nat} {r:dt} {bS:a0} {j:c0}
structure oc (A:a6) (w0 u z:ak) (aY tb b1:Nat) (r:dt) (bS:a0) (j:c0) (R:cr):Prop where
 dh:fa w0 z aY tb r bS j
 co:∃ o:bF,av z b1 o.cells eR
 fY:∃ T,eP A w0 z tb T R.a7/\ga T
 aA:ao (λk=>k=tb) u z
theorem oc.new {z b:ak} {R:cr} (h:oc A w0 u z aY tb b1 r bS j R) (a:ai z b):oc A w0 u b aY tb b1 r bS j R:=by obtain ⟨c,⟨o,d⟩,⟨T,e,f⟩,g⟩:=h;exact ⟨c.bB a,⟨o,ai.aj a d⟩,⟨T,e.new a,f⟩,g.new a⟩
theorem oc.R5 {c:ak} (h:oc A w0 u z aY tb b1 r bS j R) (b:ao M z c) (a:∀ k,M k->w0.heap.size<=k/\u.heap.size<=k/\k≠aY/\k≠b1/\k≠tb):oc A w0 u c aY tb b1 r bS j R:=by obtain ⟨d,⟨o,f⟩,⟨T,g,i⟩,l⟩:=h;exact ⟨d.aA b λk e=>⟨(a k e).1,(a k e).2.2.1⟩,⟨o,b.aj f λe=>(a _ e).2.2.2.1 rfl⟩,⟨T,g.aA b λe=>(a _ e).2.2.2.2 rfl,i⟩,l.trans b λk n e=>by have:=a k e;omega⟩
theorem Nh {n:ak} {vs us:List aQ} (L:(cm G vs 1).ok=true) (J:oc A w0 u z aY tb b1 r bS j (cm G vs 1)) (y:ai w0 n) (c:u.heap.size<=b1) (a:b1<n.heap.size) (M:tb<u.heap.size) (h:u.heap.size<=n.heap.size)
  {F:an} {un H:Nat} (al:bK n z F un H us) (hlen:us.length<=100000) (d:Bool) (N:ax)
  (dH:∀ v w',wd A w0 u tb u.heap.size (if d=false then ⟨true,[],(0,0),(cm G vs 1).a7,none,false⟩
   else if (cm (cm G vs 1).a7 us 1).ok=true then ⟨false,[],(7,1),(cm (cm G vs 1).a7 us 1).a7,none,false⟩ else cm (cm G vs 1).a7 us 1) v w'->Q v w') :
  W prog (sub (bn f173) [1,1,1,1,1,1,1,1,1]) (Ar ⟨aY,0,none⟩ ⟨b1,0,none⟩ F un H d N) (dC prog f173 Q) z:=by
 rw [Tm];obtain ⟨q,⟨o,p⟩,⟨T,C,k⟩,s⟩:=J;cases d with
 |false=>
  refine mv p rfl 0 0 λE e=>dH _ _ ⟨rfl,?_⟩
  have I:gJ A w0 u tb n.heap.size ⟨true,[],(0,0),(cm G vs 1).a7,none,false⟩ z:=⟨s,T,C,k.dD,k.da⟩;exact I.put (ao.refl _ _) (ao.refl _ _) e c a (by omega) h
 |true=>
  have i:=rF q C k y (by omega) al hlen 1;refine aD i ?_;rintro v O ⟨dB,dc,raw,rfl,t,_⟩;have f:=t.after s;have B:av O b1 o.cells eR:=t.aA.aj p (by omega);refine ⟨_,_,_,bF.aT ⟨(cm (cm G vs 1).a7 us 1).out.1,(cm (cm G vs 1).a7 us 1).out.2⟩ ⟨(cm (cm G vs 1).a7 us 1).ok,rfl,?_⟩⟩;refine dQ B rfl (bF.single _) λu8 x l=>?_
  have D:=f.put (B':=u.heap.size) (ao.refl _ _) (ao.refl _ _) l c a (by omega) h;cases b:(cm (cm G vs 1).a7 us 1).ok with
  |true=>
   obtain ⟨K,hw,_⟩:=pK b;have w:=f.ok K hw false [] (7,1);have g:=w.put (B':=n.heap.size) (ao.refl _ _) (ao.refl _ _) l c a (by omega) (cY _);refine QR x rfl 7 1 λE e=>dH _ _ ?_
   simp only [Bool.true_eq_false,if_false,if_true,b];exact ⟨rfl,g.put (ao.refl _ _) (ao.refl _ _) e c a (by omega) h⟩
  |false=>
   have g:=f.put (B':=n.heap.size) (ao.refl _ _) (ao.refl _ _) l c a (by omega) (cY _);refine zQ x λE e=>dH _ _ ?_
   simp only [Bool.true_eq_false,if_false,if_true,b,ry];refine ⟨?_,g.put (ao.refl _ _) (ao.refl _ _) e c a (by omega) h⟩;rw [b]
theorem Ni (g:od w0 bG aY tb r bS j z a2 n pc g0 ho (dG j) (rg j)) (XD:ai u bG) (X:ai w0 u) (YO:eP A w0 z tb T G) (Ya:ga T) (Yb:av z b1 (bF.cells ⟨0,0⟩) eR)
  (Xw:u.heap.size<=b1) (R:b1<bG.heap.size) (Yn:tb<u.heap.size) (YS:aY<u.heap.size) (X6:ax) (dH:∀ v w',wd A w0 u tb u.heap.size (kl j G) v w'->Q v w') :
  W prog (sub (bn f173) [1,1,1,1,1]) (Aq ⟨aY,0,none⟩ ⟨b1,0,none⟩ a2 n pc none 0 0 g0 n ho X6) (dC prog f173 Q) z:=by
 rw [Tl];have XW:=XD.size;have Y0:=X.size;have YX:=g.kn.len;have Y4:=g.wl;have YA:=g.dh.b8;have YV:=YA.s_;have YW:=YA.x4;have YC:n<=36:=by rw [YX];unfold dG;simp only [dy,fZ];omega
 have XV:ai u z:=XD.new g.new;have Xx:=rF g.dh YO Ya (X.new XD) (by omega) g.kn (by omega) 1;refine aD Xx ?_;rintro v Y5 ⟨dB,dc,raw,rfl,I,Yl,XP,Ym⟩;refine ⟨_,_,_,bF.aT ⟨(cm G (dG j) 1).out.1,(cm G (dG j) 1).out.2⟩ ⟨(cm G (dG j) 1).ok,rfl,?_⟩⟩;have Yr:av Y5 b1 (bF.cells ⟨0,0⟩) eR:=I.aA.aj Yb (by omega);have XX:=I.after (ao.b9 XV);refine dQ Yr rfl (bF.single _) λXI XH O=>?_
 unfold kl at dH;cases E:(cm G (dG j) 1).ok with
 |false=>
  have XY:=XX.put (B':=bG.heap.size) (ao.refl _ _) (ao.refl _ _) O Xw R (by omega) (cY _);refine zQ XH λZl Ye=>dH _ _ ?_
  rw [if_pos E];refine ⟨?_,XY.put (ao.refl _ _) (ao.refl _ _) Ye Xw R (by omega) XW⟩;rw [E]
 |true=>
  rw [if_neg (by rw [E];simp)] at dH;obtain ⟨YP,hw,Zf⟩:=pK E;obtain ⟨YJ,X8,XO⟩:=I.clean YP hw;have p:ao (λk=>k=tb\/k=b1) z XI:=(I.aA.mono λk _ e=>.inl e).trans (O.mono λk _ e=>.inr e) λ_ _ e=>e
  have XL:oc A w0 u XI aY tb b1 r bS j (cm G (dG j) 1):=by
   refine ⟨g.dh.aA p λk e=>?_,⟨_,XH⟩,⟨YJ,X8.aA O (by omega),XO⟩,((ao.b9 XV).trans I.aA λ_ _ e=>e).trans O λk Xz e=>by omega⟩;have Yx:=g.dh.kS;have Yy:=g.dh.ne;rcases e with e | e
   ·exact ⟨by omega,by omega⟩
   ·exact ⟨by omega,by omega⟩
  have XZ:bK bG XI a2 n pc (dG j):=g.kn.Az g.fB p λk N e=>by have:=g.kn.gv k N;omega
  have F:a1 XI ou 1 g0 n ho (us (rg j)):=g.own.aA p λk N e=>by have:=g.uS k N;omega
  obtain ⟨⟨w,XF,B⟩,Y3,Y2⟩:=XZ;have V:=XF.rd;have X0:=g.fB;have X1:=F.rd;have J:=XL.dh.new;have YB:=XH.lt;have YT:=XP.1;have YE:bG.heap.size<=XI.heap.size:=by have Yx:=g.new.size;have Yy:=p.size;omega
  clear F;refine c8 mix (λq env y=>∃ (i:Nat) (Xv:Bool) (X3:an) (un X4:Nat) (X6:ax),q=raw.length - i/\i<=raw.length/\Xv=iB ((rg j).take i) ((cm G (dG j) 1).done.take i)/\env=si ⟨aY,0,none⟩ ⟨b1,0,none⟩ a2 n pc X3 un X4 g0 n ho Xv dB raw.length dc raw.length i X6/\ai XI y/\bK XI y X3 un X4 (hT ((dG j).take i) ((rg j).take i) ((cm G (dG j) 1).done.take i))/\oc A w0 u y aY tb b1 r bS j (cm G (dG j) 1)) raw.length
   ⟨0,false,none,0,0,_,rfl,by omega,rfl,rfl,ao.refl _ _,bK.nil _ _,XL⟩ ?_
  rintro q env y ⟨i,Xv,X3,un,X4,X6,rfl,Ze,Xy,rfl,XC,l,L⟩;rw [Ss];have Y1:=l.len;have YF:=@Bk ((dG j).take i) ((rg j).take i) ((cm G (dG j) 1).done.take i);have YG:((dG j).take i).length<=n:=by rw [iG];omega
  refine bc (λXz=>?_) (λYU=>?_)
  ·have C:i<raw.length:=by omega
   obtain ⟨d,aq⟩:∃ d,raw[i]?=some d:=⟨_,bE C⟩;have YD:raw.length=(dG j).length:=Ym.resolve_left λe=>by rw [e] at C;simp at C
   obtain ⟨x,Yp⟩:∃ x,(cm G (dG j) 1).done[i]?=some x:=⟨_,bE (by omega)⟩;obtain ⟨X5,XG⟩:∃ X5,(rg j)[i]?=some X5:=⟨_,bE (by omega)⟩;obtain ⟨v1,XE⟩:∃ v1,(dG j)[i]?=some v1:=⟨_,bE (by omega)⟩;obtain ⟨r1,H⟩:∃ r1,w[i]?=some r1:=⟨_,bE (by have:=B.1;omega)⟩;have Yd:=XP.2 i d x aq Yp;have f:=B.2 i r1 v1 H XE;have s:=X0 v1 (b5 XE);have Yw:iB ((rg j).take (i+1)) ((cm G (dG j) 1).done.take (i+1))=(iB ((rg j).take i) ((cm G (dG j) 1).done.take i) || decide (eb x≠X5)):=by rw [ff,ff,XG,Yp];exact Co (by rw [iG,iG];omega)
   have XJ:hT ((dG j).take (i+1)) ((rg j).take (i+1)) ((cm G (dG j) 1).done.take (i+1))=hT ((dG j).take i) ((rg j).take i) ((cm G (dG j) 1).done.take i)++(if eb x=X5/\v1.kind=3 then [r9 v1] else []):=by rw [ff,ff,ff,XG,Yp,XE];exact Cn (by rw [iG,iG];omega) (by rw [iG,iG];omega)
   refine eI (cells:=bT.cells) bT.len (by omega) (Yl.new (J.new XC)) aq rfl rfl λb o X' _=>bT.aT d ⟨X',?_⟩
   refine ec (vs:=d.cells) rfl (bT.single _) λY9 Y6 YQ Yq XT=>?_
   rintro YH Y;have XA:ai Y6 YH:=by rw [Y];exact cK _
   clear Y;have D:=(XC.new XT).new XA;refine ⟨λy=>ai YH y,ao.refl _ _,bT.aT d ⟨λy K=>bO (ai.aj (XA.new K) Yq) rfl,?_⟩⟩;refine U6 (X1.new D) XG rfl (by omega) λY_ Zg X_=>⟨X5,λy K=>X_ y K,?_⟩
   have M:=rb (Yd.aA (ao.b9 (J.new D)) λ_ _ e=>e);refine aD M ?_;rintro v Zm ⟨rfl,XB⟩;have c:=D.new XB;have a:=(XT.new XA).new XB;refine ⟨_,rfl,XB,du (λe=>?_) (λe=>?_)⟩
   ·rw [if_neg λh=>e h.1,jJ] at XJ;rw [bH (x:=(i:Int)+1) (by omega) (by omega)];exact ⟨raw.length - (i+1),by omega,i+1,true,X3,un,X4,_,rfl,by omega,by rw [Yw];simp [e],rfl,c,by rw [XJ];exact l.new a,L.new a⟩
   ·have XK:Xv=iB ((rg j).take (i+1)) ((cm G (dG j) 1).done.take (i+1)):=by rw [Yw,Xy];simp [e]
    have XS:r1.Kind=v1.kind:=by rw [f.eq];rfl
    refine eI (cells:=aG.cells) aG.len (by omega) (V.new c) H rfl (by have:=B.1;omega) λY' Zh Yz Yi=>⟨_,Yi 0 _ rfl,d' (λX7=>?_) (λX7=>?_)⟩
    ·rw [if_pos ⟨e,by rw [<-XS];exact X7⟩] at XJ;refine eI (cells:=aG.cells) aG.len (by omega) (V.new c) H rfl (by have:=B.1;omega) λZa Zi XN YY=>aG.aT r1 ⟨XN,?_⟩
     refine ec (vs:=r1.cells) rfl (aG.single _) λYK Y7 YR X2 XU=>?_
     rintro Y8 Z;have P:ai Y7 Y8:=by rw [Z];exact cK _
     clear Z;have Ys:=ai.aj P X2;have t:=a1.new ((c.new XU).new P) XF;have XM:∀ k,aL a2 k->k≠YK:=λk N=>by obtain ⟨cs,Yc⟩:=fT XF N;have Yx:=Yc.lt;have Yy:=c.size;omega
     refine ⟨λy=>a1 y cF 9 a2 n pc (dP w).flatten,t,?_⟩;refine DR (S:=λy=>a1 y cF 9 a2 n pc (dP w).flatten) (cells:=aG.cells) aG.len (by omega) (λy K=>K.rd) t H rfl (by have:=B.1;omega) λZb Zj Yj=>⟨r1.ai,λy K=>Yj y K 5 _ rfl,?_⟩
     refine DR (S:=λy=>a1 y cF 9 a2 n pc (dP w).flatten) (cells:=aG.cells) aG.len (by omega) (λy K=>K.rd) t H rfl (by have:=B.1;omega) λZc Zk Yk=>⟨r1.Old,λy K=>Yk y K 4 _ rfl,?_⟩
     refine kU Ys (i:=4) rfl λZn Yt XR=>⟨t.aA XR λk N e=>XM k N e,?_⟩
     refine kU Yt (i:=5) rfl λYI Yu Yf=>?_
     have YZ:=P.size;have U:ai y YI:=(((a.new XU).new P).trans XR λk Xz e=>by have:=a.size;omega).trans Yf λk Xz e=>by have:=a.size;omega
     refine aG.aT { r1 with Old:=r1.ai,ai:=r1.Old } ⟨bO Yu rfl,?_⟩;rintro Zd Zp X9 Yv;have Yo:cL (λk=>k<y.heap.size) YI { r1 with Old:=r1.ai,ai:=r1.Old } (r9 v1):=by
      refine ⟨?_,?_,λ_=>s,.inl s,λz au=>?_,f.old,f.new,f.key,f.ee,f.cap,f.kV⟩
      ·have YL:=f.eq;rw [YL];rfl
      ·rw [show (r9 v1).words=[] from s];exact .inl rfl
      ·rw [show (r9 v1).words=[] from s] at au;cases au
     refine bK.l3 l XC U Yo (by omega) X9 Yv λap ac Zo YN Yg Yh=>?_
     rw [bH (x:=(i:Int)+1) (by omega) (by omega)];refine ⟨raw.length - (i+1),by omega,i+1,Xv,ap,un+1,ac,_,rfl,by omega,XK,rfl,Yh,by rw [XJ];exact YN,(L.new U).R5 Yg λk N=>?_⟩;have:=l.gv k N;exact ⟨by omega,by omega,by omega,by omega,by omega⟩
    ·rw [if_neg λh=>X7 (by rw [XS];exact h.2),jJ] at XJ;rw [bH (x:=(i:Int)+1) (by omega) (by omega)];exact ⟨raw.length - (i+1),by omega,i+1,Xv,X3,un,X4,_,rfl,by omega,XK,rfl,c,by rw [XJ];exact l.new a,L.new a⟩
  ·have XQ:i=(cm G (dG j) 1).done.length:=by omega
   rw [XQ,h0,AC] at Xy;rw [XQ,h0,BO] at l;have YM:=@Bk (dG j) (rg j) (cm G (dG j) 1).done;refine Nh E L J Xw (by omega) Yn (by omega) l (by omega) Xv _ λv w' al=>dH v w' ?_
   rw [Xy] at al;exact al
end
section
abbrev FC:TypeId:=274
theorem OU (a:fa w0 u aY tb r bS j) (XZ:eP A w0 u tb T G) (XP:ga T) :
  bb 173 [ptr aY] u (wd A w0 u tb u.heap.size (kl j G)):=by
 refine bd Tryz.func173 ?_;rw [ptr,Uj];rintro b1 bG XN XE;obtain ⟨L,J⟩:=bl XN XE;have L:av bG b1 (bF.cells ⟨0,0⟩) eR:=L;clear XE;have X:=a.bB J;have XM:=XZ.new J;have hlen:=a.bQ.bV.len;have X_:=J.size;have XS:=L.lt;have XW:=XZ.aj.lt;have Z:=a.b8;have X4:=Z.aW;have X5:=Z.s_;have X6:=Z.x4;have XR:=a.bQ.aW;have w:=a.mem;have X9:=Z.ee bS (b5 w);have P:d9 bS.cq:=by unfold d9;omega
 have X0:=X.new.size;have Xz:sB j=bS:=by
  unfold sB;cases XA:j.v.mem with
  |nil=>rw [XA] at w;cases w
  |cons x xs=>rw [XA] at w;simp at w;subst w;rfl
 refine ⟨_,_,_,X.aj.cell (i:=6) rfl,?_⟩;refine c8 mix (λq env z=>∃ (i:Nat) (a2:an) (pc:Nat) (g0:an) (ho:Nat) (XG:ax),q=j.writes.length - i/\i<=j.writes.length/\env=xe ⟨aY,0,none⟩ ⟨b1,0,none⟩ a2 i pc none 0 0 g0 i ho r.eH r.dT r.hv r.dT i XG/\od w0 bG aY tb r bS j z a2 i pc g0 ho ((j.writes.take i).map (lT j)) ((j.writes.take i).map (·.Head))) j.writes.length
  ⟨0,none,0,none,0,_,rfl,by omega,rfl,⟨X,ao.refl _ _,bK.nil _ _,(λx XF=>by simp at XF),a1.nil _ _ _,(λk X8=>absurd X8 nO),rfl⟩⟩ ?_
 rintro q env z ⟨i,a2,pc,g0,ho,XG,rfl,X7,rfl,g⟩;rw [Sq,hlen];refine bc (λXT=>?_) (λXQ=>?_)
 ·obtain ⟨p,K⟩:∃ p,j.writes[i]?=some p:=⟨_,bE (by omega)⟩;have H:=b5 K;have F:=Z.wl p H;have XU:=Z.HJ p H;have XV:=a.bQ.bV.u64 p H;refine eI (cells:=aK.cells) aK.len (by omega) (a.bQ.bV.rd.new g.dh.new) K rfl rfl λb o Y _=>aK.aT p ⟨Y,?_⟩
  refine ec (vs:=p.cells) rfl (aK.single _) λO XX XO M Xw=>?_
  rintro XH e;have B:ai XX XH:=by rw [e];exact cK _
  clear e;have d:=Xw.new B;refine ⟨λy=>av y O p.cells eu/\fa w0 y aY tb r bS j,⟨ai.aj B M,g.dh.bB d⟩,aK.aT p ⟨λy C=>bO C.1 rfl,_,λy C=>C.2.aj.cell (i:=0) rfl,?_⟩⟩;refine aD (yS XH p XU.1 (by omega)) ?_;rintro v Yb ⟨rfl,XB⟩;refine ⟨_,_,rfl,?_⟩;rintro X1 U;have XC:ai Yb X1:=by rw [U];exact cK _
  clear U;have R:=(d.new XB).new XC;have n:=ai.aj ((B.new XB).new XC) M;have t:=g.dh.bB R;refine ⟨λy=>av y O p.cells eu/\fa w0 y aY tb r bS j,⟨n,t⟩,a0.aT bS ⟨λy C=>bO C.2.aj rfl,_,λy C=>C.1.cell (i:=0) rfl,_,λy C=>C.1.cell (i:=1) rfl,?_⟩⟩;refine aD (rj X1 F.1 F.2) ?_;rintro v XY ⟨rfl,rfl⟩;refine ⟨_,rfl,⟨n,t⟩,?_⟩;rw [XR];have Xx:cL (λ_=>False) XY ⟨3,0,p.bm * 8,0,p.Head,eK p.Head j.aW,none,0,0,0,0⟩ ⟨3,0,p.bm * 8,0,p.Head,eK p.Head j.aW,[],0,0⟩:=pY (.inl rfl) rfl (by omega) (λ_=>rfl) (λx XF=>by cases XF) (by simp) XV (D3 _ _);have f:=sH t P Xx;refine aD f ?_;rintro v Yc ⟨bj,rfl,I,c⟩;refine aG.aT bj ⟨rfl,⟨ai.aj c n,t.bB c⟩,?_⟩;rintro X2 Yd W Xy;have V:=g.bB R;have D:addr j.v.number bS ⟨3,0,p.bm * 8,0,p.Head,eK p.Head j.aW,[],0,0⟩=lT j p:=by unfold lT;rw [Xz]
  rw [D] at I;refine V.push c I rfl (by omega) (by omega) (ai.aj c n) (by decide) (by decide) (y:=p.Head) (S:=λy=>av y O p.cells eu/\fa w0 y aY tb r bS j) (λN XK XL=>⟨XK,XL⟩) W Xy (rd:=λN y=>N.cell? ⟨O,1,none⟩=some (.int .u64 y)) (λN h=>h.cell (i:=1) rfl) λap ac X' X3 Ya jN fi N E=>?_
  rw [bH (x:=(i:Int)+1) (by omega) (by omega)];have XI:(j.writes.take i).map (lT j)++[lT j p]=(j.writes.take (i+1)).map (lT j):=by rw [ff,K];simp
  have XJ:(j.writes.take i).map (·.Head)++[p.Head]=(j.writes.take (i+1)).map (·.Head):=by rw [ff,K];simp
  rw [XI,XJ] at E;exact ⟨j.writes.length - (i+1),by omega,i+1,ap,ac,jN,fi,_,rfl,by omega,by rw [<-hlen];rfl,E⟩
 ·have Xv:i=j.writes.length:=by omega
  subst Xv;simp only [h0] at g;rw [Tk];have XD:=a.bQ.len;refine ⟨_,_,_,g.dh.aj.cell (i:=5) rfl,?_⟩;refine c8 mix (λq env z=>∃ (i:Nat) (a2:an) (pc:Nat) (g0:an) (ho:Nat) (XG:ax),q=j.reads.length - i/\i<=j.reads.length/\env=xf ⟨aY,0,none⟩ ⟨b1,0,none⟩ a2 (j.writes.length+i) pc none 0 0 g0 (j.writes.length+i) ho r.Reads r.k3 r.pg r.k3 i XG/\od w0 bG aY tb r bS j z a2 (j.writes.length+i) pc g0 ho (j.writes.map (lT j)++(j.reads.take i).map (n7 j)) (j.writes.map (·.Head)++(j.reads.take i).map (·.Head))) j.reads.length
   ⟨0,a2,pc,g0,ho,_,rfl,by omega,rfl,by rw [List.take_zero,vE,vE,jJ,jJ];exact g⟩ ?_
  rintro q env z ⟨i,a2,pc,g0,ho,XG,rfl,X7,rfl,g⟩;rw [Sr,XD];refine bc (λXT=>?_) (λXQ=>?_)
  ·obtain ⟨p,K⟩:∃ p,j.reads[i]?=some p:=⟨_,bE (by omega)⟩;have H:=b5 K;have F:=Z.mP p H;refine eI (cells:=eQ.cells) eQ.len (by omega) (a.bQ.rd.new g.dh.new) K rfl rfl λb o Y _=>eQ.aT p ⟨Y,?_⟩
   refine ec (vs:=p.cells) rfl (eQ.single _) λO XX XO M Xw=>?_
   rintro XH e;have B:ai XX XH:=by rw [e];exact cK _
   clear e;have d:=Xw.new B;have l:=ai.aj B M;have s:=g.dh.bB d;refine ⟨λy=>av y O p.cells FC/\fa w0 y aY tb r bS j,⟨l,s⟩,a0.aT bS ⟨λy C=>bO C.2.aj rfl,_,λy C=>C.1.cell (i:=0) rfl,?_⟩⟩;refine aD (rj XH F.1 F.2) ?_;rintro v XY ⟨rfl,rfl⟩;refine ⟨_,rfl,⟨l,s⟩,?_⟩;have Xx:cL (λ_=>False) XY ⟨1,0,p.bm * 8,1,0,0,none,0,0,0,0⟩ ⟨1,0,p.bm * 8,1,0,0,[],0,0⟩:=pY (.inl rfl) rfl (by omega) (λ_=>rfl) (λx XF=>by cases XF) (by simp) hq hq;have f:=sH s P Xx;refine aD f ?_;rintro v Yc ⟨bj,rfl,I,c⟩;refine aG.aT bj ⟨rfl,⟨ai.aj c l,s.bB c⟩,?_⟩;rintro X2 Yd W Xy;have V:=g.bB d;have D:addr j.v.number bS ⟨1,0,p.bm * 8,1,0,0,[],0,0⟩=n7 j p:=by unfold n7;rw [Xz]
   rw [D] at I;refine V.push c I rfl (by omega) (by omega) (ai.aj c l) (by decide) (by decide) (y:=p.Head) (S:=λy=>av y O p.cells FC/\fa w0 y aY tb r bS j) (λN XK XL=>⟨XK,XL⟩) W Xy (rd:=λN y=>N.cell? ⟨O,1,none⟩=some (.int .u64 y)) (λN h=>h.cell (i:=1) rfl) λap ac X' X3 Ya jN fi N E=>?_
   rw [bH (x:=(i:Int)+1) (by omega) (by omega)];have XI:j.writes.map (lT j)++(j.reads.take i).map (n7 j)++[n7 j p]=j.writes.map (lT j)++(j.reads.take (i+1)).map (n7 j):=by rw [ff,K];simp
   have XJ:j.writes.map (·.Head)++(j.reads.take i).map (·.Head)++[p.Head]=j.writes.map (·.Head)++(j.reads.take (i+1)).map (·.Head):=by rw [ff,K];simp
   rw [XI,XJ] at E;exact ⟨j.reads.length - (i+1),by omega,i+1,ap,ac,jN,fi,_,rfl,by omega,by rw [<-XD];rfl,E⟩
  ·have Xv:i=j.reads.length:=by omega
   subst Xv;simp only [h0] at g;have Q:=g.new;refine Ni g J a.new (XM.new Q) XP (ai.aj Q L) (by omega) XS XW a.aj.lt _ λv w' al=>al
end
section
open IntKind
variable (w:ak) (R:cz) {s:an} {a b:Nat} {A:aX} {i k:Int} {j:ar}
theorem Ib (K:dt):bf prog f92 [K.val,ae s a b] R w=(aS w K.cells.toArray 39 λH X=>aS X #[ab 0,ab 0] 171 λA a9=>AS a9 (af H 0) λr=>ct 124 #[r.val] a9 λc L=>cond (c != 0) (a_ L (af A 0) 0 [ab c,ab 0] λC=>dY C (af A 0) λm=>C=C/\R (.tuple #[a5,m.val,ad true]) C) (cw L λN B=>uW B (af H 0) λu=>mL 115 #[ae s a b] N λd M=>B M/\aS M #[ab u.Client,ab u.Seq,ab u.hs,ab u.View.Number,ae u.View.fh u.View.eW u.View.fQ,ae u.Reads u.k3 u.pg,ae u.eH u.dT u.hv,.pointer d,ab 0,ab 0,ad false] 212 λE a'=>B a'/\l5 a' (af H 3) λn=>Calls prog 125 #[n.val] a' λe Q=>a0.ex λo=>∃ (f:Bool),e=.returned (.tuple #[o.val,ad f])/\a_ Q (af E 8) 0 o.cells λI=>UB 126 #[ba E] I λq p=>a_ p (af A 0) 0 q.cells λj=>mN j (af E 7) λt=>jD 118 #[.pointer t] j λg h i k v=>cond k (a_ v (af A 0) 0 [ab 0,ab 0] λx=>dY x (af A 0) λy=>x=x/\R (.tuple #[ae g h i,y.val,ad false]) x) (mN v (af E 7) λO=>dn 119 #[.pointer O] v λl z=>cond l (a_ z (af A 0) 0 [ab 6,ab 0] λZ=>cw Z λW S=>GX S (af A 0) λV=>a_ W (af A 0) 0 V.cells λF=>dY F (af A 0) λD=>F=F/\R (.tuple #[a5,D.val,ad true]) F) (cw z λT P=>GX P (af A 0) λY=>a_ T (af A 0) 0 Y.cells λG=>dY G (af A 0) λJ=>G=G/\R (.tuple #[a5,J.val,ad true]) G)))):=by kernel_rfl
def w8 (s2:aX) (a:an) (b c:Nat) (d f:Int) (j:ar):ar:=ag j 0 2 (.pointer (some s2)::ag j 2 14 (ae a b c::ab d::ab f::ag j 16 13 []))
def Gc (a:aX) (j:ar):ar:=ag j 0 2 (.pointer (some a)::ag j 2 30 [])
theorem U8:bf prog f126 [ba a] R w=(aS w #[ab 0,ab 0] 171 λe c=>aS c #[.func (.func 172) #[ba a] #[],.func (.func 173) #[ba a] #[],.func (.func 174) #[ba a] #[],.func (.func 175) #[ba a] #[],.func (.func 176) #[ba a] #[]] 277 λb d=>cG prog (c7 f126 [1,0,1,0,0]) (w8 (af e 0) (bo b) 5 5 5 0 (jp (af a 0)::bD 5 (jp (af a 0)::.func (.func 172) #[ba a] #[]::jp (af a 0)::.func (.func 173) #[ba a] #[]::jp (af a 0)::.func (.func 174) #[ba a] #[]::jp (af a 0)::.func (.func 175) #[ba a] #[]::jp (af a 0)::.func (.func 176) #[ba a] #[]::bD 13 []))) (aP 0 (aU f126 [1,1] R)) d):=by kernel_rfl
theorem ms (m:ar->aF):W prog (sb f126 [1,0,1,0,0]) (w8 A s a b i k j) (aZ m (aP 0 (aU f126 [1,1] R))) w=(cond (k<i) (bA s a k 1 λn=>∃ x,w.cell? n=some x/\jk prog x #[] w λe p=>bF.ex λh=>∃ g,e=.returned (.tuple #[h.val,ad g])/\aS p #[ab 0,ab 0] 171 λl o=>a_ o (af l 0) 0 h.cells λf=>cond (!g) (dY f (af l 0) λr=>a_ f A 0 r.cells λd=>dY d A λc=>d=d/\R c.val d) (m (w8 A s a b i (i64.wrap (k+1)) (aO j 0::aO j 1::aO j 2::x::jp (af l 0)::ad g::ag j 6 10 [ad (k<i),jp n,x,.tuple #[h.val,ad g],x,.tuple #[h.val,ad g],h.val,ad g,ad g,ad (!g),aO j 26,ab (i64.wrap (k+1)),aO j 28])) f)) (W prog (sb f126 [1,1]) (Gc A (ag j 0 16 (ae s a b::ab i::ab k::ad (k<i)::ag j 17 12 []))) (b7 f126 R) w)):=by kernel_rfl
theorem S9:W prog (sb f126 [1,1]) (Gc A j) (b7 f126 R) w=(a_ w A 0 [ab 0,ab 3] λa=>dY a A λb=>a=a/\R b.val a):=by kernel_rfl
end
end Go.Proofs.YtmkljjbioomepaaGreat
