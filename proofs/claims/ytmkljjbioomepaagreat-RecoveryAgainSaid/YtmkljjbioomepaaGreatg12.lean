import Derived.Test.YtmkljjbioomepaaGreatProg
import Derived.Test.YtmkljjbioomepaaGreatg02
import Derived.Test.YtmkljjbioomepaaGreatg11
set_option linter.all false
set_option maxHeartbeats 4000000
set_option maxRecDepth 100000
namespace Go.Proofs.YtmkljjbioomepaaGreat
open Go.Proofs.Tryz Go.bJ
variable {A M:a4}{B b aY i n pc hh tb:Nat}{K:aU->Prop}{Q:cM}{S:aJ}{a aW gX:ak}{f:Int}{u bB bQ w w0 z:an}{ws:a7}
section
open IntKind
variable (w:an)(R:cM){a b c d e f g h:Nat}{A B:aU}{s t u v:ak}{i k:Int}{j:ar}{F:Bool}
def xX (e s2:aU)(n:ak)(a b:Nat)(o:ak)(c d:Nat)(p:ak)(f g:Nat)(h:ak)(i k:Nat)(l m:Int)(j:ar):ar:=.pointer (some e)::ag j 0 1 (.pointer (some s2)::ag j 1 1 (ad n a b::ad o c d::ad p f g::ag j 2 15 (ad h i k::ab l::ab m::ag j 17 130 [])))
def Ip (a b:aU)(e:ak)(c d:Nat)(k:ak)(f g:Nat)(l:ak)(h i:Nat)(j:ar):ar:=.pointer (some a)::ag j 0 1 (.pointer (some b)::ag j 1 1 (ad e c d::ad k f g::ad l h i::ag j 2 148 []))
def xY (e s2:aU)(n:ak)(a b:Nat)(o:ak)(c d:Nat)(p:ak)(f g:Nat)(h:ak)(i k:Nat)(l m:Int)(j:ar):ar:=.pointer (some e)::ag j 0 1 (.pointer (some s2)::ag j 1 1 (ad n a b::ad o c d::ad p f g::ag j 2 57 (ad h i k::ab l::ab m::ag j 59 88 [])))
def BD (a b:aU)(e:ak)(c d:Nat)(k:ak)(f g:Nat)(l:ak)(h i:Nat)(j:ar):ar:=.pointer (some a)::ag j 0 1 (.pointer (some b)::ag j 1 1 (ad e c d::ad k f g::ad l h i::ag j 2 148 []))
def s9 (e s2:aU)(o:ak)(a b:Nat)(p:ak)(c d:Nat)(q:ak)(f g:Nat)(h:Bool)(i:ak)(k l:Nat)(m n:Int)(j:ar):ar:=.pointer (some e)::ag j 0 1 (.pointer (some s2)::ag j 1 1 (ad o a b::ad p c d::ad q f g::ag j 2 7 (ae h::ag j 9 84 (ad i k l::ab m::ab n::ag j 93 53 []))))
def it (a b:aU)(e:ak)(c d:Nat)(f:Bool)(j:ar):ar:=.pointer (some a)::ag j 0 1 (.pointer (some b)::ag j 1 2 (ad e c d::ag j 3 8 (ae f::ag j 11 140 [])))
theorem Xs:bd prog f173 [a' a] R w=(aR w #[ab 0,ab 0] 171 λf e=>b_ e (af a 6) λd b c=>cz prog (cU f173 [1,1,1,0,1,0,0]) (xX (af a 0) (af f 0) none 0 0 none 0 0 none 0 0 d b c (b:Nat) 0 (undef::ae false::bm 11 (jp (af a 0)::jp (af a 0)::jp (af a 0)::jp (af a 6)::bm 130 []))) (aO 0 (aT f173 [1,1,1,1] R)) e):=by kernel_rfl
theorem Ut (L:ar->aJ):W prog (sb f173 [1,1,1,0,1,0,0]) (xX A B s a b t c d u e f v g h i k j) (aZ L (aO 0 (aT f173 [1,1,1,1] R))) w=(cond (k<i) (bx v g k 9 λK=>iC w K λr=>aR w #[ab 0,ah 0,ah 0,ah 0,ah 0,ah 0,ah 0,ah 0,ah 0] 73 λD Z=>a8 Z (af D 0) 0 r.cells λY=>cF Y λav C=>vT C (af D 0) λV=>cY C A λn=>h1 211 #[V.val,ab n] av λo p U=>cF U λX F=>hK F (b5 A 8) λS=>cY F (af D 0) λq=>kn F (af D 1) λl=>cG 108 #[ab q] X λm I=>F I/\eS 212 #[.pointer (some A),S.val,.agg #[ab 3,ab 0,ab m,ab 0,ah l,ah o,a0,ah 0,ab 0]] I λJ M=>F M/\aR M J.cells.toArray 158 λN T=>F T/\de 125 (ad s a b) (ad (bk N) 1 1) T λG E x H=>F H/\d' H (af D 1) λy=>aR H #[ah y] 30 λO ao=>de 94 (ad u e f) (ad (bk O) 1 1) ao λz Q P a6=>L (xX A B G E x t c d z Q P v g h i (i64.wrap (k+1)) (aH j 0::aH j 1::aH j 2::jp (af D 0)::ah o::ab p::ag j 6 11 (ae (k<i)::jp K::r.val::.tuple #[ah o,ab p]::V.val::jp A::jp A::jp A::jp A::ab n::.tuple #[ah o,ab p]::ah o::ab p::ad s a b::jp A::jp A::jp A::bM A 8::S.val::jp (af D 0)::ab q::ab m::jp (af D 1)::ah l::ah o::.agg #[ab 3,ab 0,ab m,ab 0,ah l,ah o,a0,ah 0,ab 0]::J.val::ad (bk N) 1 1::ad G E x::ad u e f::jp (af D 1)::ah y::ad (bk O) 1 1::ad z Q P::ab (i64.wrap (k+1))::ag j 52 95 []))) a6) (W prog (sb f173 [1,1,1,1]) (Ip A B s a b t c d u e f (ag j 0 17 (ad v g h::ab i::ab k::ae (k<i)::ag j 18 129 []))) (bT f173 R) w)):=by kernel_rfl
theorem VM:W prog (sb f173 [1,1,1,1]) (Ip A B s a b t c d u e f j) (bT f173 R) w=(b_ w (b5 A 5) λk l m=>cz prog (cU f173 [1,1,1,1,0,1,0,0]) (xY A B s a b t c d u e f k l m (l:Nat) 0 (ag j 0 55 (jp A::jp A::jp A::bM A 5::ag j 62 88 []))) (aO 2 (aT f173 [1,1,1,1,1] R)) w):=by kernel_rfl
theorem Uu (I:ar->aJ):W prog (sb f173 [1,1,1,1,0,1,0,0]) (xY A B s a b t c d u e f v g h i k j) (aZ I (aO 2 (aT f173 [1,1,1,1,1] R))) w=(cond (k<i) (bx v g k 2 λa6=>BX w a6 λr=>aR w #[ab 0,ah 0] 274 λE Q=>a8 Q (af E 0) 0 r.cells λP=>cF P λT C=>hK C (b5 A 8) λy=>cY C (af E 0) λn=>cG 108 #[ab n] T λo L=>C L/\eS 212 #[.pointer (some A),y.val,.agg #[ab 1,ab 0,ab o,ab 1,ah 0,ah 0,a0,ah 0,ab 0]] L λz N=>C N/\aR N z.cells.toArray 158 λK H=>C H/\de 125 (ad s a b) (ad (bk K) 1 1) H λF p q G=>C G/\d' G (af E 1) λl=>aR G #[ah l] 30 λM S=>de 94 (ad u e f) (ad (bk M) 1 1) S λm D x O=>I (xY A B F p q t c d m D x v g h i (i64.wrap (k+1)) (ag j 0 7 (jp (af E 0)::ag j 8 51 (ae (k<i)::jp a6::r.val::ad s a b::jp A::jp A::jp A::bM A 8::y.val::jp (af E 0)::ab n::ab o::.agg #[ab 1,ab 0,ab o,ab 1,ah 0,ah 0,a0,ah 0,ab 0]::z.val::ad (bk K) 1 1::ad F p q::ad u e f::jp (af E 1)::ah l::ad (bk M) 1 1::ad m D x::ab (i64.wrap (k+1))::ag j 81 66 [])))) O) (W prog (sb f173 [1,1,1,1,1]) (BD A B s a b t c d u e f (ag j 0 59 (ad v g h::ab i::ab k::ae (k<i)::ag j 60 87 []))) (bT f173 R) w)):=by kernel_rfl
theorem Vi:W prog (sb f173 [1,1,1,1,1]) (BD A B s a b t c d u e f j) (bT f173 R) w=(Calls prog 213 #[.pointer (some A),ad s a b,ab 1] w λg q=>∃ k l m,bA.ex λo=>∃ n,g=.returned (.tuple #[ad k l m,o.val,ae n])/\a8 q B 0 o.cells λi=>cond (!n) (ea i B λr=>a8 i B 0 r.cells λh=>ea h B λp=>h=h/\R (.tuple #[p.val,ae false]) h) (cz prog (cU f173 [1,1,1,1,1,1,1,1,0,1,0,0]) (s9 A B s a b t c d u e f false k l m (l:Nat) 0 (aH j 0::ae n::ag j 2 6 (ad k l m::ag j 10 74 (.tuple #[ad k l m,o.val,ae n]::jp A::ad s a b::.tuple #[ad k l m,o.val,ae n]::ad k l m::o.val::ae n::ae n::ae (!n)::aH j 93::ag j 97 53 [])))) (aO 4 (aT f173 [1,1,1,1,1,1,1,1,1] R)) i)):=by kernel_rfl
theorem Uv (I:ar->aJ):W prog (sb f173 [1,1,1,1,1,1,1,1,0,1,0,0]) (s9 A B s a b t c d u e f F v g h i k j) (aZ I (aO 4 (aT f173 [1,1,1,1,1,1,1,1,1] R))) w=(cond (k<i) (bx v g k 2 λa6=>pw w a6 λr=>aR w #[ab 0,a0] 131 λH U=>a8 U (af H 0) 0 r.cells λZ=>cF Z λaB D=>yL D (af H 0) λK=>bx u e k 1 λy=>kn D y λx=>jI 196 #[K.val] aB λo G=>D G/\cond (o != x) (I (s9 A B s a b t c d u e f true v g h i (i64.wrap (k+1)) (ag j 0 9 (ab k::jp (af H 0)::ag j 11 82 (ae (k<i)::ab k::jp a6::r.val::ae ((o:Int) != x)::K.val::ah o::ad u e f::ab k::jp y::ah x::ae ((o:Int) != x)::ag j 105 27 (ab (i64.wrap (k+1))::ag j 133 13 []))))) G) (bx s a k 9 λz=>b0 G z λp=>cond (p == 3) (bx s a k 9 λT=>lq G T λP=>aR G #[ab 0,ab 0,ab 0,ab 0,ah 0,ah 0,a0,ah 0,ab 0] 158 λE Y=>a8 Y (af E 0) 0 P.cells λV=>cF V λX M=>bx s a k 9 λL=>kn M (b5 L 5) λq=>bx s a k 9 λN=>kn M (b5 N 4) λl=>cV X (af E 4) (ah q) λJ=>M J/\cV J (af E 5) (ah l) λO=>lq O (af E 0) λQ=>aR O Q.cells.toArray 158 λS ao=>de 125 (ad t c d) (ad (bk S) 1 1) ao λC m n av=>I (s9 A B s a b C m n u e f F v g h i (i64.wrap (k+1)) (ag j 0 9 (ab k::jp (af H 0)::jp (af E 0)::ag j 12 81 (ae (k<i)::ab k::jp a6::r.val::ae ((o:Int) != x)::K.val::ah o::ad u e f::ab k::jp y::ah x::ae ((o:Int) != x)::ae ((p:Int) == 3)::ad s a b::ab k::jp z::jp z::ab p::ae ((p:Int) == 3)::ad s a b::ab k::jp T::P.val::ad s a b::ab k::jp L::bM L 5::ah q::ad s a b::ab k::jp N::bM N 4::ah l::jp (af E 4)::jp (af E 5)::ad t c d::Q.val::ad (bk S) 1 1::ad C m n::ab (i64.wrap (k+1))::ag j 133 13 [])))) av) (I (s9 A B s a b t c d u e f F v g h i (i64.wrap (k+1)) (ag j 0 9 (ab k::jp (af H 0)::ag j 11 82 (ae (k<i)::ab k::jp a6::r.val::ae ((o:Int) != x)::K.val::ah o::ad u e f::ab k::jp y::ah x::ae ((o:Int) != x)::ae ((p:Int) == 3)::ad s a b::ab k::jp z::jp z::ab p::ae ((p:Int) == 3)::ag j 112 20 (ab (i64.wrap (k+1))::ag j 133 13 []))))) G))) (W prog (sb f173 [1,1,1,1,1,1,1,1,1]) (it A B t c d F (aH j 0::aH j 1::ad s a b::ad u e f::ag j 2 91 (ad v g h::ab i::ab k::ae (k<i)::ag j 94 52 []))) (bT f173 R) w)):=by kernel_rfl
theorem Vj:W prog (sb f173 [1,1,1,1,1,1,1,1,1]) (it A B s a b F j) (bT f173 R) w=(cond (!F) (a8 w B 0 [ab 0,ab 0] λd=>ea d B λl=>d=d/\R (.tuple #[l.val,ae true]) d) (Calls prog 213 #[.pointer (some A),ad s a b,ab 1] w λe t=>∃ g h i,bA.ex λm=>∃ k,e=.returned (.tuple #[ad g h i,m.val,ae k])/\a8 t B 0 m.cells λp=>cond k (a8 p B 0 [ab 7,ab 1] λq=>ea q B λr=>a8 q B 0 r.cells λf=>ea f B λn=>f=f/\R (.tuple #[n.val,ae false]) f) (ea p B λu=>a8 p B 0 u.cells λc=>ea c B λo=>c=c/\R (.tuple #[o.val,ae false]) c))):=by kernel_rfl
end
section
def tq (j:cJ):aS:=j.v.mem.headD kk
def mj (j:cJ)(p:aN):bc:=addr j.v.number (tq j) ⟨3,0,p.bt*8,0,p.Head,dK p.Head j.aL,[],0,0⟩
def oR (j:cJ)(s:eW):bc:=addr j.v.number (tq j) ⟨1,0,s.bt*8,1,0,0,[],0,0⟩
def dL (j:cJ):a_:=j.writes.map (mj j)++j.reads.map (oR j)
def iW (j:cJ):a7:=j.writes.map (·.Head)++j.reads.map (·.Head)
def sM (v:bc):bc:={v with old:=v.new,new:=v.old}
def h0:a_->a7->ck->a_
 |v::vs,x::xs,d::ds=>(if ed d=x/\v.kind=3 then[sM v]else[])++h0 vs xs ds
 | _,_,_=>[]
def iX:a7->ck->Bool
 |x::xs,d::ds=>decide (ed d≠x) || iX xs ds
 | _,_=>false
def kQ (j:cJ)(G:a3):cd:=
 if(cA G (dL j) 1).ok=false then cA G (dL j) 1
 else if iX (iW j) (cA G (dL j) 1).done=false then⟨true,[],(0,0),(cA G (dL j) 1).a2,none,false⟩
 else if(cA (cA G (dL j) 1).a2 (h0 (dL j) (iW j) (cA G (dL j) 1).done) 1).ok=true then⟨false,[],(7,1),(cA (cA G (dL j) 1).a2 (h0 (dL j) (iW j) (cA G (dL j) 1).done) 1).a2,none,false⟩
 else cA (cA G (dL j) 1).a2 (h0 (dL j) (iW j) (cA G (dL j) 1).done) 1
theorem DB:∀ {a:a_} {b:a7} {c:ck} {v:bc} {x:Int} {d:cN},a.length=c.length->b.length=c.length->h0 (a++[v]) (b++[x]) (c++[d])=h0 a b c++(if ed d=x/\v.kind=3 then[sM v]else[])
 | [],[],[],v,x,d,_,_=>by simp[h0]
 | _::a,_::b,_::c,v,x,d,e,f=>by simp only[List.cons_append,h0];rw[DB (by simpa using e) (by simpa using f),ke]
 | [],_,_::_,_,_,_,h,_=>by grind
 | _::_,_,[],_,_,_,h,_=>by grind
 | _,[],_::_,_,_,_,_,h=>by grind
 | _,_::_,[],_,_,_,_,h=>by grind
theorem DC:∀ {b:a7} {c:ck} {x:Int} {d:cN},b.length=c.length->iX (b++[x]) (c++[d])=(iX b c || decide (ed d≠x))
 | [],[],x,d,_=>by simp[iX]
 | _::b,_::c,x,d,h=>by simp only[List.cons_append,iX];rw[DC (by simpa using h),Bool.or_assoc]
 | [],_::_,_,_,h=>by grind
 | _::_,[],_,_,h=>by grind
theorem zJ:∀ {a:a_} {b:a7} {c:ck},(h0 a b c).length<=a.length
 |v::a,y::b,d::c=>by
  have:=@zJ a b c;unfold h0;rw[fF];split
  ·simp;omega
  ·simp;omega
 | [],_,_=>by simp[h0]
 | _::_,[],_=>by simp[h0]
 | _::_,_::_,[]=>by simp[h0]
theorem bP.BI {cap:Nat}{vs:a_}(h:bP w0 u a n cap vs)(d:∀ x ∈ vs,x.words=[])(j:ao M u bB)(o:∀ k,aP a k->¬ M k):bP w0 bB a n cap vs:=by obtain⟨⟨c,r,al⟩,q,p⟩:=h;refine⟨⟨c,r.aA j o,al.1,λi v x l g=>?_⟩,q,p⟩;have b:=al.2 i v x l g;have he:=d x (b9 g);have f:cT (λk=>M k\/(k<w0.heap.size\/aP a k)) u v x:=⟨b.eq,b.rd,b.nil,.inl he,b.wf,b.new,b.old,b.key,b.eX,b.cap,b.lx⟩;exact(f.aA (j.mono λk _ e=>.inl e) λ_ _ e=>e).mono λk e=>.inr e
theorem g5.after {a b:an}{R:cd}(h:g5 A w0 a tb B R b)(c:ao (λk=>k=tb) u a):g5 A w0 u tb B R b:=
 ⟨c.trans h.aA λ_ _ e=>e,h.gz⟩
theorem AX {o:bA}(aq:av u b o.cells e3){K:bA->aJ}(e:∀ cq,ao (λk=>k=b) u cq->K o cq) :
  bA.ex λr=>cn u ⟨b,0,none⟩ 0 r.cells/\ej u ⟨b,0,none⟩ 0 r.cells/\∀ a,a=cI u ⟨b,0,none⟩ 0 r.cells->bA.ex λres=>cn a ⟨b,0,none⟩ 0 res.cells/\a=a/\K res a:=
 bA.aV o ⟨bX aq rfl,dY aq rfl (bA.single _) λa d c=>bA.aV o ⟨bX d rfl,rfl,e a c⟩⟩
structure oX (w0 bQ:an)(aY tb:Nat)(r:dj)(bS:aS)(j:cJ)(z:an)(aW:ak)(n pc:Nat)(gX:ak)(hh:Nat)(vs:a_)(ws:a7):Prop where
 dw:fv w0 z aY tb r bS j
 new:ai bQ z
 kN:bP bQ z aW n pc vs
 ga:∀ x ∈ vs,x.words=[]
 own:aX z o6 1 gX n hh (us ws)
 vP:∀ k,aP gX k->bQ.heap.size<=k
 wl:ws.length=n
theorem oX.bH {w0 bQ:an}{aY tb:Nat}{r:dj}{bS:aS}{j:cJ}{z ch:an}{aW:ak}{n pc:Nat}{gX:ak}{hh:Nat}{vs:a_}{ws:a7}(h:oX w0 bQ aY tb r bS j z aW n pc gX hh vs ws)(a:ai z ch):oX w0 bQ aY tb r bS j ch aW n pc gX hh vs ws:=
 ⟨h.dw.bH a,h.new.new a,h.kN.new a,h.ga,aX.new a h.own,h.vP,h.wl⟩
theorem oX.push {r:dj}{bS:aS}{j:cJ}{G:an}{vs:a_}(h:oX w0 bQ aY tb r bS j z aW n pc gX hh vs ws)(F:ai z G){v:aG}{x:bc}(al:cT (λk=>k<z.heap.size) G v x)(a0:x.words=[])(a8:n<=1000)(aQ:w0.heap.size<=bQ.heap.size)
  {R:Nat} {cs:ax} {E:bY} (t:av G R cs E) (W:E≠cP) (aH:E≠o6) {y:Int} (ah:∀ ch,av ch R cs E->fv w0 ch aY tb r bS j->S ch) {b1:Nat} {T:an} (aO:b1=G.heap.size) (aq:T=G.alloc (.cells v.cells.toArray cP)) {rd:an->Int->Prop} (ab:∀ ch,av ch R cs E->rd ch y) {N:ak->Nat->Nat->an->Int->Nat->an->ak->Nat->Nat->aJ}
  (aB:∀ ap ac d o l p s ch,oX w0 bQ aY tb r bS j ch ap (n+1) ac p s (vs++[x]) (ws++[y])->N ap (n+1) ac d y o l p (n+1) s ch) :
  S T/\∃ (ap:ak) (ae ac:Nat),∃ d,(Builtin.append_ #[gZ,gZ] gZ #[(.slice aW n pc),(.slice (some ⟨b1,0,none⟩) 1 1)]).run prog T=.ok (.slice ap ae ac) d/\S d/\∃ y:Int,rd d y/\∀ o l,o=d.heap.size->l=d.alloc (.cells #[(.int .u64 y)] o6)->∃ (p:ak) (af s:Nat),∃ U,(Builtin.append_ #[94,94] 94 #[(.slice gX n hh),(.slice (some ⟨o,0,none⟩) 1 1)]).run prog l=.ok (.slice p af s) U/\N ap ae ac d y o l p af s U:=by
 have O:ai G T:=by rw[aq];exact hF _ _
 have u:=h.dw.bH F;refine⟨ah _ (ai.aj O t) (u.bH O),?_⟩;have aZ:=F.size;refine bP.mC h.kN h.new F al (by omega) aO aq λap H d ag A J=>?_
 have L:=h.kN;have C:∀ k,aP aW k->bQ.heap.size<=k/\∃ cs,av z k cs cP:=λk c=>by obtain⟨Q,Z,_⟩:=L.ex;exact⟨L.g0 k c,gN Z c⟩
 have q:av d R cs E:=A.aj t λe=>by obtain⟨_,i,a⟩:=C _ e;exact(ai.aj F a).ne t (λe=>W e.symm) rfl
 have w:fv w0 d aY tb r bS j:=u.aA A λk c=>by
  obtain⟨a5,i,a⟩:=C k c;refine⟨by omega,λe=>?_⟩
  exact(e▸ai.aj F a).ne u.aj (by decide) rfl
 refine⟨ah _ q w,y,ab _ q,?_⟩;rintro o l X P;obtain⟨D,b⟩:=bo X P;have D:av l o (us [y]) o6:=D;clear P;have g:aX d o6 1 gX n hh (us ws):=(aX.new F h.own).aA A λk c e=>by obtain⟨_,i,a⟩:=C k e;obtain⟨V,f⟩:=gN h.own c;exact a.ne f (by decide) rfl
 refine uS (aX.new b g) (l2:=[y]) (m:=1) (fj D rfl) rfl (by omega) λp s U ao B Y=>?_
 have aV:=J.size;have I:∀ k,aP p k->bQ.heap.size<=k:=λk c=>by
  rcases Y k c with e | e
  ·exact h.vP k e
  ·have:=b.size;omega
 have K:∀ gh ∈ vs++[x],gh.words=[]:=λgh ad=>by
  rcases i'.1 ad with e | e
  ·exact h.ga gh e
  grind
 have M:∀ k,aP gX k->∃ cs,av l k cs o6:=λk c=>gN (aX.new b g) c
 refine aB ap H d o l p s U ⟨(w.bH b).aA B λk c=>?_,(J.new b).trans B λk aR e=>by have:=h.vP k e;omega,(ag.new b).BI K B λk c e=>?_,K,ao,I,by rw[fF,h.wl];rfl⟩
 ·obtain⟨i,a⟩:=M k c;refine⟨by have:=h.vP k c;omega,λe=>?_⟩
  exact(e▸a).ne (w.bH b).aj (by decide) rfl
 ·obtain⟨i,a⟩:=M k e;obtain⟨Q,Z,_⟩:=(ag.new b).ex;obtain⟨V,f⟩:=gN Z c;exact a.ne f (by decide) rfl
end
section
theorem tX {G:a3}{vs:a_}(h:(cA G vs f).ok=true):(cA G vs f).ask=none/\(cA G vs f).dH=false/\(cA G vs f).out=(0,0):=by
 unfold cA at h ⊢
 grind
theorem g5.ok {R:cd}(h:g5 A w0 u tb B R bB)(c:R.ask=none)(hw:R.dH=false)(k:Bool)(d:ck)(o:Int×Int):g5 A w0 u tb B ⟨k,d,o,R.a2,none,false⟩ bB:=by obtain⟨e,b,f,g,a⟩:=h;rw[c]at a;exact⟨e,b,f,by grind,a⟩
theorem g5.clean {R:cd}(h:g5 A w0 u tb B R bB)(c:R.ask=none)(hw:R.dH=false):∃ b,eV A w0 bB tb b R.a2/\gF b:=by obtain⟨f,b,d,e,a⟩:=h;rw[c]at a;exact⟨b,d,a,by grind⟩
theorem FD {α:Type}{cells:α->ax}{sz:Nat}(k:∀ x,(cells x).length=sz)(c:0<sz){l:List α}(d:∀ y,S y->bl y a (l.map cells).flatten)(hu:S u){x:α}(p:l[i]?=some x){z:Int}(aq:z=i)(j:n=l.length)
  (g:∀ b o,(∀ y,S y->∀ (q:Nat) (v:bf),(cells x)[q]?=some v->y.cell? ⟨b,o+q,none⟩=some v)->K ⟨b,o,none⟩):bx a n z sz K:=by
 subst aq j;have h:=cS p;have f:∀ r ∈ l.map cells,r.length=sz:=λr B=>by grind
 obtain⟨b,o,rfl,w,A⟩:=(d u hu).row (sz:=sz) f c (i:=i) (r:=cells x) (by grind);refine dW (by omega) (by omega) ?_;have:=g b (o+i*sz) λy s q v al=>by
  obtain⟨b',C,e,_,t⟩:=(d y s).row (sz:=sz) f c (i:=i) (r:=cells x) (by grind)
  grind
 simp_all
theorem S6 {zs:ax}(aq:av u b zs e3)(l:zs.length=2)(c f:Int){K:bA->aJ}(j:∀ cq,ao (λk=>k=b) u cq->K ⟨c,f⟩ cq) :
  ej u ⟨b,0,none⟩ 0 [(.int .i64 c),(.int .i64 f)]/\∀ a,a=cI u ⟨b,0,none⟩ 0 [(.int .i64 c),(.int .i64 f)]->bA.ex λr=>cn a ⟨b,0,none⟩ 0 r.cells/\ej a ⟨b,0,none⟩ 0 r.cells/\∀ d,d=cI a ⟨b,0,none⟩ 0 r.cells->bA.ex λres=>cn d ⟨b,0,none⟩ 0 res.cells/\d=d/\K res d:=
 dY aq (vs:=bA.cells ⟨c,f⟩) (by rw[l];rfl) (bA.single _) λa i g=>AX i λcq h=>j cq (g.trans h λ_ _ e=>e)
theorem W4 {l:a7}(h:bl u a (us l)){x:Int}(j:l[i]?=some x){z:Int}(aq:z=i)(g:n=l.length)
  (e:∀ b o,(∀ y,ai u y->y.cell? ⟨b,o,none⟩=some (.int .u64 x))->K ⟨b,o,none⟩):bx a n z 1 K:=by
 subst aq g;have f:=cS j;have c:(us l)[i]?=some (.int .u64 x):=by grind[us]
 rcases h with he | ⟨b,o,rfl,d⟩
 ·grind
 ·refine dW (by omega) (by omega) ?_;have:=e b (o+i) λy k=>(bl.new k (.inr ⟨b,o,rfl,d⟩)).cell c
  grind
theorem C2:∀ (b:a7) (c:ck),iX (b.take c.length) c=iX b c
 | [],c=>by simp
 |x::b,[]=>by simp[iX]
 |x::b,d::c=>by simp only[h3,List.take_succ_cons,iX];rw[C2 b c]
theorem C3:∀ (a:a_) (b:a7) (c:ck),h0 (a.take c.length) (b.take c.length) c=h0 a b c
 | [],b,c=>by simp[h0]
 |v::a,[],c=>by
  grind[h0]
 |v::a,x::b,[]=>by simp[h0]
 |v::a,x::b,d::c=>by simp only[h3,List.take_succ_cons,h0];rw[C3 a b c]
variable {A:a4}{w0 u:an}{aY tb b1:Nat}{r:dj}{bS:aS}{j:cJ}
structure oW (A:a4)(w0 u z:an)(aY tb b1:Nat)(r:dj)(bS:aS)(j:cJ)(R:cd):Prop where
 dw:fv w0 z aY tb r bS j
 co:∃ o:bA,av z b1 o.cells e3
 gz:∃ T,eV A w0 z tb T R.a2/\gF T
 aA:ao (λk=>k=tb) u z
theorem oW.new {z ch:an}{R:cd}(h:oW A w0 u z aY tb b1 r bS j R)(a:ai z ch):oW A w0 u ch aY tb b1 r bS j R:=by obtain⟨b,⟨o,c⟩,⟨T,d,e⟩,f⟩:=h;exact⟨b.bH a,⟨o,ai.aj a c⟩,⟨T,d.new a,e⟩,f.new a⟩
theorem oW.T5 {ch:an}{R:cd}(h:oW A w0 u z aY tb b1 r bS j R)(b:ao M z ch)(a:∀ k,M k->w0.heap.size<=k/\u.heap.size<=k/\k≠aY/\k≠b1/\k≠tb):oW A w0 u ch aY tb b1 r bS j R:=by obtain⟨c,⟨o,d⟩,⟨T,f,g⟩,i⟩:=h;exact⟨c.aA b λk e=>⟨(a k e).1,(a k e).2.2.1⟩,⟨o,b.aj d λe=>(a _ e).2.2.2.1 rfl⟩,⟨T,f.aA b λe=>(a _ e).2.2.2.2 rfl,g⟩,i.trans b λk l e=>by grind⟩
theorem Qn {n:an}{G:a3}{vs us:a_}(K:(cA G vs 1).ok=true)(I:oW A w0 u z aY tb b1 r bS j (cA G vs 1))(y:ai w0 n)(b:u.heap.size<=b1)(a:b1<n.heap.size)(L:tb<u.heap.size)(h:u.heap.size<=n.heap.size)
  {E:ak} {un F:Nat} (al:bP n z E un F us) (hlen:us.length<=100000) (c:Bool) (aC:ax)
  (dQ:∀ v w',lB A w0 u tb u.heap.size (if c=false then⟨true,[],(0,0),(cA G vs 1).a2,none,false⟩
   else if(cA (cA G vs 1).a2 us 1).ok=true then⟨false,[],(7,1),(cA (cA G vs 1).a2 us 1).a2,none,false⟩else cA (cA G vs 1).a2 us 1) v w'->Q v w') :
  W prog (sub (bu f173) [1,1,1,1,1,1,1,1,1]) (it ⟨aY,0,none⟩ ⟨b1,0,none⟩ E un F c aC) (dE prog f173 Q) z:=by
 rw[Vj];obtain⟨q,⟨o,p⟩,⟨T,C,k⟩,s⟩:=I;cases c with
 |false=>
  refine m' p rfl 0 0 λcq d=>dQ _ _ ⟨rfl,?_⟩
  have H:g5 A w0 u tb n.heap.size ⟨true,[],(0,0),(cA G vs 1).a2,none,false⟩ z:=⟨s,T,C,k.dH,k.e_⟩;exact H.put (ao.refl _ _) (ao.refl _ _) d b a (by omega) h
 |true=>
  have i:=sD q C k y (by omega) al hlen 1;refine aB i ?_;rintro v M ⟨dJ,dc,raw,rfl,t,_⟩;have f:=t.after s;have B:av M b1 o.cells e3:=t.aA.aj p (by omega);refine⟨_,_,_,bA.aV ⟨(cA (cA G vs 1).a2 us 1).out.1,(cA (cA G vs 1).a2 us 1).out.2⟩ ⟨(cA (cA G vs 1).a2 us 1).ok,rfl,?_⟩⟩;refine dY B rfl (bA.single _) λu8 x l=>?_
  have D:=f.put (B':=u.heap.size) (ao.refl _ _) (ao.refl _ _) l b a (by omega) h;cases e:(cA (cA G vs 1).a2 us 1).ok with
  |true=>
   obtain⟨J,hw,_⟩:=tX e;have w:=f.ok J hw false [] (7,1);have g:=w.put (B':=n.heap.size) (ao.refl _ _) (ao.refl _ _) l b a (by omega) (db _);refine S6 x rfl 7 1 λcq d=>dQ _ _ ?_
   simp only[Bool.true_eq_false,if_false,if_true,e];exact⟨rfl,g.put (ao.refl _ _) (ao.refl _ _) d b a (by omega) h⟩
  |false=>
   have g:=f.put (B':=n.heap.size) (ao.refl _ _) (ao.refl _ _) l b a (by omega) (db _);refine AX x λcq d=>dQ _ _ ?_
   simp only[Bool.true_eq_false,if_false,if_true,e,Bool.false_eq_true];refine⟨?_,g.put (ao.refl _ _) (ao.refl _ _) d b a (by omega) h⟩
   grind
theorem Qo {T:eM}{G:a3}(g:oX w0 bQ aY tb r bS j z aW n pc gX hh (dL j) (iW j))(ag:ai u bQ)(R:ai w0 u)(dv:eV A w0 z tb T G)(cb:gF T)(cd:av z b1 (bA.cells ⟨0,0⟩) e3)
  (a8:u.heap.size<=b1) (M:b1<bQ.heap.size) (dW:tb<u.heap.size) (dA:aY<u.heap.size) (aC:ax) (dQ:∀ v w',lB A w0 u tb u.heap.size (kQ j G) v w'->Q v w') :
  W prog (sub (bu f173) [1,1,1,1,1]) (BD ⟨aY,0,none⟩ ⟨b1,0,none⟩ aW n pc none 0 0 gX n hh aC) (dE prog f173 Q) z:=by
 rw[Vi];have bz:=ag.size;have dU:=R.size;have eA:=g.kN.len;have d':=g.wl;have da:=g.dw.cg;have dG:=da.t';have dK:=da.yO;have de:n<=36:=by
  grind[dL,List.length_append,List.length_map]
 have bx:ai u z:=ag.new g.new;have Y:=sD g.dw dv cb (R.new ag) (by omega) g.kN (by omega) 1;refine aB Y ?_;rintro v cq ⟨dJ,dc,raw,rfl,E,cF,bk,cG⟩;refine⟨_,_,_,bA.aV ⟨(cA G (dL j) 1).out.1,(cA G (dL j) 1).out.2⟩ ⟨(cA G (dL j) 1).ok,rfl,?_⟩⟩;have cU:av cq b1 (bA.cells ⟨0,0⟩) e3:=E.aA.aj cd (by omega);have bC:=E.after (ao.cm bx);refine dY cU rfl (bA.single _) λaO aH K=>?_
 unfold kQ at dQ;cases af:(cA G (dL j) 1).ok with
 |false=>
  have bD:=bC.put (B':=bQ.heap.size) (ao.refl _ _) (ao.refl _ _) K a8 M (by omega) (db _);refine AX aH λeK cp=>dQ _ _ ?_
  rw[bh af];refine⟨?_,bD.put (ao.refl _ _) (ao.refl _ _) cp a8 M (by omega) bz⟩;rw[af]
 |true=>
  rw[aQ (by grind)]at dQ;obtain⟨dx,hw,eC⟩:=tX af;obtain⟨dr,b5,bj⟩:=E.clean dx hw;have l:ao (λk=>k=tb\/k=b1) z aO:=(E.aA.mono λk _ e=>.inl e).trans (K.mono λk _ e=>.inr e) λ_ _ e=>e
  have a5:oW A w0 u aO aY tb b1 r bS j (cA G (dL j) 1):=by
   refine⟨g.dw.aA l λk e=>?_,⟨_,aH⟩,⟨dr,b5.aA K (by omega),bj⟩,((ao.cm bx).trans E.aA λ_ _ e=>e).trans K λk Z e=>by omega⟩;have c4:=g.dw.lv;have c5:=g.dw.ne
   grind
  have bK:bP bQ aO aW n pc (dL j):=g.kN.BI g.ga l λk J e=>by have:=g.kN.g0 k J;omega
  have C:aX aO o6 1 gX n hh (us (iW j)):=g.own.aA l λk J e=>by have:=g.vP k J;omega
  obtain⟨⟨s,ah,w⟩,d_,d9⟩:=bK;have O:=ah.rd;have bM:=g.ga;have bN:=C.rd;have P:=a5.dw.new;have dd:=aH.lt;have dB:=bk.1;have di:bQ.heap.size<=aO.heap.size:=by have c4:=g.new.size;have c5:=l.size;omega
  clear C;refine cZ mix (λq env y=>∃ (i:Nat) (aR:Bool) (bT:ak) (un b0:Nat) (aC:ax),q=raw.length-i/\i<=raw.length/\aR=iX ((iW j).take i) ((cA G (dL j) 1).done.take i)/\env=s9 ⟨aY,0,none⟩ ⟨b1,0,none⟩ aW n pc bT un b0 gX n hh aR dJ raw.length dc raw.length i aC/\ai aO y/\bP aO y bT un b0 (h0 ((dL j).take i) ((iW j).take i) ((cA G (dL j) 1).done.take i))/\oW A w0 u y aY tb b1 r bS j (cA G (dL j) 1)) raw.length
   ⟨0,false,none,0,0,_,rfl,by omega,rfl,rfl,ao.refl _ _,bP.nil _ _,a5⟩ ?_
  rintro q env y ⟨i,aR,bT,un,b0,aC,rfl,ez,ca,rfl,ae,t,X⟩;rw[Uv];have dX:=t.len;have dm:=@zJ ((dL j).take i) ((iW j).take i) ((cA G (dL j) 1).done.take i);have dn:((dL j).take i).length<=n:=by grind
  refine bb (λZ=>?_) (λdC=>?_)
  ·have bo:i<raw.length:=by omega
   obtain⟨d,c9⟩:∃ d,raw[i]?=some d:=⟨_,b2 bo⟩;have dg:raw.length=(dL j).length:=cG.resolve_left λe=>by grind
   obtain⟨x,ea⟩:∃ x,(cA G (dL j) 1).done[i]?=some x:=⟨_,b2 (by omega)⟩;obtain⟨b3,cQ⟩:∃ b3,(iW j)[i]?=some b3:=⟨_,b2 (by omega)⟩;obtain⟨v1,bH⟩:∃ v1,(dL j)[i]?=some v1:=⟨_,b2 (by omega)⟩;obtain⟨r1,D⟩:∃ r1,s[i]?=some r1:=⟨_,b2 (by have:=w.1;omega)⟩;have cn:=bk.2 i d x c9 ea;have f:=w.2 i r1 v1 D bH;have F:=bM v1 (b9 bH);have eu:iX ((iW j).take (i+1)) ((cA G (dL j) 1).done.take (i+1))=(iX ((iW j).take i) ((cA G (dL j) 1).done.take i) || decide (ed x≠b3)):=by
    grind[List.take_add_one,DC,List.length_take]
   have a0:h0 ((dL j).take (i+1)) ((iW j).take (i+1)) ((cA G (dL j) 1).done.take (i+1))=h0 ((dL j).take i) ((iW j).take i) ((cA G (dL j) 1).done.take i)++(if ed x=b3/\v1.kind=3 then[sM v1]else[]):=by
    grind[List.take_add_one,DB,List.length_take]
   refine eQ (cells:=bV.cells) bV.len (by omega) (cF.new (P.new ae)) c9 rfl rfl λb o b_ _=>bV.aV d ⟨b_,?_⟩
   refine io (vs:=d.cells) rfl (bV.single _) λef eb dy cS bq=>?_
   rintro dp U;have ab:ai eb dp:=by rw[U];exact cR _
   clear U;have B:=(ae.new bq).new ab;refine⟨λy=>ai dp y,ao.refl _ _,bV.aV d ⟨λy H=>bX (ai.aj (ab.new H) cS) rfl,?_⟩⟩;refine W4 (bN.new B) cQ rfl (by omega) λeh eD b8=>⟨b3,λy H=>b8 y H,?_⟩
   have I:=r9 (cn.aA (ao.cm (P.new B)) λ_ _ e=>e);refine aB I ?_;rintro v eL ⟨rfl,ad⟩;have c:=B.new ad;have a:=(bq.new ab).new ad;refine⟨_,rfl,ad,d8 (λe=>?_) (λe=>?_)⟩
   ·rw[aQ λh=>e h.1,kV]at a0;rw[bI (x:=(i:Int)+1) (by omega) (by omega)];exact⟨raw.length-(i+1),by omega,i+1,true,bT,un,b0,_,rfl,by omega,by grind,rfl,c,by rw[a0];exact t.new a,X.new a⟩
   ·have aZ:aR=iX ((iW j).take (i+1)) ((cA G (dL j) 1).done.take (i+1)):=by grind
    have dN:r1.Kind=v1.kind:=by rw[f.eq];rfl
    refine eQ (cells:=aG.cells) aG.len (by omega) (O.new c) D rfl (by have:=w.1;omega) λej eF c7 cy=>⟨_,cy 0 _ rfl,eg (λc3=>?_) (λc3=>?_)⟩
    ·rw[bh ⟨e,by grind⟩]at a0;refine eQ (cells:=aG.cells) aG.len (by omega) (O.new c) D rfl (by have:=w.1;omega) λek eG ba dR=>aG.aV r1 ⟨ba,?_⟩
     refine io (vs:=r1.cells) rfl (aG.single _) λdt ec dz bO br=>?_
     rintro ee V;have L:ai ec ee:=by rw[V];exact cR _
     clear V;have cV:=ai.aj L bO;have p:=aX.new ((c.new br).new L) ah;have a':∀ k,aP aW k->k≠dt:=λk J=>by obtain⟨cs,cj⟩:=gN ah J;have c4:=cj.lt;have c5:=c.size;omega
     refine⟨λy=>aX y cP 9 aW n pc (dS s).flatten,p,?_⟩;refine FD (S:=λy=>aX y cP 9 aW n pc (dS s).flatten) (cells:=aG.cells) aG.len (by omega) (λy H=>H.rd) p D rfl (by have:=w.1;omega) λeo eH cz=>⟨r1.ai,λy H=>cz y H 5 _ rfl,?_⟩
     refine FD (S:=λy=>aX y cP 9 aW n pc (dS s).flatten) (cells:=aG.cells) aG.len (by omega) (λy H=>H.rd) p D rfl (by have:=w.1;omega) λer eJ cB=>⟨r1.Old,λy H=>cB y H 4 _ rfl,?_⟩
     refine lA cV (i:=4) rfl λeO cW bm=>⟨p.aA bm λk J e=>a' k J e,?_⟩
     refine lA cW (i:=5) rfl λdq cY cr=>?_
     have dT:=L.size;have N:ai y dq:=(((a.new br).new L).trans bm λk Z e=>by have:=a.size;omega).trans cr λk Z e=>by have:=a.size;omega
     refine aG.aV {r1 with Old:=r1.ai,ai:=r1.Old} ⟨bX cY rfl,?_⟩;rintro et eR b7 c2;have cI:cT (λk=>k<y.heap.size) dq {r1 with Old:=r1.ai,ai:=r1.Old} (sM v1):=by
      refine⟨?_,?_,λ_=>F,.inl F,λz aq=>?_,f.old,f.new,f.key,f.eX,f.cap,f.lx⟩
      ·have du:=f.eq;rw[du];rfl
      ·rw[show(sM v1).words=[] from F];exact .inl rfl
      grind[sM]
     refine bP.mC t ae N cI (by omega) b7 c2 λap ac eP ey ct cu=>?_
     rw[bI (x:=(i:Int)+1) (by omega) (by omega)];refine⟨raw.length-(i+1),by omega,i+1,aR,ap,un+1,ac,_,rfl,by omega,aZ,rfl,cu,by grind,(X.new N).T5 ct λk J=>?_⟩;have:=t.g0 k J
     grind
    ·rw[aQ λh=>c3 (by grind),kV]at a0;rw[bI (x:=(i:Int)+1) (by omega) (by omega)];exact⟨raw.length-(i+1),by omega,i+1,aR,bT,un,b0,_,rfl,by omega,aZ,rfl,c,by rw[a0];exact t.new a,X.new a⟩
  ·have bl:i=(cA G (dL j) 1).done.length:=by omega
   rw[bl,ja,C2]at ca;rw[bl,ja,C3]at t
   grind[zJ,dL,iW,cA,Qn]
end
section
abbrev HB:bY:=274
theorem RK {r:dj}{bS:aS}{j:cJ}(a:fv w0 u aY tb r bS j){T:eM}{G:a3}(bO:eV A w0 u tb T G)(bk:gF T) :
  a5 173 [ptr aY] u (lB A w0 u tb u.heap.size (kQ j G)):=by
 refine ba Tryz.func173 ?_;rw[ptr,Xs];rintro b1 bQ bh ah;obtain⟨J,I⟩:=bo bh ah;have J:av bQ b1 (bA.cells ⟨0,0⟩) e3:=J;clear ah;have U:=a.bH I;have a':=bO.new I;have hlen:=a.bp.b6.len;have cm:=I.size;have bq:=J.lt;have bD:=bO.aj.lt;have W:=a.cg;have b7:=W.aL;have b8:=W.t';have b_:=W.yO;have bm:=a.bp.aL;have bx:=a.mem;have cd:=W.eX bS (b9 bx);have M:dU bS.cK:=by grind[dU]
 have bT:=U.new.size;have b5:tq j=bS:=by
  unfold tq;cases cj:j.v.mem with
  |nil=>grind
  |cons x xs=>grind
 refine⟨_,_,_,U.aj.cell (i:=6) rfl,?_⟩;refine cZ mix (λq env z=>∃ (i:Nat) (aW:ak) (pc:Nat) (gX:ak) (hh:Nat) (aC:ax),q=j.writes.length-i/\i<=j.writes.length/\env=xX ⟨aY,0,none⟩ ⟨b1,0,none⟩ aW i pc none 0 0 gX i hh r.eN r.dZ r.hR r.dZ i aC/\oX w0 bQ aY tb r bS j z aW i pc gX hh ((j.writes.take i).map (mj j)) ((j.writes.take i).map (·.Head))) j.writes.length
  ⟨0,none,0,none,0,_,rfl,by omega,rfl,⟨U,ao.refl _ _,bP.nil _ _,(λx aO=>by grind),aX.nil _ _ _,(λk cb=>cp cb ou),rfl⟩⟩ ?_
 rintro q env z ⟨i,aW,pc,gX,hh,aC,rfl,ca,rfl,t⟩;rw[Ut,hlen];refine bb (λbr=>?_) (λbl=>?_)
 ·obtain⟨p,af⟩:∃ p,j.writes[i]?=some p:=⟨_,b2 (by omega)⟩;have F:=b9 af;have E:=W.wl p F;have bz:=W.JU p F;have bC:=a.bp.b6.u64 p F;refine eQ (cells:=aN.cells) aN.len (by omega) (a.bp.b6.rd.new t.dw.new) af rfl rfl λb o V _=>aN.aV p ⟨V,?_⟩
  refine io (vs:=p.cells) rfl (aN.single _) λL bM bj K Y=>?_
  rintro aH e;have w:ai bM aH:=by rw[e];exact cR _
  clear e;have d:=Y.new w;refine⟨λy=>av y L p.cells fr/\fv w0 y aY tb r bS j,⟨ai.aj w K,t.dw.bH d⟩,aN.aV p ⟨λy B=>bX B.1 rfl,_,λy B=>B.2.aj.cell (i:=0) rfl,?_⟩⟩;refine aB (z0 aH p bz.1 (by omega)) ?_;rintro v ct ⟨rfl,ad⟩;refine⟨_,_,rfl,?_⟩;rintro bV P;have ae:ai ct bV:=by rw[P];exact cR _
  clear P;have O:=(d.new ad).new ae;have l:=ai.aj ((w.new ad).new ae) K;have s:=t.dw.bH O;refine⟨λy=>av y L p.cells fr/\fv w0 y aY tb r bS j,⟨l,s⟩,aS.aV bS ⟨λy B=>bX B.2.aj rfl,_,λy B=>B.1.cell (i:=0) rfl,_,λy B=>B.1.cell (i:=1) rfl,?_⟩⟩;refine aB (qV bV E.1 E.2) ?_;rintro v bN ⟨rfl,rfl⟩;refine⟨_,rfl,⟨l,s⟩,?_⟩;rw[bm];have Z:cT (λ_=>False) bN ⟨3,0,p.bt*8,0,p.Head,dK p.Head j.aL,none,0,0,0,0⟩ ⟨3,0,p.bt*8,0,p.Head,dK p.Head j.aL,[],0,0⟩:=qI (.inl rfl) rfl (by omega) (λ_=>rfl) (λx aO=>by cases aO) (by simp) bC (Fz _ _);have f:=tN s M Z;refine aB f ?_;rintro v cu ⟨bK,rfl,H,c⟩;refine aG.aV bK ⟨rfl,⟨ai.aj c l,s.bH c⟩,?_⟩;rintro b0 cy R ab;have Q:=t.bH O;have C:addr j.v.number bS ⟨3,0,p.bt*8,0,p.Head,dK p.Head j.aL,[],0,0⟩=mj j p:=by grind[mj]
  rw[C]at H;refine Q.push c H rfl (by omega) (by omega) (ai.aj c l) (by decide) (by decide) (y:=p.Head) (S:=λy=>av y L p.cells fr/\fv w0 y aY tb r bS j) (λch a0 a8=>⟨a0,a8⟩) R ab (rd:=λch y=>ch.cell? ⟨L,1,none⟩=some (.int .u64 y)) (λch h=>h.cell (i:=1) rfl) λap ac cn b3 cr aQ aP ch D=>?_
  rw[bI (x:=(i:Int)+1) (by omega) (by omega)];have aR:(j.writes.take i).map (mj j)++[mj j p]=(j.writes.take (i+1)).map (mj j):=by grind[List.take_add_one]
  have aZ:(j.writes.take i).map (·.Head)++[p.Head]=(j.writes.take (i+1)).map (·.Head):=by grind[List.take_add_one]
  rw[aR,aZ]at D;exact⟨j.writes.length-(i+1),by omega,i+1,ap,ac,aQ,aP,_,rfl,by omega,by rw[<-hlen];rfl,D⟩
 ·have X:i=j.writes.length:=by omega
  subst X;simp only[ja]at t;rw[VM];have ag:=a.bp.len;refine⟨_,_,_,t.dw.aj.cell (i:=5) rfl,?_⟩;refine cZ mix (λq env z=>∃ (i:Nat) (aW:ak) (pc:Nat) (gX:ak) (hh:Nat) (aC:ax),q=j.reads.length-i/\i<=j.reads.length/\env=xY ⟨aY,0,none⟩ ⟨b1,0,none⟩ aW (j.writes.length+i) pc none 0 0 gX (j.writes.length+i) hh r.Reads r.lJ r.p1 r.lJ i aC/\oX w0 bQ aY tb r bS j z aW (j.writes.length+i) pc gX hh (j.writes.map (mj j)++(j.reads.take i).map (oR j)) (j.writes.map (·.Head)++(j.reads.take i).map (·.Head))) j.reads.length
   ⟨0,aW,pc,gX,hh,_,rfl,by omega,rfl,by grind⟩ ?_
  rintro q env z ⟨i,aW,pc,gX,hh,aC,rfl,ca,rfl,t⟩;rw[Uu,ag];refine bb (λbr=>?_) (λbl=>?_)
  ·obtain⟨p,af⟩:∃ p,j.reads[i]?=some p:=⟨_,b2 (by omega)⟩;have F:=b9 af;have E:=W.qy p F;refine eQ (cells:=eW.cells) eW.len (by omega) (a.bp.rd.new t.dw.new) af rfl rfl λb o V _=>eW.aV p ⟨V,?_⟩
   refine io (vs:=p.cells) rfl (eW.single _) λL bM bj K Y=>?_
   rintro aH e;have w:ai bM aH:=by rw[e];exact cR _
   clear e;have d:=Y.new w;have g:=ai.aj w K;have n:=t.dw.bH d;refine⟨λy=>av y L p.cells HB/\fv w0 y aY tb r bS j,⟨g,n⟩,aS.aV bS ⟨λy B=>bX B.2.aj rfl,_,λy B=>B.1.cell (i:=0) rfl,?_⟩⟩;refine aB (qV aH E.1 E.2) ?_;rintro v bN ⟨rfl,rfl⟩;refine⟨_,rfl,⟨g,n⟩,?_⟩;have Z:cT (λ_=>False) bN ⟨1,0,p.bt*8,1,0,0,none,0,0,0,0⟩ ⟨1,0,p.bt*8,1,0,0,[],0,0⟩:=qI (.inl rfl) rfl (by omega) (λ_=>rfl) (λx aO=>by cases aO) (by simp) hL hL;have f:=tN n M Z;refine aB f ?_;rintro v cu ⟨bK,rfl,H,c⟩;refine aG.aV bK ⟨rfl,⟨ai.aj c g,n.bH c⟩,?_⟩;rintro b0 cy R ab;have Q:=t.bH d;have C:addr j.v.number bS ⟨1,0,p.bt*8,1,0,0,[],0,0⟩=oR j p:=by grind[oR]
   rw[C]at H;refine Q.push c H rfl (by omega) (by omega) (ai.aj c g) (by decide) (by decide) (y:=p.Head) (S:=λy=>av y L p.cells HB/\fv w0 y aY tb r bS j) (λch a0 a8=>⟨a0,a8⟩) R ab (rd:=λch y=>ch.cell? ⟨L,1,none⟩=some (.int .u64 y)) (λch h=>h.cell (i:=1) rfl) λap ac cn b3 cr aQ aP ch D=>?_
   rw[bI (x:=(i:Int)+1) (by omega) (by omega)];have aR:j.writes.map (mj j)++(j.reads.take i).map (oR j)++[oR j p]=j.writes.map (mj j)++(j.reads.take (i+1)).map (oR j):=by grind[List.take_add_one]
   have aZ:j.writes.map (·.Head)++(j.reads.take i).map (·.Head)++[p.Head]=j.writes.map (·.Head)++(j.reads.take (i+1)).map (·.Head):=by grind[List.take_add_one]
   rw[aR,aZ]at D;exact⟨j.reads.length-(i+1),by omega,i+1,ap,ac,aQ,aP,_,rfl,by omega,by rw[<-ag];rfl,D⟩
  ·have X:i=j.reads.length:=by omega
   subst X;simp only[ja]at t;have N:=t.new;refine Qo t I a.new (a'.new N) bk (ai.aj N J) (by omega) bq bD a.aj.lt _ λv w' al=>al
end
section
open IntKind
variable (w:an)(R:cM){s:ak}{a b:Nat}{A:aU}{i k:Int}{j:ar}
theorem KN (L:dj):bd prog f92 [L.val,ad s a b] R w=(aR w L.cells.toArray 39 λa6 V=>aR V #[ab 0,ab 0] 171 λA K=>BW K (af a6 0) λr=>cG 124 #[r.val] K λc M=>cond (c != 0) (a8 M (af A 0) 0 [ab c,ab 0] λF=>ea F (af A 0) λm=>F=F/\R (.tuple #[a0,m.val,ae true]) F) (cF M λQ B=>vU B (af a6 0) λu=>ov 115 #[ad s a b] Q λd I=>B I/\aR I #[ab u.Client,ab u.Seq,ab u.hP,ab u.View.Number,ad u.View.f7 u.View.fq u.View.gB,ad u.Reads u.lJ u.p1,ad u.eN u.dZ u.hR,.pointer d,ab 0,ab 0,ae false] 212 λD H=>B H/\mD H (af a6 3) λn=>Calls prog 125 #[n.val] H λe W=>aS.ex λo=>∃ (f:Bool),e=.returned (.tuple #[o.val,ae f])/\a8 W (af D 8) 0 o.cells λN=>WD 126 #[a' D] N λq p=>a8 p (af A 0) 0 q.cells λj=>lr j (af D 7) λt=>j7 118 #[.pointer t] j λg h i k v=>cond k (a8 v (af A 0) 0 [ab 0,ab 0] λx=>ea x (af A 0) λy=>x=x/\R (.tuple #[ad g h i,y.val,ae false]) x) (lr v (af D 7) λU=>dx 119 #[.pointer U] v λl z=>cond l (a8 z (af A 0) 0 [ab 6,ab 0] λJ=>cF J λS T=>I6 T (af A 0) λO=>a8 S (af A 0) 0 O.cells λE=>ea E (af A 0) λC=>E=E/\R (.tuple #[a0,C.val,ae true]) E) (cF z λX Z=>I6 Z (af A 0) λP=>a8 X (af A 0) 0 P.cells λG=>ea G (af A 0) λY=>G=G/\R (.tuple #[a0,Y.val,ae true]) G)))):=by kernel_rfl
def x9 (s2:aU)(a:ak)(b c:Nat)(d f:Int)(j:ar):ar:=ag j 0 2 (.pointer (some s2)::ag j 2 14 (ad a b c::ab d::ab f::ag j 16 13 []))
def Ig (a:aU)(j:ar):ar:=ag j 0 2 (.pointer (some a)::ag j 2 30 [])
theorem XK:bd prog f126 [a' a] R w=(aR w #[ab 0,ab 0] 171 λb e=>aR e #[.func (.func 172) #[a' a] #[],.func (.func 173) #[a' a] #[],.func (.func 174) #[a' a] #[],.func (.func 175) #[a' a] #[],.func (.func 176) #[a' a] #[]] 277 λc d=>cz prog (cU f126 [1,0,1,0,0]) (x9 (af b 0) (bk c) 5 5 5 0 (jp (af a 0)::bm 5 (jp (af a 0)::.func (.func 172) #[a' a] #[]::jp (af a 0)::.func (.func 173) #[a' a] #[]::jp (af a 0)::.func (.func 174) #[a' a] #[]::jp (af a 0)::.func (.func 175) #[a' a] #[]::jp (af a 0)::.func (.func 176) #[a' a] #[]::bm 13 []))) (aO 0 (aT f126 [1,1] R)) d):=by kernel_rfl
theorem Vd (n:ar->aJ):W prog (sb f126 [1,0,1,0,0]) (x9 A s a b i k j) (aZ n (aO 0 (aT f126 [1,1] R))) w=(cond (k<i) (bx s a k 1 λm=>∃ x,w.cell? m=some x/\jK prog x #[] w λe p=>bA.ex λh=>∃ g,e=.returned (.tuple #[h.val,ae g])/\aR p #[ab 0,ab 0] 171 λl o=>a8 o (af l 0) 0 h.cells λf=>cond (!g) (ea f (af l 0) λr=>a8 f A 0 r.cells λd=>ea d A λc=>d=d/\R c.val d) (n (x9 A s a b i (i64.wrap (k+1)) (aH j 0::aH j 1::aH j 2::x::jp (af l 0)::ae g::ag j 6 10 [ae (k<i),jp m,x,.tuple #[h.val,ae g],x,.tuple #[h.val,ae g],h.val,ae g,ae g,ae (!g),aH j 26,ab (i64.wrap (k+1)),aH j 28])) f)) (W prog (sb f126 [1,1]) (Ig A (ag j 0 16 (ad s a b::ab i::ab k::ae (k<i)::ag j 17 12 []))) (bT f126 R) w)):=by kernel_rfl
theorem Vg:W prog (sb f126 [1,1]) (Ig A j) (bT f126 R) w=(a8 w A 0 [ab 0,ab 3] λa=>ea a A λb=>a=a/\R b.val a):=by kernel_rfl
end
section
def oy:List (a3->cd)->a3->cd
 | [],G=>sK G
 |f::a,G=>u3 (f G) (oy a)
def qX (j:cJ):List (a3->cd):=[sL j,kQ j,u4 j,oQ j,oe j]
def runM (j:cJ)(G:a3):cd:=oy (qX j) G
def qY (R:cd):Int×Int:=if R.ok=true then(0,3)else R.out
theorem VC:iV prog 172=true:=by kernel_rfl
theorem VD:iV prog 173=true:=by kernel_rfl
theorem VE:iV prog 174=true:=by kernel_rfl
theorem VF:iV prog 175=true:=by kernel_rfl
theorem VG:iV prog 176=true:=by kernel_rfl
def Bu (aY:Nat):ax:=[.func (.func 172) #[ptr aY] #[],.func (.func 173) #[ptr aY] #[],.func (.func 174) #[ptr aY] #[],.func (.func 175) #[ptr aY] #[],.func (.func 176) #[ptr aY] #[]]
variable {A:a4}{w0 u:an}{aY tb:Nat}{r:dj}{bS:aS}{j:cJ}
theorem RL (b:fv w0 z aY tb r bS j)(d:pT j){T:eM}{G:a3}(c:eV A w0 z tb T G)(a:gF T)(g:i<5) :
  ∃ (f:FuncId) (F:a3->cd),(Bu aY)[i]?=some (.func (.func f) #[ptr aY] #[])/\(qX j)[i]?=some F/\iV prog f=true/\a5 f [ptr aY] z (lB A w0 z tb z.heap.size (F G)):=by
 have e:i=0\/i=1\/i=2\/i=3\/i=4:=by omega
 rcases e with rfl | rfl | rfl | rfl | rfl
 ·exact⟨_,_,rfl,rfl,VC,RI b d c a⟩
 ·exact⟨_,_,rfl,rfl,VD,RK b c a⟩
 ·exact⟨_,_,rfl,rfl,VE,Ql b c a⟩
 ·exact⟨_,_,rfl,rfl,VF,Qm b d c a⟩
 ·exact⟨_,_,rfl,rfl,VG,Ol b d c a⟩
theorem NV {F:a3->cd}{l:List (a3->cd)}(h:l[i]?=some F)(G:a3):oy (l.drop i) G=u3 (F G) (oy (l.drop (i+1))):=by have a:=cS h;rw[wv a];rw[b2 a]at h;cases h;rfl
theorem EW (G:a3):(sK G).ask=none/\(sK G).dH=false:=⟨rfl,rfl⟩
theorem FE {j:cJ}{G:a3}{a:Int}(h:(oj j G a ws f).ok=true):(oj j G a ws f).ask=none/\(oj j G a ws f).dH=false:=by
 unfold oj at h ⊢;split
 ·exact EW G
 ·rename_i b;rw[aQ b]at h
  grind[tX]
theorem Om {j:cJ}{G:a3}(h:(kQ j G).ok=true):(kQ j G).ask=none/\(kQ j G).dH=false:=by
 unfold kQ at h ⊢
 grind
theorem On {j:cJ}{G:a3}(h:(oQ j G).ok=true):(oQ j G).ask=none/\(oQ j G).dH=false:=⟨(tX h).1,(tX h).2.1⟩
theorem Qp {j:cJ}{G:a3}(h:(oe j G).ok=true):(oe j G).ask=none/\(oe j G).dH=false:=by
 unfold oe at h ⊢;split
 ·exact EW G
 ·rename_i a;rw[aQ a]at h
  grind[tX]
theorem Ro {j:cJ}(i:Nat)(F:a3->cd)(h:(qX j)[i]?=some F)(G:a3)(a:(F G).ok=true):(F G).ask=none/\(F G).dH=false:=by
 have c:=cS h;have b:i=0\/i=1\/i=2\/i=3\/i=4:=by grind[qX]
 rcases b with rfl | rfl | rfl | rfl | rfl<;>cases h
 ·exact FE a
 ·exact Om a
 ·exact FE a
 ·exact On a
 grind[Qp]
attribute [local irreducible] iV jK mQ
theorem S7 (C:fv w0 u aY tb r bS j)(aO:pT j){T:eM}{G:a3}(ab:eV A w0 u tb T G)(O:gF T) :
  a5 126 [ptr aY] u λv bB=>v=bA.val ⟨(qY (runM j G)).1,(qY (runM j G)).2⟩/\g5 A w0 u tb u.heap.size (runM j G) bB:=by
 refine ba Tryz.func126 ?_;rw[ptr,XK];rintro b1 bQ M H;obtain⟨b,D⟩:=bo M H;have b:av bQ b1 (bA.cells ⟨0,0⟩) e3:=b;clear H;rintro K cl N I;obtain⟨d,E⟩:=bo N I;obtain⟨lK,d⟩:∃ lK,av cl K (Bu aY) lK:=⟨_,d⟩;clear I;have g:=D.new E;have s:=ai.aj E b;have aX:=s.lt;have aZ:=d.lt;have a':=ab.aj.lt;have ad:=C.aj.lt;have a8:=D.size;refine cZ mix (λq env z=>∃ (i:Nat) (c:a3) (aC:ax),q=5-i/\i<=5/\env=x9 ⟨b1,0,none⟩ (some ⟨K,0,none⟩) 5 5 5 i aC/\fv w0 z aY tb r bS j/\(∃ T,eV A w0 z tb T c/\gF T)/\ao (λk=>k=tb) u z/\av z b1 (bA.cells ⟨0,0⟩) e3/\av z K (Bu aY) lK/\runM j G=oy ((qX j).drop i) c) 5
  ⟨0,G,_,rfl,by omega,rfl,C.bH g,⟨T,ab.new g,O⟩,ao.cm g,s,d,rfl⟩ ?_
 rintro q env z ⟨i,c,aC,rfl,bq,rfl,l,⟨ag,y,w⟩,n,b,d,a⟩;rw[Vd];refine bb (λa0=>?_) (λaR=>?_)
 ·obtain⟨f,F,aP,Z,V,P⟩:=RL l aO y w (i:=i) (by omega);rw[NV Z]at a;refine dW (by omega) (by omega) ⟨_,d.cell (i:=0+i*1) (by rw[iZ,wo];exact aP),?_⟩;refine rZ V (xs:=#[ptr aY]) (by simp) ?_;refine aB P ?_;rintro v cq ⟨rfl,p⟩;refine bA.aV ⟨(F c).out.1,(F c).out.2⟩ ⟨(F c).ok,rfl,?_⟩;refine io (vs:=bA.cells ⟨(F c).out.1,(F c).out.2⟩) rfl (bA.single _) λbk bj aH X o=>?_
  have W:=n.size;have U:=b.lt;have h:=(p.after n).new o;have t:av bj b1 (bA.cells ⟨0,0⟩) e3:=ai.aj o (p.aA.aj b (by omega));have J:=ai.aj o (p.aA.aj d (by omega));unfold u3 at a;cases ae:(F c).ok with
  |false=>
   rw[aQ (by grind)]at a;refine hc rfl ?_;refine bA.aV ⟨(F c).out.1,(F c).out.2⟩ ⟨bX X rfl,?_⟩;refine dY t rfl (bA.single _) λbr Y S=>?_
   refine bA.aV ⟨(F c).out.1,(F c).out.2⟩ ⟨bX Y rfl,rfl,?_,?_⟩
   ·rw[a];unfold qY
    grind
   ·rw[a];exact h.put (ao.refl _ _) (ao.refl _ _) S (by omega) (by omega) (by omega) (by omega)
  |true=>rw[bh ae]at a;obtain⟨aG,hw⟩:=Ro i F Z c ae;obtain⟨af,L,B⟩:=h.clean aG hw;rw[bI (x:=(i:Int)+1) (by omega) (by omega)];exact⟨5-(i+1),by omega,i+1,(F c).a2,_,rfl,by omega,rfl,(l.aA p.aA λk e=>by have bl:=l.lv;have bm:=l.ne;grind).bH o,⟨af,L,B⟩,h.aA,t,J,a⟩
 ·have Q:i=5:=by omega
  subst Q;rw[Vg,a];refine m' b rfl 0 3 λcq R=>⟨rfl,?_⟩
  have ah:g5 A w0 u tb z.heap.size (oy ((qX j).drop 5) c) z:=⟨n,ag,y,w.dH,w.e_⟩;have W:=n.size;have U:=b.lt;exact ah.put (ao.refl _ _) (ao.refl _ _) R (by omega) (by omega) (by omega) (by omega)
end
section
def ee (j:cJ)(G:a3):a_×(Int×Int)×Bool:=
 if j.valid≠0 then([],(j.valid,0),true)else match (runM j G).ask with
 |some vs=>(vs,(0,0),false)
 |none=>if(runM j G).dH=true\/(runM j G).a2≠[]then([],(6,0),true)else([],qY (runM j G),true)
theorem FF {T:eM}(aq:av w tb T.cells p5):a5 118 [ptr tb] w λx w'=>x=.tuple #[.slice T.aa T.e_ T.ac,.bool (decide ((T.e_:Int)>0))]/\ai w w':=by
 refine ba Tryz.func118 ?_;rw[ptr,Yv];rintro w1 b;have a:ai w w1:=by rw[b];exact cR _
 clear b;exact⟨λy=>ai w1 y,ao.refl _ _,_,_,_,λy c=>(ai.aj (a.new c) aq).cell (i:=1) rfl,_,_,_,λy c=>(ai.aj (a.new c) aq).cell (i:=1) rfl,rfl,a⟩
theorem FG {T:eM}(aq:av w tb T.cells p5):a5 119 [ptr tb] w λx w'=>x=.bool (T.dH || decide ((T.f9:Int)>0))/\ai w w':=by
 refine ba Tryz.func119 ?_;rw[ptr,XU];refine⟨T.dH,aq.cell (i:=2) rfl,?_⟩;cases T.dH
 ·exact dG rfl ⟨_,_,_,aq.cell (i:=0) rfl,rfl,ao.refl _ _⟩
 ·exact hc rfl ⟨rfl,ao.refl _ _⟩
def sN (w:an)(j:cJ)(G:a3)(v:bf)(u:an):Prop:=
 ∃ (aa:ak) (ac:Nat) (a:List aG),v=.tuple #[.slice aa a.length ac,bA.val ⟨(ee j G).2.1.1,(ee j G).2.1.2⟩,.bool (ee j G).2.2]/\ai w u/\bl u aa (dS a).flatten/\(∀ k,aP aa k->w.heap.size<=k)/\et (λk=>k<w.heap.size) u a (ee j G).1
theorem sN.nil {w u:an}{j:cJ}{G:a3}{o:Int×Int}{b:Bool}(h:ee j G=([],o,b))(c:ai w u):sN w j G (.tuple #[.slice none 0 0,bA.val ⟨o.1,o.2⟩,.bool b]) u:=
 ⟨none,0,[],by grind,c,.inl rfl,λk a=>cp a ou,by rw[h];exact⟨rfl,λi v x al=>by grind⟩⟩
theorem G7 {o:bA}(aq:av u b o.cells e3){K:bA->aJ}(j:∀ cq,ao (λk=>k=b) u cq->K o cq) :
  ∀ w1,w1=u.drew->∃ i:aJ,i w1/\bA.ex λr=>(∀ y,i y->cn y ⟨b,0,none⟩ 0 r.cells)/\ej w1 ⟨b,0,none⟩ 0 r.cells/\∀ a,a=cI w1 ⟨b,0,none⟩ 0 r.cells->bA.ex λres=>cn a ⟨b,0,none⟩ 0 res.cells/\a=a/\K res a:=by
 rintro w1 d;have c:ai u w1:=by rw[d];exact cR _
 clear d;have f:=ai.aj c aq;refine⟨λy=>ai w1 y,ao.refl _ _,bA.aV o ⟨λy l=>bX (ai.aj l f) rfl,?_⟩⟩;exact dY f rfl (bA.single _) λa h g=>bA.aV o ⟨bX h rfl,rfl,j a ((ao.cm c).trans g λ_ _ e=>e)⟩
theorem S8 {o:bA}(aq:av u b o.cells e3)(c f:Int){K:bA->aJ}(l:∀ cq,ao (λk=>k=b) u cq->K ⟨c,f⟩ cq) :
  ej u ⟨b,0,none⟩ 0 [(.int .i64 c),(.int .i64 f)]/\∀ i,i=cI u ⟨b,0,none⟩ 0 [(.int .i64 c),(.int .i64 f)]->∀ w1,w1=i.drew->∃ j:aJ,j w1/\bA.ex λr=>(∀ y,j y->cn y ⟨b,0,none⟩ 0 r.cells)/\ej w1 ⟨b,0,none⟩ 0 r.cells/\∀ a,a=cI w1 ⟨b,0,none⟩ 0 r.cells->bA.ex λres=>cn a ⟨b,0,none⟩ 0 res.cells/\a=a/\K res a:=
 dY aq (vs:=bA.cells ⟨c,f⟩) rfl (bA.single _) λi h d=>G7 h λcq g=>l cq (d.trans g λ_ _ e=>e)
theorem Qq {r:dj}{j:cJ}(bC:qS w r j)(b8:j.valid=0->pT j){ab:ak}{Y gc:Nat}{G:a3}(b_:ic A w ab G)(bz:Y=G.length)(bx:Y<=gc) :
  a5 92 [r.val,.slice ab Y gc] w (sN w j G):=by
 refine ba Tryz.func92 ?_;rw[KN];rintro b1 bQ bl aH;obtain⟨h,aG⟩:=bo bl aH;have h:av bQ b1 r.cells 39:=h;clear aH;rintro bk cl bm aO;obtain⟨s,l⟩:=bo bm aO;have s:av cl bk (bA.cells ⟨0,0⟩) e3:=s;clear aO;have z:=aG.new l;have cp:=aG.size;have ca:=h.lt;have cb:=s.lt;refine dj.aV r ⟨bX (ai.aj l h) rfl,?_⟩;refine aB (OJ (bC.new z)) ?_;rintro v bw ⟨rfl,n⟩;have B:=z.new n;have I:=ai.aj n s;refine⟨_,rfl,d8 (λal=>?_) (λal=>?_)⟩
 ·refine m' I rfl j.valid 0 λcq bD=>sN.nil (o:=(j.valid,0)) (b:=true) ?_ (B.trans bD λk a e=>by omega)
  unfold ee
  grind
 have f:=PP al;have ad:=b8 al;obtain⟨bS,ah⟩:∃ bS,j.v.mem[0]?=some bS:=⟨_,b2 f.mem.1⟩;rintro bI aP;have p:ai bw bI:=by rw[aP];exact cR _
 clear aP;have C:=B.new p;have H:=ai.aj ((l.new n).new p) h;refine⟨λy=>ai bI y,ao.refl _ _,dj.aV r ⟨λy cF=>bX (ai.aj cF H) rfl,?_⟩⟩;refine aB (Gj bI ab Y gc) ?_;rintro v cG ⟨tb,rfl,cA,aZ,d⟩;refine⟨_,rfl,d,?_⟩;rintro Z cP bq aQ;obtain⟨X,q⟩:=bo bq aQ;have X:av cP Z (ml r tb ⟨0,0,false⟩) m3:=X;clear aQ;have cy:=d.size;have bN:=C.size;have cr:=l.size;have ct:=n.size;have cu:=p.size;have cj:=aZ.lt;refine⟨d.new q,da.aV r.View ⟨bX (ai.aj (d.new q) H) rfl,?_⟩⟩;obtain⟨cT,W⟩:=bC.view;have D:=(C.new d).new q;refine aB (Dz (W.new D) ah) ?_;rintro v u8 ⟨rfl,P⟩;have a8:=ai.aj P X;refine aS.aV bS ⟨true,rfl,gq a8 (by simp[ml,aS.cells,dj.cells]) (aS.single _),?_⟩;rintro t V;have a':av t Z (ml r tb bS) m3:=by rw[V];exact a8.cI (o:=8) (i:=0) (vs:=bS.cells)
 have ae:ao (λk=>k=Z) u8 t:=by rw[V];exact ir _ _ _ _ _
 clear V;have E:ai w t:=(D.new P).trans ae λk a e=>by omega
 have g:ai cG t:=(q.new P).trans ae λk a e=>by omega
 have a0:av t tb (eM.cells ⟨ab,Y,gc,none,0,0,false⟩) p5:=ai.aj g aZ;have aX:av t bk (bA.cells ⟨0,0⟩) e3:=ai.aj ((p.new d).new g) I;have br:fv w t Z tb r bS j:=⟨a',bC,f,ah,E,by omega,by omega,by omega⟩;have b3:eV A w t tb ⟨ab,Y,gc,none,0,0,false⟩ G:=⟨a0,b_,bz,bx⟩;have O:=S7 br ad b3 ⟨rfl,rfl⟩;refine aB O ?_;rintro v cQ ⟨rfl,U⟩;have cz:=g.size;have bb:av cQ bk (bA.cells ⟨0,0⟩) e3:=U.aA.aj aX (by omega);refine bA.aV ⟨(qY (runM j G)).1,(qY (runM j G)).2⟩ ⟨rfl,?_⟩;refine dY bb rfl (bA.single _) λbO bh af=>?_
 have F:=(U.after (u:=w) (ao.cm E)).put (B':=t.heap.size) (ao.refl _ _) (ao.refl _ _) af (by omega) (by omega) (by omega) (db _);have Q:ai w bO:=(ao.refl _ w).trans F.aA λk a e=>by omega
 have L:av bO Z (ml r tb bS) m3:=af.aj (U.aA.aj a' (by omega)) (by omega);obtain⟨_,T,M,b5,N⟩:=F;refine⟨_,L.cell (i:=7) rfl,?_⟩;refine aB (FF M.aj) ?_;rintro v cZ ⟨rfl,c⟩;have J:=ai.aj c bh;cases x:(runM j G).ask with
 |some vs=>
  rw[x]at N;obtain⟨cU,w1,bV,cV,bK⟩:=N;have b7:=bK.len;refine⟨_,_,_,_,rfl,hc (by grind) ?_⟩;refine m' J rfl 0 0 λbT ag=>?_
  have b0:bP w1 bT T.aa T.e_ T.ac vs:=(bK.new c).aA ag λk e=>by omega
  obtain⟨⟨bj,cn,aR⟩,cd,b9⟩:=b0;have cY:=aR.1;have cB:=bV.size;have bH:ee j G=(vs,(0,0),false):=by
   unfold ee
   grind
  refine⟨T.aa,T.ac,bj,?_,(Q.new c).trans ag λk a e=>by omega,cn.rd,λk cW=>by grind,?_⟩
  ·grind
  ·rw[bH];exact aR.aA (ao.refl _ _) λk a e=>.inl (by omega)
 |none=>
  rw[x]at N;refine⟨_,_,_,_,rfl,dG (by grind) ?_⟩;refine⟨_,(ai.aj c L).cell (i:=7) rfl,?_⟩;refine aB (FG (ai.aj c M.aj)) ?_;rintro v bT ⟨rfl,R⟩;have K:=ai.aj R J;have bM:=M.f9;refine⟨_,rfl,?_⟩;cases hm:(T.dH || decide ((T.f9:Int)>0))with
  |true=>
   refine S8 K 6 0 λcS S=>sN.nil (o:=(6,0)) (b:=true) ?_ (((Q.new c).new R).trans S λk a e=>by omega)
   unfold ee
   grind
  |false=>
   refine G7 K λcS S=>sN.nil (o:=qY (runM j G)) (b:=true) ?_ (((Q.new c).new R).trans S λk a e=>by omega)
   unfold ee
   simp_all
end
end Go.Proofs.YtmkljjbioomepaaGreat
