import Derived.Test.YtmkljjbioomepaaGreatProg
import Derived.Test.YtmkljjbioomepaaGreatg02
import Derived.Test.YtmkljjbioomepaaGreatg17
set_option linter.all false
set_option maxHeartbeats 4000000
set_option maxRecDepth 100000
namespace Go.Proofs.YtmkljjbioomepaaGreat
open Go.Proofs.Tryz Go.bJ
variable {A:a4}{L:a7}{Ls:eE}{lines:Int}{o:Int×Int}{aI tb:Nat}{u w0:an}
section
open IntKind
variable (w:an)(R:cM){a b c d e f:Nat}{A B C D:aU}{F:Bool}{s t u:ak}{i k l m:Int}{j:ar}
def p_ (e s2:aU)(g:Bool)(a:ak)(b c:Nat)(d f:Int)(j:ar):ar:=.pointer (some e)::ag j 0 1 (.pointer (some s2)::ae g::ag j 1 7 (ad a b c::ab d::ab f::ag j 8 25 []))
def H7 (a:aU)(b:Bool)(j:ar):ar:=ag j 0 2 (.pointer (some a)::ae b::ag j 2 35 [])
theorem U2:bd prog f226 [a' a] R w=(aR w #[ab 0,a0] 271 λf e=>b_ e (af a 13) λd b c=>cz prog (cU f226 [1,0,1,0,0]) (p_ (af a 0) (af f 0) false d b c (b:Nat) 0 (bm 5 (jp (af a 0)::jp (af a 0)::jp (af a 13)::bm 25 []))) (aO 0 (aT f226 [1,1] R)) e):=by kernel_rfl
theorem TM (q:ar->aJ):W prog (sb f226 [1,0,1,0,0]) (p_ A B F s a b i k j) (aZ q (aO 0 (aT f226 [1,1] R))) w=(cond (k<i) (bx s a k 1 λp=>b_ w p λx g h=>b0 w (b5 A 2) λc=>Calls prog 246 #[ad x g h,ab c] w λe u=>b7.ex λn=>∃ (d:Bool),e=.returned (.tuple #[n.val,ae d])/\aR u #[ab 0,a0] 271 λf t=>a8 t (af f 0) 0 n.cells λo=>cond d (b0 o (af f 0) λl=>b0 o B λm=>cond (l>m) (ig o (af f 0) λr=>a8 o B 0 r.cells λv=>q (p_ A B true s a b i (i64.wrap (k+1)) [aH j 0,aH j 1,ad x g h,jp (af f 0),ae d,aH j 5,aH j 6,aH j 7,ae (k<i),jp p,ad x g h,.tuple #[n.val,ae d],ad x g h,jp A,jp A,jp A,bM A 2,ab c,.tuple #[n.val,ae d],n.val,ae d,ae d,ae true,jp (af f 0),ab l,jp B,ab m,ae (l>m),ae (l>m),r.val,ab (i64.wrap (k+1)),aH j 31,aH j 32]) v) (q (p_ A B F s a b i (i64.wrap (k+1)) [aH j 0,aH j 1,ad x g h,jp (af f 0),ae d,aH j 5,aH j 6,aH j 7,ae (k<i),jp p,ad x g h,.tuple #[n.val,ae d],ad x g h,jp A,jp A,jp A,bM A 2,ab c,.tuple #[n.val,ae d],n.val,ae d,ae d,ae true,jp (af f 0),ab l,jp B,ab m,ae (l>m),ae (l>m),aH j 29,ab (i64.wrap (k+1)),aH j 31,aH j 32]) o)) (q (p_ A B F s a b i (i64.wrap (k+1)) (aH j 0::aH j 1::ad x g h::jp (af f 0)::ae d::aH j 5::aH j 6::aH j 7::ae (k<i)::jp p::ad x g h::.tuple #[n.val,ae d]::ad x g h::jp A::jp A::jp A::bM A 2::ab c::.tuple #[n.val,ae d]::n.val::ae d::ae d::ae false::bm 5 [ae false,aH j 29,ab (i64.wrap (k+1)),aH j 31,aH j 32])) o)) (W prog (sb f226 [1,1]) (H7 B F (jp A::ag j 0 8 (ad s a b::ab i::ab k::ae (k<i)::ag j 9 24 []))) (bT f226 R) w)):=by kernel_rfl
theorem TV:W prog (sb f226 [1,1]) (H7 A F j) (bT f226 R) w=(ig w A λr=>a8 w A 0 r.cells λa=>ig a A λb=>a=a/\R (.tuple #[b.val,ae F]) a):=by kernel_rfl
def vi (e i:aU)(k:Int)(l:ak)(a b:Nat)(c:ak)(d f:Nat)(g h:Int)(j:ar):ar:=.pointer (some e)::ag j 0 2 (.pointer (some i)::ag j 2 1 (ah k::ag j 3 1 (ad l a b::ag j 4 18 (ad c d f::ab g::ab h::ag j 22 65 []))))
def H2 (a b:aU)(e:Int)(n:ak)(c d:Nat)(s8:Int)(f:aU)(g:ak)(h i:Nat)(k l:Int)(j:ar):ar:=.pointer (some a)::ag j 0 2 (.pointer (some b)::ag j 2 1 (ah e::ag j 3 1 (ad n c d::ab s8::.pointer (some f)::ag j 4 16 (ad g h i::ab k::ab l::ag j 20 65 []))))
def H3 (a:aU)(d:ak)(b c:Nat)(j:ar):ar:=.pointer (some a)::ag j 0 6 (ad d b c::ag j 6 86 [])
def xQ (a b:aU)(e:Int)(o:ak)(c d:Nat)(f g:aU)(h:Bool)(i:ak)(k l:Nat)(m n:Int)(j:ar):ar:=.pointer (some a)::ag j 0 2 (.pointer (some b)::ag j 2 1 (ah e::ag j 3 1 (ad o c d::ag j 4 1 (.pointer (some f)::.pointer (some g)::ae h::ag j 5 14 (ad i k l::ab m::ab n::ag j 19 65 [])))))
def xR (a b:aU)(e:Int)(n:ak)(c d:Nat)(f:aU)(g:ak)(h i:Nat)(k l:Int)(m:Bool)(j:ar):ar:=.pointer (some a)::ag j 0 2 (.pointer (some b)::ag j 2 1 (ah e::ag j 3 1 (ad n c d::ag j 4 1 (.pointer (some f)::ag j 5 16 (ad g h i::ab k::ab l::ag j 21 25 (ae m::ag j 46 39 []))))))
def mi (a b:aU)(e:Int)(l:ak)(c d:Nat)(f:ak)(g h:Nat)(i k:Int)(j:ar):ar:=.pointer (some a)::ag j 0 2 (.pointer (some b)::ag j 2 1 (ah e::ag j 3 1 (ad l c d::ag j 4 18 (ad f g h::ab i::ab k::ag j 22 65 []))))
def Bt (a b:aU)(e:Int)(n:ak)(c d:Nat)(f:aU)(g:ak)(h i:Nat)(k l:Int)(j:ar):ar:=.pointer (some a)::ag j 0 2 (.pointer (some b)::ag j 2 1 (ah e::ag j 3 1 (ad n c d::ag j 4 1 (.pointer (some f)::ag j 5 16 (ad g h i::ab k::ab l::ag j 21 65 [])))))
theorem VZ (h:b7):bd prog f247 [a' a,h.val] R w=(aR w h.cells.toArray 271 λi k=>b0 k (af i 0) λe=>h1 214 #[ab e] k λb c j=>b_ j (af a 4) λd f g=>cz prog (cU f247 [1,1,1,0,1,0,0]) (vi (af a 0) (af i 0) b none 0 0 d f g (f:Nat) 0 (h.val::undef::ae false::ab c::bm 7 (.tuple #[ah b,ab c]::jp (af i 0)::ab e::.tuple #[ah b,ab c]::ah b::ab c::jp (af a 0)::jp (af a 0)::jp (af a 0)::jp (af a 3)::jp (af a 4)::bm 65 []))) (aO 0 (aT f247 [1,1,1,1] R)) j):=by kernel_rfl
theorem TW (e:dy):W prog (sb f247 [1,1,1,0,1,0,0]) (vi A B i s a b t c d k l j) (bO prog f247 R e) w=(cond (l<k) (bx t c l 3 λf=>iT w f λr=>aR w #[ab 0,ab 0,ae false] 116 λg n=>a8 n (af g 0) 0 r.cells λh=>W prog (sb f247 [1,1,1,0,1,0,0,1,1,0,0,1]) (H2 A B i s a b l (af g 0) t c d k l (ag j 0 4 (ag j 6 16 (ae (l<k)::ab l::jp f::r.val::ag j 26 61 [])))) (aO 1 (aZ (λm w=>W prog (sb f247 [1,1,1,0,1,0,0,1,1,1]) m (bO prog f247 R e) w) (bO prog f247 R e))) h) (e (.exit 0) (H3 A s a b (aH j 0::aH j 1::jp B::aH j 2::ah i::ag j 3 19 (ad t c d::ab k::ab l::ae (l<k)::ag j 23 64 []))) w)):=by kernel_rfl
theorem TX (env:ar)(w:an)(Q:dy):W prog (sub (bu f247) [1,1,1,0,1,0,0,1,1,0,0,1]) env Q w=W prog (sub (bu f247) [1,1,1,0,1,0,0,1,1,0,0,1,0]) env (aZ (λenv w=>W prog (sub (bu f247) [1,1,1,0,1,0,0,1,1,0,0,1,1]) env Q w) Q) w:=by rw[show sub (bu f247) [1,1,1,0,1,0,0,1,1,0,0,1]=.seq (sub (bu f247) [1,1,1,0,1,0,0,1,1,0,0,1,0]) (sub (bu f247) [1,1,1,0,1,0,0,1,1,0,0,1,1]) by kernel_rfl];generalize sub (bu f247) [1,1,1,0,1,0,0,1,1,0,0,1,0]=a;generalize sub (bu f247) [1,1,1,0,1,0,0,1,1,0,0,1,1]=b;kernel_rfl
theorem UM (z:dy):W prog (sb f247 [1,1,1,0,1,0,0,1,1,0,0,1,0]) (H2 A B i s a b k C t c d l m j) (bO prog f247 R z) w=(cF w λH h=>eD h (b5 A 13) λu n o=>bx u n k 1 λD=>eD h D λx p q=>cY h (b5 A 2) λr=>(Calls prog 246 #[ad x p q,ab r] H λe F=>b7.ex λv=>∃ (f:Bool),e=.returned (.tuple #[v.val,ae f])/\h F/\aR F #[ab 0,a0] 271 λI a6=>h a6/\a8 a6 (af I 0) 0 v.cells λM=>W prog (sb f247 [1,1,1,0,1,0,0,1,1,0,0,1,0,1]) (xQ A B i s a b C (af I 0) f t c d l m (ag j 0 4 (ab k::ag j 6 18 (.tuple #[v.val,ae f]::jp A::jp A::bM A 13::ad u n o::ab k::jp D::ad x p q::jp A::jp A::jp A::bM A 2::ab r::.tuple #[v.val,ae f]::v.val::ae f::ag j 40 45 [])))) (bO prog f247 R z) M)/\aR H #[ab 0,a0] 271 λG K=>h K/\Calls prog 246 #[ad x p q,ab r] K λe E=>b7.ex λy=>∃ (g:Bool),e=.returned (.tuple #[y.val,ae g])/\h E/\a8 E (af G 0) 0 y.cells λL=>W prog (sb f247 [1,1,1,0,1,0,0,1,1,0,0,1,0,1]) (xQ A B i s a b C (af G 0) g t c d l m (ag j 0 4 (ab k::ag j 6 18 (.tuple #[y.val,ae g]::jp A::jp A::bM A 13::ad u n o::ab k::jp D::ad x p q::jp A::jp A::jp A::bM A 2::ab r::.tuple #[y.val,ae g]::y.val::ae g::ag j 40 45 [])))) (bO prog f247 R z) L):=by kernel_rfl
theorem UN (c:dy):W prog (sb f247 [1,1,1,1]) (H3 A s a b j) (bO prog f247 R c) w=(j7 221 #[.pointer (some A),ad s a b] w λd f g h e=>R (ae h) e):=by kernel_rfl
theorem TY (env:ar)(w:an)(Q:dy):W prog (sub (bu f247) [1,1,1,0,1,0,0,1,1,0,0,1,0,1]) env Q w=W prog (sub (bu f247) [1,1,1,0,1,0,0,1,1,0,0,1,0,1,0]) env (aZ (λenv w=>W prog (sub (bu f247) [1,1,1,0,1,0,0,1,1,0,0,1,0,1,1]) env Q w) Q) w:=by rw[show sub (bu f247) [1,1,1,0,1,0,0,1,1,0,0,1,0,1]=.seq (sub (bu f247) [1,1,1,0,1,0,0,1,1,0,0,1,0,1,0]) (sub (bu f247) [1,1,1,0,1,0,0,1,1,0,0,1,0,1,1]) by kernel_rfl];generalize sub (bu f247) [1,1,1,0,1,0,0,1,1,0,0,1,0,1,0]=a;generalize sub (bu f247) [1,1,1,0,1,0,0,1,1,0,0,1,0,1,1]=b;kernel_rfl
theorem UO (e:dy):W prog (sb f247 [1,1,1,0,1,0,0,1,1,0,0,1,0,1,0]) (xQ A B i s a b C D F t c d k l j) (bO prog f247 R e) w=(cond F (ig w B λr=>ig w D λf=>dx 252 #[r.val,f.val] w λo g=>e .normal (xR A B i s a b C t c d k l o (ag j 0 5 (jp D::ae F::ag j 5 34 (ae F::ae true::r.val::f.val::ae o::ag j 45 39 [])))) g) (e .normal (xR A B i s a b C t c d k l false (ag j 0 5 (jp D::ae F::ag j 5 34 (ae F::ae false::bm 3 (ag j 45 39 []))))) w)):=by kernel_rfl
theorem UP (e:dy):W prog (sb f247 [1,1,1,0,1,0,0,1,1,0,0,1,0,1,1]) (xR A B i s a b C t c d k l F j) (bO prog f247 R e) w=(cond F (e (.exit 1) (mi A B i s a b t c d k l (ag j 0 5 (jp C::ag j 5 41 (ae F::ag j 46 39 [])))) w) (e .normal (Bt A B i s a b C t c d k l (ag j 0 46 (ae F::ag j 46 39 []))) w)):=by kernel_rfl
theorem UQ (e:dy):W prog (sb f247 [1,1,1,0,1,0,0,1,1,1]) (mi A B i s a b t c d k l j) (bO prog f247 R e) w=(e .normal (vi A B i s a b t c d k (i64.wrap (l+1)) (ag j 0 79 (ab (i64.wrap (l+1))::ag j 80 7 []))) w):=by kernel_rfl
theorem UR (V:dy):W prog (sb f247 [1,1,1,0,1,0,0,1,1,0,0,1,1]) (Bt A B i s a b C t c d k l j) (bO prog f247 R V) w=(b0 w (b5 A 5) λm=>cG 215 #[ab m] w λn db=>cF db λbo h=>hK h C λr=>hK h C λL=>cY h (b5 A 5) λo=>tA h B λJ=>hK h C λO=>(aR bo #[ah 0] 30 λX Z=>h Z/\(eS 250 #[.pointer (some A),r.val,ab n,ad (bk X) 1 1] Z λu Y=>h Y/\(cG 209 #[ab o] Y λp da=>h da/\(dm 210 #[J.val] da λq e f c9=>h c9/\(eS 250 #[.pointer (some A),L.val,ab p,ad q e f] c9 λK g7=>h g7/\aR g7 #[ah i] 30 λaf cQ=>h cQ/\eS 250 #[.pointer (some A),O.val,ab n,ad (bk af) 1 1] cQ λI dr=>h dr/\aR dr #[ab u.Kind,ab u.Node,ab u.cL,ab u.N,ah u.Old,ah u.ai,ad u.Words u.dh u.c8,ah u.Key,ab u.cK,ab K.Kind,ab K.Node,ab K.cL,ab K.N,ah K.Old,ah K.ai,ad K.Words K.dh K.c8,ah K.Key,ab K.cK,ab I.Kind,ab I.Node,ab I.cL,ab I.N,ah I.Old,ah I.ai,ad I.Words I.dh I.c8,ah I.Key,ab I.cK] 158 λcu b7=>h b7/\de 125 (ad s a b) (ad (bk cu) 3 3) b7 λcz v x ca=>h ca/\V .normal (mi A B i cz v x t c d k l (ag j 0 5 (jp C::aH j 5::aH j 6::ab n::ag j 8 39 (jp A::jp A::jp A::bM A 5::ab m::ab n::ad s a b::jp A::r.val::ab n::ad (bk X) 1 1::u.val::jp A::L.val::jp A::jp A::jp A::bM A 5::ab o::ab p::J.val::ad q e f::K.val::jp A::O.val::ab n::ah i::ad (bk af) 1 1::I.val::ad (bk cu) 3 3::ad cz v x::ag j 78 8 [])))) ca)/\aR c9 #[ah i] 30 λcB aP=>h aP/\eS 250 #[.pointer (some A),L.val,ab p,ad q e f] aP λH ao=>h ao/\eS 250 #[.pointer (some A),O.val,ab n,ad (bk cB) 1 1] ao λF cR=>h cR/\aR cR #[ab u.Kind,ab u.Node,ab u.cL,ab u.N,ah u.Old,ah u.ai,ad u.Words u.dh u.c8,ah u.Key,ab u.cK,ab H.Kind,ab H.Node,ab H.cL,ab H.N,ah H.Old,ah H.ai,ad H.Words H.dh H.c8,ah H.Key,ab H.cK,ab F.Kind,ab F.Node,ab F.cL,ab F.N,ah F.Old,ah F.ai,ad F.Words F.dh F.c8,ah F.Key,ab F.cK] 158 λb9 aQ=>h aQ/\de 125 (ad s a b) (ad (bk b9) 3 3) aQ λy z bb bV=>h bV/\V .normal (mi A B i y z bb t c d k l (ag j 0 5 (jp C::aH j 5::aH j 6::ab n::ag j 8 39 (jp A::jp A::jp A::bM A 5::ab m::ab n::ad s a b::jp A::r.val::ab n::ad (bk X) 1 1::u.val::jp A::L.val::jp A::jp A::jp A::bM A 5::ab o::ab p::J.val::ad q e f::H.val::jp A::O.val::ab n::ah i::ad (bk cB) 1 1::F.val::ad (bk b9) 3 3::ad y z bb::ag j 78 8 [])))) bV)/\aR da #[ah i] 30 λav bX=>h bX/\dm 210 #[J.val] bX λa8 bz di cy=>h cy/\eS 250 #[.pointer (some A),L.val,ab p,ad a8 bz di] cy λQ cV=>h cV/\eS 250 #[.pointer (some A),O.val,ab n,ad (bk av) 1 1] cV λM aX=>h aX/\aR aX #[ab u.Kind,ab u.Node,ab u.cL,ab u.N,ah u.Old,ah u.ai,ad u.Words u.dh u.c8,ah u.Key,ab u.cK,ab Q.Kind,ab Q.Node,ab Q.cL,ab Q.N,ah Q.Old,ah Q.ai,ad Q.Words Q.dh Q.c8,ah Q.Key,ab Q.cK,ab M.Kind,ab M.Node,ab M.cL,ab M.N,ah M.Old,ah M.ai,ad M.Words M.dh M.c8,ah M.Key,ab M.cK] 158 λcI br=>h br/\de 125 (ad s a b) (ad (bk cI) 3 3) br λcW bN c5 bH=>h bH/\V .normal (mi A B i cW bN c5 t c d k l (ag j 0 5 (jp C::aH j 5::aH j 6::ab n::ag j 8 39 (jp A::jp A::jp A::bM A 5::ab m::ab n::ad s a b::jp A::r.val::ab n::ad (bk X) 1 1::u.val::jp A::L.val::jp A::jp A::jp A::bM A 5::ab o::ab p::J.val::ad a8 bz di::Q.val::jp A::O.val::ab n::ah i::ad (bk av) 1 1::M.val::ad (bk cI) 3 3::ad cW bN c5::ag j 78 8 [])))) bH)/\aR Y #[ah i] 30 λa0 cP=>h cP/\cG 209 #[ab o] cP λbl a5=>h a5/\dm 210 #[J.val] a5 λa' dg cS dd=>h dd/\eS 250 #[.pointer (some A),L.val,ab bl,ad a' dg cS] dd λG cb=>h cb/\eS 250 #[.pointer (some A),O.val,ab n,ad (bk a0) 1 1] cb λD b_=>h b_/\aR b_ #[ab u.Kind,ab u.Node,ab u.cL,ab u.N,ah u.Old,ah u.ai,ad u.Words u.dh u.c8,ah u.Key,ab u.cK,ab G.Kind,ab G.Node,ab G.cL,ab G.N,ah G.Old,ah G.ai,ad G.Words G.dh G.c8,ah G.Key,ab G.cK,ab D.Kind,ab D.Node,ab D.cL,ab D.N,ah D.Old,ah D.ai,ad D.Words D.dh D.c8,ah D.Key,ab D.cK] 158 λdp b8=>h b8/\de 125 (ad s a b) (ad (bk dp) 3 3) b8 λg aV c4 bC=>h bC/\V .normal (mi A B i g aV c4 t c d k l (ag j 0 5 (jp C::aH j 5::aH j 6::ab n::ag j 8 39 (jp A::jp A::jp A::bM A 5::ab m::ab n::ad s a b::jp A::r.val::ab n::ad (bk X) 1 1::u.val::jp A::L.val::jp A::jp A::jp A::bM A 5::ab o::ab bl::J.val::ad a' dg cS::G.val::jp A::O.val::ab n::ah i::ad (bk a0) 1 1::D.val::ad (bk dp) 3 3::ad g aV c4::ag j 78 8 [])))) bC)/\aR Z #[ah i] 30 λbh bx=>h bx/\eS 250 #[.pointer (some A),r.val,ab n,ad (bk X) 1 1] bx λN cr=>h cr/\cG 209 #[ab o] cr λct cd=>h cd/\dm 210 #[J.val] cd λc7 dn cT bI=>h bI/\eS 250 #[.pointer (some A),L.val,ab ct,ad c7 dn cT] bI λS cm=>h cm/\eS 250 #[.pointer (some A),O.val,ab n,ad (bk bh) 1 1] cm λa6 bq=>h bq/\aR bq #[ab N.Kind,ab N.Node,ab N.cL,ab N.N,ah N.Old,ah N.ai,ad N.Words N.dh N.c8,ah N.Key,ab N.cK,ab S.Kind,ab S.Node,ab S.cL,ab S.N,ah S.Old,ah S.ai,ad S.Words S.dh S.c8,ah S.Key,ab S.cK,ab a6.Kind,ab a6.Node,ab a6.cL,ab a6.N,ah a6.Old,ah a6.ai,ad a6.Words a6.dh a6.c8,ah a6.Key,ab a6.cK] 158 λcp bA=>h bA/\de 125 (ad s a b) (ad (bk cp) 3 3) bA λbD cn c2 aZ=>h aZ/\V .normal (mi A B i bD cn c2 t c d k l (ag j 0 5 (jp C::aH j 5::aH j 6::ab n::ag j 8 39 (jp A::jp A::jp A::bM A 5::ab m::ab n::ad s a b::jp A::r.val::ab n::ad (bk X) 1 1::N.val::jp A::L.val::jp A::jp A::jp A::bM A 5::ab o::ab ct::J.val::ad c7 dn cT::S.val::jp A::O.val::ab n::ah i::ad (bk bh) 1 1::a6.val::ad (bk cp) 3 3::ad bD cn c2::ag j 78 8 [])))) aZ)/\aR bo #[ah i] 30 λbj dq=>h dq/\aR dq #[ah 0] 30 λba cU=>h cU/\eS 250 #[.pointer (some A),r.val,ab n,ad (bk ba) 1 1] cU λP cZ=>h cZ/\cG 209 #[ab o] cZ λbm U=>h U/\dm 210 #[J.val] U λbP bK aO aG=>h aG/\eS 250 #[.pointer (some A),L.val,ab bm,ad bP bK aO] aG λT ae=>h ae/\eS 250 #[.pointer (some A),O.val,ab n,ad (bk bj) 1 1] ae λE c3=>h c3/\aR c3 #[ab P.Kind,ab P.Node,ab P.cL,ab P.N,ah P.Old,ah P.ai,ad P.Words P.dh P.c8,ah P.Key,ab P.cK,ab T.Kind,ab T.Node,ab T.cL,ab T.N,ah T.Old,ah T.ai,ad T.Words T.dh T.c8,ah T.Key,ab T.cK,ab E.Kind,ab E.Node,ab E.cL,ab E.N,ah E.Old,ah E.ai,ad E.Words E.dh E.c8,ah E.Key,ab E.cK] 158 λcA cj=>h cj/\de 125 (ad s a b) (ad (bk cA) 3 3) cj λbT aB b2 b3=>h b3/\V .normal (mi A B i bT aB b2 t c d k l (ag j 0 5 (jp C::aH j 5::aH j 6::ab n::ag j 8 39 (jp A::jp A::jp A::bM A 5::ab m::ab n::ad s a b::jp A::r.val::ab n::ad (bk ba) 1 1::P.val::jp A::L.val::jp A::jp A::jp A::bM A 5::ab o::ab bm::J.val::ad bP bK aO::T.val::jp A::O.val::ab n::ah i::ad (bk bj) 1 1::E.val::ad (bk cA) 3 3::ad bT aB b2::ag j 78 8 [])))) b3):=by kernel_rfl
def xP (e l:aU)(n:ak)(a b:Nat)(o:ak)(c d:Nat)(f:ak)(g h:Nat)(i k:Int)(j:ar):ar:=.pointer (some e)::ag j 0 2 (.pointer (some l)::ad n a b::ag j 2 1 (ad o c d::ag j 3 8 (ad f g h::ab i::ab k::ag j 11 62 [])))
def HY (a b:aU)(e:ak)(c d:Nat)(h:ak)(f g:Nat)(j:ar):ar:=.pointer (some a)::ag j 0 2 (.pointer (some b)::ad e c d::ag j 2 1 (ad h f g::ag j 3 73 []))
def rp (e i:aU)(k:ak)(a b:Nat)(l:Bool)(c:ak)(d f:Nat)(g h:Int)(j:ar):ar:=.pointer (some e)::ag j 0 2 (.pointer (some i)::ad k a b::ae l::ag j 2 34 (ad c d f::ab g::ab h::ag j 36 37 []))
def HZ (c:ak)(a b:Nat)(d:Bool)(j:ar):ar:=ag j 0 4 (ad c a b::ae d::ag j 4 74 [])
theorem Vm (e:b7):bd prog f248 [a' a,e.val] R w=(aR w e.cells.toArray 271 λf g=>b_ g (af f 1) λd b c=>cz prog (cU f248 [1,1,0,1,0,0]) (xP (af a 0) (af f 0) none 0 0 none 0 0 d b c (b:Nat) 0 (e.val::undef::ae false::bm 7 (jp (af f 1)::bm 62 []))) (aO 0 (aT f248 [1,1,1] R)) g):=by kernel_rfl
theorem TS (z:ar->aJ):W prog (sb f248 [1,1,0,1,0,0]) (xP A B s a b t c d u e f i k j) (aZ z (aO 0 (aT f248 [1,1,1] R))) w=(cond (k<i) (bx u e k 9 λy=>iC w y λr=>aR w #[ab 0,ah 0,ah 0,ah 0,ah 0,ah 0,ah 0,ah 0,ah 0] 73 λv H=>a8 H (af v 0) 0 r.cells λG=>cF G λa6 g=>hK g (b5 A 9) λp=>cY g (af v 0) λl=>cG 108 #[ab l] a6 λm E=>g E/\eS 220 #[.pointer (some A),p.val,ab m,ab 1] E λq F=>g F/\aR F q.cells.toArray 158 λD x=>g x/\de 125 (ad t c d) (ad (bk D) 1 1) x λh n o C=>g C/\z (xP A B s a b h n o u e f i (i64.wrap (k+1)) (ag j 0 4 (jp (af v 0)::ag j 5 6 (ae (k<i)::jp y::r.val::ad t c d::jp A::jp A::jp A::bM A 9::p.val::jp (af v 0)::ab l::ab m::q.val::ad (bk D) 1 1::ad h n o::ab (i64.wrap (k+1))::ag j 27 46 [])))) C) (W prog (sb f248 [1,1,1]) (HY A B s a b t c d (ag j 0 11 (ad u e f::ab i::ab k::ae (k<i)::ag j 12 61 []))) (bT f248 R) w)):=by kernel_rfl
theorem Ua:W prog (sb f248 [1,1,1]) (HY A B s a b t c d j) (bT f248 R) w=(j7 221 #[.pointer (some A),ad t c d] w λh i k l e=>cz prog (cU f248 [1,1,1,1,0,1,0,0]) (rp A B s a b l h i k (i:Nat) 0 (aH j 0::aH j 1::ad t c d::aH j 3::aH j 4::ad h i k::ag j 6 24 (.tuple #[ad h i k,ae l]::jp A::ad t c d::.tuple #[ad h i k,ae l]::ad h i k::ae l::ag j 39 37 []))) (aO 2 (aT f248 [1,1,1,1,1] R)) e):=by kernel_rfl
theorem TT (G:ar->aJ):W prog (sb f248 [1,1,1,1,0,1,0,0]) (rp A B s a b F t c d i k j) (aZ G (aO 2 (aT f248 [1,1,1,1,1] R))) w=(cond (k<i) (bx t c k 2 λE=>pw w E λr=>aR w #[ab 0,a0] 131 λC Q=>a8 Q (af C 0) 0 r.cells λO=>cF O λS D=>eD D (b5 B 1) λf u l=>bx f u k 9 λy=>vT D y λI=>cY D (b5 A 5) λm=>h1 211 #[I.val,ab m] S λn o H=>D H/\cond (o == 0) (pw H (af C 0) λK=>jI 196 #[K.val] H λp a6=>cond (p == n) (b_ a6 (b5 B 1) λq e g=>bx q e k 9 λz=>iC a6 z λM=>aR a6 M.cells.toArray 73 λL N=>de 37 (ad s a b) (ad (bk L) 1 1) N λh v x P=>G (rp A B h v x F t c d i (i64.wrap (k+1)) (ag j 0 6 (ab k::jp (af C 0)::ah n::ab o::ag j 10 26 [ae (k<i),ab k,jp E,r.val,.tuple #[ah n,ab o],bM B 1,ad f u l,ab k,jp y,I.val,jp A,jp A,jp A,bM A 5,ab m,.tuple #[ah n,ab o],ah n,ab o,ab o,ae ((o:Int) == 0),ae true,K.val,ah p,ah n,ae ((p:Int) == n),ae ((p:Int) == n),ad s a b,bM B 1,ad q e g,ab k,jp z,M.val,ad (bk L) 1 1,ad h v x,ab (i64.wrap (k+1)),aH j 71,aH j 72]))) P) (G (rp A B s a b F t c d i (i64.wrap (k+1)) (ag j 0 6 (ab k::jp (af C 0)::ah n::ab o::ag j 10 26 (ae (k<i)::ab k::jp E::r.val::.tuple #[ah n,ab o]::bM B 1::ad f u l::ab k::jp y::I.val::jp A::jp A::jp A::bM A 5::ab m::.tuple #[ah n,ab o]::ah n::ab o::ab o::ae ((o:Int) == 0)::ae true::K.val::ah p::ah n::ae ((p:Int) == n)::ae ((p:Int) == n)::ag j 62 8 [ab (i64.wrap (k+1)),aH j 71,aH j 72])))) a6)) (G (rp A B s a b F t c d i (i64.wrap (k+1)) (ag j 0 6 (ab k::jp (af C 0)::ah n::ab o::ag j 10 26 (ae (k<i)::ab k::jp E::r.val::.tuple #[ah n,ab o]::bM B 1::ad f u l::ab k::jp y::I.val::jp A::jp A::jp A::bM A 5::ab m::.tuple #[ah n,ab o]::ah n::ab o::ab o::ae ((o:Int) == 0)::ae false::bm 4 (ae false::ag j 62 8 [ab (i64.wrap (k+1)),aH j 71,aH j 72]))))) H)) (W prog (sb f248 [1,1,1,1,1]) (HZ s a b F (jp A::aH j 0::aH j 1::jp B::ag j 2 34 (ad t c d::ab i::ab k::ae (k<i)::ag j 37 36 []))) (bT f248 R) w)):=by kernel_rfl
theorem Ub:W prog (sb f248 [1,1,1,1,1]) (HZ s a b F j) (bT f248 R) w=(R (.tuple #[ad s a b,ae F]) w):=by kernel_rfl
end
section
open IntKind
variable (w:an)(R:cM){s:ak}{a b:Nat}{A:aU}{F:Bool}{j:ar}{i k l:Int}
theorem Zq (O:c_):bd prog f93 [O.val,ad s a b] R w=(aR w O.cells.toArray 41 λD V=>aR V #[ab 0,ab 0,ab 0,ab 0,ah 0] 175 λA N=>I3 N (af D 0) λr=>cG 127 #[r.val] N λc P=>cond (c != 0) (a8 P (af A 0) 0 [ab c,ab 0,ab 0,ab 0,ah 0] λG=>yM G (af A 0) λq=>G=G/\R (.tuple #[a0,q.val,ae true]) G) (cF P λS C=>WK C (af D 0) λu=>ov 115 #[ad s a b] S λd M=>C M/\aR M #[ab u.Client,ab u.iN,ab u.hP,ab u.View.Number,ad u.View.f7 u.View.fq u.View.gB,ab u.e7,ab u.gA,ah u.il,.pointer d,ab 0,ab 0,ae false,ah 0,a0,ah 0,ab 0,ab 0,ab 0,ab 0,ah 0] 220 λB K=>C K/\mD K (af D 3) λj=>Calls prog 125 #[j.val] K λe X=>aS.ex λv=>∃ (f:Bool),e=.returned (.tuple #[v.val,ae f])/\a8 X (af B 9) 0 v.cells λI=>b0 I (af D 1) λg=>b0 I (af D 0) λh=>h1 128 #[ab g,ab h] I λi k x=>cV x (af B 12) (ah i) λy=>vV 129 #[a' B] y λz=>lr z (af B 8) λt=>j7 118 #[.pointer t] z λl m n o L=>cond o (a8 L (af A 0) 0 [ab 0,ab 0,ab 0,ab 0,ah 0] λE=>yM E (af A 0) λW=>E=E/\R (.tuple #[ad l m n,W.val,ae false]) E) (lr L (af B 8) λU=>dx 119 #[.pointer U] L λp a6=>cond p (a8 a6 (af A 0) 0 [ab 6,ab 0,ab 0,ab 0,ah 0] λH=>yM H (af A 0) λY=>H=H/\R (.tuple #[a0,Y.val,ae true]) H) (cF a6 λZ T=>WL T (af B 15) λJ=>a8 Z (af A 0) 0 J.cells λF=>yM F (af A 0) λQ=>F=F/\R (.tuple #[a0,Q.val,ae true]) F)))):=by kernel_rfl
def vq (a:aU)(b:Bool)(j:ar):ar:=.pointer (some a)::ag j 0 16 (ae b::ag j 16 19 [])
def H8 (a:aU)(j:ar):ar:=.pointer (some a)::ag j 0 36 []
def xU (a:aU)(s2 c:Int)(b:Bool)(j:ar):ar:=.pointer (some a)::ag j 0 1 (ab s2::ab c::ag j 1 24 (ae b::ag j 25 8 []))
theorem Wr:bd prog f129 [a' a] R w=(dx 179 #[a' a] w λd f=>cond (!d) (W prog (sb f129 [0,1]) (vq (af a 0) true (bm 4 (jp (af a 0)::ae d::ae (!d)::ae true::bm 3 (ae true::ae true::bm 22 [])))) (aT f129 [1] R) f) (dx 180 #[a' a] f λb e=>cond (!b) (W prog (sb f129 [0,1]) (vq (af a 0) true (bm 4 (jp (af a 0)::ae d::ae (!d)::ae false::jp (af a 0)::ae b::ae (!b)::ae (!b)::ae true::bm 22 []))) (aT f129 [1] R) e) (dx 181 #[a' a] e λc g=>W prog (sb f129 [0,1]) (vq (af a 0) (!c) (bm 4 (jp (af a 0)::ae d::ae (!d)::ae false::jp (af a 0)::ae b::ae (!b)::ae (!b)::ae false::jp (af a 0)::ae c::ae (!c)::bm 19 []))) (aT f129 [1] R) g))):=by kernel_rfl
theorem H4 (a:dy):W prog (sb f129 [0,1]) (vq A F j) (bO prog f129 R a) w=(cond F (R (.tuple #[]) w) (a .normal (H8 A (ag j 0 16 (ae F::ag j 16 19 []))) w)):=by kernel_rfl
theorem UY (a:dy):W prog (sb f129 [1]) (H8 A j) (bO prog f129 R a) w=(B0 182 #[.pointer (some A)] w λb c d e=>cond d (dx 183 #[.pointer (some A)] e λf g=>W prog (sb f129 [1,1,1]) (xU A b c f (aH j 0::ae d::ag j 4 13 (.tuple #[ab b,ab c,ae d]::jp A::.tuple #[ab b,ab c,ae d]::ab b::ab c::ae d::ae d::ae true::jp A::ae f::ag j 28 8 []))) (bO prog f129 R a) g) (W prog (sb f129 [1,1,1]) (xU A b c false (aH j 0::ae d::ag j 4 13 (.tuple #[ab b,ab c,ae d]::jp A::.tuple #[ab b,ab c,ae d]::ab b::ab c::ae d::ae d::ae false::bm 2 (ag j 28 8 [])))) (bO prog f129 R a) e)):=by kernel_rfl
theorem H5 (a:dy):W prog (sb f129 [1,1,1]) (xU A i k F j) (bO prog f129 R a) w=(cond F (cG 184 #[.pointer (some A)] w λc d=>a8 d (b5 A 15) 0 [ab 0,ab i,ab k,ab c,ah 0] λb=>a .normal ((.pointer (some A))::(aH j 0)::(ab i)::(ab k)::(ag j 1 24 [ae F,.pointer (some A),ab i,ab k,.pointer (some A),ab c,.agg #[ab 0,ab i,ab k,ab c,ah 0],.pointer (some A),.pointer (some (b5 A 15))])) b) (a .normal ((.pointer (some A))::(aH j 0)::(ab i)::(ab k)::(ag j 1 24 ((ae F)::(ag j 25 8 [])))) w)):=by kernel_rfl
theorem V0:bd prog f182 [a' a] R w=(Calls prog 226 #[a' a] w λe J=>b7.ex λs=>∃ (j:Bool),e=.returned (.tuple #[s.val,ae j])/\aR J #[ab 0,a0] 271 λC T=>a8 T (af C 0) 0 s.cells λP=>cond j (cF P λV u=>cY u (af C 0) λb=>tA u (af C 0) λr=>dx 227 #[a' a,r.val] V λc I=>u I/\R (.tuple #[ab 2,ab b,ae c]) I) (cF P λG A=>eD A (af a 13) λd f g=>bx d f 0 1 λQ=>eD A Q λx h i=>cY A (af a 2) λk=>(Calls prog 228 #[ad x h i,ab k] G λe a6=>b7.ex λt=>∃ (l:Bool),e=.returned (.tuple #[t.val,ae l])/\A a6/\aR a6 #[ab 0,a0] 271 λB N=>A N/\a8 N (af B 0) 0 t.cells λH=>cond l (cF H λv F=>cY F (af B 0) λm=>tA F (af B 0) λX=>dx 229 #[a' a,X.val] v λn y=>F y/\R (.tuple #[ab 3,ab m,ae n]) y) (R (.tuple #[ab 1,ab 0,ae true]) H))/\aR G #[ab 0,a0] 271 λD z=>A z/\Calls prog 228 #[ad x h i,ab k] z λe L=>b7.ex λK=>∃ (o:Bool),e=.returned (.tuple #[K.val,ae o])/\A L/\a8 L (af D 0) 0 K.cells λM=>cond o (cF M λW E=>cY E (af D 0) λp=>tA E (af D 0) λS=>dx 229 #[a' a,S.val] W λq O=>E O/\R (.tuple #[ab 3,ab p,ae q]) O) (R (.tuple #[ab 1,ab 0,ae true]) M))):=by kernel_rfl
def o7 (e:aU)(g:Int)(a:ak)(b c:Nat)(d f:Int)(j:ar):ar:=.pointer (some e)::ag j 0 2 (ab g::ag j 2 15 (ad a b c::ab d::ab f::ag j 17 32 []))
def H0 (a:Int)(j:ar):ar:=ag j 0 3 (ab a::ag j 3 50 [])
theorem Vn:bd prog f184 [a' a] R w=(d' w (af a 14) λe=>b_ w (af a 13) λb c d=>cz prog (cU f184 [1,1,0,1,0,0]) (o7 (af a 0) (i64.wrap (if(1073741823:Int)<e then(1073741823:Int)else e)) b c d (c:Nat) 0 (undef::ab 0::bm 6 (jp (af a 0)::jp (af a 0)::jp (af a 14)::ah e::ah (if(1073741823:Int)<e then(1073741823:Int)else e)::ab (i64.wrap (if(1073741823:Int)<e then(1073741823:Int)else e))::jp (af a 0)::jp (af a 0)::jp (af a 13)::bm 32 []))) (aO 0 (aT f184 [1,1,1] R)) w):=by kernel_rfl
theorem TU (y:ar->aJ):W prog (sb f184 [1,1,0,1,0,0]) (o7 A i s a b k l j) (aZ y (aO 0 (aT f184 [1,1,1] R))) w=(cond (l<k) (bx s a l 1 λv=>b_ w v λx g h=>bx x g 0 1 λr=>d' w r λB=>WM 230 #[ah B] w λc u D=>cond u (b0 D (b5 A 2) λf=>Calls prog 228 #[ad x g h,ab f] D λe H=>b7.ex λd=>∃ (m:Bool),e=.returned (.tuple #[d.val,ae m])/\aR H #[ab 0,a0] 271 λC a6=>a8 a6 (af C 0) 0 d.cells λF=>cond m (b0 F (af C 0) λn=>y (o7 A (if((if(i:Int)<c then(c:Int)else i):Int)<n then(n:Int)else(if(i:Int)<c then(c:Int)else i)) s a b k (i64.wrap (l+1)) (aH j 0::aH j 1::aH j 2::ad x g h::ab c::ae u::jp (af C 0)::ae m::ag j 8 9 [ae (l<k),jp v,ad x g h,.tuple #[ab c,ae u],ad x g h,jp r,ah B,.tuple #[ab c,ae u],ab c,ae u,ae u,ab i,ab c,ab (if(i:Int)<c then(c:Int)else i),.tuple #[d.val,ae m],ad x g h,jp A,jp A,jp A,bM A 2,ab f,.tuple #[d.val,ae m],d.val,ae m,ae m,ab (if(i:Int)<c then(c:Int)else i),jp (af C 0),ab n,ab (if((if(i:Int)<c then(c:Int)else i):Int)<n then(n:Int)else(if(i:Int)<c then(c:Int)else i)),ab (i64.wrap (l+1)),aH j 47,aH j 48])) F) (y (o7 A (if(i:Int)<c then(c:Int)else i) s a b k (i64.wrap (l+1)) (aH j 0::aH j 1::aH j 2::ad x g h::ab c::ae u::jp (af C 0)::ae m::ag j 8 9 (ae (l<k)::jp v::ad x g h::.tuple #[ab c,ae u]::ad x g h::jp r::ah B::.tuple #[ab c,ae u]::ab c::ae u::ae u::ab i::ab c::ab (if(i:Int)<c then(c:Int)else i)::.tuple #[d.val,ae m]::ad x g h::jp A::jp A::jp A::bM A 2::ab f::.tuple #[d.val,ae m]::d.val::ae m::ae m::ag j 42 4 [ab (i64.wrap (l+1)),aH j 47,aH j 48]))) F)) (b0 D (b5 A 2) λo=>Calls prog 228 #[ad x g h,ab o] D λe I=>b7.ex λt=>∃ (p:Bool),e=.returned (.tuple #[t.val,ae p])/\aR I #[ab 0,a0] 271 λz G=>a8 G (af z 0) 0 t.cells λE=>cond p (b0 E (af z 0) λq=>y (o7 A (if(i:Int)<q then(q:Int)else i) s a b k (i64.wrap (l+1)) (aH j 0::aH j 1::aH j 2::ad x g h::ab c::ae u::jp (af z 0)::ae p::ag j 8 9 [ae (l<k),jp v,ad x g h,.tuple #[ab c,ae u],ad x g h,jp r,ah B,.tuple #[ab c,ae u],ab c,ae u,ae u,aH j 28,aH j 29,aH j 30,.tuple #[t.val,ae p],ad x g h,jp A,jp A,jp A,bM A 2,ab o,.tuple #[t.val,ae p],t.val,ae p,ae p,ab i,jp (af z 0),ab q,ab (if(i:Int)<q then(q:Int)else i),ab (i64.wrap (l+1)),aH j 47,aH j 48])) E) (y (o7 A i s a b k (i64.wrap (l+1)) (aH j 0::aH j 1::aH j 2::ad x g h::ab c::ae u::jp (af z 0)::ae p::ag j 8 9 (ae (l<k)::jp v::ad x g h::.tuple #[ab c,ae u]::ad x g h::jp r::ah B::.tuple #[ab c,ae u]::ab c::ae u::ae u::aH j 28::aH j 29::aH j 30::.tuple #[t.val,ae p]::ad x g h::jp A::jp A::jp A::bM A 2::ab o::.tuple #[t.val,ae p]::t.val::ae p::ae p::ag j 42 4 [ab (i64.wrap (l+1)),aH j 47,aH j 48]))) E))) (W prog (sb f184 [1,1,1]) (H0 i (jp A::ag j 0 17 (ad s a b::ab k::ab l::ae (l<k)::ag j 18 31 []))) (bT f184 R) w)):=by kernel_rfl
theorem Uc:W prog (sb f184 [1,1,1]) (H0 i j) (bT f184 R) w=(R (ab (i64.wrap (i+1))) w):=by kernel_rfl
end
section
def nu (lines:Int)(b:(Int×List aN)×Bool)(L:a7):(Int×List aN)×Bool:=if hf L lines=true/\(f_ L lines).1>b.1.1 then(f_ L lines,true)else b
def dT (lines:Int)(Ls:eE):(Int×List aN)×Bool:=Ls.foldl (nu lines) ((0,[]),false)
theorem Mw (lines:Int)(Ls:eE)(L:a7):dT lines (Ls++[L])=nu lines (dT lines Ls) L:=by grind[dT]
theorem Lf {r:c_}{m:aS}{j:bL}{V:eU}(ab:dv w0 u aI tb r m j V o)(bV:lI w0 u aI tb V Ls)(a':Ls.length<=100) :
  a5 226 [ptr aI] u (e' u (dT j.lines Ls).1 (.bool (dT j.lines Ls).2)):=by
 refine ba Tryz.func226 ?_;rw [ptr,U2];obtain ⟨⟨w,M,aR,b3,R⟩,bk⟩:=bV;have bq:=ab.aj.lt;rintro b1 w1 af Y;obtain ⟨F,D⟩:=bo af Y;have F:av w1 b1 js.cells er:=F;clear Y;have N:=ab.bH D;have bj:=ab.new.size;refine ⟨_,_,_,N.aj.cell (i:=13) rfl,?_⟩;have C:=ab.bp.lines;refine cZ mix (λq env z=>∃ (i:Nat) (aW:ak) (cap:Nat) (aC:ax),q=Ls.length - i/\i<=Ls.length/\env=p_ ⟨aI,0,none⟩ ⟨b1,0,none⟩ (dT j.lines (Ls.take i)).2 V.fX V.kD V.lc V.kD i aC/\ao (λk=>k=b1) w1 z/\
   av z b1 (b7.cells ⟨(dT j.lines (Ls.take i)).1.1,aW,(dT j.lines (Ls.take i)).1.2.length,cap⟩) er/\fM z aW (dT j.lines (Ls.take i)).1.2.length (dT j.lines (Ls.take i)).1.2/\∀ k,aP aW k->u.heap.size<=k/\k≠b1) Ls.length
  ⟨0,none,0,_,by omega,by omega,rfl,ao.refl _ _,F,Ak _,λk bT=>cp bT ou⟩ ?_
 rintro q env z ⟨i,aW,cap,aC,rfl,cd,rfl,p,B,d,E⟩;rw[TM];have O:dv w0 z aI tb r m j V o:=N.aA p λk e=>⟨by omega,by omega⟩
 have a8:=F.lt;refine bb (λS=>?_) (λbP=>?_)
 ·have T:i<Ls.length:=by omega
  obtain⟨s,br⟩:∃ s,w[i]?=some s:=⟨_,b2 (by omega)⟩;obtain⟨L,bN⟩:∃ L,Ls[i]?=some L:=⟨_,b2 T⟩;have aH:=R i s L br bN;have aX:bl z V.fX (w.map nx).flatten:=(M.new D).aA p (hv (M.new D) λk g e=>by
   rcases M with ad | ⟨bC,cm,ad,ae⟩
   ·have:=ey List.length ad;rw[ES (cells:=nx) (sz:=1) (λ_=>rfl),Kd]at this
    grind
   ·obtain ⟨b8,W⟩:=g;rw [ad] at W;simp at W;have I:=ae 0 (.slice (w[0]'(by omega)).a (w[0]'(by omega)).n (w[0]'(by omega)).c) (by
     cases w with
     |nil=>grind
     |cons cn l=>rfl)
    have cb:bC<u.heap.size:=wN I
    grind)
  refine eQ (cells:=nx) (sz:=1) (λ_=>rfl) (by decide) aX br rfl aR λb' b8 _ ag=>⟨s.a,s.n,s.c,ag 0 _ rfl,r.hP,O.aj.cell (i:=2) rfl,?_⟩
  rw[C];refine aB (Cb j.lines (aH.new O.new)) ?_;rintro v cr ⟨pb,aY,rfl,U,f,bm⟩;refine b7.aV ⟨(f_ L j.lines).1,pb,(f_ L j.lines).2.length,aY⟩ ⟨_,rfl,?_⟩;refine io (vs:=b7.cells ⟨(f_ L j.lines).1,pb,(f_ L j.lines).2.length,aY⟩) rfl (b7.single _) λca bA bO Z J=>?_
  have b:=U.new J;have G:=ai.aj b B;have X:dT j.lines (Ls.take (i+1))=nu j.lines (dT j.lines (Ls.take i)) L:=by grind[List.take_add_one,Mw]
  have bx:=p.size;have b0:=U.size;have more:∀ (t:Bool),t=(dT j.lines (Ls.take (i+1))).2->∀ (A:ak) (y:Nat) (ch:an) (aC:ax),ao (λk=>k=b1) w1 ch->av ch b1 (b7.cells ⟨(dT j.lines (Ls.take (i+1))).1.1,A,(dT j.lines (Ls.take (i+1))).1.2.length,y⟩) er->fM ch A (dT j.lines (Ls.take (i+1))).1.2.length (dT j.lines (Ls.take (i+1))).1.2->(∀ k,aP A k->u.heap.size<=k/\k≠b1)->
    ∃ bz,bz<Ls.length-i/\∃ (H:Nat) (aW:ak) (cap:Nat) (aZ:ax),bz=Ls.length-H/\H<=Ls.length/\p_ ⟨aI,0,none⟩ ⟨b1,0,none⟩ t V.fX V.kD V.lc V.kD (IntKind.i64.wrap (i+1)) aC=p_ ⟨aI,0,none⟩ ⟨b1,0,none⟩ (dT j.lines (Ls.take H)).2 V.fX V.kD V.lc V.kD H aZ/\ao (λk=>k=b1) w1 ch/\
     av ch b1 (b7.cells ⟨(dT j.lines (Ls.take H)).1.1,aW,(dT j.lines (Ls.take H)).1.2.length,cap⟩) er/\fM ch aW (dT j.lines (Ls.take H)).1.2.length (dT j.lines (Ls.take H)).1.2/\∀ k,aP aW k->u.heap.size<=k/\k≠b1:=by
   intro t cj A y ch aC ae bD bK bM;rw[bI (x:=(i:Int)+1) (by omega) (by omega)];exact⟨Ls.length-(i+1),by omega,i+1,A,y,aC,rfl,by omega,by grind,ae,bD,bK,bM⟩
  have same:¬ (hf L j.lines=true/\(f_ L j.lines).1>(dT j.lines (Ls.take i)).1.1)->dT j.lines (Ls.take (i+1))=dT j.lines (Ls.take i):=λaO=>by rw[X];exact aQ aO
  refine gW (λa0=>⟨_,Z.cell (i:=0) rfl,_,G.cell (i:=0) rfl,bb (λah=>?_) (λhle=>?_)⟩) (λa0=>?_)
  ·have e:dT j.lines (Ls.take (i+1))=(f_ L j.lines,true):=by rw[X];exact bh ⟨a0,ah⟩
   refine b7.aV _ ⟨bX Z rfl,dY (vs:=b7.cells ⟨(f_ L j.lines).1,pb,(f_ L j.lines).2.length,aY⟩) G rfl (b7.single _) λb_ b5 P=>?_⟩;refine more true (by rw[e]) pb aY b_ _ ((p.new b).trans P λ_ _ e=>e) (by grind) ?_ λk g=>by grind
   rw[e];exact⟨(f.new J).rd.aA P (hv (f.new J).rd λk g e=>by grind),f.len,f.ei,f.u64⟩
  ·have e:=same (λh=>hle h.2);exact more _ (by rw[e]) aW cap bA _ (p.new b) (by grind) (by rw[e];exact d.new b) E
  ·have e:=same (λh=>by grind);exact more _ (by rw[e]) aW cap bA _ (p.new b) (by grind) (by rw[e];exact d.new b) E
 ·have aG:i=Ls.length:=by omega
  subst aG;rw[ja]at B d ⊢;rw[TV];refine b7.aV _ ⟨bX B rfl,?_⟩;refine pW B rfl ⟨(dT j.lines Ls).1.1,aW,(dT j.lines Ls).1.2.length,cap⟩ (K:=λres b9=>e' u (dT j.lines Ls).1 (.bool (dT j.lines Ls).2) (.tuple #[res.val,.bool (dT j.lines Ls).2]) b9) λcq Q _=>?_
  exact⟨aW,cap,rfl,(D.trans p λk S e=>by omega).trans Q λk S e=>by omega,⟨d.rd.aA Q (hv d.rd λk g e=>(E k g).2 e),d.len,d.ei,d.u64⟩,λk g=>(E k g).1⟩
end
section
def iG (w:Int):Int×Bool:=if 1<=c3 .u64 w 2/\c3 .u64 w 2<1073741824/\gw (c3 .u64 w 2)=w then(c3 .u64 w 2,true)else(0,false)
theorem Ba {w:Int}(h:cy w):0<=c3 .u64 w 2/\c3 .u64 w 2=w / 4:=by
 have e:c3 .u64 w 2=w / 4:=by
  show Int.fdiv w 4=_
  grind
 rw[e];have:=h.1
 grind
theorem DK (w:an):a5 214 [.int .i64 0] w λv w'=>v=.tuple #[.int .u64 0,.int .i64 2]/\w'=w:=by
 refine ba Tryz.func214 ?_;rw[B5];refine aB (zM w 0 1 1073741823) ?_
 grind
theorem L3 (w:an){x:Int}(h:cy x):a5 230 [.int .u64 x] w λv w'=>v=.tuple #[.int .i64 (iG x).1,.bool (iG x).2]/\w'=w:=by
 refine ba Tryz.func230 ?_;rw[Y9];obtain⟨f,_⟩:=Ba h;have no:¬ (1<=c3 .u64 x 2/\c3 .u64 x 2<1073741824/\gw (c3 .u64 x 2)=x)->iG x=(0,false):=λd=>aQ d
 refine bb (λa=>?_) (λb=>?_)
 ·have a:c3 .u64 x 2<1073741824:=a;rw[bI (x:=c3 .u64 x 2) (by omega) (by omega)];by_cases c:1<=c3 .u64 x 2
  ·refine aB (AL w ⟨c,a⟩) ?_;rintro v w1 ⟨rfl,rfl⟩;refine⟨_,_,rfl,d8 (λe=>cp rfl e) (λ_=>d8 (λe=>⟨by grind,rfl⟩) (λe=>?_))⟩
   have g:iG x=(c3 .u64 x 2,true):=bh ⟨c,a,e⟩
   grind
  ·have:c3 .u64 x 2=0:=by omega
   rw[this]at c ⊢;refine aB (DK w) ?_
   grind
 ·have b:¬ c3 .u64 x 2<1073741824:=b;refine aB (DK w) ?_
  grind
end
section
theorem DL (h:fL L lines=true):1<=(c2 L lines).1/\(c2 L lines).1<1073741824:=by
 have hw:=h;unfold fL at hw;simp only[gL,mL,beq_iff_eq]at hw;unfold c2 eu;rw[bh h,bh hw.2]
 grind[eh,gk,hV,jA]
theorem St (x:Int):0<=(iG x).1/\(iG x).1<1073741824:=by
 grind[iG]
def nv (a b:Int):Int:=if a<b then b else a
def g2 (lines g:Int)(L:a7):Int:=
 let a:=if(iG (L.getD 0 0)).2=true then nv g (iG (L.getD 0 0)).1 else g
 if fL L lines=true then nv a (c2 L lines).1 else a
def jX (clock:Int):Int:=if 1073741823<clock then 1073741823 else clock
def fT (lines clock:Int)(Ls:eE):Int:=Ls.foldl (g2 lines) (jX clock)+1
theorem Gu {a b:Int}(c:0<=a/\a<1073741824)(d:0<=b/\b<1073741824):0<=nv a b/\nv a b<1073741824:=by grind[nv]
theorem Ny {g:Int}(h:0<=g/\g<1073741824):0<=g2 lines g L/\g2 lines g L<1073741824:=by
 unfold g2;have a:0<=(if(iG (L.getD 0 0)).2=true then nv g (iG (L.getD 0 0)).1 else g)/\(if(iG (L.getD 0 0)).2=true then nv g (iG (L.getD 0 0)).1 else g)<1073741824:=by
  split
  ·exact Gu h (St _)
  grind
 simp only;split
 ·rename_i hw;have:=DL hw;exact Gu a ⟨by omega,this.2⟩
 grind
theorem Nz {r:c_}{m:aS}{j:bL}{V:eU}(D:dv w0 u aI tb r m j V o)(ah:lI w0 u aI tb V Ls)(W:Ls.length<=100)(K:∀ L ∈ Ls,L.length=120)(G:cy V.clock) :
  a5 184 [ptr aI] u λv bB=>v=.int .i64 (fT j.lines V.clock Ls)/\ai u bB:=by
 refine ba Tryz.func184 ?_;rw[ptr,Vn];obtain⟨⟨S,N,M,aG,B⟩,X⟩:=ah;have b:=D.bp.lines;have y:0<=jX V.clock/\jX V.clock<1073741824:=by have:=G.1;grind[jX]
 refine⟨_,D.aj.cell (i:=14) rfl,_,_,_,D.aj.cell (i:=13) rfl,?_⟩;rw[show IntKind.i64.wrap (if(1073741823:Int)<V.clock then(1073741823:Int)else V.clock)=jX V.clock from bI (by grind[jX]) (by grind)];refine cZ mix (λq env z=>∃ (i:Nat) (aC:ax),q=Ls.length-i/\i<=Ls.length/\env=o7 ⟨aI,0,none⟩ ((Ls.take i).foldl (g2 j.lines) (jX V.clock)) V.fX V.kD V.lc V.kD i aC/\ai u z/\0<=(Ls.take i).foldl (g2 j.lines) (jX V.clock)/\(Ls.take i).foldl (g2 j.lines) (jX V.clock)<1073741824) Ls.length
  ⟨0,_,by omega,by omega,rfl,ao.refl _ _,y.1,y.2⟩ ?_
 rintro q env z ⟨i,aC,rfl,aO,rfl,d,h⟩;rw[TU];have w:=D.bH d;refine bb (λav=>?_) (λaf=>?_)
 ·have C:i<Ls.length:=by omega
  obtain⟨s,ab⟩:∃ s,S[i]?=some s:=⟨_,b2 (by omega)⟩;obtain⟨L,U⟩:∃ L,Ls[i]?=some L:=⟨_,b2 C⟩;have A:=B i s L ab U;have k:=A.new w.new;have T:=K L (b9 U);have O:(Ls.take (i+1)).foldl (g2 j.lines) (jX V.clock)=g2 j.lines ((Ls.take i).foldl (g2 j.lines) (jX V.clock)) L:=by grind[List.take_add_one]
  generalize (Ls.take i).foldl (g2 j.lines) (jX V.clock)=g at h O;have more:∀ {t:Int} {ch:an} (aC:ax),t=g2 j.lines g L->ai u ch->∃ ad,ad<Ls.length-i/\∃ (p:Nat) (R:ax),ad=Ls.length-p/\p<=Ls.length/\o7 ⟨aI,0,none⟩ t V.fX V.kD V.lc V.kD (IntKind.i64.wrap (i+1)) aC=o7 ⟨aI,0,none⟩ ((Ls.take p).foldl (g2 j.lines) (jX V.clock)) V.fX V.kD V.lc V.kD p R/\ai u ch/\0<=(Ls.take p).foldl (g2 j.lines) (jX V.clock)/\(Ls.take p).foldl (g2 j.lines) (jX V.clock)<1073741824:=by intro t ch aC aP E;rw[bI (x:=(i:Int)+1) (by omega) (by omega)];have ag:=Ny (lines:=j.lines) (L:=L) h;exact⟨Ls.length-(i+1),by omega,i+1,aC,rfl,by omega,by grind,E,by grind,by grind⟩
  refine eQ (cells:=nx) (sz:=1) (λ_=>rfl) (by decide) (N.new d) ab rfl M λb' aQ _ F=>⟨s.a,s.n,s.c,F 0 _ rfl,?_⟩
  refine nQ k.rd (i:=0) (by omega) k.len rfl λaK aR hw=>⟨_,hw _ (ao.refl _ _),?_⟩
  have P:cy (L.getD 0 0):=by
   cases L with
   |nil=>exact hL
   |cons a l=>exact A.u64 a (by simp)
  refine aB (L3 z P) ?_;rintro v aX ⟨rfl,rfl⟩;refine⟨_,_,rfl,gW (λe=>?_) (λe=>?_)⟩
  all_goals
   refine⟨r.hP,w.aj.cell (i:=2) rfl,?_⟩;rw[b];refine aB (w4 j.lines k) ?_;rintro v aZ ⟨pb,aY,rfl,I,Z,Y⟩;refine b7.aV ⟨(c2 L j.lines).1,pb,(c2 L j.lines).2.length,aY⟩ ⟨_,rfl,?_⟩;refine io (vs:=b7.cells ⟨(c2 L j.lines).1,pb,(c2 L j.lines).2.length,aY⟩) rfl (b7.single _) λaH a0 ae Q J=>?_
   have E:=d.new (I.new J);refine gW (λf=>⟨_,Q.cell (i:=0) rfl,more _ ?_ E⟩) (λf=>more _ ?_ E)
  ·unfold g2;simp only[e,f,if_true];rfl
  ·unfold g2;simp only[e,f,if_true];rfl
  ·unfold g2;simp only[e,f,if_true];rfl
  grind[g2]
 ·have H:i=Ls.length:=by omega
  subst H;rw[ja]at h ⊢;rw[Uc];rw[bI (by omega) (by omega)];exact⟨rfl,d⟩
end
section
open IntKind
variable (w:an)(R:cM){a b c d e f:Nat}{A B:aU}{s t u:ak}{i k l m:Int}{j:ar}
def vj (e:aU)(l:ak)(a b:Nat)(n s8:Int)(o:ak)(c d:Nat)(f:ak)(g h:Nat)(i k:Int)(j:ar):ar:=.pointer (some e)::ag j 0 4 (ad l a b::ag j 4 1 (ab n::ah s8::ad o c d::ag j 5 31 (ad f g h::ab i::ab k::ag j 36 51 [])))
def BB (a:aU)(e:ak)(b c:Nat)(g s8:Int)(h:ak)(d f:Nat)(j:ar):ar:=.pointer (some a)::ag j 0 4 (ad e b c::ag j 4 1 (ab g::ah s8::ad h d f::ag j 5 85 []))
theorem V1 (q:b7):bd prog f227 [a' a,q.val] R w=(aR w q.cells.toArray 271 λj u=>ig u (af j 0) λr=>dx 247 #[a' a,r.val] u λe p=>cond (!e) (R (ae false) p) (ig p (af j 0) λv=>j7 248 #[a' a,v.val] p λb c d f s=>cond (!f) (R (ae false) s) (cond ((c:Int) == 0) (R (ae true) s) (cF s λy o=>cY o (af a 5) λg=>cY o (af j 0) λh=>cG 225 #[ab g] y λi t=>o t/\mD t (af a 3) λn=>dm 216 #[n.val] t λk l m x=>cz prog (cU f227 [1,1,1,1,1,1,1,0,1,0,0]) (vj (af a 0) b c d i (u64.wrap h) none 0 0 k l m (l:Nat) 0 (q.val::undef::jp (af j 0)::ae false::ae f::bm 2 (jp (af a 0)::r.val::ae e::ae (!e)::.tuple #[ad b c d,ae f]::jp (af a 0)::v.val::.tuple #[ad b c d,ae f]::ad b c d::ae f::ae f::ae (!f)::ad b c d::dA c::ae ((c:Int) == 0)::jp (af a 0)::jp (af a 0)::jp (af a 0)::jp (af a 5)::ab g::ab i::jp (af j 0)::ab h::ah (u64.wrap h)::jp (af a 0)::jp (af a 0)::jp (af a 0)::jp (af a 3)::n.val::bm 51 []))) (aO 0 (aT f227 [1,1,1,1,1,1,1,1] R)) x)))):=by kernel_rfl
theorem TZ (D:ar->aJ):W prog (sb f227 [1,1,1,1,1,1,1,0,1,0,0]) (vj A s a b i k t c d u e f l m j) (aZ D (aO 0 (aT f227 [1,1,1,1,1,1,1,1] R))) w=(cond (m<l) (bx u e m 3 λC=>iT w C λr=>aR w #[ab 0,ab 0,ae false] 116 λB M=>a8 M (af B 0) 0 r.cells λF=>iT F (af B 0) λI=>dm 249 #[.pointer (some A),I.val,ad s a b] F λx z n O=>de 125 (ad t c d) (ad x z n) O λy o p H=>iT H (af B 0) λE=>aR H #[ah k] 30 λG P=>eS 250 #[.pointer (some A),E.val,ab i,ad (bk G) 1 1] P λv K=>aR K v.cells.toArray 158 λa6 L=>de 125 (ad y o p) (ad (bk a6) 1 1) L λq g h N=>D (vj A s a b i k q g h u e f l (i64.wrap (m+1)) (ag j 0 6 (jp (af B 0)::ag j 7 29 (ae (m<l)::jp C::r.val::ad t c d::jp A::I.val::ad s a b::ad x z n::ad y o p::ad y o p::jp A::E.val::ab i::ah k::ad (bk G) 1 1::v.val::ad (bk a6) 1 1::ad q g h::ab (i64.wrap (m+1))::ag j 55 32 [])))) N) (W prog (sb f227 [1,1,1,1,1,1,1,1]) (BB A s a b i k t c d (ag j 0 36 (ad u e f::ab l::ab m::ae (m<l)::ag j 37 50 []))) (bT f227 R) w)):=by kernel_rfl
theorem US:W prog (sb f227 [1,1,1,1,1,1,1,1]) (BB A s a b i k t c d j) (bT f227 R) w=(j7 221 #[.pointer (some A),ad t c d] w λg h B D M=>cond (!D) (R (ae false) M) (cF M λY u=>hK u (b5 A 9) λU=>hK u (b5 A 9) λL=>aR Y #[ah k] 30 λS P=>u P/\eS 250 #[.pointer (some A),U.val,ab i,ad (bk S) 1 1] P λK E=>u E/\(aR E K.cells.toArray 158 λQ I=>u I/\dm 249 #[.pointer (some A),L.val,ad s a b] I λl m n F=>u F/\de 125 (ad (bk Q) 1 1) (ad l m n) F λX o p a6=>u a6/\j7 221 #[.pointer (some A),ad X o p] a6 λq r e f N=>u N/\R (ae f) N)/\dm 249 #[.pointer (some A),L.val,ad s a b] E λv x y H=>u H/\aR H K.cells.toArray 158 λT G=>u G/\de 125 (ad (bk T) 1 1) (ad v x y) G λz V J O=>u O/\j7 221 #[.pointer (some A),ad z V J] O λag af ao Z C=>u C/\R (ae Z) C)):=by kernel_rfl
def vp (e:aU)(i:ak)(a b:Nat)(c:ak)(d f:Nat)(g h:Int)(j:ar):ar:=.pointer (some e)::ag j 0 4 (ad i a b::ag j 4 7 (ad c d f::ab g::ab h::ag j 11 38 []))
def H9 (a:aU)(d:ak)(b c:Nat)(j:ar):ar:=.pointer (some a)::ag j 0 4 (ad d b c::ag j 4 48 [])
theorem WR (e:b7):bd prog f229 [a' a,e.val] R w=(aR w e.cells.toArray 271 λf g=>b_ g (af f 1) λd b c=>cz prog (cU f229 [1,1,0,1,0,0]) (vp (af a 0) none 0 0 d b c (b:Nat) 0 (e.val::undef::jp (af f 0)::ae false::bm 6 (jp (af f 1)::bm 38 []))) (aO 0 (aT f229 [1,1,1] R)) g):=by kernel_rfl
theorem Ud (B:ar->aJ):W prog (sb f229 [1,1,0,1,0,0]) (vp A s a b t c d i k j) (aZ B (aO 0 (aT f229 [1,1,1] R))) w=(cond (k<i) (bx t c k 9 λz=>iC w z λr=>aR w #[ab 0,ah 0,ah 0,ah 0,ah 0,ah 0,ah 0,ah 0,ah 0] 73 λv K=>a8 K (af v 0) 0 r.cells λI=>cF I λL u=>vT u (af v 0) λC=>cY u (b5 A 5) λf=>h1 211 #[C.val,ab f] L λh l H=>cond (l == 0) (cF H λM x=>hK x (b5 A 9) λe=>cY x (af v 0) λm=>kn x (af v 1) λn=>cG 108 #[ab m] M λo D=>x D/\eS 223 #[.pointer (some A),e.val,ab o,ah h,ah n] D λg F=>x F/\aR F g.cells.toArray 158 λG a6=>x a6/\de 125 (ad s a b) (ad (bk G) 1 1) a6 λy p q E=>x E/\B (vp A y p q t c d i (i64.wrap (k+1)) (ag j 0 5 (jp (af v 0)::ah h::ab l::aH j 8::aH j 9::aH j 10::ae (k<i)::jp z::r.val::.tuple #[ah h,ab l]::C.val::jp A::jp A::jp A::bM A 5::ab f::.tuple #[ah h,ab l]::ah h::ab l::ab l::ae ((l:Int) == 0)::ad s a b::jp A::jp A::jp A::bM A 9::e.val::jp (af v 0)::ab m::ab o::ah h::jp (af v 1)::ah n::g.val::ad (bk G) 1 1::ad y p q::ab (i64.wrap (k+1))::ag j 42 7 []))) E) (B (vp A s a b t c d i (i64.wrap (k+1)) (ag j 0 5 (jp (af v 0)::ah h::ab l::aH j 8::aH j 9::aH j 10::ae (k<i)::jp z::r.val::.tuple #[ah h,ab l]::C.val::jp A::jp A::jp A::bM A 5::ab f::.tuple #[ah h,ab l]::ah h::ab l::ab l::ae ((l:Int) == 0)::ag j 26 15 (ab (i64.wrap (k+1))::ag j 42 7 [])))) H)) (W prog (sb f229 [1,1,1]) (H9 A s a b (ag j 0 11 (ad t c d::ab i::ab k::ae (k<i)::ag j 12 37 []))) (bT f229 R) w)):=by kernel_rfl
theorem U3:W prog (sb f229 [1,1,1]) (H9 A s a b j) (bT f229 R) w=(j7 221 #[.pointer (some A),ad s a b] w λd f g h c=>R (ae h) c):=by kernel_rfl
def x6 (e i:aU)(k:ak)(a b:Nat)(c:ak)(d f:Nat)(g h:Int)(j:ar):ar:=.pointer (some e)::ag j 0 3 (.pointer (some i)::ag j 3 2 (ad k a b::ag j 5 4 (ad c d f::ab g::ab h::ag j 9 20 [])))
def Ic (c:ak)(a b:Nat)(j:ar):ar:=ag j 0 7 (ad c a b::ag j 7 27 [])
theorem VY (d:aS):bd prog f249 [a' a,d.val,ad s b c] R w=(aR w d.cells.toArray 116 λe f=>cz prog (cU f249 [1,1,0,1,0,0]) (x6 (af a 0) (af e 0) none 0 0 s b c (b:Nat) 0 (d.val::ad s b c::bm 2 (a0::bm 24 []))) (aO 0 (aT f249 [1,1,1] R)) f):=by kernel_rfl
theorem Uo (z:ar->aJ):W prog (sb f249 [1,1,0,1,0,0]) (x6 A B s a b t c d i k j) (aZ z (aO 0 (aT f249 [1,1,1] R))) w=(cond (k<i) (bx t c k 9 λy=>iC w y λr=>aR w #[ab 0,ah 0,ah 0,ah 0,ah 0,ah 0,ah 0,ah 0,ah 0] 73 λu I=>a8 I (af u 0) 0 r.cells λD=>iC D (af u 0) λH=>vR 244 #[H.val] D λf g l m L=>cF L λK h=>hK h B λC=>cY h (af u 0) λn=>cG 108 #[ab n] K λo a6=>h a6/\eS 250 #[.pointer (some A),C.val,ab o,ad f g l] a6 λe x=>h x/\aR x e.cells.toArray 158 λF E=>h E/\de 125 (ad s a b) (ad (bk F) 1 1) E λv p q G=>h G/\z (x6 A B v p q t c d i (i64.wrap (k+1)) (ag j 0 6 [jp (af u 0),ad f g l,ab m,ae (k<i),jp y,r.val,.tuple #[ad f g l,ab m],H.val,.tuple #[ad f g l,ab m],ad f g l,ab m,ad s a b,jp A,C.val,jp (af u 0),ab n,ab o,ad f g l,e.val,ad (bk F) 1 1,ad v p q,ab (i64.wrap (k+1)),aH j 28])) G) (W prog (sb f249 [1,1,1]) (Ic s a b (jp A::aH j 0::aH j 1::aH j 2::jp B::ag j 3 6 (ad t c d::ab i::ab k::ae (k<i)::ag j 10 19 []))) (bT f249 R) w)):=by kernel_rfl
theorem UF:W prog (sb f249 [1,1,1]) (Ic s a b j) (bT f249 R) w=(R (ad s a b) w):=by kernel_rfl
end
section
def Am (j:bL)(m:aS)(p:aN):bc:=sP j m (p.bt*8) (dK p.Head j.dead) p.Head
def sS (j:bL)(m:aS)(W:List aN)(G:a3):cd:=bN G (W.map (Am j m))
structure s4 (W:List aN):Prop where
 ei:W.length<=12
 ok:∀ p ∈ W,mG p.Head=true/\lZ p.Head=true/\96<=p.bt/\p.bt<256/\cy p.Head
theorem Su {r:c_}{m:aS}{j:bL}{V:eU}{T:eM}{G:a3}(D:dv w0 u aI tb r m j V (0,0))(Y:eV A w0 u tb T G)(af:gF T){q:b7}{W:List aN}(N:fM u q.eN q.dZ W)(fu:s4 W) :
  a5 229 [ptr aI,q.val] u (lX A w0 u aI tb r m j V (sS j m W G)):=by
 refine ba Tryz.func229 ?_;rw[ptr,WR];have bl:=D.aj.lt;have bm:=Y.aj.lt;have ah:=D.cg.dead;have bK:=D.bp.dead;have hlen:=N.len;have bj:=fu.ei;rintro b1 w1 Z O;obtain⟨C,a⟩:=bo Z O;have C:av w1 b1 q.cells er:=C;clear O;have aR:=a.size;refine⟨_,_,_,C.cell (i:=1) rfl,?_⟩;refine cZ mix (λk env z=>∃ (i:Nat) (aW:ak) (pc:Nat) (aC:ax),k=W.length-i/\i<=W.length/\env=vp ⟨aI,0,none⟩ aW i pc q.eN q.dZ q.hR q.dZ i aC/\ai w1 z/\bP w1 z aW i pc ((W.take i).map (Am j m))) W.length
  ⟨0,none,0,_,by omega,by omega,rfl,ao.refl _ _,bP.nil _ _⟩ ?_
 rintro k env z ⟨i,aW,pc,aC,rfl,cn,rfl,d,l⟩;rw[Ud,hlen];have I:=D.bH (a.new d);refine bb (λbO=>?_) (λbM=>?_)
 ·obtain⟨p,bk⟩:∃ p,W[i]?=some p:=⟨_,b2 (by omega)⟩;obtain⟨bV,cr,b0,b3,b5⟩:=fu.ok p (b9 bk);refine eQ (cells:=aN.cells) aN.len (by omega) ((N.new a).new d).rd bk rfl rfl λb bT ae _=>aN.aV p ⟨ae,?_⟩
  refine io (vs:=p.cells) rfl (aN.single _) λbz b_ bD aZ K=>?_
  rintro a8 P;have s:ai b_ a8:=by rw[P];exact cR _
  clear P;have F:=I.bH (K.new s);have S:=ai.aj s aZ;refine⟨λy=>ai a8 y,ao.refl _ _,aN.aV p ⟨λy f=>bX (ai.aj f S) rfl,r.e7,λy f=>(ai.aj f F.aj).cell (i:=5) rfl,?_⟩⟩;rw[bK];refine aB (z0 a8 p bV ah) ?_;rintro v ca ⟨rfl,t⟩;have ad:=F.bH t;have a0:=ai.aj t S;refine⟨_,_,rfl,eg (λ_=>?_) (λe=>cp rfl e)⟩;rintro a' Q;have w:ai ca a':=by rw[Q];exact cR _
  clear Q;have H:=ad.bH w;have U:=ai.aj w a0;refine⟨λy=>av y bz p.cells fr/\jy r tb m j aI y,⟨U,_,_,H.aj⟩,aS.aV m ⟨λy f=>by obtain⟨_,cd,bT,f⟩:=f;exact bX f rfl,p.bt,λy f=>f.1.cell (i:=0) rfl,p.Head,λy f=>f.1.cell (i:=1) rfl,?_⟩⟩;refine aB (qV a' b0 b3) ?_;rintro v br ⟨rfl,bh⟩;have B:ai a' br:=by rw[bh];exact ao.refl _ _
  clear bh;have o:=H.bH B;have X:=ai.aj B U;refine⟨_,rfl,⟨X,_,_,o.aj⟩,?_⟩;refine aB (w5 o D.eX (p.bt*8) (Fz p.Head j.dead) b5) ?_;rintro v bx ⟨b8,rfl,aX,h⟩;have g:=o.bH h;have n:=ai.aj h X;refine aG.aV b8 ⟨rfl,⟨n,_,_,g.aj⟩,?_⟩;rintro cj cb ab R;have L:ai bx cb:=by rw[R];exact hF _ _
  have c:ai z br:=(((K.new s).new t).new w).new B;refine⟨⟨ai.aj L n,_,_,(g.bH L).aj⟩,bP.mC (l.new c) (d.new c) h aX (by omega) ab R λap E cu cm J aO=>?_⟩;obtain⟨bq,M,_⟩:=(l.new (c.new h)).ex;have off:∀ {b:Nat} {cs:ax} {T:bY},T≠cP->av bx b cs T->¬ aP aW b:=λY bC bN=>by obtain⟨bA,ag⟩:=gN M bN;exact ag.ne bC (λe=>Y e.symm) rfl
  refine⟨⟨J.aj n (off (by decide) n),_,_,J.aj g.aj (off (by decide) g.aj)⟩,?_⟩;rw[bI (x:=(i:Int)+1) (by omega) (by omega)];refine⟨W.length-(i+1),by omega,i+1,ap,E,_,rfl,by omega,by rw[<-hlen];rfl,aO,?_⟩
  grind[Am,List.take_add_one]
 ·have aH:i=W.length:=by omega
  subst aH;rw[ja]at l;rw[U3];refine aB (oq I (Y.new (a.new d)) af (D.bH a).new (by omega) (by omega) l (by grind)) ?_;rintro v ct ⟨dJ,dc,raw,rfl,aQ,_⟩;exact⟨_,_,_,_,rfl,rfl,aQ.of (a.new d) aR⟩
end
section
def qn (j:bL)(bj:aS)(p:aN):bc:=mw j bj (p.bt*8) (jU p)
theorem DM {r:c_}{m:aS}{j:bL}{V:eU}(bK:dv w0 u aI tb r m j V o){bj:aS}(ah:dU bj.cK){a:ak}{n c:Nat}{W:List aN}(K:fM u a n W)(fu:s4 W)(E:∀ p ∈ W,∀ x ∈ h7 p,cy x) :
  a5 249 [ptr aI,bj.val,.slice a n c] u λv bB=>∃ aW pc,v=.slice aW W.length pc/\ai u bB/\bP u bB aW W.length pc (W.map (qn j bj)):=by
 refine ba Tryz.func249 ?_;rw[ptr,VY];have hlen:=K.len;have bm:=fu.ei;rintro b1 w1 Y M;obtain⟨C,G⟩:=bo Y M;have C:av w1 b1 bj.cells eL:=C;clear M;have bT:=G.size;refine cZ mix (λk env z=>∃ (i:Nat) (aW:ak) (pc:Nat) (aC:ax),k=W.length-i/\i<=W.length/\env=x6 ⟨aI,0,none⟩ ⟨b1,0,none⟩ aW i pc a n c n i aC/\ai u z/\av z b1 bj.cells eL/\bP u z aW i pc ((W.take i).map (qn j bj))) W.length
  ⟨0,none,0,_,by omega,by omega,rfl,G,C,bP.nil _ _⟩ ?_
 rintro k env z ⟨i,aW,pc,aC,rfl,cn,rfl,B,R,L⟩;rw[Uo,hlen];have ag:=bK.bH B;refine bb (λbO=>?_) (λbM=>?_)
 ·obtain⟨p,aR⟩:∃ p,W[i]?=some p:=⟨_,b2 (by omega)⟩;obtain⟨cr,bV,b0,b3,b5⟩:=fu.ok p (b9 aR);refine eQ (cells:=aN.cells) aN.len (by omega) (K.new B).rd aR rfl rfl λb cp ae _=>aN.aV p ⟨ae,?_⟩
  refine io (vs:=p.cells) rfl (aN.single _) λbx b_ bD S aO=>aN.aV p ⟨bX S rfl,?_⟩
  refine aB (DX b_ p b5 bV) ?_;rintro v ca ⟨b8,cu,rfl,aH,P,_⟩;refine⟨_,_,_,_,rfl,?_⟩;rintro a8 N;have H:ai ca a8:=by rw[N];exact cR _
  clear N;have s:=aH.new H;have g:=aO.new s;have ab:=ag.bH g;have U:=ai.aj s S;have t:=ai.aj g R;refine⟨λy=>av y bx p.cells fr/\av y b1 bj.cells eL,⟨U,t⟩,aS.aV bj ⟨λy a0=>bX a0.2 rfl,p.bt,λy a0=>a0.1.cell (i:=0) rfl,?_⟩⟩;refine aB (qV a8 b0 b3) ?_;rintro v a' ⟨rfl,bh⟩;have h:ai a8 a':=by rw[bh];exact ao.refl _ _
  clear bh;have ad:=ab.bH h;have X:=ai.aj h U;have w:=ai.aj h t;refine⟨_,rfl,⟨X,w⟩,?_⟩;have Q:bl a' b8 (us (jU p)):=(aX.new (H.new h) P).rd;refine aB (zb ad ah (p.bt*8) Q rfl (aX.le P) (λe=>?_) (Gl (E p (b9 aR))) (by show 8<=1000000;omega)) ?_
  ·rcases Q with bk | ⟨cj,ct,bk,_⟩
   ·have:=ey List.length bk
    grind[iS,List.length_nil,List.eq_nil_of_length_eq_zero]
   grind
  rintro v br ⟨b7,rfl,aZ,l⟩;have q:=ai.aj l X;have d:=ai.aj l w;refine aG.aV b7 ⟨rfl,⟨q,d⟩,?_⟩;rintro cd cb Z O;have I:ai br cb:=by rw[O];exact hF _ _
  have f:ai z a':=g.new h;refine⟨⟨ai.aj I q,ai.aj I d⟩,bP.mC (L.new f) (B.new f) l aZ (by omega) Z O λap D cz cm F aQ=>?_⟩;obtain⟨bq,J,_⟩:=(L.new (f.new l)).ex;have off:∀ {b:Nat} {cs:ax} {T:bY},T≠cP->av br b cs T->¬ aP aW b:=λbA bC bN=>by obtain⟨bz,af⟩:=gN J bN;exact af.ne bC (λe=>bA e.symm) rfl
  have A:=F.aj d (off (by decide) d);refine⟨⟨F.aj q (off (by decide) q),A⟩,?_⟩;rw[bI (x:=(i:Int)+1) (by omega) (by omega)];refine⟨W.length-(i+1),by omega,i+1,ap,D,_,rfl,by omega,by rw[<-hlen];rfl,aQ,A,?_⟩
  grind[qn,List.take_add_one]
 grind[List.take_length,UF]
end
section
noncomputable abbrev x_:Func:=f248
def uZ (j:bL)(m:aS)(p:aN):bc:=nK j m (p.bt*8) 1
def pK (j:bL)(W:List aN)(ds:ck)(i:Nat):List aN:=if di ds i=dK (W.getD i iA).Head j.dead then[W.getD i iA]else[]
def gx (j:bL)(W:List aN)(ds:ck)(n:Nat):List aN:=((List.range n).map (pK j W ds)).flatten
theorem Ci (j:bL)(W:List aN)(ds:ck)(n:Nat):gx j W ds (n+1)=gx j W ds n++pK j W ds n:=by
 grind[gx,List.range_succ]
theorem zc (j:bL)(W:List aN)(ds:ck)(n:Nat):(gx j W ds n).length<=n:=by
 induction n with
 |zero=>simp[gx]
 |succ n a=>
  grind[Ci,List.length_append,pK]
def E3 (A:a4)(w0 u:an)(aI tb:Nat)(r:c_)(m:aS)(j:bL)(V:eU)(W:List aN)(R:cd)(v:bf)(bB:an):Prop:=
 ∃ aW pc,v=.tuple #[.slice aW (gx j W R.done R.done.length).length pc,.bool R.ok]/\eK A w0 u aI tb u.heap.size r m j V R bB/\bl bB aW (iw (gx j W R.done R.done.length)).flatten/\∀ k,aP aW k->u.heap.size<=k
theorem Oa {r:c_}{m:aS}{j:bL}{V:eU}(Z:dv w0 u aI tb r m j V o){b1:Nat}{q:b7}(ba:av u b1 q.cells er){W:List aN}(N:fM u q.eN q.dZ W)(fu:s4 W){ds:ck}{raw:List bV}{dJ:ak}{dc:Nat}(a5:bl w0 dJ (gv raw).flatten)(J:gT A w0 raw ds)(bM:ds.length<=W.length)(ok:Bool)(aC:ax){R:cM}
  (ah:∀ bB aW pc,ai u bB->bl bB aW (iw (gx j W ds ds.length)).flatten->(∀ k,aP aW k->u.heap.size<=k)->R (.tuple #[.slice aW (gx j W ds ds.length).length pc,.bool ok]) bB) :
  cz prog (.loop (sub (bu x_) [1,1,1,1,0,1,0,0])) (rp ⟨aI,0,none⟩ ⟨b1,0,none⟩ none 0 0 ok dJ ds.length dc ds.length 0 aC)
   (aO 2 (aZ (λenv w=>Go.bJ.W prog (sub (bu x_) [1,1,1,1,1]) env (dE prog x_ R) w) (dE prog x_ R))) u:=by
 have a8:raw.length=ds.length:=J.1;have bq:=fu.ei;have ae:=Z.cg.dead;have bK:=Z.bp.dead;have hlen:=N.len;refine cZ mix (λk env z=>∃ (i:Nat) (aW:ak) (pc:Nat) (aC:ax),k=ds.length-i/\i<=ds.length/\env=rp ⟨aI,0,none⟩ ⟨b1,0,none⟩ aW (gx j W ds i).length pc ok dJ ds.length dc ds.length i aC/\ai u z/\aX z fr 9 aW (gx j W ds i).length pc (iw (gx j W ds i)).flatten/\∀ k,aP aW k->u.heap.size<=k) ds.length
  ⟨0,none,0,_,by omega,by omega,rfl,ao.refl _ _,aX.nil _ _ _,λk ah=>cp ah ou⟩ ?_
 rintro k env z ⟨i,aW,pc,aC,rfl,cy,rfl,f,l,M⟩;rw[TT];have H:=Z.bH f;have b0:=zc j W ds i;refine bb (λaG=>?_) (λbO=>?_)
 ·have K:i<ds.length:=by omega
  obtain⟨d,I⟩:∃ d,raw[i]?=some d:=⟨_,b2 (by omega)⟩;obtain⟨x,b8⟩:∃ x,ds[i]?=some x:=⟨_,b2 K⟩;obtain⟨p,U⟩:∃ p,W[i]?=some p:=⟨_,b2 (by omega)⟩;have bT:W.getD i iA=p:=pA U;have ad:=J.2 i d x I b8;have bN:di ds i=ed x:=by grind[di]
  obtain⟨b_,cB,cF,cG,cI⟩:=fu.ok p (b9 U);refine eQ (cells:=bV.cells) bV.len (by omega) (a5.new H.new) I rfl a8.symm λb cA ab _=>bV.aV d ⟨ab,?_⟩
  refine io (vs:=d.cells) rfl (bV.single _) λcn cb bA bj aH=>?_
  rintro bm Q;have L:ai cb bm:=by rw[Q];exact cR _
  clear Q;have g:=aH.new L;have bh:=ai.aj L bj;have O:=ai.aj (f.new g) ba;have E:=H.bH g;have t:=N.new (f.new g);refine⟨λy=>ai bm y,ao.refl _ _,_,_,_,λy X=>(ai.aj X O).cell (i:=1) rfl,?_⟩;refine lg (cells:=aN.cells) aN.len (by omega) t.rd U rfl hlen λcr ca bD=>aN.aV p ⟨λy X=>k_ (i:=0) λq v al=>by grind,r.e7,λy X=>(ai.aj X E.aj).cell (i:=5) rfl,?_⟩
  rw[bK];refine aB (z0 bm p b_ ae) ?_;rintro v cQ ⟨rfl,s⟩;have F:=E.bH s;have bk:=ai.aj s bh;refine⟨_,_,rfl,s,eg (λ_=>bV.aV d ⟨bX bk rfl,?_⟩) (λe=>cp rfl e)⟩;refine aB (r9 (ad.aA (ao.cm F.new) λ_ _ e=>e)) ?_;rintro v cS ⟨rfl,aQ⟩;have h:=s.new aQ;have c:=g.new h;have a0:=ai.aj h O;refine⟨_,rfl,eg (λhe=>⟨_,_,_,a0.cell (i:=1) rfl,?_⟩) (λhe=>?_)⟩
  ·have a:gx j W ds (i+1)=gx j W ds i++[p]:=by
    rw[Ci];unfold pK
    grind
   refine eQ (cells:=aN.cells) aN.len (by omega) (t.new h).rd U rfl hlen λct cP G _=>aN.aV p ⟨G,?_⟩
   rintro br cd Y S;obtain⟨C,B⟩:=bo Y S;have C:av cd br p.cells fr:=C;clear S;obtain⟨inf,af,a',P,bC⟩:=fV (T:=fr) (z:=iA.val) (n:=9) (m:=72) (by kernel_rfl);refine qW (cells:=aN.cells) (sz:=9) aN.len aN.single Tryz.underlying37 af a' (by rw[P];rfl) P (by decide) (by grind) (aX.new (c.new B) l) (l2:=[p]) (m:=1) (fj C rfl) rfl (by omega) λap D cj bx bz cu=>?_
   rw[bI (x:=(i:Int)+1) (by omega) (by omega)];have aR:ai u cj:=(f.new (c.new B)).trans bz λk aG e=>by grind
   have b5:=(f.new c).size;have b3:=B.size;refine⟨ds.length-(i+1),by omega,i+1,ap,D,_,rfl,by omega,by rw[a,fF];rfl,aR,?_,λk bP=>?_⟩
   ·rw[a,fF];exact bx
   grind
  ·have a:gx j W ds (i+1)=gx j W ds i:=by
    rw[Ci];unfold pK
    grind
   rw[bI (x:=(i:Int)+1) (by omega) (by omega)];exact⟨ds.length-(i+1),by omega,i+1,aW,pc,_,rfl,by omega,by rw[a];rfl,f.new c,by rw[a];exact aX.new c l,M⟩
 ·have ag:i=ds.length:=by omega
  subst ag;rw[Ub];exact ah z aW pc f l.rd M
end
end Go.Proofs.YtmkljjbioomepaaGreat
