import Derived.Test.YtegepanmkjemjaaGreatProg
import Derived.Test.YtegepanmkjemjaaGreatw03
import Derived.Test.YtegepanmkjemjaaGreatw20
set_option linter.unusedVariables false
namespace Go.Proofs.YtegepanmkjemjaaGreat
open Go.Proofs.Tryz
open Go.Eng IntKind
variable (w:World) (R:Value→World→Prop)
theorem mt (p0:Nat):fnW prog f147 [(.pointer (some ⟨p0,0,none⟩))] R w=(∀ b1 w1,b1=w.heap.size→w1=w.alloc (.cells #[(.int .i64 0),(.int .i64 0)] 162)→∀ w2,w2=w1.drew→∃ Sx:World→Prop,Sx w2∧∃ a,(∀ u,Sx u→u.cell? ⟨p0,0,none⟩=some (.int .i64 a))∧aH.ex λj_=>(∀ u,Sx u→aG u ⟨p0,0,none⟩ 0 j_.cells)∧Calls prog 180 #[(.int .i64 a)] w2 λe w3=>∃ b,e=.returned (.int .i64 b)∧Sx w3∧Calls prog 143 #[j_.val] w3 λe w4=>aS.ex λh=>e=.returned h.val∧Sx w4∧Calls prog 181 #[h.val] w4 λe w5=>∃ c d f,e=.returned (.slice c d f)∧Sx w5∧Calls prog 179 #[(.pointer (some ⟨p0,0,none⟩)),(.int .i64 b),(.slice c d f),(.int .i64 1)] w5 λe w6=>aA.ex λi=>∃ g,e=.returned (.tuple #[i.val,(.bool g)])∧Sx w6∧wrAt w6 ⟨b1,0,none⟩ 0 i.cells∧∀ w7,w7=puts w6 ⟨b1,0,none⟩ 0 i.cells→aA.ex λk=>aG w7 ⟨b1,0,none⟩ 0 k.cells∧w7=w7∧R (.tuple #[k.val,(.bool g)]) w7):=by kernel_rfl
theorem mu (p0:Nat):fnW prog f149 [.pointer (some ⟨p0,0,none⟩)] R w=(∀ b1 w1,b1=w.heap.size→w1=w.alloc (.cells #[.int .i64 0,.int .i64 0] 162)→∃ a,w1.cell? ⟨p0,1,none⟩=some (.int .i64 a)∧Calls prog 185 #[.int .i64 a] w1 λe w2=>∃ b c,e=.returned (.tuple #[.int .u64 b,.int .i64 c])∧∃ d,w2.cell? ⟨p0,0,none⟩=some (.int .i64 d)∧Calls prog 186 #[.int .i64 d] w2 λe w3=>∃ f,e=.returned (.int .i64 f)∧∀ b2 w4,b2=w3.heap.size→w4=w3.alloc (.cells #[.int .u64 b] 43)→Calls prog 179 #[.pointer (some ⟨p0,0,none⟩),.int .i64 f,.slice (some ⟨b2,0,none⟩) 1 1,.int .i64 2] w4 λe w5=>aA.ex λh=>∃ g,e=.returned (.tuple #[h.val,.bool g])∧wrAt w5 ⟨b1,0,none⟩ 0 h.cells∧∀ w6,w6=puts w5 ⟨b1,0,none⟩ 0 h.cells→aA.ex λi=>aG w6 ⟨b1,0,none⟩ 0 i.cells∧w6=w6∧R (.tuple #[i.val,.bool g]) w6):=by kernel_rfl
def bQ (s0 s2:Addr) (s4:Option Addr) (a b:Nat) (c:Option Addr) (d f:Nat) (g h:Int) (j:LV):LV:=.pointer (some s0)::jq j 0 1 (.pointer (some s2)::jq j 1 1 (.slice s4 a b::jq j 2 10 (.slice c d f::.int .i64 g::.int .i64 h::jq j 12 31 [])))
def fI (a b:Addr) (s4:Option Addr) (c d:Nat) (j:LV):LV:=.pointer (some a)::jq j 0 1 (.pointer (some b)::jq j 1 1 (.slice s4 c d::jq j 2 44 []))
theorem kV (p0:Nat):fnW prog f150 [.pointer (some ⟨p0,0,none⟩)] R w=(∀ b1 w1,b1=w.heap.size→w1=w.alloc (.cells #[.int .i64 0,.int .i64 0] 162)→aM.ex λd=>aG w1 ⟨p0,3,none⟩ 0 d.cells∧Calls prog 187 #[d.val] w1 λe w2=>∃ a b c,e=.returned (.slice a b c)∧bS prog (.loop (sub (aD f150) [1,1,0,1,0,0])) (bQ ⟨p0,0,none⟩ ⟨b1,0,none⟩ none 0 0 a b c (b:Nat) 0 (undef::jb false::uq 5 (jp ⟨p0,0,none⟩::jp ⟨p0,0,none⟩::jp ⟨p0,0,none⟩::jp ⟨p0,3,none⟩::d.val::uq 31 []))) (aI 0 (nx f150 [1,1,1] R)) w2):=by kernel_rfl
theorem ic (s0 s2:Addr) (s4:Option Addr) (a b:Nat) (c:Option Addr) (d f:Nat) (g h:Int) (j:LV) (N1:LV→World→Prop):W prog (sub (aD f150) [1,1,0,1,0,0]) (bQ s0 s2 s4 a b c d f g h j) (seqQ N1 (aI 0 (nx f150 [1,1,1] R))) w=((bif (decide ((h:Int)<g)) then (idxS c d h 3 λad=>aF.ex λr=>aG w ad 0 r.cells∧∀ b1 w1,b1=w.heap.size→w1=w.alloc (.cells #[.int .i64 0,.int .i64 0,.bool false] 103)→wrAt w1 ⟨b1,0,none⟩ 0 r.cells∧∀ w2,w2=puts w1 ⟨b1,0,none⟩ 0 r.cells→∃ i k l,w2.cell? ⟨s0.block,s0.off+6,none⟩=some (.slice i k l)∧(bif (decide (((k:Nat):Int)>0)) then (aF.ex λr1=>aG w2 ⟨b1,0,none⟩ 0 r1.cells∧Calls prog 188 #[.pointer (some s0),r1.val] w2 λe w3=>∃ (m:Option Addr) (n o:Nat),e=.returned (.slice m n o)∧∃ (ap:Option Addr) (p q:Nat),∃ w4,(Builtin.append_ #[128,128] 128 #[.slice s4 a b,.slice m n o]).run prog w3=.ok (.slice ap p q) w4∧aF.ex λr2=>aG w4 ⟨b1,0,none⟩ 0 r2.cells∧Calls prog 189 #[.pointer (some s0),r2.val] w4 λe w5=>aL.ex λx=>e=.returned x.val∧∀ b2 w6,b2=w5.heap.size→w6=w5.alloc (.cells x.cells.toArray 166)→∃ (s:Option Addr) (t v:Nat),∃ w7,(Builtin.append_ #[128,128] 128 #[.slice ap p q,.slice (some ⟨b2,0,none⟩) 1 1]).run prog w6=.ok (.slice s t v) w7∧N1 (bQ s0 s2 s t v c d f g (i64.wrap (h+1)) (jg j 0::jg j 1::jg j 2::jp ⟨b1,0,none⟩::jq j 4 8 (jb (decide ((h:Int)<g))::jp ad::r.val::jp s0::jp s0::jp s0::jf s0 6::js i k l::jn k::jb (decide (((k:Nat):Int)>0))::js s4 a b::jp s0::r1.val::js m n o::js ap p q::js ap p q::jp s0::r2.val::x.val::js (some ⟨b2,0,none⟩) 1 1::js s t v::ji (i64.wrap (h+1))::jq j 34 9 []))) w7) else (N1 (bQ s0 s2 s4 a b c d f g (i64.wrap (h+1)) (jg j 0::jg j 1::jg j 2::jp ⟨b1,0,none⟩::jq j 4 8 (jb (decide ((h:Int)<g))::jp ad::r.val::jp s0::jp s0::jp s0::jf s0 6::js i k l::jn k::jb (decide (((k:Nat):Int)>0))::jq j 22 11 (ji (i64.wrap (h+1))::jq j 34 9 [])))) w2))) else (W prog (sub (aD f150) [1,1,1]) (fI s0 s2 s4 a b (jq j 0 12 (js c d f::ji g::ji h::jb (decide ((h:Int)<g))::jq j 13 30 []))) (retQ prog f150 R) w))):=by kernel_rfl
theorem iR (a b:Addr) (s4:Option Addr) (c d:Nat) (j:LV):W prog (sub (aD f150) [1,1,1]) (fI a b s4 c d j) (retQ prog f150 R) w=(Calls prog 184 #[.pointer (some a),.slice s4 c d,.int .i64 3] w λe w1=>∃ f g h,aA.ex λk=>∃ i,e=.returned (.tuple #[.slice f g h,k.val,.bool i])∧∀ b1 w2,b1=w1.heap.size→w2=w1.alloc (.cells #[.int .i64 0,.int .i64 0] 162)→wrAt w2 ⟨b1,0,none⟩ 0 k.cells∧∀ w3,w3=puts w2 ⟨b1,0,none⟩ 0 k.cells→aA.ex λr=>aG w3 ⟨b1,0,none⟩ 0 r.cells∧wrAt w3 b 0 r.cells∧∀ w4,w4=puts w3 b 0 r.cells→aA.ex λl=>aG w4 b 0 l.cells∧w4=w4∧R (.tuple #[l.val,.bool i]) w4):=by kernel_rfl
set_option maxHeartbeats 4000000 in
theorem lm (p0:Nat):fnW prog f151 [.pointer (some ⟨p0,0,none⟩)] R w=(∀ b1 w1,b1=w.heap.size→w1=w.alloc (.cells #[.int .i64 0,.int .i64 0] 162)→∃ a b c,w1.cell? ⟨p0,6,none⟩=some (.slice a b c)∧(bif (((b:Nat):Int) == 0) then (wrAt w1 ⟨b1,0,none⟩ 0 [.int .i64 0,.int .i64 0]∧∀ w2,w2=puts w1 ⟨b1,0,none⟩ 0 [.int .i64 0,.int .i64 0]→aA.ex λcv=>aG w2 ⟨b1,0,none⟩ 0 cv.cells∧w2=w2∧R (.tuple #[cv.val,.bool true]) w2) else (∀ w3,w3=w1.drew→∃ Sx:World→Prop,Sx w3∧aF.ex λcw=>(∀ u,Sx u→aG u ⟨p0,8,none⟩ 0 cw.cells)∧aF.ex λcx=>(∀ u,Sx u→aG u ⟨p0,8,none⟩ 0 cx.cells)∧(Calls prog 189 #[.pointer (some ⟨p0,0,none⟩),cw.val] w3 λe w4=>aL.ex λcy=>e=.returned cy.val∧Sx w4∧(∀ b2 w5,b2=w4.heap.size→w5=w4.alloc (.cells cy.cells.toArray 166)→Sx w5∧(Calls prog 188 #[.pointer (some ⟨p0,0,none⟩),cx.val] w5 λe w6=>∃ (d:Option Addr) (f g:Nat),e=.returned (.slice d f g)∧Sx w6∧(∃ (ap:Option Addr) (h i:Nat),∃ w7,(Builtin.append_ #[128,128] 128 #[.slice (some ⟨b2,0,none⟩) 1 1,.slice d f g]).run prog w6=.ok (.slice ap h i) w7∧Sx w7∧(Calls prog 184 #[.pointer (some ⟨p0,0,none⟩),.slice ap h i,.int .i64 3] w7 λe w8=>∃ (k:Option Addr) (l m:Nat),aA.ex λcz=>∃ (n:Bool),e=.returned (.tuple #[.slice k l m,cz.val,.bool n])∧Sx w8∧∀ b3 w9,b3=w8.heap.size→w9=w8.alloc (.cells #[.int .i64 0,.int .i64 0] 162)→Sx w9∧wrAt w9 ⟨b3,0,none⟩ 0 cz.cells∧∀ c0,c0=puts w9 ⟨b3,0,none⟩ 0 cz.cells→aA.ex λr=>aG c0 ⟨b3,0,none⟩ 0 r.cells∧wrAt c0 ⟨b1,0,none⟩ 0 r.cells∧∀ c1,c1=puts c0 ⟨b1,0,none⟩ 0 r.cells→aA.ex λc2=>aG c1 ⟨b1,0,none⟩ 0 c2.cells∧c1=c1∧R (.tuple #[c2.val,.bool n]) c1)∧(∀ b4 c3,b4=w7.heap.size→c3=w7.alloc (.cells #[.int .i64 0,.int .i64 0] 162)→Sx c3∧Calls prog 184 #[.pointer (some ⟨p0,0,none⟩),.slice ap h i,.int .i64 3] c3 λe c4=>∃ (o:Option Addr) (p q:Nat),aA.ex λc5=>∃ (s:Bool),e=.returned (.tuple #[.slice o p q,c5.val,.bool s])∧Sx c4∧wrAt c4 ⟨b4,0,none⟩ 0 c5.cells∧∀ c6,c6=puts c4 ⟨b4,0,none⟩ 0 c5.cells→aA.ex λr1=>aG c6 ⟨b4,0,none⟩ 0 r1.cells∧wrAt c6 ⟨b1,0,none⟩ 0 r1.cells∧∀ c7,c7=puts c6 ⟨b1,0,none⟩ 0 r1.cells→aA.ex λc8=>aG c7 ⟨b1,0,none⟩ 0 c8.cells∧c7=c7∧R (.tuple #[c8.val,.bool s]) c7))∧(∀ b5 c9,b5=w6.heap.size→c9=w6.alloc (.cells #[.int .i64 0,.int .i64 0] 162)→Sx c9∧∃ (t:Option Addr) (v x:Nat),∃ da,(Builtin.append_ #[128,128] 128 #[.slice (some ⟨b2,0,none⟩) 1 1,.slice d f g]).run prog c9=.ok (.slice t v x) da∧Sx da∧Calls prog 184 #[.pointer (some ⟨p0,0,none⟩),.slice t v x,.int .i64 3] da λe db=>∃ (y:Option Addr) (z aa:Nat),aA.ex λdc=>∃ (ab:Bool),e=.returned (.tuple #[.slice y z aa,dc.val,.bool ab])∧Sx db∧wrAt db ⟨b5,0,none⟩ 0 dc.cells∧∀ dd,dd=puts db ⟨b5,0,none⟩ 0 dc.cells→aA.ex λr2=>aG dd ⟨b5,0,none⟩ 0 r2.cells∧wrAt dd ⟨b1,0,none⟩ 0 r2.cells∧∀ de,de=puts dd ⟨b1,0,none⟩ 0 r2.cells→aA.ex λdf=>aG de ⟨b1,0,none⟩ 0 df.cells∧de=de∧R (.tuple #[df.val,.bool ab]) de))∧(∀ b6 dg,b6=w5.heap.size→dg=w5.alloc (.cells #[.int .i64 0,.int .i64 0] 162)→Sx dg∧Calls prog 188 #[.pointer (some ⟨p0,0,none⟩),cx.val] dg λe dh=>∃ (ac:Option Addr) (ad ae:Nat),e=.returned (.slice ac ad ae)∧Sx dh∧∃ (af:Option Addr) (ag ah:Nat),∃ di,(Builtin.append_ #[128,128] 128 #[.slice (some ⟨b2,0,none⟩) 1 1,.slice ac ad ae]).run prog dh=.ok (.slice af ag ah) di∧Sx di∧Calls prog 184 #[.pointer (some ⟨p0,0,none⟩),.slice af ag ah,.int .i64 3] di λe dj=>∃ (ai:Option Addr) (aj ak:Nat),aA.ex λdk=>∃ (al:Bool),e=.returned (.tuple #[.slice ai aj ak,dk.val,.bool al])∧Sx dj∧wrAt dj ⟨b6,0,none⟩ 0 dk.cells∧∀ dl,dl=puts dj ⟨b6,0,none⟩ 0 dk.cells→aA.ex λr3=>aG dl ⟨b6,0,none⟩ 0 r3.cells∧wrAt dl ⟨b1,0,none⟩ 0 r3.cells∧∀ dm,dm=puts dl ⟨b1,0,none⟩ 0 r3.cells→aA.ex λdn=>aG dm ⟨b1,0,none⟩ 0 dn.cells∧dm=dm∧R (.tuple #[dn.val,.bool al]) dm))∧(Calls prog 188 #[.pointer (some ⟨p0,0,none⟩),cx.val] w4 λe dp=>∃ (am:Option Addr) (an ao:Nat),e=.returned (.slice am an ao)∧Sx dp∧(∀ b7 dq,b7=dp.heap.size→dq=dp.alloc (.cells cy.cells.toArray 166)→Sx dq∧(∃ (aq:Option Addr) (ar au:Nat),∃ dr,(Builtin.append_ #[128,128] 128 #[.slice (some ⟨b7,0,none⟩) 1 1,.slice am an ao]).run prog dq=.ok (.slice aq ar au) dr∧Sx dr∧(Calls prog 184 #[.pointer (some ⟨p0,0,none⟩),.slice aq ar au,.int .i64 3] dr λe ds=>∃ (av:Option Addr) (aw ax:Nat),aA.ex λdt=>∃ (ay:Bool),e=.returned (.tuple #[.slice av aw ax,dt.val,.bool ay])∧Sx ds∧∀ b8 du,b8=ds.heap.size→du=ds.alloc (.cells #[.int .i64 0,.int .i64 0] 162)→Sx du∧wrAt du ⟨b8,0,none⟩ 0 dt.cells∧∀ dv,dv=puts du ⟨b8,0,none⟩ 0 dt.cells→aA.ex λr4=>aG dv ⟨b8,0,none⟩ 0 r4.cells∧wrAt dv ⟨b1,0,none⟩ 0 r4.cells∧∀ dw,dw=puts dv ⟨b1,0,none⟩ 0 r4.cells→aA.ex λdx=>aG dw ⟨b1,0,none⟩ 0 dx.cells∧dw=dw∧R (.tuple #[dx.val,.bool ay]) dw)∧(∀ b9 dy,b9=dr.heap.size→dy=dr.alloc (.cells #[.int .i64 0,.int .i64 0] 162)→Sx dy∧Calls prog 184 #[.pointer (some ⟨p0,0,none⟩),.slice aq ar au,.int .i64 3] dy λe dz=>∃ (az:Option Addr) (a0 a1:Nat),aA.ex λd0=>∃ (a2:Bool),e=.returned (.tuple #[.slice az a0 a1,d0.val,.bool a2])∧Sx dz∧wrAt dz ⟨b9,0,none⟩ 0 d0.cells∧∀ d1,d1=puts dz ⟨b9,0,none⟩ 0 d0.cells→aA.ex λr5=>aG d1 ⟨b9,0,none⟩ 0 r5.cells∧wrAt d1 ⟨b1,0,none⟩ 0 r5.cells∧∀ d2,d2=puts d1 ⟨b1,0,none⟩ 0 r5.cells→aA.ex λd3=>aG d2 ⟨b1,0,none⟩ 0 d3.cells∧d2=d2∧R (.tuple #[d3.val,.bool a2]) d2))∧(∀ d4 d5,d4=dq.heap.size→d5=dq.alloc (.cells #[.int .i64 0,.int .i64 0] 162)→Sx d5∧∃ (a3:Option Addr) (a4 a5:Nat),∃ d6,(Builtin.append_ #[128,128] 128 #[.slice (some ⟨b7,0,none⟩) 1 1,.slice am an ao]).run prog d5=.ok (.slice a3 a4 a5) d6∧Sx d6∧Calls prog 184 #[.pointer (some ⟨p0,0,none⟩),.slice a3 a4 a5,.int .i64 3] d6 λe d7=>∃ (a6:Option Addr) (a7 a8:Nat),aA.ex λd8=>∃ (a9:Bool),e=.returned (.tuple #[.slice a6 a7 a8,d8.val,.bool a9])∧Sx d7∧wrAt d7 ⟨d4,0,none⟩ 0 d8.cells∧∀ d9,d9=puts d7 ⟨d4,0,none⟩ 0 d8.cells→aA.ex λr6=>aG d9 ⟨d4,0,none⟩ 0 r6.cells∧wrAt d9 ⟨b1,0,none⟩ 0 r6.cells∧∀ fa,fa=puts d9 ⟨b1,0,none⟩ 0 r6.cells→aA.ex λfb=>aG fa ⟨b1,0,none⟩ 0 fb.cells∧fa=fa∧R (.tuple #[fb.val,.bool a9]) fa))∧(∀ fc fd,fc=dp.heap.size→fd=dp.alloc (.cells #[.int .i64 0,.int .i64 0] 162)→Sx fd∧∀ fe ff,fe=fd.heap.size→ff=fd.alloc (.cells cy.cells.toArray 166)→Sx ff∧∃ (ba:Option Addr) (bb bc:Nat),∃ fg,(Builtin.append_ #[128,128] 128 #[.slice (some ⟨fe,0,none⟩) 1 1,.slice am an ao]).run prog ff=.ok (.slice ba bb bc) fg∧Sx fg∧Calls prog 184 #[.pointer (some ⟨p0,0,none⟩),.slice ba bb bc,.int .i64 3] fg λe fh=>∃ (bd:Option Addr) (be bf:Nat),aA.ex λfi=>∃ (bg:Bool),e=.returned (.tuple #[.slice bd be bf,fi.val,.bool bg])∧Sx fh∧wrAt fh ⟨fc,0,none⟩ 0 fi.cells∧∀ fj,fj=puts fh ⟨fc,0,none⟩ 0 fi.cells→aA.ex λr7=>aG fj ⟨fc,0,none⟩ 0 r7.cells∧wrAt fj ⟨b1,0,none⟩ 0 r7.cells∧∀ fk,fk=puts fj ⟨b1,0,none⟩ 0 r7.cells→aA.ex λfl=>aG fk ⟨b1,0,none⟩ 0 fl.cells∧fk=fk∧R (.tuple #[fl.val,.bool bg]) fk))∧(∀ fm fn,fm=w4.heap.size→fn=w4.alloc (.cells #[.int .i64 0,.int .i64 0] 162)→Sx fn∧(∀ fo fp,fo=fn.heap.size→fp=fn.alloc (.cells cy.cells.toArray 166)→Sx fp∧Calls prog 188 #[.pointer (some ⟨p0,0,none⟩),cx.val] fp λe fq=>∃ (bh:Option Addr) (bi bj:Nat),e=.returned (.slice bh bi bj)∧Sx fq∧∃ (bk:Option Addr) (bl bm:Nat),∃ fr,(Builtin.append_ #[128,128] 128 #[.slice (some ⟨fo,0,none⟩) 1 1,.slice bh bi bj]).run prog fq=.ok (.slice bk bl bm) fr∧Sx fr∧Calls prog 184 #[.pointer (some ⟨p0,0,none⟩),.slice bk bl bm,.int .i64 3] fr λe fs=>∃ (bn:Option Addr) (bo bp:Nat),aA.ex λft=>∃ (bq:Bool),e=.returned (.tuple #[.slice bn bo bp,ft.val,.bool bq])∧Sx fs∧wrAt fs ⟨fm,0,none⟩ 0 ft.cells∧∀ fu,fu=puts fs ⟨fm,0,none⟩ 0 ft.cells→aA.ex λr8=>aG fu ⟨fm,0,none⟩ 0 r8.cells∧wrAt fu ⟨b1,0,none⟩ 0 r8.cells∧∀ fv,fv=puts fu ⟨b1,0,none⟩ 0 r8.cells→aA.ex λfw=>aG fv ⟨b1,0,none⟩ 0 fw.cells∧fv=fv∧R (.tuple #[fw.val,.bool bq]) fv)∧(Calls prog 188 #[.pointer (some ⟨p0,0,none⟩),cx.val] fn λe fx=>∃ (br:Option Addr) (bs bt:Nat),e=.returned (.slice br bs bt)∧Sx fx∧∀ fy fz,fy=fx.heap.size→fz=fx.alloc (.cells cy.cells.toArray 166)→Sx fz∧∃ (bu:Option Addr) (bv bw:Nat),∃ f0,(Builtin.append_ #[128,128] 128 #[.slice (some ⟨fy,0,none⟩) 1 1,.slice br bs bt]).run prog fz=.ok (.slice bu bv bw) f0∧Sx f0∧Calls prog 184 #[.pointer (some ⟨p0,0,none⟩),.slice bu bv bw,.int .i64 3] f0 λe f1=>∃ (bx:Option Addr) (bz b0:Nat),aA.ex λf2=>∃ (ca:Bool),e=.returned (.tuple #[.slice bx bz b0,f2.val,.bool ca])∧Sx f1∧wrAt f1 ⟨fm,0,none⟩ 0 f2.cells∧∀ f3,f3=puts f1 ⟨fm,0,none⟩ 0 f2.cells→aA.ex λr9=>aG f3 ⟨fm,0,none⟩ 0 r9.cells∧wrAt f3 ⟨b1,0,none⟩ 0 r9.cells∧∀ f4,f4=puts f3 ⟨b1,0,none⟩ 0 r9.cells→aA.ex λf5=>aG f4 ⟨b1,0,none⟩ 0 f5.cells∧f4=f4∧R (.tuple #[f5.val,.bool ca]) f4)))∧(∀ f6 f7,f6=w3.heap.size→f7=w3.alloc (.cells #[.int .i64 0,.int .i64 0] 162)→Sx f7∧Calls prog 189 #[.pointer (some ⟨p0,0,none⟩),cw.val] f7 λe f8=>aL.ex λf9=>e=.returned f9.val∧Sx f8∧(∀ ga gb,ga=f8.heap.size→gb=f8.alloc (.cells f9.cells.toArray 166)→Sx gb∧Calls prog 188 #[.pointer (some ⟨p0,0,none⟩),cx.val] gb λe gc=>∃ (cb:Option Addr) (cc cd:Nat),e=.returned (.slice cb cc cd)∧Sx gc∧∃ (ce:Option Addr) (cf cg:Nat),∃ gd,(Builtin.append_ #[128,128] 128 #[.slice (some ⟨ga,0,none⟩) 1 1,.slice cb cc cd]).run prog gc=.ok (.slice ce cf cg) gd∧Sx gd∧Calls prog 184 #[.pointer (some ⟨p0,0,none⟩),.slice ce cf cg,.int .i64 3] gd λe gf=>∃ (ch:Option Addr) (ci cj:Nat),aA.ex λgg=>∃ (ck:Bool),e=.returned (.tuple #[.slice ch ci cj,gg.val,.bool ck])∧Sx gf∧wrAt gf ⟨f6,0,none⟩ 0 gg.cells∧∀ gh,gh=puts gf ⟨f6,0,none⟩ 0 gg.cells→aA.ex λgi=>aG gh ⟨f6,0,none⟩ 0 gi.cells∧wrAt gh ⟨b1,0,none⟩ 0 gi.cells∧∀ gj,gj=puts gh ⟨b1,0,none⟩ 0 gi.cells→aA.ex λgk=>aG gj ⟨b1,0,none⟩ 0 gk.cells∧gj=gj∧R (.tuple #[gk.val,.bool ck]) gj)∧(Calls prog 188 #[.pointer (some ⟨p0,0,none⟩),cx.val] f8 λe gl=>∃ (cl:Option Addr) (cm cn:Nat),e=.returned (.slice cl cm cn)∧Sx gl∧∀ gm gn,gm=gl.heap.size→gn=gl.alloc (.cells f9.cells.toArray 166)→Sx gn∧∃ (co:Option Addr) (cp cq:Nat),∃ gp,(Builtin.append_ #[128,128] 128 #[.slice (some ⟨gm,0,none⟩) 1 1,.slice cl cm cn]).run prog gn=.ok (.slice co cp cq) gp∧Sx gp∧Calls prog 184 #[.pointer (some ⟨p0,0,none⟩),.slice co cp cq,.int .i64 3] gp λe gq=>∃ (cr:Option Addr) (cs ct:Nat),aA.ex λgr=>∃ (cu:Bool),e=.returned (.tuple #[.slice cr cs ct,gr.val,.bool cu])∧Sx gq∧wrAt gq ⟨f6,0,none⟩ 0 gr.cells∧∀ gs,gs=puts gq ⟨f6,0,none⟩ 0 gr.cells→aA.ex λgu=>aG gs ⟨f6,0,none⟩ 0 gu.cells∧wrAt gs ⟨b1,0,none⟩ 0 gu.cells∧∀ gv,gv=puts gs ⟨b1,0,none⟩ 0 gu.cells→aA.ex λgw=>aG gv ⟨b1,0,none⟩ 0 gw.cells∧gv=gv∧R (.tuple #[gw.val,.bool cu]) gv))))):=by kernel_rfl
theorem mU (p0:Nat) (p1:Int) (p2:Option Addr) (a b:Nat) (p3:Int):fnW prog f179 [.pointer (some ⟨p0,0,none⟩),.int .i64 p1,.slice p2 a b,.int .i64 p3] R w=(∀ b1 w1,b1=w.heap.size→w1=w.alloc (.cells #[.int .i64 0,.int .i64 0] 162)→∃ c d f,w1.cell? ⟨p0,6,none⟩=some (.slice c d f)∧(bif (((d:Nat):Int) == 0) then (wrAt w1 ⟨b1,0,none⟩ 0 [.int .i64 0,.int .i64 0]∧∀ w2,w2=puts w1 ⟨b1,0,none⟩ 0 [.int .i64 0,.int .i64 0]→aA.ex λo=>aG w2 ⟨b1,0,none⟩ 0 o.cells∧w2=w2∧R (.tuple #[o.val,.bool true]) w2) else (Calls prog 198 #[.pointer (some ⟨p0,0,none⟩),.agg #[.int .i64 2,.int .i64 0,.int .i64 p1,.int .i64 0,.int .u64 0,.int .u64 0,.slice p2 a b,.int .u64 0,.int .i64 0]] w1 λe w3=>∃ g h i,e=.returned (.slice g h i)∧Calls prog 184 #[.pointer (some ⟨p0,0,none⟩),.slice g h i,.int .i64 p3] w3 λe w4=>∃ k l m,aA.ex λp=>∃ n,e=.returned (.tuple #[.slice k l m,p.val,.bool n])∧∀ b2 w5,b2=w4.heap.size→w5=w4.alloc (.cells #[.int .i64 0,.int .i64 0] 162)→wrAt w5 ⟨b2,0,none⟩ 0 p.cells∧∀ w6,w6=puts w5 ⟨b2,0,none⟩ 0 p.cells→aA.ex λr=>aG w6 ⟨b2,0,none⟩ 0 r.cells∧wrAt w6 ⟨b1,0,none⟩ 0 r.cells∧∀ w7,w7=puts w6 ⟨b1,0,none⟩ 0 r.cells→aA.ex λq=>aG w7 ⟨b1,0,none⟩ 0 q.cells∧w7=w7∧R (.tuple #[q.val,.bool n]) w7))):=by kernel_rfl
end Go.Proofs.YtegepanmkjemjaaGreat
namespace Go.Proofs.YtegepanmkjemjaaGreat
open Go.Eng
structure F4 (j:CJob):Prop where
 client:0≤j.client∧j.client<6
 num:0≤j.v.number∧j.v.number<16
 mem:0<j.v.mem.length∧j.v.mem.length≤5
 boot:∀ m ∈ j.v.mem,1≤m.Boot∧m.Boot≤31
 wfew:j.writes.length≤12
 rfew:j.reads.length≤24
 wr:j.writes≠[]→iK j.seq j.writes 256=0∧1≤j.seq∧j.seq<1073741824
 wl:∀ p ∈ j.writes,96≤p.Line∧p.Line<256
 wh:∀ p ∈ j.writes,unl p.Head=true∧lE p.Head=true
 rl:∀ s ∈ j.reads,96≤s.Line∧s.Line<256
theorem mv {seq lines:Int} {W:List aB} (h:iK seq W lines=0):(98≤lines∧lines≤256)∧(1≤seq∧seq<1073741824∧1≤W.length∧W.length≤12)∧(∀ p ∈ W,96≤p.Line∧p.Line<lines)∧(∀ p ∈ W,unl p.Head=true∧lE p.Head=true)∧(W.all λp=>g8 p.Line lines)=true∧(List.range W.length).all (λi=>ascP W i && je (W.getD i noP))=true:=by
 unfold iK at h
 split at h
 ·omega
 rename_i h1
 split at h
 ·omega
 rename_i h2
 split at h
 ·omega
 rename_i h3
 split at h
 ·omega
 rename_i h4
 have h3:(W.all λp=>g8 p.Line lines)=true:=Bool.not_eq_false _▸h3
 have h4:(List.range W.length).all (λi=>ascP W i && je (W.getD i noP))=true:=Bool.not_eq_false _▸h4
 refine ⟨by omega,by omega,λp hp=>?_,λp hp=>?_,h3,h4⟩
 ·have:=List.all_eq_true.1 h3 p hp
  unfold g8 at this
  have:=of_decide_eq_true this
  omega
 ·obtain ⟨i,hi⟩:=List.getElem?_of_mem hp
  have hlt:=aO hi
  have:=List.all_eq_true.1 h4 i (List.mem_range.2 hlt)
  rw [nO hi] at this
  unfold je at this
  simp only [Bool.and_eq_true] at this
  exact ⟨this.2.2,this.2.1⟩
theorem zI {seq lines:Int} {W:List aB} (h:iK seq W lines=0):iK seq W 256=0:=by
 obtain ⟨h1,h2,h3,_,h5,h6⟩:=mv h
 have h5':(W.all λp=>g8 p.Line 256)=true:=List.all_eq_true.2 λp hp=>by
  have:=h3 p hp
  unfold g8
  exact decide_eq_true (by omega)
 unfold iK
 rw [if_neg (by omega),if_neg (by omega),if_neg (by rw [h5'];simp),if_neg (by rw [h6];simp)]
theorem F5 {n:Nat} {l:List aF} (h:(List.range l.length).all (qk n l)=true):l.length≤n:=by
 have key:∀ i,i<l.length→(i:Int)≤(l.getD i noM).Node∧(l.getD i noM).Node<n:=by
  intro i
  induction i with
  |zero=>
   intro hi
   have:=List.all_eq_true.1 h 0 (List.mem_range.2 hi)
   unfold qk at this
   simp at this ⊢
   omega
  |succ i ih=>
   intro hi
   have h1:=ih (by omega)
   have:=List.all_eq_true.1 h (i+1) (List.mem_range.2 hi)
   unfold qk at this
   simp at this h1 ⊢
   omega
 rcases Nat.eq_zero_or_pos l.length with h0 | h0
 ·omega
 ·have:=key (l.length - 1) (by omega)
  omega
theorem EO {j:CJob} (h:j.valid=0):F4 j:=by
 unfold CJob.valid at h
 split at h
 ·omega
 rename_i h1
 split at h
 ·omega
 rename_i h2
 have h2:j.v.valid 5=0:=by omega
 split at h
 ·omega
 rename_i h3
 split at h
 ·omega
 rename_i h4
 split at h
 ·omega
 rename_i h5
 split at h
 ·omega
 rename_i h6
 split at h
 ·omega
 rename_i h7
 have h6:(j.reads.all λs=>g8 s.Line j.lines)=true:=Bool.not_eq_false _▸h6
 have hw:j.writes≠[]→iK j.seq j.writes j.lines=0:=λhne=>by
  have:=List.length_pos_iff.2 hne
  by_cases e:iK j.seq j.writes j.lines=0
  ·exact e
  ·exact absurd ⟨this,e⟩ h4
 unfold Vw.valid at h2
 split at h2
 ·omega
 rename_i g1
 split at h2
 ·omega
 rename_i g2
 split at h2
 ·omega
 rename_i g3
 split at h2
 ·omega
 rename_i g4
 split at h2
 ·omega
 rename_i g5
 have g5:j.v.mem.all ql=true:=by simpa using g5
 have g4:(List.range j.v.mem.length).all (qk (5:Nat) j.v.mem)=true:=Bool.not_eq_false _▸g4
 have g6:=F5 g4
 have emp:∀ {P:aB→Prop},(j.writes≠[]→∀ p ∈ j.writes,P p)→∀ p ∈ j.writes,P p:=λhh p hp=>hh (List.ne_nil_of_mem hp) p hp
 refine ⟨by omega,by omega,by omega,λm hm=>?_,?_,by omega,λhne=>?_,emp λhne p hp=>?_,emp λhne p hp=>(mv (hw hne)).2.2.2.1 p hp,λs hs=>?_⟩
 ·have:=List.all_eq_true.1 g5 m hm
  unfold ql at this
  exact of_decide_eq_true this
 ·by_cases e:j.writes=[]
  ·rw [e];simp
  ·exact (mv (hw e)).2.1.2.2.2
 ·obtain ⟨_,h2,_⟩:=mv (hw hne)
  exact ⟨zI (hw hne),h2.1,h2.2.1⟩
 ·obtain ⟨h1,_,h3,_⟩:=mv (hw hne)
  have:=h3 p hp
  omega
 ·have:=List.all_eq_true.1 h6 s hs
  unfold g8 at this
  have:=of_decide_eq_true this
  omega
abbrev TCm:TypeId:=202
abbrev TCO:TypeId:=162
abbrev TUw:TypeId:=43
def comC (r:aH) (tb:Nat) (m:aF):List Value:=r.cells++(ptr tb::m.cells)
structure fZ (w0 u:World) (cb tb:Nat) (r:aH) (m:aF) (j:CJob):Prop where
 blk:Blk u cb (comC r tb m) TCm
 job:rS w0 r j
 good:F4 j
 mem:j.v.mem[0]?=some m
 new:New w0 u
 cbl:w0.heap.size≤cb
 tbl:w0.heap.size≤tb
 ne:cb≠tb
theorem fZ.new' {w0 u u':World} {cb tb:Nat} {r:aH} {m:aF} {j:CJob} (h:fZ w0 u cb tb r m j) (hn:New u u'):fZ w0 u' cb tb r m j:=
 ⟨New.blk hn h.blk,h.job,h.good,h.mem,h.new.new hn,h.cbl,h.tbl,h.ne⟩
theorem fZ.keep {w0 u u':World} {cb tb:Nat} {r:aH} {m:aF} {j:CJob} (h:fZ w0 u cb tb r m j) {M:Nat→Prop} (hk:Keep M u u') (hM:∀ k,M k→w0.heap.size≤k∧k≠cb):fZ w0 u' cb tb r m j:=
 ⟨hk.blk h.blk λe=>(hM _ e).2 rfl,h.job,h.good,h.mem,h.new.trans hk λk hlt e=>by have:=(hM k e).1;omega,h.cbl,h.tbl,h.ne⟩
theorem fZ.num {w0 u:World} {cb tb:Nat} {r:aH} {m:aF} {j:CJob} (h:fZ w0 u cb tb r m j):r.View.Number=j.v.number:=by
 obtain ⟨M,hv⟩:=h.job.view
 exact hv.num
theorem mw {w0 w:World} {cb tb:Nat} {r:aH} {m0:aF} {j:CJob} (h:fZ w0 w cb tb r m0 j) {m:aF} (hbt:I64 m.Boot) {M:Nat→Prop} {v:aL} {x:Verb} (hv:bJ M w v x) :
  Does 183 [ptr cb,m.val,v.val] w λy w'=>∃ v':aL,y=v'.val∧bJ (λk=>k<w.heap.size) w' v' (addr j.v.number m x)∧New w w':=by
 refine does Tryz.func183 ?_
 rw [ptr,kU]
 rintro b1 w1 hb1 hw1
 obtain ⟨hz1,hn1⟩:=aN hb1 hw1
 have hz1:Blk w1 b1 m.cells TMb:=hz1
 clear hw1
 rintro b2 w2 hb2 hw2
 obtain ⟨hz2,hn2⟩:=aN hb2 hw2
 have hz2:Blk w2 b2 v.cells TV:=hz2
 clear hw2
 rintro b3 w3 hb3 hw3
 obtain ⟨hz3,hn3⟩:=aN hb3 hw3
 have hz3:Blk w3 b3 (aL.cells ⟨0,0,0,0,0,0,none,0,0,0,0⟩) TV:=hz3
 clear hw3
 rintro w4 hw4
 have hn4:New w3 w4:=by rw [hw4];exact aV _
 clear hw4
 have hn04:=((hn1.new hn2).new hn3).new hn4
 have hs1:=hn1.size
 have hs2:=hn2.size
 have hs3:=hn3.size
 have hs4:=hn4.size
 have h4:=h.new' hn04
 have hnum:=h.num
 have hg:=h.good.num
 refine ⟨λy=>New w4 y,Keep.refl _ _,aM.mk_ex r.View ⟨λy hy=>aK (New.blk hy h4.blk) rfl,aF.mk_ex m ⟨λy hy=>aK (New.blk (((hn2.new hn3).new hn4).new hy) hz1) rfl,aL.mk_ex v ⟨λy hy=>aK (New.blk ((hn3.new hn4).new hy) hz2) rfl,?_⟩⟩⟩⟩
 refine aE (zH w4 (by omega) (by omega) hbt (hv.keep (Keep.of_new hn04) λ_ _ e=>e)) ?_
 rintro y w5 ⟨v',rfl,hv',hn5⟩
 refine aL.mk_ex v' ⟨rfl,gJ (New.blk (hn4.new hn5) hz3) rfl (aL.single _) λw6 hz6 hk6=>?_⟩
 have hb3l:=hz3.lt
 refine aL.mk_ex v' ⟨aK hz6 rfl,rfl,v',rfl,?_,(hn04.new hn5).trans hk6 λk hlt e=>by omega⟩
 rw [hnum] at hv'
 have hv6:bJ (λk=>k<w4.heap.size) w6 v' (addr j.v.number m x):=hv'.keep (hk6.mono λk _ e=>by omega) λ_ _ e=>e
 exact hv6.keep (Keep.refl _ _) λk _ e=>by omega
theorem bJ.mono {M M':Nat→Prop} {w:World} {v:aL} {x:Verb} (h:bJ M w v x) (hM:∀ k,M' k→M k):bJ M' w v x:=h.keep (Keep.refl _ _) λk _ e=>hM k e
theorem tp {w:World} {k at_ nn old new:Int} {a:Option Addr} {n c:Nat} {ws:List Int} (hr:Rd w a (us ws)) (hn:n=ws.length) (hc:n≤c) (hna:a=none→ws=[]) (hu:∀ x ∈ ws,U64 x) (hl:ws.length≤1000000) (ho:U64 old) (hnw:U64 new) :
  bJ (λ_=>False) w ⟨k,0,at_,nn,old,new,a,n,c,0,0⟩ ⟨k,0,at_,nn,old,new,ws,0,0⟩:=by
 subst hn
 refine ⟨rfl,hr,hna,.inr ?_,hu,hnw,ho,?_,?_,hc,hl⟩
 ·cases a with
  |none=>trivial
  |some a=>exact id
 ·have hz:U64 0:=⟨by decide,by decide⟩
  exact hz
 ·have hz:I64 0:=⟨by decide,by decide⟩
  exact hz
def my (j:CJob) (m:aF):Verb:=addr j.v.number m ⟨2,0,32+j.client,0,0,0,[j.seq],0,0⟩
def oA (j:CJob) (m:aF) (p:aB):Verb:=addr j.v.number m ⟨2,0,p.Line * 8,0,0,0,appL p,0,0⟩
theorem u0:U64 0:=⟨by decide,by decide⟩
set_option maxRecDepth 20000 in
set_option maxHeartbeats 1000000 in
theorem yz {w0 w:World} {cb tb:Nat} {r:aH} {m0:aF} {j:CJob} (h:fZ w0 w cb tb r m0 j) (hsq:1≤j.seq∧j.seq<1073741824) {m:aF} (hbt:I64 m.Boot) :
  Does 189 [ptr cb,m.val] w λy w'=>∃ v':aL,y=v'.val∧bJ (λk=>k<w.heap.size) w' v' (my j m)∧New w w':=by
 refine does Tryz.func189 ?_
 rw [ptr,lP]
 rintro b1 w1 hb1 hw1
 obtain ⟨hz1,hn1⟩:=aN hb1 hw1
 have hz1:Blk w1 b1 m.cells TMb:=hz1
 clear hw1
 rintro b2 w2 hb2 hw2
 obtain ⟨hz2,hn2⟩:=aN hb2 hw2
 have hz2:Blk w2 b2 (aL.cells ⟨0,0,0,0,0,0,none,0,0,0,0⟩) TV:=hz2
 clear hw2
 rintro w3 hw3
 have hn3:New w2 w3:=by rw [hw3];exact aV _
 clear hw3
 have hn03:=(hn1.new hn2).new hn3
 have hs1:=hn1.size
 have hs2:=hn2.size
 have hs3:=hn3.size
 have h3:=h.new' hn03
 have hc:=h.good.client
 have hcl:=h.job.client
 have hsl:=h.job.seq
 have hb2l:=hz2.lt
 refine ⟨λy=>New w3 y,Keep.refl _ _,aF.mk_ex m ⟨λy hy=>aK (New.blk ((hn2.new hn3).new hy) hz1) rfl,⟨_,λy hy=>(New.blk hy h3.blk).cell (i:=0) rfl,_,λy hy=>(New.blk hy h3.blk).cell (i:=1) rfl,?_⟩⟩⟩
 rw [hcl,hsl,wu64 (x:=j.seq) (by omega) (by omega)]
 have fin:∀ {w5 w6:World} {v':aL},New w3 w5→New w5 w6→bJ (λk=>k<w5.heap.size) w6 v' (my j m)→
   (wrAt w6 ⟨b2,0,none⟩ 0 v'.cells∧∀ w7,w7=puts w6 ⟨b2,0,none⟩ 0 v'.cells→aL.ex λg=>aG w7 ⟨b2,0,none⟩ 0 g.cells∧w7=w7∧∃ v':aL,g.val=v'.val∧bJ (λk=>k<w.heap.size) w7 v' (my j m)∧New w w7):=by
  intro w5 w6 v' h35 h56 hv'
  have hs5:=h35.size
  refine gJ (New.blk ((hn3.new h35).new h56) hz2) rfl (aL.single _) λw7 hz7 hk7=>?_
  refine aL.mk_ex v' ⟨aK hz7 rfl,rfl,v',rfl,?_,((hn03.new h35).new h56).trans hk7 λk hlt e=>by omega⟩
  have hv7:bJ (λk=>k<w5.heap.size) w7 v' (my j m):=hv'.keep (hk7.mono λk _ e=>by omega) λ_ _ e=>e
  exact hv7.mono λk e=>by omega
 have seqv:∀ {w5:World} {b3:Nat},Blk w5 b3 [.int .u64 j.seq] TUw→bJ (λ_=>False) w5 ⟨2,0,32+j.client,0,0,0,some ⟨b3,0,none⟩,1,1,0,0⟩ ⟨2,0,32+j.client,0,0,0,[j.seq],0,0⟩:=by
  intro w5 b3 hz5
  exact tp (fG hz5 rfl) rfl (by omega) (λe=>by cases e) (λx hx=>by simp at hx;subst hx;unfold U64;omega) (by simp) u0 u0
 refine ⟨?_,?_⟩
 ·refine aE (Bc w3 (by omega)) ?_
  rintro y w4 ⟨rfl,hn4⟩
  refine ⟨_,rfl,hn4,?_⟩
  rintro b3 w5 hb3 hw5
  obtain ⟨hz5,hn5⟩:=aN hb3 hw5
  clear hw5
  refine ⟨hn4.new hn5,?_⟩
  have hcall:=mw (h3.new' (hn4.new hn5)) hbt (seqv hz5)
  refine aE hcall ?_
  rintro y w6 ⟨v',rfl,hv',hn6⟩
  exact aL.mk_ex v' ⟨rfl,(hn4.new hn5).new hn6,fin (hn4.new hn5) hn6 hv'⟩
 ·rintro b4 w8 hb4 hw8
  obtain ⟨hz8,hn8⟩:=aN hb4 hw8
  clear hw8
  refine ⟨hn8,?_⟩
  refine aE (Bc w8 (by omega)) ?_
  rintro y w9 ⟨rfl,hn9⟩
  refine ⟨_,rfl,hn8.new hn9,?_⟩
  have hcall:=mw (h3.new' (hn8.new hn9)) hbt (seqv (New.blk hn9 hz8))
  refine aE hcall ?_
  rintro y w10 ⟨v',rfl,hv',hn10⟩
  exact aL.mk_ex v' ⟨rfl,(hn8.new hn9).new hn10,fin (hn8.new hn9) hn10 hv'⟩
theorem F6 {p:aB} (h:∀ x ∈ datL p,U64 x):∀ x ∈ appL p,U64 x:=λx hx=>by
 unfold appL at hx
 rcases List.mem_cons.1 hx with rfl | hx
 ·exact EJ _
 ·exact h x hx
set_option maxRecDepth 20000 in
set_option maxHeartbeats 1000000 in
theorem yA {w0 w:World} {cb tb:Nat} {r:aH} {m0:aF} {j:CJob} (h:fZ w0 w cb tb r m0 j) (hd:∀ p ∈ j.writes,∀ x ∈ datL p,U64 x) {m:aF} (hbt:I64 m.Boot) :
  Does 188 [ptr cb,m.val] w λy w'=>∃ (a:Option Addr) (cap:Nat),y=.slice a j.writes.length cap∧VB w w' a j.writes.length cap (j.writes.map (oA j m))∧New w w':=by
 refine does Tryz.func188 ?_
 rw [ptr,lO]
 rintro b1 w1 hb1 hw1
 obtain ⟨hz1,hn1⟩:=aN hb1 hw1
 have hz1:Blk w1 b1 m.cells TMb:=hz1
 clear hw1
 have h1:=h.new' hn1
 have hlen:=h.job.pg.len
 have hgw:=h.good.wfew
 have hs1:=hn1.size
 refine ⟨_,_,_,h1.blk.cell (i:=6) rfl,?_⟩
 refine aQ mix (λq env u=>∃ (i:Nat) (pa:Option Addr) (pc:Nat) (jj:List Value),q=j.writes.length - i∧i≤j.writes.length∧env=cY ⟨cb,0,none⟩ ⟨b1,0,none⟩ pa i pc r.Writes r.Writes_l r.Writes_c r.Writes_l i jj∧New w u∧VB w u pa i pc ((j.writes.take i).map (oA j m))∧Blk u b1 m.cells TMb∧fZ w0 u cb tb r m0 j) j.writes.length
  ⟨0,none,0,_,rfl,by omega,rfl,hn1,VB.nil _ _,hz1,h1⟩ ?_
 rintro q env u ⟨i,pa,pc,jj,rfl,hi,rfl,hnu,hvb,hz1,hcu⟩
 rw [iL,hlen]
 have hnwu:New w0 u:=h.new.new hnu
 refine aJ (λhlt=>?_) (λhge=>?_)
 ·obtain ⟨p,hp⟩:∃ p,j.writes[i]?=some p:=⟨_,List.getElem?_eq_getElem (by omega)⟩
  have hpm:=List.mem_of_getElem? hp
  have hpl:=h.good.wl p hpm
  have hph:=h.good.wh p hpm
  have hpu:=h.job.pg.u64 p hpm
  refine fR (cells:=aB.cells) aB.len (by omega) (h.job.pg.rd.new hnwu) hp rfl rfl λb o hcc _=>aB.mk_ex p ⟨hcc,?_⟩
  refine gX (vs:=p.cells) rfl (aB.single _) λb3 u2 hb3 hz3 hn2=>?_
  refine aB.mk_ex p ⟨aK hz3 rfl,?_⟩
  refine aE (Bd u2 p hpu hph.2) ?_
  rintro y u3 ⟨aa,ac,rfl,hn3,hao,haf⟩
  refine ⟨_,_,_,_,rfl,?_⟩
  rintro u4 hw4
  have hn4:New u3 u4:=by rw [hw4];exact aV _
  clear hw4
  have hn24:=hn3.new hn4
  have hnu4:=(hn2.new hn3).new hn4
  refine ⟨λy=>Blk y b3 p.cells TPg∧Blk y b1 m.cells TMb,⟨New.blk hn24 hz3,New.blk hnu4 hz1⟩,aF.mk_ex m ⟨λy hy=>aK hy.2 rfl,_,λy hy=>hy.1.cell (i:=0) rfl,?_⟩⟩
  refine aE (ux u4 hpl.1 hpl.2) ?_
  rintro y u5 ⟨rfl,rfl⟩
  refine ⟨_,rfl,⟨New.blk hn24 hz3,New.blk hnu4 hz1⟩,?_⟩
  have hva:bJ (λ_=>False) u5 ⟨2,0,p.Line * 8,0,0,0,aa,8,ac,0,0⟩ ⟨2,0,p.Line * 8,0,0,0,appL p,0,0⟩:=tp (Owns.new hn4 hao).rd (by rfl) (Owns.le hao) (λe=>by
   obtain ⟨_,ha⟩:=hao
   rcases ha with ⟨hn,_,_⟩ | ⟨g,cur,hg,_⟩
   ·omega
   ·rw [hg] at e;cases e) (F6 (hd p hpm)) (by simp [appL,datL]) u0 u0
  have hcall:=mw (hcu.new' hnu4) hbt hva
  refine aE hcall ?_
  rintro y u6 ⟨v',rfl,hv',hn6⟩
  have hn46:=hnu4.new hn6
  refine aL.mk_ex v' ⟨rfl,⟨New.blk (hn24.new hn6) hz3,New.blk hn46 hz1⟩,?_⟩
  have hvb4:=hvb.new hnu4
  rintro b5 u7 hb5 hw7
  have hn7:New u6 u7:=by rw [hw7];exact dM _ _
  refine ⟨⟨New.blk ((hn24.new hn6).new hn7) hz3,New.blk (hn46.new hn7) hz1⟩,?_⟩
  have hb3l:=hz3.lt
  have hb1l:=hz1.lt
  have hpas:∀ k,isB pa k→k<u.heap.size:=λk hk=>by
   obtain ⟨raws,ho,_⟩:=hvb.ex
   exact ho.lt hk
  have hs2:=hn2.size
  refine VB.push_e hvb4 (hnu.new hnu4) hn6 hv' (by omega) hb5 hw7 λap cap' u8 h8 hk8 hn8=>?_
  have hpa1:¬ isB pa b1:=λe=>by
   have h9:=hvb.ex
   obtain ⟨raws,ho,_⟩:=h9
   obtain ⟨cs,hcs⟩:=eX ho e
   exact absurd (hcs.ne hz1 (by decide)) (λhh=>hh rfl)
  have y1:Blk u8 b1 m.cells TMb:=hk8.blk (New.blk hn46 hz1) hpa1
  refine ⟨⟨hk8.blk (New.blk (hn24.new hn6) hz3) λe=>by have:=hpas _ e;omega,y1⟩,?_⟩
  rw [w64 (x:=(i:Int)+1) (by omega) (by omega)]
  have e:(j.writes.take i).map (oA j m)++[addr j.v.number m ⟨2,0,p.Line * 8,0,0,0,appL p,0,0⟩]=(j.writes.take (i+1)).map (oA j m):=by
   rw [List.take_add_one,hp]
   simp [oA]
  rw [e] at h8
  refine ⟨j.writes.length - (i+1),by omega,i+1,ap,cap',_,rfl,by omega,by rw [←hlen];rfl,hn8,h8,y1,(hcu.new' hn46).keep hk8 λk hk=>?_⟩
  have h9:=hvb.fr k hk
  have h10:=h.new.size
  refine ⟨by omega,λe=>?_⟩
  obtain ⟨raws,ho,_⟩:=hvb.ex
  obtain ⟨cs,hcs⟩:=eX ho hk
  exact absurd (e▸hcs |>.ne hcu.blk (by decide)) (λhh=>hh rfl)
 ·have hil:i=j.writes.length:=by omega
  subst hil
  rw [j0]
  rw [List.take_length] at hvb
  exact ⟨pa,pc,rfl,hvb,hnu⟩
end Go.Proofs.YtegepanmkjemjaaGreat
