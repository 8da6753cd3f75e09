import Derived.Test.YtmkljjbioomepaaGreatProg
import Derived.Test.YtmkljjbioomepaaGreatb03
import Derived.Test.YtmkljjbioomepaaGreatb20
import Derived.Test.YtmkljjbioomepaaGreatb16
set_option linter.all false
set_option maxHeartbeats 4000000
set_option maxRecDepth 100000
namespace Go.Proofs.YtmkljjbioomepaaGreat
open Go.Proofs.Tryz Go.bu
variable {C:bU} {F:aN} {G:List (List aO)} {K:bA->aE} {T:fV} {b i tb:Nat} {c:Int} {j:cU} {l:cS} {n:aZ} {o:bA} {p:dg} {u w:ak} {v x:aW}
section
open IntKind
variable (w:ak) (R:cB) {s:an} {a b:Nat} {A:aS} {i k:Int} {j:aq}
theorem VO (K:dv):bf prog f92 [K.val,ae s a b] R w=(aQ w K.cells.toArray 39 λH N=>aQ N #[ab 0,ab 0] 171 λA L=>At L (af H 0) λr=>cm 124 #[r.val] L λc a6=>cond (c != 0) (a' a6 (af A 0) 0 [ab c,ab 0] λE=>dV E (af A 0) λm=>E=E/\R (.tuple #[a5,m.val,ad true]) E) (ct a6 λP B=>uN B (af H 0) λu=>mB 115 #[ae s a b] P λd M=>B M/\aQ M #[ab u.Client,ab u.Seq,ab u.gw,ab u.View.Number,ae u.View.ed u.View.ei u.View.eA,ae u.Reads u.jX u.m8,ae u.eu u.dO u.gX,.pointer d,ab 0,ab 0,ad false] 212 λF a7=>B a7/\lS a7 (af H 3) λn=>Calls prog 125 #[n.val] a7 λe S=>aY.ex λo=>∃ (f:Bool),e=.returned (.tuple #[o.val,ad f])/\a' S (af F 8) 0 o.cells λV=>S2 126 #[a_ F] V λq p=>a' p (af A 0) 0 q.cells λj=>mD j (af F 7) λt=>js 118 #[.pointer t] j λg h i k v=>cond k (a' v (af A 0) 0 [ab 0,ab 0] λx=>dV x (af A 0) λy=>x=x/\R (.tuple #[ae g h i,y.val,ad false]) x) (mD v (af F 7) λX=>de 119 #[.pointer X] v λl z=>cond l (a' z (af A 0) 0 [ab 6,ab 0] λY=>ct Y λT Q=>Gt Q (af A 0) λW=>a' T (af A 0) 0 W.cells λC=>dV C (af A 0) λD=>C=C/\R (.tuple #[a5,D.val,ad true]) C) (ct z λO I=>Gt I (af A 0) λJ=>a' O (af A 0) 0 J.cells λG=>dV G (af A 0) λZ=>G=G/\R (.tuple #[a5,Z.val,ad true]) G)))):=by kernel_rfl
def wO (s2:aS) (a:an) (b c:Nat) (d f:Int) (j:aq):aq:=ag j 0 2 (.pointer (some s2)::ag j 2 14 (ae a b c::ab d::ab f::ag j 16 13 []))
def FB (a:aS) (j:aq):aq:=ag j 0 2 (.pointer (some a)::ag j 2 30 [])
theorem Ty:bf prog f126 [a_ a] R w=(aQ w #[ab 0,ab 0] 171 λe b=>aQ b #[.func (.func 172) #[a_ a] #[],.func (.func 173) #[a_ a] #[],.func (.func 174) #[a_ a] #[],.func (.func 175) #[a_ a] #[],.func (.func 176) #[a_ a] #[]] 277 λd c=>cv prog (c0 f126 [1,0,1,0,0]) (wO (af e 0) (bn d) 5 5 5 0 (jp (af a 0)::bb 5 (jp (af a 0)::.func (.func 172) #[a_ a] #[]::jp (af a 0)::.func (.func 173) #[a_ a] #[]::jp (af a 0)::.func (.func 174) #[a_ a] #[]::jp (af a 0)::.func (.func 175) #[a_ a] #[]::jp (af a 0)::.func (.func 176) #[a_ a] #[]::bb 13 []))) (aM 0 (aP f126 [1,1] R)) c):=by kernel_rfl
theorem Rm (m:aq->aE):W prog (sb f126 [1,0,1,0,0]) (wO A s a b i k j) (aU m (aM 0 (aP f126 [1,1] R))) w=(cond (k<i) (bm s a k 1 λn=>∃ x,w.cell? n=some x/\iX prog x #[] w λe o=>bA.ex λh=>∃ g,e=.returned (.tuple #[h.val,ad g])/\aQ o #[ab 0,ab 0] 171 λf p=>a' p (af f 0) 0 h.cells λl=>cond (!g) (dV l (af f 0) λr=>a' l A 0 r.cells λd=>dV d A λc=>d=d/\R c.val d) (m (wO A s a b i (i64.wrap (k+1)) (aF j 0::aF j 1::aF j 2::x::jp (af f 0)::ad g::ag j 6 10 [ad (k<i),jp n,x,.tuple #[h.val,ad g],x,.tuple #[h.val,ad g],h.val,ad g,ad g,ad (!g),aF j 26,ab (i64.wrap (k+1)),aF j 28])) l)) (W prog (sb f126 [1,1]) (FB A (ag j 0 16 (ae s a b::ab i::ab k::ad (k<i)::ag j 17 12 []))) (bZ f126 R) w)):=by kernel_rfl
theorem Ru:W prog (sb f126 [1,1]) (FB A j) (bZ f126 R) w=(a' w A 0 [ab 0,ab 3] λa=>dV a A λb=>a=a/\R b.val a):=by kernel_rfl
end
section
def nF:List (List (List aO)->cq)->List (List aO)->cq
 | [],G=>rT G
 |f::a,G=>tK (f G) (nF a)
def re (j:cU):List (List (List aO)->cq):=[rP j,ka j,tL j,n3 j,nq j]
def runM (j:cU) (G:List (List aO)):cq:=nF (re j) G
def rf (R:cq):Int×Int:=if R.ok=true then (0,3) else R.out
theorem Sc:ij prog 172=true:=by kernel_rfl
theorem Sd:ij prog 173=true:=by kernel_rfl
theorem Se:ij prog 174=true:=by kernel_rfl
theorem Sf:ij prog 175=true:=by kernel_rfl
theorem Sg:ij prog 176=true:=by kernel_rfl
def z7 (aX:Nat):ax:=[.func (.func 172) #[ptr aX] #[],.func (.func 173) #[ptr aX] #[],.func (.func 174) #[ptr aX] #[],.func (.func 175) #[ptr aX] #[],.func (.func 176) #[ptr aX] #[]]
variable {A:a3} {w0 u:ak} {aX tb:Nat} {r:dv} {bN:aY} {j:cU}
theorem OE {z:ak} (b:fa w0 z aX tb r bN j) (ar:oZ j) (c:eP A w0 z tb T G) (a:fY T) (e:i<5) :
  ∃ (f:FuncId) (F:List (List aO)->cq),(z7 aX)[i]?=some (.func (.func f) #[ptr aX] #[])/\(re j)[i]?=some F/\ij prog f=true/\a9 f [ptr aX] z (kL A w0 z tb z.heap.size (F G)):=by
 have d:i=0\/i=1\/i=2\/i=3\/i=4:=by omega
 rcases d with rfl | rfl | rfl | rfl | rfl
 ·exact ⟨_,_,rfl,rfl,Sc,OB b ar c a⟩
 ·exact ⟨_,_,rfl,rfl,Sd,OD b c a⟩
 ·exact ⟨_,_,rfl,rfl,Se,Mh b c a⟩
 ·exact ⟨_,_,rfl,rfl,Sf,Mi b ar c a⟩
 ·exact ⟨_,_,rfl,rfl,Sg,K0 b ar c a⟩
theorem JZ {F:List (List aO)->cq} {l:List (List (List aO)->cq)} (h:l[i]?=some F) (G:List (List aO)):nF (l.drop i) G=tK (F G) (nF (l.drop (i+1))):=by have a:=cb h;rw [oU a];rw [bD a] at h;cases h;rfl
theorem CY (G:List (List aO)):(rT G).ask=none/\(rT G).dE=false:=⟨rfl,rfl⟩
theorem Dz {j:cU} {a:Int} {ws:bd} {f:Int} (h:(nv j G a ws f).ok=true):(nv j G a ws f).ask=none/\(nv j G a ws f).dE=false:=by
 unfold nv at h ⊢;split
 ·exact CY G
 ·rename_i b;rw [if_neg b] at h;exact ⟨(pF h).1,(pF h).2.1⟩
theorem K1 {j:cU} (h:(ka j G).ok=true):(ka j G).ask=none/\(ka j G).dE=false:=by
 unfold ka at h ⊢;split
 ·rename_i a;rw [if_pos a] at h;rw [a] at h;cases h
 ·rename_i a;rw [if_neg a] at h;split
  ·exact ⟨rfl,rfl⟩
  ·rename_i c;rw [if_neg c] at h;split
   ·rename_i b;rw [if_pos b] at h;cases h
   ·rename_i b;rw [if_neg b] at h;exact absurd h b
theorem K2 {j:cU} (h:(n3 j G).ok=true):(n3 j G).ask=none/\(n3 j G).dE=false:=⟨(pF h).1,(pF h).2.1⟩
theorem Nb {j:cU} (h:(nq j G).ok=true):(nq j G).ask=none/\(nq j G).dE=false:=by
 unfold nq at h ⊢;split
 ·exact CY G
 ·rename_i a;rw [if_neg a] at h;exact ⟨(pF h).1,(pF h).2.1⟩
theorem OF {j:cU} (i:Nat) (F:List (List aO)->cq) (h:(re j)[i]?=some F) (G:List (List aO)) (a:(F G).ok=true):(F G).ask=none/\(F G).dE=false:=by
 have b:=cb h;have c:i=0\/i=1\/i=2\/i=3\/i=4:=by unfold re at b;simp at b <;> omega
 rcases c with rfl | rfl | rfl | rfl | rfl<;>cases h
 ·exact Dz a
 ·exact K1 a
 ·exact Dz a
 ·exact K2 a
 ·exact Nb a
attribute [local irreducible] ij iX mT
theorem PK (C:fa w0 u aX tb r bN j) (ar:oZ j) (V2:eP A w0 u tb T G) (O:fY T) :
  a9 126 [ptr aX] u λv bs=>v=bA.val ⟨(rf (runM j G)).1,(rf (runM j G)).2⟩/\gy A w0 u tb u.heap.size (runM j G) bs:=by
 refine bc Tryz.func126 ?_;rw [ptr,Ty];rintro b1 bE M H;obtain ⟨b,D⟩:=bl M H;have b:av bE b1 (bA.cells ⟨0,0⟩) eS:=b;clear H;rintro aA Wf N I;obtain ⟨d,E⟩:=bl N I;obtain ⟨lD,d⟩:∃ lD,av Wf aA (z7 aX) lD:=⟨_,d⟩;clear I;have g:=D.new E;have s:=ai.aj E b;have Wa:=s.lt;have Wb:=d.lt;have We:=V2.aj.lt;have V3:=C.aj.lt;have Wd:=D.size;refine c2 mix (λq env z=>∃ (i:Nat) (c:List (List aO)) (V4:ax),q=5 - i/\i<=5/\env=wO ⟨b1,0,none⟩ (some ⟨aA,0,none⟩) 5 5 5 i V4/\fa w0 z aX tb r bN j/\(∃ T,eP A w0 z tb T c/\fY T)/\ao (λk=>k=tb) u z/\av z b1 (bA.cells ⟨0,0⟩) eS/\av z aA (z7 aX) lD/\runM j G=nF ((re j).drop i) c) 5
  ⟨0,G,_,rfl,by omega,rfl,C.bz g,⟨T,V2.new g,O⟩,ao.b4 g,s,d,rfl⟩ ?_
 rintro q env z ⟨i,c,V4,rfl,Wl,rfl,l,⟨V6,y,w⟩,n,b,d,a⟩;rw [Rm];refine a8 (λWc=>?_) (λV'=>?_)
 ·obtain ⟨f,F,V_,Z,V,P⟩:=OE l ar y w (i:=i) (by omega);rw [JZ Z] at a;refine ee (by omega) (by omega) ⟨_,d.cell (i:=0+i * 1) (by rw [g6,Nat.mul_one];exact V_),?_⟩;refine q2 V (xs:=#[ptr aX]) (by simp) ?_;refine aC P ?_;rintro v Wg ⟨rfl,p⟩;refine bA.aR ⟨(F c).out.1,(F c).out.2⟩ ⟨(F c).ok,rfl,?_⟩;refine ea (vs:=bA.cells ⟨(F c).out.1,(F c).out.2⟩) rfl (bA.single _) λWi Wh V9 X o=>?_
  have W:=n.size;have U:=b.lt;have h:=(p.after n).new o;have t:av Wh b1 (bA.cells ⟨0,0⟩) eS:=ai.aj o (p.az.aj b (by omega));have J:=ai.aj o (p.az.aj d (by omega));unfold tK at a;cases K:(F c).ok with
  |false=>
   rw [if_neg (by rw [K];simp)] at a;refine ek rfl ?_;refine bA.aR ⟨(F c).out.1,(F c).out.2⟩ ⟨bJ X rfl,?_⟩;refine dQ t rfl (bA.single _) λWm Y S=>?_
   refine bA.aR ⟨(F c).out.1,(F c).out.2⟩ ⟨bJ Y rfl,rfl,?_,?_⟩
   ·rw [a];unfold rf;rw [if_neg (by rw [K];simp)]
   ·rw [a];exact h.put (ao.refl _ _) (ao.refl _ _) S (by omega) (by omega) (by omega) (by omega)
  |true=>rw [if_pos K] at a;obtain ⟨V8,hw⟩:=OF i F Z c K;obtain ⟨V5,L,B⟩:=h.clean V8 hw;rw [bC (x:=(i:Int)+1) (by omega) (by omega)];exact ⟨5 - (i+1),by omega,i+1,(F c).a4,_,rfl,by omega,rfl,(l.az p.az λk e=>by have Wj:=l.kH;have Wk:=l.ne;exact ⟨by omega,by omega⟩).bz o,⟨V5,L,B⟩,h.az,t,J,a⟩
 ·have Q:i=5:=by omega
  subst Q;rw [Ru,a];refine mf b rfl 0 3 λWg R=>⟨rfl,?_⟩
  have V7:gy A w0 u tb z.heap.size (nF ((re j).drop 5) c) z:=⟨n,V6,y,w.dE,w.c8⟩;have W:=n.size;have U:=b.lt;exact V7.put (ao.refl _ _) (ao.refl _ _) R (by omega) (by omega) (by omega) (by omega)
end
section
def d9 (j:cU) (G:List (List aO)):List aW×(Int×Int)×Bool:=
 if j.valid≠0 then ([],(j.valid,0),true) else match (runM j G).ask with
 |some vs=>(vs,(0,0),false)
 |none=>if (runM j G).dE=true\/(runM j G).a4≠[] then ([],(6,0),true) else ([],rf (runM j G),true)
theorem DA (au:av w tb T.cells pe):a9 118 [ptr tb] w λx w'=>x=.tuple #[.slice T.aa T.c8 T.ac,.bool (decide ((T.c8:Int)>0))]/\ai w w':=by
 refine bc Tryz.func118 ?_;rw [ptr,Us];rintro w1 b;have a:ai w w1:=by rw [b];exact cE _
 clear b;exact ⟨λy=>ai w1 y,ao.refl _ _,_,_,_,λy c=>(ai.aj (a.new c) au).cell (i:=1) rfl,_,_,_,λy c=>(ai.aj (a.new c) au).cell (i:=1) rfl,rfl,a⟩
theorem DB (au:av w tb T.cells pe):a9 119 [ptr tb] w λx w'=>x=.bool (T.dE || decide ((T.dM:Int)>0))/\ai w w':=by
 refine bc Tryz.func119 ?_;rw [ptr,TS];refine ⟨T.dE,au.cell (i:=2) rfl,?_⟩;cases T.dE
 ·exact cV rfl ⟨_,_,_,au.cell (i:=0) rfl,rfl,ao.refl _ _⟩
 ·exact ek rfl ⟨rfl,ao.refl _ _⟩
def rR (w:ak) (j:cU) (G:List (List aO)) (v:a2) (u:ak):Prop:=
 ∃ (aa:an) (ac:Nat) (cl:List aG),v=.tuple #[.slice aa cl.length ac,bA.val ⟨(d9 j G).2.1.1,(d9 j G).2.1.2⟩,.bool (d9 j G).2.2]/\ai w u/\bh u aa (dP cl).flatten/\(∀ k,aL aa k->w.heap.size<=k)/\ep (λk=>k<w.heap.size) u cl (d9 j G).1
theorem rR.nil {o:Int×Int} {b:Bool} (h:d9 j G=([],o,b)) (c:ai w u):rR w j G (.tuple #[.slice none 0 0,bA.val ⟨o.1,o.2⟩,.bool b]) u:=
 ⟨none,0,[],by rw [h];rfl,c,.inl rfl,λk a=>absurd a nA,by rw [h];exact ⟨rfl,λi v x al=>by simp at al⟩⟩
theorem EU (au:av u b o.cells eS) (l:∀ j,ao (λk=>k=b) u j->K o j) :
  ∀ w1,w1=u.drew->∃ i:aE,i w1/\bA.ex λr=>(∀ y,i y->b6 y ⟨b,0,none⟩ 0 r.cells)/\ec w1 ⟨b,0,none⟩ 0 r.cells/\∀ a,a=cr w1 ⟨b,0,none⟩ 0 r.cells->bA.ex λres=>b6 a ⟨b,0,none⟩ 0 res.cells/\a=a/\K res a:=by
 rintro w1 d;have c:ai u w1:=by rw [d];exact cE _
 clear d;have f:=ai.aj c au;refine ⟨λy=>ai w1 y,ao.refl _ _,bA.aR o ⟨λy n=>bJ (ai.aj n f) rfl,?_⟩⟩;exact dQ f rfl (bA.single _) λa h g=>bA.aR o ⟨bJ h rfl,rfl,l a ((ao.b4 c).trans g λ_ _ e=>e)⟩
theorem O1 (au:av u b o.cells eS) (c f:Int) (n:∀ d,ao (λk=>k=b) u d->K ⟨c,f⟩ d) :
  ec u ⟨b,0,none⟩ 0 [(.int .i64 c),(.int .i64 f)]/\∀ j,j=cr u ⟨b,0,none⟩ 0 [(.int .i64 c),(.int .i64 f)]->∀ w1,w1=j.drew->∃ l:aE,l w1/\bA.ex λr=>(∀ y,l y->b6 y ⟨b,0,none⟩ 0 r.cells)/\ec w1 ⟨b,0,none⟩ 0 r.cells/\∀ a,a=cr w1 ⟨b,0,none⟩ 0 r.cells->bA.ex λres=>b6 a ⟨b,0,none⟩ 0 res.cells/\a=a/\K res a:=
 dQ au (vs:=bA.cells ⟨c,f⟩) rfl (bA.single _) λj i g=>EU i λd h=>n d (g.trans h λ_ _ e=>e)
theorem Nc {A:a3} {r:dv} (Wt:pY w r j) (ar:j.valid=0->oZ j) {gI:an} {dM gc:Nat} (WE:hI A w gI G) (Ws:dM=G.length) (Wr:dM<=gc) :
  a9 92 [r.val,.slice gI dM gc] w (rR w j G):=by
 refine bc Tryz.func92 ?_;rw [VO];rintro b1 bE Wm V';obtain ⟨l,V9⟩:=bl Wm V';have l:av bE b1 r.cells 39:=l;clear V';rintro aA WV Wn Wa;obtain ⟨t,n⟩:=bl Wn Wa;have t:av WV aA (bA.cells ⟨0,0⟩) eS:=t;clear Wa;have B:=V9.new n;have WM:=V9.size;have WG:=l.lt;have WH:=t.lt;refine dv.aR r ⟨bJ (ai.aj n l) rfl,?_⟩;refine aC (LA (Wt.new B)) ?_;rintro v bk ⟨rfl,p⟩;have C:=B.new p;have J:=ai.aj p t;refine ⟨_,rfl,dw (λal=>?_) (λal=>?_)⟩
 ·refine mf J rfl j.valid 0 λW3 Wu=>rR.nil (o:=(j.valid,0)) (b:=true) ?_ (C.trans Wu λk c e=>by omega)
  unfold d9;rw [if_pos al]
 have g:=Mf al;have V3:=ar al;obtain ⟨bN,V7⟩:∃ bN,j.v.mem[0]?=some bN:=⟨_,bD g.mem.1⟩;rintro Ww Wb;have q:ai bk Ww:=by rw [Wb];exact cE _
 clear Wb;have D:=C.new q;have I:=ai.aj ((n.new p).new q) l;refine ⟨λy=>ai Ww y,ao.refl _ _,dv.aR r ⟨λy WU=>bJ (ai.aj WU I) rfl,?_⟩⟩;refine aC (Eg Ww gI dM gc) ?_;rintro v WW ⟨tb,rfl,WS,Wf,f⟩;refine ⟨_,rfl,f,?_⟩;rintro Z WX Wo Wc;obtain ⟨Y,s⟩:=bl Wo Wc;have Y:av WX Z (lJ r tb ⟨0,0,false⟩) l6:=Y;clear Wc;have WQ:=f.size;have Wy:=D.size;have WN:=n.size;have WO:=p.size;have WP:=q.size;have WJ:=Wf.lt;refine ⟨f.new s,c3.aR r.View ⟨bJ (ai.aj (f.new s) I) rfl,?_⟩⟩;obtain ⟨W0,X⟩:=Wt.view;have E:=(D.new f).new s;refine aC (BQ (X.new E) V7) ?_;rintro v u8 ⟨rfl,Q⟩;have Wh:=ai.aj Q Y;refine aY.aR bN ⟨true,rfl,gg Wh (by simp [lJ,aY.cells,dv.cells]) (aY.single _),?_⟩;rintro x W;have Wi:av x Z (lJ r tb bN) l6:=by rw [W];exact Wh.cr (o:=8) (i:=0) (vs:=bN.cells)
 have V4:ao (λk=>k=Z) u8 x:=by rw [W];exact h0 _ _ _ _ _
 clear W;have F:ai w x:=(E.new Q).trans V4 λk c e=>by omega
 have h:ai WW x:=(s.new Q).trans V4 λk c e=>by omega
 have Wg:av x tb (fV.cells ⟨gI,dM,gc,none,0,0,false⟩) pe:=ai.aj h Wf;have We:av x aA (bA.cells ⟨0,0⟩) eS:=ai.aj ((q.new f).new h) J;have Wp:fa w x Z tb r bN j:=⟨Wi,Wt,g,V7,F,by omega,by omega,by omega⟩;have WD:eP A w x tb ⟨gI,dM,gc,none,0,0,false⟩ G:=⟨Wg,WE,Ws,Wr⟩;have P:=PK Wp V3 WD ⟨rfl,rfl⟩;refine aC P ?_;rintro v WY ⟨rfl,V⟩;have WR:=h.size;have Wj:av WY aA (bA.cells ⟨0,0⟩) eS:=V.az.aj We (by omega);refine bA.aR ⟨(rf (runM j G)).1,(rf (runM j G)).2⟩ ⟨rfl,?_⟩;refine dQ Wj rfl (bA.single _) λWz Wk V5=>?_
 have H:=(V.after (u:=w) (ao.b4 F)).put (B':=x.heap.size) (ao.refl _ _) (ao.refl _ _) V5 (by omega) (by omega) (by omega) (cQ _);have R:ai w Wz:=(ao.refl _ w).trans H.az λk c e=>by omega
 have M:av Wz Z (lJ r tb bN) l6:=V5.aj (V.az.aj Wi (by omega)) (by omega);obtain ⟨_,T,N,V2,O⟩:=H;refine ⟨_,M.cell (i:=7) rfl,?_⟩;refine aC (DA N.aj) ?_;rintro v W4 ⟨rfl,d⟩;have K:=ai.aj d Wk;cases a:(runM j G).ask with
 |some vs=>
  rw [a] at O;obtain ⟨W1,w1,WB,W2,Wx⟩:=O;have Wl:=Wx.len;refine ⟨_,_,_,_,rfl,ek (by simp;omega) ?_⟩;refine mf K rfl 0 0 λWA V6=>?_
  have WC:bH w1 WA T.aa T.c8 T.ac vs:=(Wx.new d).az V6 λk e=>by omega
  obtain ⟨⟨cl,WK,Wd⟩,WI,Wq⟩:=WC;have WL:=Wd.1;have WT:=WB.size;have V_:d9 j G=(vs,(0,0),false):=by unfold d9;rw [if_neg (by simpa using al),a]
  refine ⟨T.aa,T.ac,cl,?_,(R.new d).trans V6 λk c e=>by omega,WK.rd,λk WF=>by have:=Wq k WF;omega,?_⟩
  ·rw [V_,Wl,WL]
  ·rw [V_];exact Wd.az (ao.refl _ _) λk c e=>.inl (by omega)
 |none=>
  rw [a] at O;refine ⟨_,_,_,_,rfl,cV (by simp;omega) ?_⟩;refine ⟨_,(ai.aj d M).cell (i:=7) rfl,?_⟩;refine aC (DB (ai.aj d N.aj)) ?_;rintro v WA ⟨rfl,S⟩;have L:=ai.aj S K;have z:=N.dM;refine ⟨_,rfl,?_⟩;cases hm:(T.dE || decide ((T.dM:Int)>0)) with
  |true=>
   refine O1 L 6 0 λWZ U=>rR.nil (o:=(6,0)) (b:=true) ?_ (((R.new d).new S).trans U λk c e=>by omega)
   unfold d9;rw [if_neg (by simpa using al),a];refine if_pos ?_;rw [V2] at hm;rw [vk] at hm;rcases hm with hm | hm
   ·exact .inl hm
   ·right;intro e;rw [e] at z;simp at hm z;omega
  |false=>
   refine EU L λWZ U=>rR.nil (o:=rf (runM j G)) (b:=true) ?_ (((R.new d).new S).trans U λk c e=>by omega)
   unfold d9;rw [if_neg (by simpa using al),a];refine if_neg ?_;rw [V2] at hm;obtain ⟨V8,Wv⟩:=Bool.or_eq_false_iff.1 hm;rintro (e | e)
   ·rw [e] at V8;cases V8
   ·apply e;apply fI;simp at Wv <;> omega
end
section
def pf (v:aW):Prop:=1<=v.v.count
theorem pf.pieces {v:aW} (h:pf v):0<v.v.pieces.length:=by refine vj.2 (HB _ _ _ h ?_);unfold pf at h;omega
structure fL (p:dg):Prop where
 mO:∀ v ∈ p.ba,pf v
 idle:p.ba=[]->p.bF=0
 zero:p.bF=0->p.words=[]
 hO:p.hO
theorem fL.done {p:dg} (h:fL p):fL p.done:=by
 refine ⟨λv al=>h.mO v (tm al),λ_=>rfl,λ_=>rfl,?_⟩
 intro x xs a;have hm:x ∈ p.ba.tail:=by rw [show p.ba.tail=x::xs from a];exact e2
 exact (h.mO x (tm hm)).pieces
theorem fL.step {p:dg} (h:fL p) (n:aZ):fL (p.step n).1:=by
 unfold dg.step;split
 ·exact h
 ·rename_i x xs c;dsimp only;split
  ·exact h.done
  ·split
   ·rename_i a;refine ⟨h.mO,λe=>?_,λe=>by simp at e,?_⟩
    ·rw [c] at e;cases e
    ·intro y ys d;have:x=y:=by have b:p.ba=y::ys:=d;rw [c] at b;exact (List.cons.inj b).1
     subst this;exact a
   ·exact h.done
theorem fL.post (h:fL p) (al:pf v):fL { p with ba:=p.ba++[v] }:=by
 refine ⟨λx a=>?_,λe=>by simp at e,h.zero,?_⟩
 ·rcases jT.1 a with b | b
  ·exact h.mO x b
  ·simp at b;rw [b];exact al
 ·intro x xs a;cases c:p.ba with
  |nil=>simp [c] at a;rw [<-a.1];show p.bF<_;rw [h.idle c];exact al.pieces
  |cons y ys=>simp [c] at a;rw [<-a.1];exact h.hO y ys c
theorem BU (p:dg) (n:aZ):(p.step n).1.a1=p.a1/\(p.step n).1.inc=p.inc/\(p.step n).1.node=p.node:=by
 unfold dg.step;split
 ·exact ⟨rfl,rfl,rfl⟩
 ·dsimp only;split
  ·exact ⟨rfl,rfl,rfl⟩
  ·split<;>exact ⟨rfl,rfl,rfl⟩
theorem IM (p:dg) (n:aZ):((p.step n).2.2=none/\(p.step n).1.ba=p.ba)\/(∃ d,(p.step n).2.2=some d/\(p.step n).1.ba=p.ba.tail/\p.ba≠[]):=by
 unfold dg.step;split
 ·exact .inl ⟨rfl,rfl⟩
 ·rename_i a;dsimp only;split
  ·exact .inr ⟨_,rfl,rfl,by rw [a];simp⟩
  ·split
   ·exact .inl ⟨rfl,rfl⟩
   ·exact .inr ⟨_,rfl,rfl,by rw [a];simp⟩
theorem H6 (h:p.refusal x n=0):n.down=false/\x.v.valid 5 (n.words.length / 8:Nat)=0:=by
 unfold dg.refusal at h;split at h
 ·omega
 ·rename_i ar;split at h
  ·omega
  ·rename_i al;exact ⟨by simpa using ar,by omega⟩
theorem BV (al:x.v.valid 5 (n.words.length / 8:Nat)=0) {pc:Int×Int} (c:pc ∈ x.v.pieces):(exec x pc n).1.words.length=n.words.length:=by
 obtain ⟨d,a⟩:=xT al;obtain ⟨i1,i2,i3,i4,i5,i6,i7,i8,i9,i10,i11⟩:=pr a;unfold aG.dd at i10;have b:=Ap _ _ _ (by omega) pc c;unfold exec;split
 ·rfl
 ·split
  ·simp only [aZ.write,dI,iM,l1];omega
  ·split
   ·simp only [aZ.gm];split<;>simp
   ·split
    ·simp [aZ.add]
    ·rfl
theorem CZ (h:fL p) (n:aZ):(p.step n).2.1.words.length=n.words.length:=by
 unfold dg.step;split
 ·rfl
 ·rename_i x xs b;dsimp only;split
  ·rfl
  ·rename_i c;have al:=(H6 (p:=p) (x:=x) (n:=n) (by omega)).2;have a:=h.hO x xs b;have hm:x.v.pieces.getD p.bF (0,0) ∈ x.v.pieces:=by rw [dF,bD a];exact jS _
   split
   ·exact BV al hm
   ·exact BV al hm
theorem yg:∀ {ls:List cS} {j:Nat} {l l':cS},ls[j]?=some l->g2 (ls.set j l')+l.pair.ba.length=g2 ls+l'.pair.ba.length
 | [],j,l,l',h=>by simp at h
 |a::ls,0,l,l',h=>by simp at h;subst h;simp [g2];omega
 |a::ls,j+1,l,l',h=>by have:=yg (ls:=ls) (j:=j) (l:=l) (l':=l') (by simpa using h);simp [g2] at this ⊢;omega
theorem AU:∀ {ls:List cS},g2 ls=0->∀ l ∈ ls,l.pair.ba=[]
 | [],_,l,h=>by simp at h
 |a::ls,b,l,h=>by
  simp [g2] at b;rcases e6.1 h with rfl | h
  ·exact b.1
  ·exact AU (by simp [g2];exact b.2) l h
structure Good (F:aN):Prop where
 ok:nR F
 dm:∀ C ∈ F.aV,∀ l ∈ C.aD,fL l.pair
 or:∀ p ∈ F.bP,fL p
theorem aN.ot (h:F.dm c=some C):0<=c/\F.aV[c.toNat]?=some C:=by
 unfold aN.dm at h;split at h
 ·cases h
 ·exact ⟨by omega,h⟩
theorem Good.fs (h:Good F) {C':bU} (f:F.aV[i]?=some C) (b:tq F.nodes.length i C') (c:∀ l ∈ C'.aD,fL l.pair):Good { F with aV:=F.aV.set i C' }:=by
 refine ⟨⟨h.ok.lines,h.ok.nodes,h.ok.words,by simpa using h.ok.aV,λk D a=>?_,h.ok.ez⟩,λD a=>?_,h.or⟩
 ·simp only [iu] at a;split at a
  ·split at a
   ·rename_i e _;cases a;rw [<-e];exact b
   ·cases a
  ·exact h.ok.a1 k D a
 ·rcases n0 a with d | rfl
  ·exact h.dm D d
  ·exact c
theorem Good.nG (h:Good F) (i:Nat) {n':aZ} (b:n'.words.length=F.lines * 8):Good { F with nodes:=F.nodes.set i n' }:=by
 refine ⟨⟨h.ok.lines,by simpa using h.ok.nodes,λn hm=>?_,h.ok.aV,by simpa using h.ok.a1,by simpa using h.ok.ez⟩,h.dm,h.or⟩;rcases n0 hm with a | rfl
 ·exact h.ok.words n a
 ·exact b
theorem Good.take {F:aN} (h:Good F) (c:Int):Good (F.take c).2:=by
 unfold aN.take;cases p:F.dm c with
 |none=>exact h
 |some C=>
  obtain ⟨r,d⟩:=aN.ot p;dsimp only;split
  ·exact h
  ·cases s:C.batch with
   |none=>exact h
   |some ds=>
    dsimp only;split
    ·exact h
    ·rename_i hw;have a:=h.ok.a1 _ _ d;have q:g2 C.aD=0:=by have:=a.waiting;omega
     refine h.fs d ⟨a.inc,a.aD,λj l i=>?_,a.waiting,?_,λn e=>by cases e⟩ (h.dm C (b7 d))
     ·have b:=a.lane j l i;have f:=AU q l (b7 i);refine ⟨b.a1,b.inc,b.node,b.bR,λk g=>?_,b.hO⟩;have:=b.bR;rw [f] at this;have:l.bR=[]:=fI this;rw [this] at g;cases g
     ·have:=a.waiting;have o:C.waiting=0:=by omega
      rw [show ({ C with batch:=none }:bU).waiting=C.waiting from rfl,o];exact ⟨vc _,by simp⟩
theorem K3 (h:Good F) {ds:List aO} (a:(F.take c).1=some ds):ds.length<=1024:=by
 unfold aN.take at a;cases d:F.dm c with
 |none=>rw [d] at a;cases a
 |some C=>
  rw [d] at a;dsimp only at a;obtain ⟨f,e⟩:=aN.ot d;split at a
  ·cases a
  ·cases b:C.batch with
   |none=>rw [b] at a;cases a
   |some es=>
    rw [b] at a;dsimp only at a;split at a
    ·cases a
    ·cases a;have:=(h.ok.a1 _ _ e).batch.2;rw [b] at this;exact this
structure od (n i:Nat) (inc:Int) (k:Nat) (ls:List cS):Prop where
 len:ls.length=n
 lane:∀ (j:Nat) (l:cS),ls[j]?=some l->zk i inc j k l/\fL l.pair
 g2:g2 ls=k
def s5 (l:cS) (k:Nat) (v:aW):cS:=⟨{ l.pair with ba:=l.pair.ba++[v] },l.bR++[k]⟩
theorem VP {k:Nat} (c:C.aD[v.node.toNat]?=some l):(C.gu k v).aD=C.aD.set v.node.toNat (s5 l k v):=by
 show C.aD.modify _ _=_;apply kj;intro j;obtain ⟨a,b⟩:=lx.1 c;rw [te,iu];by_cases e:v.node.toNat=j
 ·subst e;simp [a,b,s5]
 ·simp [e]
theorem yM {α:Type} {l:List α} {j:Nat} {x y:α} (a:i<l.length) (h:(l.set i x)[j]?=some y):(i=j/\y=x)\/(i≠j/\l[j]?=some y):=by
 by_cases e:i=j
 ·subst e;rw [jy a] at h;exact .inl ⟨rfl,(nX h).symm⟩
 ·rw [hW e] at h;exact .inr ⟨e,h⟩
theorem od.post {n i:Nat} {inc:Int} {k:Nat} {C:bU} (h:od n i inc k C.aD) {v:aW} (p:0<=v.node) (r:v.node<n) (al:pf v):od n i inc (k+1) (C.gu k v).aD:=by
 have b:v.node.toNat<C.aD.length:=by rw [h.len];omega
 have f:C.aD[v.node.toNat]?=some C.aD[v.node.toNat]:=bD b;rw [VP f];generalize C.aD[v.node.toNat]=cY at f;refine ⟨by simpa using h.len,λj l g=>?_,?_⟩
 ·rcases yM b g with ⟨e,rfl⟩ | ⟨e,g⟩
  ·obtain ⟨a,d⟩:=h.lane _ _ f;refine ⟨⟨a.a1,a.inc,by rw [<-e];exact a.node,by simp [s5,a.bR],λq o=>?_,(d.post al).hO⟩,d.post al⟩;rcases jT.1 o with c | c
   ·have:=a.low q c;omega
   ·simp at c <;> omega
  ·obtain ⟨a,d⟩:=h.lane j l g;exact ⟨⟨a.a1,a.inc,a.node,a.bR,λq o=>by have:=a.low q o;omega,a.hO⟩,d⟩
 ·have:=yg (l':=s5 cY k v) f;have s:(s5 cY k v).pair.ba.length=cY.pair.ba.length+1:=by simp [s5]
  have c:=h.g2;omega
theorem od.Ge {n i:Nat} {inc:Int}:∀ (vs:List aW) (k:Nat) (C:bU),od n i inc k C.aD->(∀ v ∈ vs,0<=v.node/\v.node<n/\pf v)->od n i inc (k+vs.length) (C.gO k vs).aD
 | [],k,C,h,_=>h
 |v::vs,k,C,h,al=>by
  obtain ⟨a,b,c⟩:=al v e2;have:=od.Ge vs (k+1) (C.gu k v) (h.post a b c) λx d=>al x (fu _ d)
  rw [bU.gO,g7,Nat.add_comm vs.length 1,<-u'];exact this
theorem ro:∀ (vs:List aW) (k:Nat) (C:bU),(C.gO k vs).alive=C.alive/\(C.gO k vs).inc=C.inc
 | [],_,_=>⟨rfl,rfl⟩
 |v::vs,k,C=>by rw [bU.gO];exact ro vs (k+1) (C.gu k v)
theorem G4 {nodes lines:Int}:∀ {vs:List aW},jF nodes lines vs=0->∀ v ∈ vs,v.v.valid nodes lines=0
 | [],_,v,al=>by simp at al
 |x::vs,h,v,al=>by
  unfold jF at h;split at h
  ·rename_i a;exact absurd h a
  ·rename_i a;rcases e6.1 al with rfl | al
   ·omega
   ·exact G4 h v al
theorem Good.post {F:aN} (h:Good F) (c:Int) (vs:List aW):Good (F.post c vs).2:=by
 unfold aN.post;cases B:F.dm c with
 |none=>exact h
 |some C=>
  obtain ⟨I,k⟩:=aN.ot B;have e:=h.ok.a1 _ _ k;dsimp only;split
  ·exact h
  rename_i A;split
  ·exact h
  rename_i u;split
  ·exact h
  rename_i G;split
  ·exact h
  rename_i H;split
  ·exact h
  rename_i n;have g:C.batch=none:=by cases z:C.batch with | none=>rfl | some x=>rw [z] at u;simp at u
  have f:C.alive=true:=by simpa using A
  have s:C.waiting=0:=by have:=e.batch.1;rw [g] at this;simpa using this
  have p:g2 C.aD=0:=by rw [<-e.waiting];exact s
  have r:∀ v ∈ vs,0<=v.node/\v.node<F.nodes.length/\pf v:=by intro v al;obtain ⟨w,y⟩:=xT (G4 (Decidable.not_not.1 n) v al);obtain ⟨i1,i2,i3,i4,i5,i6,i7⟩:=pr y;exact ⟨i5,i6,w⟩
  have o:C.aD.length=F.nodes.length:=by rw [e.aD,f];rfl
  have hinv:od F.nodes.length c.toNat C.inc 0 C.aD:=by refine ⟨o,λj l d=>?_,p⟩;have b:=e.lane j l d;refine ⟨⟨b.a1,b.inc,b.node,b.bR,λq E=>?_,b.hO⟩,h.dm C (b7 k) l (b7 d)⟩;have t:=b.low q E;rw [g] at t;simp at t
  have a:=od.Ge vs 0 C hinv r;rw [g6] at a;obtain ⟨s1,s2⟩:=ro vs 0 C;refine h.fs k ⟨?_,?_,λj l d=>?_,?_,?_,?_⟩ λl d=>?_
  ·show 0<=(C.gO 0 vs).inc/\(C.gO 0 vs).inc<=59;rw [s2];exact e.inc
  ·show (C.gO 0 vs).aD.length=if (C.gO 0 vs).alive then _ else _;rw [s1,f,a.len];rfl
  ·have:=(a.lane j l d).1;show zk c.toNat (C.gO 0 vs).inc j _ l;rw [s2];simpa [bU.kD] using this
  ·show vs.length=g2 (C.gO 0 vs).aD;rw [a.g2]
  ·show vs.length<=_/\_;simp [bU.kD];omega
  ·intro ds i;simp [bU.kD] at i;rw [<-i];simp;omega
  ·obtain ⟨j,D⟩:=eh.1 d;exact (a.lane j l D).2
theorem tq.comes {n i:Nat} {C:bU} (b:tq n i C) {j:Nat} {l:cS} (s:C.aD[j]?=some l) (nd:aZ) (y:fL l.pair):tq n i (C.comes j l (l.pair.step nd).1 (l.pair.step nd).2.2):=by
 have c:=b.lane j l s;have r:=(lx.1 s).1;obtain ⟨s1,s2,u⟩:=BU l.pair nd;have h:=y.step nd;rcases IM l.pair nd with ⟨t,g⟩ | ⟨d,t,g,w⟩
 ·rw [t];refine ⟨b.inc,?_,λk l' a=>?_,?_,b.batch,b.full⟩
  ·show (C.aD.set j _).length=_;rw [p9];exact b.aD
  ·rcases yM r a with ⟨e,rfl⟩ | ⟨e,a⟩
   ·exact ⟨s1.trans c.a1,s2.trans c.inc,by rw [<-e];exact u.trans c.node,by show l.bR.length=(l.pair.step nd).1.ba.length;rw [c.bR,g],c.low,h.hO⟩
   ·exact b.lane k l' a
  ·have:=yg (l':={ l with pair:=(l.pair.step nd).1 }) s;show C.waiting=g2 (C.aD.set j { l with pair:=(l.pair.step nd).1 });have hw:=b.waiting;have x:({ l with pair:=(l.pair.step nd).1 }:cS).pair.ba.length=l.pair.ba.length:=by show (l.pair.step nd).1.ba.length=_;rw [g]
   omega
 ·rw [t];have z:0<l.pair.ba.length:=vj.2 w;have p:((C.comes j l (l.pair.step nd).1 (some d)).batch.getD []).length=(C.batch.getD []).length:=by cases o:C.batch<;>simp [bU.comes,o]
  refine ⟨b.inc,?_,λk l' a=>?_,?_,?_,?_⟩
  ·show (C.aD.set j _).length=_;rw [p9];exact b.aD
  ·rw [p];rcases yM r a with ⟨e,rfl⟩ | ⟨e,a⟩
   ·refine ⟨s1.trans c.a1,s2.trans c.inc,by rw [<-e];exact u.trans c.node,?_,λq A=>c.low q (tm A),h.hO⟩;show l.bR.tail.length=(l.pair.step nd).1.ba.length;rw [g,rr,rr,c.bR]
   ·exact b.lane k l' a
  ·have:=yg (l':=⟨(l.pair.step nd).1,l.bR.tail⟩) s;show C.waiting - 1=g2 (C.aD.set j ⟨(l.pair.step nd).1,l.bR.tail⟩);have hw:=b.waiting;have x:(⟨(l.pair.step nd).1,l.bR.tail⟩:cS).pair.ba.length=l.pair.ba.length - 1:=by show (l.pair.step nd).1.ba.length=_;rw [g,rr]
   omega
  ·rw [p];have:=b.batch;show C.waiting - 1<=_/\_;omega
  ·intro ds f;cases o:C.batch with
   |none=>simp [bU.comes,o] at f
   |some es=>simp [bU.comes,o] at f;rw [<-f,p9];exact b.full es o
theorem Jz {j:Nat} {nd:aZ} (b:fL l.pair) (c:∀ l ∈ C.aD,fL l.pair):∀ l' ∈ (C.comes j l (l.pair.step nd).1 (l.pair.step nd).2.2).aD,fL l'.pair:=by
 intro l' a;cases ar:(l.pair.step nd).2.2 with
 |none=>
  rw [ar] at a;rcases n0 a with h | rfl
  ·exact c l' h
  ·exact b.step nd
 |some d=>
  rw [ar] at a;rcases n0 a with h | rfl
  ·exact c l' h
  ·exact b.step nd
theorem Good.bP {F:aN} (h:Good F) {os:List dg} (b:∀ p ∈ os,(0<=p.node/\p.node<F.nodes.length)/\fL p):Good { F with bP:=os }:=
 ⟨⟨h.ok.lines,h.ok.nodes,h.ok.words,h.ok.aV,h.ok.a1,λp a=>⟨(b p a).1.1,(b p a).1.2,(b p a).2.hO⟩⟩,h.dm,λp a=>(b p a).2⟩
theorem Good.hL (h:Good F):∀ p ∈ F.bP,(0<=p.node/\p.node<F.nodes.length)/\fL p:=λp a=>⟨⟨(h.ok.ez p a).1,(h.ok.ez p a).2.1⟩,h.or p a⟩
theorem Good.drop {F:aN} (h:Good F) (c:Int):Good (F.drop c).2:=by
 unfold aN.drop;split
 ·exact h
 ·exact h.bP λp a=>h.hL p (yz a)
theorem Good.iZ {F:aN} (h:Good F) (i:Nat):Good (F.iZ i).2:=by
 unfold aN.iZ;split
 ·exact h
 ·rename_i p g;split
  ·exact h
  ·rename_i n f;dsimp only;have hm:=b7 g;have c:=h.or p hm;have hw:=h.ok.words n (b7 f);have d:=h.nG p.node.toNat (n':=(p.step n).2.1) (by rw [CZ c];exact hw);have a:=(h.hL p hm).1;have j:=(BU p n).2.2;refine d.bP (os:=if (p.step n).1.ba.length=0 then F.bP.eraseIdx i else F.bP.set i (p.step n).1) λq b=>?_
   have hlen:(F.nodes.set p.node.toNat (p.step n).2.1).length=F.nodes.length:=by simp
   show (0<=q.node/\q.node<((F.nodes.set p.node.toNat (p.step n).2.1).length:Int))/\_;rw [hlen];split at b
   ·exact h.hL q (yz b)
   ·rcases n0 b with e | rfl
    ·exact h.hL q e
    ·exact ⟨by rw [j];exact a,c.step n⟩
theorem Good.step {F:aN} (h:Good F) (x:fo):Good (F.step x).2:=by
 unfold aN.step;split
 ·exact h.iZ _
 split
 ·exact h
 split
 ·exact h
 rename_i C e;obtain ⟨g,a⟩:=aN.ot e;split
 ·exact h
 split
 ·rename_i l n c f;split
  ·exact h
  dsimp only;have hm:=b7 a;have b:=h.dm C hm l (b7 c);have hw:=h.ok.words n (b7 f);have d:=h.nG x.node.toNat (n':=(l.pair.step n).2.1) (by rw [CZ b];exact hw);refine d.fs a ?_ (Jz b (h.dm C hm));have:=(h.ok.a1 _ _ a).comes c n b;simpa using this
 ·exact h
theorem Good.die {F:aN} (h:Good F) (c:Int):Good (F.die c).2:=by
 unfold aN.die;cases q:F.dm c with
 |none=>exact h
 |some C=>
  obtain ⟨t,b⟩:=aN.ot q;have f:=h.ok.a1 _ _ b;dsimp only;split
  ·exact h
  ·have k:=h.fs b (C':={ C with alive:=false,aD:=[],batch:=none,waiting:=0 }) ⟨f.inc,rfl,λj l a=>by simp at a,rfl,by simp,λds e=>by cases e⟩ (λl a=>by simp at a);refine k.bP λp s=>?_
   rcases jT.1 s with d | d
   ·exact h.hL p d
   ·obtain ⟨n,u⟩:=tk.1 d;obtain ⟨l,a,rfl⟩:=cT.1 n;obtain ⟨j,i⟩:=eh.1 a;have o:=f.lane j l i;have r:=(lx.1 i).1;have g:=f.aD;refine ⟨?_,h.dm C (b7 b) l a⟩;rw [o.node];split at g
    ·exact ⟨by omega,by show (j:Int)<(F.nodes.length:Int);omega⟩
    ·omega
theorem BD (n i:Nat) (inc:Int) (j:Nat) (l:cS) (h:(kq n i inc)[j]?=some l):l=sD i inc j/\j<n:=by
 unfold kq at h;rw [dR] at h;cases a:(List.range n)[j]? with
 |none=>rw [a] at h;cases h
 |some k=>rw [a] at h;obtain ⟨b,c⟩:=lx.1 a;simp at b c h;subst c;exact ⟨h.symm,b⟩
theorem JA (n i:Nat) (inc:Int):g2 (kq n i inc)=0:=by
 unfold kq g2;rw [ru];induction n with
 |zero=>rfl
 |succ n a=>rw [ki,ja,List.sum_append,a];rfl
theorem Good.fresh {n c lines:Nat} (y:1<=n/\n<=5) (w:1<=c/\c<=6) (b:98<=lines/\lines<=256):Good (aN.fresh n c lines):=by
 have q:∀ (j:Nat) (l:cS) (i:Nat),(kq n i 1)[j]?=some l->fL l.pair:=by intro j l i b;obtain ⟨rfl,_⟩:=BD _ _ _ _ _ b;exact ⟨λv al=>by simp [sD] at al,λ_=>rfl,λ_=>rfl,λx xs e=>by simp [sD] at e⟩
 refine ⟨⟨by simp [aN.fresh];omega,by simp [aN.fresh];omega,λx r=>?_,by simp [aN.fresh];omega,λi C d=>?_,λp g=>by simp [aN.fresh] at g⟩,λC d l b=>?_,λp g=>by simp [aN.fresh] at g⟩
 ·simp [aN.fresh] at r;rw [r.2];show (fmt lines n).length=lines * 8;exact DK _ _
 ·have a:((List.range c).map (hH n))[i]?=some C:=d;rw [dR] at a;cases h:(List.range c)[i]? with
  |none=>rw [h] at a;cases a
  |some k=>
   rw [h] at a;obtain ⟨s,o⟩:=lx.1 h;simp at s o a;subst o;rw [<-a];refine ⟨by simp [hH],by simp [hH,kq,aN.fresh],λj l b=>?_,?_,by simp [hH],λds e=>by simp [hH] at e⟩
   ·have f:=q j l i b;obtain ⟨rfl,_⟩:=BD _ _ _ _ _ b;exact ⟨rfl,rfl,rfl,rfl,λk u=>by simp [sD] at u,f.hO⟩
   ·show 0=g2 (kq n i 1);rw [JA]
 ·simp [aN.fresh] at d;obtain ⟨i,_,rfl⟩:=d;obtain ⟨j,t⟩:=eh.1 b;exact q j l i t
end
end Go.Proofs.YtmkljjbioomepaaGreat
