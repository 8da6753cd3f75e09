import Derived.Test.YtmkljjbioomepaaGreatProg
import Derived.Test.YtmkljjbioomepaaGreata03
import Derived.Test.YtmkljjbioomepaaGreata17
set_option linter.all false
set_option maxHeartbeats 4000000
set_option maxRecDepth 100000
namespace Go.Proofs.YtmkljjbioomepaaGreat
open Go.Proofs.Tryz Go.b8
variable {A M:bB} {B b c cap bo n tb:Nat} {G:List (List a_)} {K:cl->aV} {T:kb} {a:ax} {ds:List a_} {j:eP} {lines seq:Int} {m cI:bp} {r:fW} {u b_ w w0:av} {v:a0} {vs:List bn} {ws:bR} {x:bn} {zs:aH}
section
open IntKind
variable (w:av) (R:dW) {a b c d:Nat} {A B:bh} {s t:ax} {i k:Int} {j:aB}
theorem axp:bS prog f172 [bM a] R w=(bb w #[I 0,I 0] 171 λp u=>dP u λt l=>eG l (ae a 0) λj=>Ls l (ae a 0) λs=>dI 209 #[I j] t λb r=>l r/\ae_ 168 #[s.val] r λh o=>l o/\hJ 210 #[h.val] o λc d f q=>l q/\Calls prog 208 #[bM a,I b,ad c d f,I 1] q λe n=>cl.ex λi=>∃ g,e=.returned (.tuple #[i.val,U g])/\l n/\bJ n (ae p 0) 0 i.cells λm=>gT m (ae p 0) λk=>m=m/\R (.tuple #[k.val,U g]) m):=by kernel_rfl
theorem axG:bS prog f174 [bM a] R w=(bb w #[I 0,I 0] 171 λl n=>cQ n (ae a 1) λj=>mR 214 #[I j] n λb c m=>cQ m (ae a 0) λd=>dI 215 #[I d] m λf q=>bb q #[ah b] 30 λp o=>Calls prog 208 #[bM a,I f,ad (b7 p) 1 1,I 2] o λe r=>cl.ex λh=>∃ g,e=.returned (.tuple #[h.val,U g])/\bJ r (ae l 0) 0 h.cells λk=>gT k (ae l 0) λi=>k=k/\R (.tuple #[i.val,U g]) k):=by kernel_rfl
def Jd (cJ s2:bh) (dS:ax) (a b:Nat) (c:ax) (d f:Nat) (g h:Int) (j:aB):aB:=.pointer (some cJ)::ag j 0 1 (.pointer (some s2)::ag j 1 1 (ad dS a b::ag j 2 10 (ad c d f::I g::I h::ag j 12 31 [])))
def adV (a b:bh) (dS:ax) (c d:Nat) (j:aB):aB:=.pointer (some a)::ag j 0 1 (.pointer (some b)::ag j 1 1 (ad dS c d::ag j 2 44 []))
theorem avQ:bS prog f175 [bM a] R w=(bb w #[I 0,I 0] 171 λg f=>u' f (ae a 3) λd=>hJ 216 #[d.val] f λe b c h=>dT prog (e0 f175 [1,1,0,1,0,0]) (Jd (ae a 0) (ae g 0) none 0 0 e b c (b:Nat) 0 (undef::U false::bQ 5 (jp (ae a 0)::jp (ae a 0)::jp (ae a 0)::jp (ae a 3)::d.val::bQ 31 []))) (a8 0 (ba f175 [1,1,1] R)) h):=by kernel_rfl
theorem auQ (C:aB->aV):W prog (sb f175 [1,1,0,1,0,0]) (Jd A B s a b t c d i k j) (bk C (a8 0 (ba f175 [1,1,1] R))) w=(cond (k<i) (cb t c k 3 λD=>ot w D λr=>bb w #[I 0,I 0,U false] 116 λy bG=>bJ bG (ae y 0) 0 r.cells λz=>de z (cX A 6) λg h l=>cond ((h:Int)>0) (ot z (ae y 0) λF=>hJ 217 #[.pointer (some A),F.val] z λm n o L=>fk 125 (ad s a b) (ad m n o) L λu p q E=>ot E (ae y 0) λH=>hX 218 #[.pointer (some A),H.val] E λx K=>bb K x.cells.toArray 158 λG bF=>fk 125 (ad u p q) (ad (b7 G) 1 1) bF λe f v M=>C (Jd A B e f v t c d i (i64.wrap (k+1)) (aW j 0::aW j 1::aW j 2::jp (ae y 0)::ag j 4 8 (U (k<i)::jp D::r.val::jp A::jp A::jp A::cz A 6::ad g h l::eZ h::U ((h:Int)>0)::ad s a b::jp A::F.val::ad m n o::ad u p q::ad u p q::jp A::H.val::x.val::ad (b7 G) 1 1::ad e f v::I (i64.wrap (k+1))::ag j 34 9 []))) M) (C (Jd A B s a b t c d i (i64.wrap (k+1)) (aW j 0::aW j 1::aW j 2::jp (ae y 0)::ag j 4 8 (U (k<i)::jp D::r.val::jp A::jp A::jp A::cz A 6::ad g h l::eZ h::U ((h:Int)>0)::ag j 22 11 (I (i64.wrap (k+1))::ag j 34 9 [])))) z)) (W prog (sb f175 [1,1,1]) (adV A B s a b (ag j 0 12 (ad t c d::I i::I k::U (k<i)::ag j 13 30 []))) (c3 f175 R) w)):=by kernel_rfl
theorem au0:W prog (sb f175 [1,1,1]) (adV A B s a b j) (c3 f175 R) w=(Calls prog 213 #[.pointer (some A),ad s a b,I 3] w λe o=>∃ f g h,cl.ex λk=>∃ i,e=.returned (.tuple #[ad f g h,k.val,U i])/\bb o #[I 0,I 0] 171 λd n=>bJ n (ae d 0) 0 k.cells λm=>gT m (ae d 0) λr=>bJ m B 0 r.cells λc=>gT c B λl=>c=c/\R (.tuple #[l.val,U i]) c):=by kernel_rfl
theorem awm:bS prog f176 [bM a] R w=(bb w #[I 0,I 0] 171 λC kN=>de kN (ae a 6) λj b c=>cond ((b:Int) == 0) (bJ kN (ae C 0) 0 [I 0,I 0] λL=>gT L (ae C 0) λaA1=>L=L/\R (.tuple #[aA1.val,U true]) L) (dP kN λxp u=>mu u (ae a 8) λxv=>mu u (ae a 8) λG=>(hX 218 #[bM a,xv.val] xp λH V=>u V/\(bb V H.cells.toArray 158 λkP kO=>u kO/\(hJ 217 #[bM a,G.val] kO λd f g e7=>u e7/\(fk 125 (ad (b7 kP) 1 1) (ad d f g) e7 λFf h i qN=>u qN/\(Calls prog 213 #[bM a,ad Ff h i,I 3] qN λe sW=>∃ (k:ax) (l m:Nat),cl.ex λAW=>∃ (n:Bool),e=.returned (.tuple #[ad k l m,AW.val,U n])/\u sW/\bb sW #[I 0,I 0] 171 λvj AS=>u AS/\bJ AS (ae vj 0) 0 AW.cells λFb=>gT Fb (ae vj 0) λr=>bJ Fb (ae C 0) 0 r.cells λW=>gT W (ae C 0) λazO=>W=W/\R (.tuple #[azO.val,U n]) W)/\bb qN #[I 0,I 0] 171 λagm xl=>u xl/\Calls prog 213 #[bM a,ad Ff h i,I 3] xl λe xg=>∃ (o:ax) (p q:Nat),cl.ex λCO=>∃ (s:Bool),e=.returned (.tuple #[ad o p q,CO.val,U s])/\u xg/\bJ xg (ae agm 0) 0 CO.cells λE'=>gT E' (ae agm 0) λaAR=>bJ E' (ae C 0) 0 aAR.cells λbG=>gT bG (ae C 0) λaAx=>bG=bG/\R (.tuple #[aAx.val,U s]) bG)/\bb e7 #[I 0,I 0] 171 λLP agf=>u agf/\fk 125 (ad (b7 kP) 1 1) (ad d f g) agf λt v x AT=>u AT/\Calls prog 213 #[bM a,ad t v x,I 3] AT λe Fa=>∃ (y:ax) (z aAD:Nat),cl.ex λLN=>∃ (xz:Bool),e=.returned (.tuple #[ad y z aAD,LN.val,U xz])/\u Fa/\bJ Fa (ae LP 0) 0 LN.cells λE=>gT E (ae LP 0) λazN=>bJ E (ae C 0) 0 azN.cells λP=>gT P (ae C 0) λaAT=>P=P/\R (.tuple #[aAT.val,U xz]) P)/\bb kO #[I 0,I 0] 171 λAU xh=>u xh/\hJ 217 #[bM a,G.val] xh λazY az' aAC qP=>u qP/\fk 125 (ad (b7 kP) 1 1) (ad azY az' aAC) qP λaAk aAX aAI xd=>u xd/\Calls prog 213 #[bM a,ad aAk aAX aAI,I 3] xd λe vk=>∃ (aAA:ax) (aAr aA2:Nat),cl.ex λvh=>∃ (A:Bool),e=.returned (.tuple #[ad aAA aAr aA2,vh.val,U A])/\u vk/\bJ vk (ae AU 0) 0 vh.cells λagb=>gT agb (ae AU 0) λaAy=>bJ agb (ae C 0) 0 aAy.cells λbF=>gT bF (ae C 0) λaA5=>bF=bF/\R (.tuple #[aA5.val,U A]) bF)/\(hJ 217 #[bM a,G.val] V λlh ee nv e_=>u e_/\(bb e_ H.cells.toArray 158 λLS e9=>u e9/\(fk 125 (ad (b7 LS) 1 1) (ad lh ee nv) e9 λxB Fg agc D=>u D/\(Calls prog 213 #[bM a,ad xB Fg agc,I 3] D λe vi=>∃ (azI:ax) (azQ aAS:Nat),cl.ex λAQ=>∃ (F:Bool),e=.returned (.tuple #[ad azI azQ aAS,AQ.val,U F])/\u vi/\bb vi #[I 0,I 0] 171 λAR af'=>u af'/\bJ af' (ae AR 0) 0 AQ.cells λLR=>gT LR (ae AR 0) λazT=>bJ LR (ae C 0) 0 azT.cells λM=>gT M (ae C 0) λaAo=>M=M/\R (.tuple #[aAo.val,U F]) M)/\bb D #[I 0,I 0] 171 λAV Fc=>u Fc/\Calls prog 213 #[bM a,ad xB Fg agc,I 3] Fc λe y7=>∃ (aA4:ax) (az3 aAB:Nat),cl.ex λw9=>∃ (LO:Bool),e=.returned (.tuple #[ad aA4 az3 aAB,w9.val,U LO])/\u y7/\bJ y7 (ae AV 0) 0 w9.cells λQG=>gT QG (ae AV 0) λazL=>bJ QG (ae C 0) 0 azL.cells λT=>gT T (ae C 0) λaz5=>T=T/\R (.tuple #[az5.val,U LO]) T)/\bb e9 #[I 0,I 0] 171 λxq agh=>u agh/\fk 125 (ad (b7 LS) 1 1) (ad lh ee nv) agh λaA3 aAf azJ xb=>u xb/\Calls prog 213 #[bM a,ad aA3 aAf azJ,I 3] xb λe xw=>∃ (aAp:ax) (aAb azR:Nat),cl.ex λagl=>∃ (xD:Bool),e=.returned (.tuple #[ad aAp aAb azR,agl.val,U xD])/\u xw/\bJ xw (ae xq 0) 0 agl.cells λaf_=>gT af_ (ae xq 0) λaAc=>bJ af_ (ae C 0) 0 aAc.cells λQ=>gT Q (ae C 0) λaAg=>Q=Q/\R (.tuple #[aAg.val,U xD]) Q)/\bb e_ #[I 0,I 0] 171 λxA xc=>u xc/\bb xc H.cells.toArray 158 λazW xm=>u xm/\fk 125 (ad (b7 azW) 1 1) (ad lh ee nv) xm λaAF aAW az2 E_=>u E_/\Calls prog 213 #[bM a,ad aAF aAW az2,I 3] E_ λe xu=>∃ (aAm:ax) (aAH aAU:Nat),cl.ex λxe=>∃ (xk:Bool),e=.returned (.tuple #[ad aAm aAH aAU,xe.val,U xk])/\u xu/\bJ xu (ae xA 0) 0 xe.cells λagi=>gT agi (ae xA 0) λazK=>bJ agi (ae C 0) 0 azK.cells λN=>gT N (ae C 0) λCN=>N=N/\R (.tuple #[CN.val,U xk]) N)/\bb V #[I 0,I 0] 171 λfS Y=>u Y/\(bb Y H.cells.toArray 158 λaAn aga=>u aga/\hJ 217 #[bM a,G.val] aga λaAa az_ aAY vg=>u vg/\fk 125 (ad (b7 aAn) 1 1) (ad aAa az_ aAY) vg λaAG aAP aAv AP=>u AP/\Calls prog 213 #[bM a,ad aAG aAP aAv,I 3] AP λe xC=>∃ (azS:ax) (az9 aAO:Nat),cl.ex λxr=>∃ (xt:Bool),e=.returned (.tuple #[ad azS az9 aAO,xr.val,U xt])/\u xC/\bJ xC (ae fS 0) 0 xr.cells λLU=>gT LU (ae fS 0) λaz1=>bJ LU (ae C 0) 0 az1.cells λK=>gT K (ae C 0) λazU=>K=K/\R (.tuple #[azU.val,U xt]) K)/\hJ 217 #[bM a,G.val] Y λaAK az7 aAl LM=>u LM/\bb LM H.cells.toArray 158 λaAN AX=>u AX/\fk 125 (ad (b7 aAN) 1 1) (ad aAK az7 aAl) AX λaAz aAs aAM AO=>u AO/\Calls prog 213 #[bM a,ad aAz aAs aAM,I 3] AO λe sV=>∃ (azX:ax) (az4 aAu:Nat),cl.ex λxo=>∃ (xn:Bool),e=.returned (.tuple #[ad azX az4 aAu,xo.val,U xn])/\u sV/\bJ sV (ae fS 0) 0 xo.cells λagk=>gT agk (ae fS 0) λaAQ=>bJ agk (ae C 0) 0 aAQ.cells λX=>gT X (ae C 0) λaAE=>X=X/\R (.tuple #[aAE.val,U xn]) X)/\bb xp #[I 0,I 0] 171 λS xx=>u xx/\hX 218 #[bM a,xv.val] xx λagj kr=>u kr/\(bb kr agj.cells.toArray 158 λaAZ E9=>u E9/\hJ 217 #[bM a,G.val] E9 λaAe aAi aAh agd=>u agd/\fk 125 (ad (b7 aAZ) 1 1) (ad aAe aAi aAh) agd λB aAt aA0 xy=>u xy/\Calls prog 213 #[bM a,ad B aAt aA0,I 3] xy λe w_=>∃ (aAL:ax) (az6 azM:Nat),cl.ex λqO=>∃ (xj:Bool),e=.returned (.tuple #[ad aAL az6 azM,qO.val,U xj])/\u w_/\bJ w_ (ae S 0) 0 qO.cells λLV=>gT LV (ae S 0) λazH=>bJ LV (ae C 0) 0 azH.cells λZ=>gT Z (ae C 0) λazP=>Z=Z/\R (.tuple #[azP.val,U xj]) Z)/\hJ 217 #[bM a,G.val] kr λaAj az0 aAw xi=>u xi/\bb xi agj.cells.toArray 158 λaAd LQ=>u LQ/\fk 125 (ad (b7 aAd) 1 1) (ad aAj az0 aAw) LQ λy6 azZ azG Fe=>u Fe/\Calls prog 213 #[bM a,ad y6 azZ azG,I 3] Fe λe age=>∃ (aAJ:ax) (aAV az8:Nat),cl.ex λLW=>∃ (xf:Bool),e=.returned (.tuple #[ad aAJ aAV az8,LW.val,U xf])/\u age/\bJ age (ae S 0) 0 LW.cells λxa=>gT xa (ae S 0) λazV=>bJ xa (ae C 0) 0 azV.cells λO=>gT O (ae C 0) λaAq=>O=O/\R (.tuple #[aAq.val,U xf]) O)):=by kernel_rfl
theorem axe:bS prog f208 [bM a,I i,ad s b c,I k] R w=(bb w #[I 0,I 0] 171 λt x=>de x (ae a 6) λy d f=>cond ((d:Int) == 0) (bJ x (ae t 0) 0 [I 0,I 0] λu=>gT u (ae t 0) λo=>u=u/\R (.tuple #[o.val,U true]) u) (hJ 237 #[bM a,.agg #[I 2,I 0,I i,I 0,ah 0,ah 0,ad s b c,ah 0,I 0]] x λg h j D=>Calls prog 213 #[bM a,ad g h j,I k] D λe C=>∃ A l m,cl.ex λp=>∃ n,e=.returned (.tuple #[ad A l m,p.val,U n])/\bb C #[I 0,I 0] 171 λB E=>bJ E (ae B 0) 0 p.cells λz=>gT z (ae B 0) λr=>bJ z (ae t 0) 0 r.cells λv=>gT v (ae t 0) λq=>v=v/\R (.tuple #[q.val,U n]) v)):=by kernel_rfl
end
section
structure aak (j:eP):Prop where
 bw:0<=j.bw/\j.bw<6
 num:0<=j.v.number/\j.v.number<16
 mem:0<j.v.mem.length/\j.v.mem.length<=5
 hd:∀ m ∈ j.v.mem,1<=m.dJ/\m.dJ<=31
 H3:j.writes.length<=12
 Qg:j.reads.length<=24
 wr:j.writes≠[]->jD j.seq j.writes 256=0/\1<=j.seq/\j.seq<1073741824
 wl:∀ p ∈ j.writes,96<=p.b5/\p.b5<256
 af6:∀ p ∈ j.writes,vf p.Head=true/\sF p.Head=true
 AF:∀ s ∈ j.reads,96<=s.b5/\s.b5<256
theorem pM {W:List a6} (h:jD seq W lines=0):(98<=lines/\lines<=256)/\(1<=seq/\seq<1073741824/\1<=W.length/\W.length<=12)/\(∀ p ∈ W,96<=p.b5/\p.b5<lines)/\(∀ p ∈ W,vf p.Head=true/\sF p.Head=true)/\(W.all λp=>oR p.b5 lines)=true/\(List.range W.length).all (λi=>qZ W i && rq (W.getD i nf))=true:=by
 unfold jD at h;split at h
 ·omega
 rename_i af;split at h
 ·omega
 rename_i al;split at h
 ·omega
 rename_i aL;split at h
 ·omega
 rename_i ca;have aL:(W.all λp=>oR p.b5 lines)=true:=Ie _▸aL;have ca:(List.range W.length).all (λi=>qZ W i && rq (W.getD i nf))=true:=Ie _▸ca;refine ⟨by omega,by omega,λp ar=>?_,λp ar=>?_,aL,ca⟩
 ·have:=lM.1 aL p ar;unfold oR at this;have:=of_decide_eq_true this;omega
 ·obtain ⟨i,aD⟩:=List.getElem?_of_mem ar;have aK:=dy aD;have:=lM.1 ca i (jT.2 aK);rw [Aw aD] at this;unfold rq at this;simp only [iz] at this;exact ⟨this.2.2,this.2.1⟩
theorem V2 {W:List a6} (h:jD seq W lines=0):jD seq W 256=0:=by
 obtain ⟨af,al,aL,_,c9,e8⟩:=pM h;have apM:(W.all λp=>oR p.b5 256)=true:=lM.2 λp ar=>by have:=aL p ar;unfold oR;exact decide_eq_true (by omega)
 unfold jD;rw [if_neg (by omega),if_neg (by omega),if_neg (by rw [apM];simp),if_neg (by rw [e8];simp)]
theorem ZU {l:List bp} (h:(List.range l.length).all (rA n l)=true):l.length<=n:=by
 have key:∀ i,i<l.length->(i:Int)<=(l.getD i qD).Node/\(l.getD i qD).Node<n:=by
  intro i;induction i with
  |zero=>intro aD;have:=lM.1 h 0 (jT.2 aD);unfold rA at this;simp at this ⊢;omega
  |succ i c5=>intro aD;have af:=c5 (by omega);have:=lM.1 h (i+1) (jT.2 aD);unfold rA at this;simp at this af ⊢;omega
 rcases Q1 l.length with aN | aN
 ·omega
 ·have:=key (l.length - 1) (by omega);omega
theorem alj (h:j.valid=0):aak j:=by
 unfold eP.valid at h;split at h
 ·omega
 rename_i af;split at h
 ·omega
 rename_i al;have al:j.v.valid 5=0:=by omega
 split at h
 ·omega
 rename_i aL;split at h
 ·omega
 rename_i ca;split at h
 ·omega
 rename_i c9;split at h
 ·omega
 rename_i e8;split at h
 ·omega
 rename_i i';have e8:(j.reads.all λs=>oR s.b5 j.lines)=true:=Ie _▸e8;have hw:j.writes≠[]->jD j.seq j.writes j.lines=0:=λcj=>by
  have:=Mk.2 cj;by_cases e:jD j.seq j.writes j.lines=0
  ·exact e
  ·exact absurd ⟨this,e⟩ ca
 unfold pH.valid at al;split at al
 ·omega
 rename_i bs;split at al
 ·omega
 rename_i bI;split at al
 ·omega
 rename_i dd;split at al
 ·omega
 rename_i ic;split at al
 ·omega
 rename_i vM;have vM:j.v.mem.all wS=true:=by simpa using vM
 have ic:(List.range j.v.mem.length).all (rA (5:Nat) j.v.mem)=true:=Ie _▸ic;have SW:=ZU ic;have emp:∀ {P:a6->Prop},(j.writes≠[]->∀ p ∈ j.writes,P p)->∀ p ∈ j.writes,P p:=λed p ar=>ed (List.ne_nil_of_mem ar) p ar
 refine ⟨by omega,by omega,by omega,λm hm=>?_,?_,by omega,λcj=>?_,emp λcj p ar=>?_,emp λcj p ar=>(pM (hw cj)).2.2.2.1 p ar,λs aX=>?_⟩
 ·have:=lM.1 vM m hm;unfold wS at this;exact of_decide_eq_true this
 ·by_cases e:j.writes=[]
  ·rw [e];simp
  ·exact (pM (hw e)).2.1.2.2.2
 ·obtain ⟨_,al,_⟩:=pM (hw cj);exact ⟨V2 (hw cj),al.1,al.2.1⟩
 ·obtain ⟨af,_,aL,_⟩:=pM (hw cj);have:=aL p ar;omega
 ·have:=lM.1 e8 s aX;unfold oR at this;have:=of_decide_eq_true this;omega
abbrev vv:TypeId:=212
abbrev h7:TypeId:=171
abbrev zF:TypeId:=30
def uA (r:fW) (tb:Nat) (m:bp):aH:=r.cells++(ptr tb::m.cells)
structure iS (w0 u:av) (bo tb:Nat) (r:fW) (m:bp) (j:eP):Prop where
 an:aF u bo (uA r tb m) vv
 cH:CR w0 r j
 du:aak j
 mem:j.v.mem[0]?=some m
 new:ai w0 u
 aaX:w0.heap.size<=bo
 sM:w0.heap.size<=tb
 ne:bo≠tb
theorem iS.ck (h:iS w0 u bo tb r m j) (aj:ai u b_):iS w0 b_ bo tb r m j:=
 ⟨ai.an aj h.an,h.cH,h.du,h.mem,h.new.new aj,h.aaX,h.sM,h.ne⟩
theorem iS.aO (h:iS w0 u bo tb r m j) (J:ay M u b_) (c1:∀ k,M k->w0.heap.size<=k/\k≠bo):iS w0 b_ bo tb r m j:=
 ⟨J.an h.an λe=>(c1 _ e).2 rfl,h.cH,h.du,h.mem,h.new.trans J λk aK e=>by have:=(c1 k e).1;omega,h.aaX,h.sM,h.ne⟩
theorem iS.num {w0 u:av} {bo tb:Nat} {r:fW} {m:bp} {j:eP} (h:iS w0 u bo tb r m j):r.View.Number=j.v.number:=by obtain ⟨M,aw⟩:=h.cH.view;exact aw.num
theorem HF (h:iS w0 w bo tb r cI j) (fb:gF m.dJ) (aw:ei M w v x) :
  bK 212 [ptr bo,m.val,v.val] w λy w'=>∃ bX:a0,y=bX.val/\ei (λk=>k<w.heap.size) w' bX (addr j.v.number m x)/\ai w w':=by
 refine bO Tryz.func212 ?_;rw [ptr,avP];rintro b1 w1 bA br;obtain ⟨bm,a1⟩:=b4 bA br;have bm:aF w1 b1 m.cells hN:=bm;clear br;rintro aP aS cv cG;obtain ⟨bP,a5⟩:=b4 cv cG;have bP:aF aS aP v.cells d8:=bP;clear cG;rintro bT aY ej dY;obtain ⟨cx,bf⟩:=b4 ej dY;have cx:aF aY bT (a0.cells ⟨0,0,0,0,0,0,none,0,0,0,0⟩) d8:=cx;clear dY;rintro bZ eE;have bz:ai aY bZ:=by rw [eE];exact eh _
 clear eE;have iP:=((a1.new a5).new bf).new bz;have fI:=a1.size;have jc:=a5.size;have j2:=bf.size;have pq:=bz.size;have ca:=h.ck iP;have OW:=h.num;have a':=h.du.num;refine ⟨λy=>ai bZ y,ay.refl _ _,e3.bd r.View ⟨λy az=>cD (ai.an az ca.an) rfl,bp.bd m ⟨λy az=>cD (ai.an (((a5.new bf).new bz).new az) bm) rfl,a0.bd v ⟨λy az=>cD (ai.an ((bf.new bz).new az) bP) rfl,?_⟩⟩⟩⟩;refine aR (Xa bZ (by omega) (by omega) fb (aw.aO (ay.db iP) λ_ _ e=>e)) ?_;rintro y cK ⟨bX,rfl,d_,bH⟩;refine a0.bd bX ⟨rfl,gL (ai.an (bz.new bH) cx) rfl (a0.single _) λdh e4 eu=>?_⟩;have zW:=cx.lt;refine a0.bd bX ⟨cD e4 rfl,rfl,bX,rfl,?_,(iP.new bH).trans eu λk aK e=>by omega⟩;rw [OW] at d_;have Er:ei (λk=>k<bZ.heap.size) dh bX (addr j.v.number m x):=d_.aO (eu.mono λk _ e=>by omega) λ_ _ e=>e
 exact Er.aO (ay.refl _ _) λk _ e=>by omega
theorem ei.mono {M':bB} (h:ei M w v x) (c1:∀ k,M' k->M k):ei M' w v x:=h.aO (ay.refl _ _) λk _ e=>c1 k e
theorem CF {k at_ nn old new:Int} (aA:bW w a (us ws)) (aj:n=ws.length) (ab:n<=c) (Kw:a=none->ws=[]) (hu:∀ x ∈ ws,dp x) (au:ws.length<=1000000) (aq:dp old) (jH:dp new) :
  ei (λ_=>False) w ⟨k,0,at_,nn,old,new,a,n,c,0,0⟩ ⟨k,0,at_,nn,old,new,ws,0,0⟩:=by
 subst aj;refine ⟨rfl,aA,Kw,.inr ?_,hu,jH,aq,?_,?_,ab,au⟩
 ·cases a with
  |none=>trivial
  |some a=>exact id
 ·have aE:dp 0:=⟨by decide,by decide⟩;exact aE
 ·have aE:gF 0:=⟨by decide,by decide⟩;exact aE
def tW (j:eP) (m:bp):bn:=addr j.v.number m ⟨2,0,32+j.bw,0,0,0,[j.seq],0,0⟩
def qa (j:eP) (m:bp) (p:a6):bn:=addr j.v.number m ⟨2,0,p.b5 * 8,0,0,0,oE p,0,0⟩
theorem mw:dp 0:=⟨by decide,by decide⟩
theorem Ys (h:iS w0 w bo tb r cI j) (pr:1<=j.seq/\j.seq<1073741824) (fb:gF m.dJ) :
  bK 218 [ptr bo,m.val] w λy w'=>∃ bX:a0,y=bX.val/\ei (λk=>k<w.heap.size) w' bX (tW j m)/\ai w w':=by
 refine bO Tryz.func218 ?_;rw [ptr,awP];rintro b1 w1 bA br;obtain ⟨bm,a1⟩:=b4 bA br;have bm:aF w1 b1 m.cells hN:=bm;clear br;rintro aP aS cv cG;obtain ⟨bP,a5⟩:=b4 cv cG;have bP:aF aS aP (a0.cells ⟨0,0,0,0,0,0,none,0,0,0,0⟩) d8:=bP;clear cG;rintro aY dY;have bf:ai aS aY:=by rw [dY];exact eh _
 clear dY;have tr:=(a1.new a5).new bf;have fI:=a1.size;have jc:=a5.size;have j2:=bf.size;have aL:=h.ck tr;have ab:=h.du.bw;have c7:=h.cH.bw;have pV:=h.cH.seq;have abO:=bP.lt;refine ⟨λy=>ai aY y,ay.refl _ _,bp.bd m ⟨λy az=>cD (ai.an ((a5.new bf).new az) bm) rfl,⟨_,λy az=>(ai.an az aL.an).cell (i:=0) rfl,_,λy az=>(ai.an az aL.an).cell (i:=1) rfl,?_⟩⟩⟩;dsimp only;rw [c7,pV,rJ (x:=j.seq) (by omega) (by omega)];have fin:∀ {cK dh:av} {bX:a0},ai aY cK->ai cK dh->ei (λk=>k<cK.heap.size) dh bX (tW j m)->
   (ha dh ⟨aP,0,none⟩ 0 bX.cells/\∀ cR,cR=dO dh ⟨aP,0,none⟩ 0 bX.cells->a0.ex λg=>df cR ⟨aP,0,none⟩ 0 g.cells/\cR=cR/\∃ bX:a0,g.val=bX.val/\ei (λk=>k<w.heap.size) cR bX (tW j m)/\ai w cR):=by
  intro cK dh bX S0 abj d_;have nQ:=S0.size;refine gL (ai.an ((bf.new S0).new abj) bP) rfl (a0.single _) λcR fQ eD=>?_
  refine a0.bd bX ⟨cD fQ rfl,rfl,bX,rfl,?_,((tr.new S0).new abj).trans eD λk aK e=>by omega⟩;have uY:ei (λk=>k<cK.heap.size) cR bX (tW j m):=d_.aO (eD.mono λk _ e=>by omega) λ_ _ e=>e
  exact uY.mono λk e=>by omega
 have afy:∀ {cK:av} {bT:Nat},aF cK bT [.int .u64 j.seq] zF->ei (λ_=>False) cK ⟨2,0,32+j.bw,0,0,0,some ⟨bT,0,none⟩,1,1,0,0⟩ ⟨2,0,32+j.bw,0,0,0,[j.seq],0,0⟩:=by intro cK bT dL;exact CF (jk dL rfl) rfl (by omega) (λe=>by cases e) (λx ao=>by simp at ao;subst ao;unfold dp;omega) (by simp) mw mw
 refine ⟨?_,?_⟩
 ·refine aR (MH aY (by omega)) ?_;rintro y bZ ⟨rfl,bz⟩;refine ⟨_,rfl,bz,?_⟩;rintro bT cK ej eO;obtain ⟨dL,bH⟩:=b4 ej eO;clear eO;refine ⟨bz.new bH,?_⟩;have ij:=HF (aL.ck (bz.new bH)) fb (afy dL);refine aR ij ?_;rintro y dh ⟨bX,rfl,d_,cg⟩;exact a0.bd bX ⟨rfl,(bz.new bH).new cg,fin (bz.new bH) cg d_⟩
 ·rintro ec e6 iO jn;obtain ⟨gN,eT⟩:=b4 iO jn;clear jn;refine ⟨eT,?_⟩;refine aR (MH e6 (by omega)) ?_;rintro y hD ⟨rfl,gJ⟩;refine ⟨_,rfl,eT.new gJ,?_⟩;have ij:=HF (aL.ck (eT.new gJ)) fb (afy (ai.an gJ gN));refine aR ij ?_;rintro y hZ ⟨bX,rfl,d_,lW⟩;exact a0.bd bX ⟨rfl,(eT.new gJ).new lW,fin (eT.new gJ) lW d_⟩
theorem Zz {p:a6} (h:∀ x ∈ mZ p,dp x):∀ x ∈ oE p,dp x:=λx ao=>by
 unfold oE at ao;rcases iF.1 ao with rfl | ao
 ·exact alh _
 ·exact h x ao
theorem Yt (h:iS w0 w bo tb r cI j) (aC:∀ p ∈ j.writes,∀ x ∈ mZ p,dp x) (fb:gF m.dJ) :
  bK 217 [ptr bo,m.val] w λy w'=>∃ (a:ax) (cap:Nat),y=.slice a j.writes.length cap/\cy w w' a j.writes.length cap (j.writes.map (qa j m))/\ai w w':=by
 refine bO Tryz.func217 ?_;rw [ptr,awO];rintro b1 w1 bA br;obtain ⟨bm,a1⟩:=b4 bA br;have bm:aF w1 b1 m.cells hN:=bm;clear br;have af:=h.ck a1;have hlen:=h.cH.cO.len;have aDR:=h.du.H3;have fI:=a1.size;refine ⟨_,_,_,af.an.cell (i:=6) rfl,?_⟩;refine e2 mix (λq env u=>∃ (i:Nat) (pa:ax) (pc:Nat) (aT:aH),q=j.writes.length - i/\i<=j.writes.length/\env=NV ⟨bo,0,none⟩ ⟨b1,0,none⟩ pa i pc r.hO r.gO r.mC r.gO i aT/\ai w u/\cy w u pa i pc ((j.writes.take i).map (qa j m))/\aF u b1 m.cells hN/\iS w0 u bo tb r cI j) j.writes.length
  ⟨0,none,0,_,rfl,by omega,rfl,a1,cy.nil _ _,bm,af⟩ ?_
 rintro q env u ⟨i,pa,pc,aT,rfl,aD,rfl,dN,d',bm,pO⟩;rw [auK,hlen];have Ur:ai w0 u:=h.new.new dN;refine bL (λaK=>?_) (λhQ=>?_)
 ·obtain ⟨p,ar⟩:∃ p,j.writes[i]?=some p:=⟨_,cp (by omega)⟩;have kH:=dn ar;have gw:=h.du.wl p kH;have oh:=h.du.af6 p kH;have KK:=h.cH.cO.u64 p kH;refine hq (cells:=a6.cells) a6.len (by omega) (h.cH.cO.rd.new Ur) ar rfl rfl λb o gD _=>a6.bd p ⟨gD,?_⟩
  refine g0 (vs:=p.cells) rfl (a6.single _) λbT cS ej cx a5=>?_
  refine a6.bd p ⟨cD cx rfl,?_⟩;refine aR (XS cS p KK oh.2) ?_;rintro y b2 ⟨aa,ac,rfl,bf,Tb,aDw⟩;refine ⟨_,_,_,_,rfl,?_⟩;rintro c6 eE;have bz:ai b2 c6:=by rw [eE];exact eh _
  clear eE;have jG:=bf.new bz;have yx:=(a5.new bf).new bz;refine ⟨λy=>aF y bT p.cells hs/\aF y b1 m.cells hN,⟨ai.an jG cx,ai.an yx bm⟩,bp.bd m ⟨λy az=>cD az.2 rfl,_,λy az=>az.1.cell (i:=0) rfl,?_⟩⟩;refine aR (Fo c6 gw.1 gw.2) ?_;rintro y ff ⟨rfl,rfl⟩;refine ⟨_,rfl,⟨ai.an jG cx,ai.an yx bm⟩,?_⟩;have j4:ei (λ_=>False) ff ⟨2,0,p.b5 * 8,0,0,0,aa,8,ac,0,0⟩ ⟨2,0,p.b5 * 8,0,0,0,oE p,0,0⟩:=CF (bu.new bz Tb).rd (by rfl) (bu.le Tb) (λe=>by
   obtain ⟨_,bc⟩:=Tb;rcases bc with ⟨aj,_,_⟩ | ⟨g,cur,a',_⟩
   ·omega
   ·rw [a'] at e;cases e) (Zz (aC p kH)) (by simp [oE,mZ]) mw mw
  have ij:=HF (pO.ck yx) fb j4;refine aR ij ?_;rintro y jP ⟨bX,rfl,d_,cg⟩;have Eb:=yx.new cg;refine a0.bd bX ⟨rfl,⟨ai.an (jG.new cg) cx,ai.an Eb bm⟩,?_⟩;have atF:=d'.new yx;rintro jB mU ih kj;have dg:ai jP mU:=by rw [kj];exact mE _ _
  refine ⟨⟨ai.an ((jG.new cg).new dg) cx,ai.an (Eb.new dg) bm⟩,?_⟩;have zW:=cx.lt;have BG:=bm.lt;have asE:∀ k,a7 pa k->k<u.heap.size:=λk J=>by obtain ⟨dD,aq,_⟩:=d'.ex;exact aq.lt J
  have jc:=a5.size;refine cy.u9 atF (dN.new yx) cg d_ (by omega) ih kj λap bU u8 hj fe eT=>?_
  have UA:¬ a7 pa b1:=λe=>by have h4:=d'.ex;obtain ⟨dD,aq,_⟩:=h4;obtain ⟨cs,dG⟩:=jX aq e;exact absurd (dG.ne bm (by decide)) (λed=>ed rfl)
  have qQ:aF u8 b1 m.cells hN:=fe.an (ai.an Eb bm) UA;refine ⟨⟨fe.an (ai.an (jG.new cg) cx) λe=>by have:=asE _ e;omega,qQ⟩,?_⟩;rw [cn (x:=(i:Int)+1) (by omega) (by omega)];have e:(j.writes.take i).map (qa j m)++[addr j.v.number m ⟨2,0,p.b5 * 8,0,0,0,oE p,0,0⟩]=(j.writes.take (i+1)).map (qa j m):=by rw [iW,ar];simp [qa]
  rw [e] at hj;refine ⟨j.writes.length - (i+1),by omega,i+1,ap,bU,_,rfl,by omega,by rw [<-hlen];rfl,eT,hj,qQ,(pO.ck Eb).aO fe λk J=>?_⟩;have h4:=d'.kD k J;have zP:=h.new.size;refine ⟨by omega,λe=>?_⟩
  obtain ⟨dD,aq,_⟩:=d'.ex;obtain ⟨cs,dG⟩:=jX aq J;exact absurd (e▸dG |>.ne pO.an (by decide)) (λed=>ed rfl)
 ·have g2:i=j.writes.length:=by omega
  subst g2;rw [avt];rw [nx] at d';exact ⟨pa,pc,rfl,d',dN⟩
end
section
def mL:List a_->Int
 | []=>0
 |d::ds=>if d.code=0 then mL ds else d.code
theorem ahB {i:Nat} {x:a_} (h:ds[i]?=some x):mL (ds.drop i)=if x.code=0 then mL (ds.drop (i+1)) else x.code:=by have au:=dy h;rw [A2 au];rw [cp au] at h;cases h;rfl
theorem Yu (hw:ai w0 w) {raw:List cL} (aj:n=raw.length) (aA:bW w0 a (j6 raw).flatten) (aC:lN A w0 raw ds) (m6:raw.length<=1000000):bK 242 [.slice a n c] w λx w'=>x=.int .i64 (mL ds)/\ai w w':=by
 subst aj;refine bO Tryz.func242 ?_;rw [ag6];have j0:=aC.1;refine e2 mix (λm env u=>∃ (i:Nat) (aT:aH),m=raw.length - i/\i<=raw.length/\env=PQ a raw.length c raw.length i aT/\ai w u/\mL ds=mL (ds.drop i)) raw.length
  ⟨0,_,by omega,by omega,rfl,ay.refl _ _,rfl⟩ ?_
 rintro m env u ⟨i,aT,rfl,aD,rfl,dN,aJ⟩;rw [ayk];refine bL (λaM=>?_) (λaM=>?_)
 ·have aK:i<raw.length:=by omega
  have a':raw[i]?=some raw[i]:=cp aK;obtain ⟨x,hz⟩:∃ x,ds[i]?=some x:=⟨_,cp (by omega)⟩;have pP:=aC.2 i _ _ a' hz;generalize raw[i]=d at a' pP;have Ty:=pP.code;rw [ahB hz] at aJ;refine hq (cells:=cL.cells) cL.len (by omega) (aA.new (hw.new dN)) a' rfl rfl λb o gD _=>cL.bd d ⟨gD,?_⟩
  refine g0 (vs:=d.cells) rfl (cL.single _) λb1 aS bA bP a5=>⟨_,bP.cell (i:=0) rfl,fX (λe=>⟨_,bP.cell (i:=0) rfl,?_,dN.new a5⟩) (λe=>?_)⟩
  ·rw [aJ,if_neg (by omega),Ty]
  ·rw [cn (x:=(i:Int)+1) (by omega) (by omega)];exact ⟨raw.length - (i+1),by omega,i+1,_,rfl,by omega,rfl,dN.new a5,by rw [aJ,if_pos (by omega)]⟩
 ·rw [ay_];refine ⟨?_,dN⟩;rw [aJ,List.drop_of_length_le (by omega)];rfl
structure dM where
 ok:Bool
 done:List a_
 out:Int×Int
 bD:List (List a_)
 ask:Option (List bn)
 gb:Bool
def dz (G:List (List a_)) (vs:List bn) (lr:Int):dM:=
 if (batch G vs).ok=false then ⟨false,[],(0,0),(batch G vs).bD,(batch G vs).ask,(batch G vs).gb⟩
 else if mL (batch G vs).done≠0 then ⟨false,[],(mL (batch G vs).done,lr),(batch G vs).bD,none,false⟩
 else ⟨true,(batch G vs).done,(0,0),(batch G vs).bD,none,false⟩
structure h2 (A:bB) (w0 u:av) (tb:Nat) (T:kb) (G:List (List a_)):Prop where
 an:aF u tb T.cells Bm
 bD:nh A w0 T.lv G
 gB:T.gB=G.length
 gc:T.gB<=T.gc
theorem h2.new (h:h2 A w0 u tb T G) (aj:ai u b_):h2 A w0 b_ tb T G:=⟨ai.an aj h.an,h.bD,h.gB,h.gc⟩
theorem h2.aO (h:h2 A w0 u tb T G) (J:ay M u b_) (c1:¬ M tb):h2 A w0 b_ tb T G:=⟨J.an h.an c1,h.bD,h.gB,h.gc⟩
structure k' (A:bB) (w0 u:av) (tb B:Nat) (R:dM) (b_:av):Prop where
 aO:ay (λk=>k=tb) u b_
 j9:∃ er:kb,h2 A w0 b_ tb er R.bD/\er.gb=R.gb/\(match R.ask with
  |none=>er.fi=0
  |some vs=>0<vs.length/\∃ w1,ai w0 w1/\B<=w1.heap.size/\cy w1 b_ er.aa er.fi er.ac vs)
structure kl (T:kb):Prop where
 fi:T.fi=0
 gb:T.gb=false
theorem k'.new {A:bB} {w0 u b_ afO:av} {tb B:Nat} {R:dM} (h:k' A w0 u tb B R b_) (aj:ai b_ afO):k' A w0 u tb B R afO:=by
 obtain ⟨J,er,aZ,hw,bc⟩:=h;refine ⟨J.new aj,er,aZ.new aj,hw,?_⟩;cases cC:R.ask with
 |none=>rw [cC] at bc;exact bc
 |some vs=>rw [cC] at bc;obtain ⟨aN,w1,af,al,aL⟩:=bc;exact ⟨aN,w1,af,al,aL.new aj⟩
theorem vI (aE:aF u b zs h7) (au:zs.length=2) (c f:Int) (J:∀ c6,ay (λk=>k=b) u c6->K ⟨c,f⟩ c6) :
  ha u ⟨b,0,none⟩ 0 [(.int .i64 c),(.int .i64 f)]/\∀ aS,aS=dO u ⟨b,0,none⟩ 0 [(.int .i64 c),(.int .i64 f)]->cl.ex λres=>df aS ⟨b,0,none⟩ 0 res.cells/\aS=aS/\K res aS:=
 gL aE (vs:=cl.cells ⟨c,f⟩) (by rw [au];rfl) (cl.single _) λaS bP eN=>cl.bd ⟨c,f⟩ ⟨cD bP rfl,rfl,J aS eN⟩
theorem Y5 {ws:List bn} (h:(batch G vs).ask=some ws):0<vs.length:=by
 unfold batch at h;split at h
 ·cases h
 ·omega
theorem FW (ab:iS w0 u bo tb r m j) (bq:h2 A w0 u tb T G) (c7:kl T) {w1:av} (br:ai w0 w1) (Ag:tb<w1.heap.size) (aw:cy w1 u a n cap vs) (m6:vs.length<=100000) (lr:Int) :
  bK 213 [ptr bo,.slice a n cap,.int .i64 lr] u λv b_=>∃ (f8:ax) (dc:Nat) (raw:List cL),v=.tuple #[.slice f8 raw.length dc,cl.val ⟨(dz G vs lr).out.1,(dz G vs lr).out.2⟩,.bool (dz G vs lr).ok]/\
   k' A w0 u tb w1.heap.size (dz G vs lr) b_/\bW w0 f8 (j6 raw).flatten/\lN A w0 raw (dz G vs lr).done/\(raw=[]\/raw.length=vs.length):=by
 refine bO Tryz.func213 ?_;rw [ptr,axo];rintro b1 ct bA gx;obtain ⟨bm,a1⟩:=b4 bA gx;have bm:aF ct b1 (cl.cells ⟨0,0⟩) h7:=bm;clear gx;have eC:=ab.ck a1;have oJ:=bq.new a1;have oj:=aw.new a1;obtain ⟨dD,cV,eb⟩:=oj.ex;have Cc:=eb.1;have v5:=oj.len;have fI:=a1.size;have lY:=bq.an.lt;have Ov:b1≠tb:=by omega
 refine ⟨_,eC.an.cell (i:=7) rfl,?_⟩;have G1:n=dD.length:=by omega
 rw [G1] at cV;have hy:=Zk (A:=A) eC.new ab.sM oJ.an oJ.bD oJ.gB oJ.gc (aa:=a) (ac:=cap) cV.rd eb (by omega);rw [<-G1] at hy;refine aR hy ?_;rintro v cS ⟨er,f8,dc,raw,rfl,cv,eN,dw,dX,TR,jm,od,kZ,jZ⟩;rw [c7.gb,Bool.false_or] at kZ;have bP:aF cS b1 (cl.cells ⟨0,0⟩) h7:=eN.an bm Ov;have oP:cy w1 cS a n cap vs:=oj.aO eN λk e=>by omega
 have arK:ay (λk=>k=tb) u cS:=(ay.db a1).trans eN λ_ _ e=>e
 have vT:(batch G vs).done.length=raw.length:=dX.1.symm;refine ⟨_,_,_,_,rfl,?_⟩;have fin:∀ {b2 c6:av},ai cS b2->ay (λk=>k=b1) b2 c6->∀ {R:dM},R.bD=(batch G vs).bD->R.gb=(batch G vs).gb->R.ask=(batch G vs).ask->k' A w0 u tb w1.heap.size R c6:=by
  intro b2 c6 bf dv R af al aL;have OJ:ay (λk=>k=b1) cS c6:=(ay.db bf).trans dv λ_ _ e=>e
  have Kc:ay (λk=>k=tb) u c6:=arK.trans OJ λk aK e=>by omega
  refine ⟨Kc,er,?_,by rw [kZ,al],?_⟩
  ·rw [af];exact ⟨OJ.an cv (by omega),TR,jm,od⟩
  ·rw [aL];cases aM:(batch G vs).ask with
   |none=>rw [aM] at jZ;obtain ⟨_,c9,_⟩:=jZ;show er.fi=0;rw [c9];exact c7.fi
   |some ws=>rw [aM] at jZ;obtain ⟨ca,c9,e8⟩:=jZ;have:=XR aM;subst this;refine ⟨Y5 aM,w1,br,eJ _,?_⟩;rw [ca,c9,e8,<-v5];exact aw.aO Kc λk e=>e▸Ag
 unfold dz;have j0:=@EK G vs;refine ht (λb3=>?_) (λb3=>?_)
 ·rw [if_pos b3];exact vI bP rfl 0 0 λc6 dv=>⟨none,0,[],rfl,fin (ay.refl _ _) dv rfl rfl rfl,.inl rfl,⟨rfl,λi v x aw=>by simp at aw⟩,.inl rfl⟩
 ·rw [if_neg (by rw [b3];simp)];obtain ⟨yz,yA⟩:=Yq b3;have gI:ai w0 cS:=eC.new.trans eN λk aK e=>by have:=ab.sM;omega
  refine aR (Yu gI rfl dw dX (by omega)) ?_;rintro v b2 ⟨rfl,bf⟩;refine ⟨_,rfl,fX (λe=>?_) (λe=>?_)⟩
  ·rw [if_pos e];exact vI (ai.an bf bP) rfl _ _ λc6 dv=>⟨none,0,[],rfl,fin bf dv rfl yA.symm yz.symm,.inl rfl,⟨rfl,λi v x aw=>by simp at aw⟩,.inl rfl⟩
  ·rw [if_neg (by simpa using e)];refine vI (ai.an bf bP) rfl 0 0 λc6 dv=>⟨f8,dc,raw,rfl,fin bf dv rfl yA.symm yz.symm,dw,dX,?_⟩
   by_cases ss:vs.length=0
   ·exact .inl (jR (by omega))
   ·right;unfold batch at b3 vT;rw [if_neg ss] at b3 vT;cases G with
    |nil=>cases b3
    |cons d gg=>
     simp only at b3 vT;split at b3
     ·rename_i aJ;rw [if_pos aJ] at vT;have:=QO aJ;simp only at vT;omega
     ·cases b3
theorem aoH (h:iS w0 w bo tb r cI j) (aw:ei M w v x) :
  bK 237 [ptr bo,v.val] w λy w'=>∃ (a:ax) (cap:Nat),y=.slice a j.v.mem.length cap/\cy w w' a j.v.mem.length cap (j.v.mem.map λm=>addr j.v.number m x)/\ai w w':=by
 refine bO Tryz.func237 ?_;rw [ptr,axd];rintro b1 w1 bA br;obtain ⟨bm,a1⟩:=b4 bA br;have bm:aF w1 b1 v.cells d8:=bm;clear br;have af:=h.ck a1;obtain ⟨zw,kX⟩:=h.cH.view;have hlen:=kX.len;have sh:=h.du.mem;have fI:=a1.size;have g3:=bm.lt;refine ⟨_,_,_,af.an.cell (i:=4) rfl,?_⟩;refine e2 mix (λq env u=>∃ (i:Nat) (pa:ax) (pc:Nat) (aT:aH),q=j.v.mem.length - i/\i<=j.v.mem.length/\env=NQ ⟨bo,0,none⟩ ⟨b1,0,none⟩ pa i pc r.View.h1 r.View.h6 r.View.iJ r.View.h6 i aT/\ai w1 u/\cy w1 u pa i pc ((j.v.mem.take i).map λm=>addr j.v.number m x)/\aF u b1 v.cells d8/\iS w0 u bo tb r cI j) j.v.mem.length
  ⟨0,none,0,_,rfl,by omega,rfl,ay.refl _ _,cy.nil _ _,bm,af⟩ ?_
 rintro q env u ⟨i,pa,pc,aT,rfl,aD,rfl,dN,d',bm,pO⟩;rw [avG,hlen];have Ur:ai w0 u:=af.new.new dN;refine bL (λaK=>?_) (λhQ=>?_)
 ·obtain ⟨m,hm⟩:∃ m,j.v.mem[i]?=some m:=⟨_,cp (by omega)⟩;have tp:=h.du.hd m (dn hm);refine hq (cells:=bp.cells) bp.len (by omega) (kX.rd.new Ur) hm rfl rfl λb o gD _=>bp.bd m ⟨gD,?_⟩
  refine g0 (vs:=m.cells) rfl (bp.single _) λbT cS ej cx a5=>?_
  refine bp.bd m ⟨cD cx rfl,a0.bd v ⟨cD (ai.an a5 bm) rfl,?_⟩⟩;have j4:ei M cS v x:=aw.aO (ay.db ((a1.new dN).new a5)) λ_ _ e=>e
  have ij:=HF (pO.ck a5) (m:=m) (by unfold gF;omega) j4;refine aR ij ?_;rintro y b2 ⟨bX,rfl,d_,bf⟩;refine a0.bd bX ⟨rfl,?_⟩;rintro jB mU ih kj;have jc:=a5.size;refine cy.u9 (d'.new a5) (dN.new a5) bf d_ (by omega) ih kj λap bU u8 hj fe eT=>?_
  have UA:¬ a7 pa b1:=λe=>by have h4:=d'.kD _ e;omega
  rw [cn (x:=(i:Int)+1) (by omega) (by omega)];have e:(j.v.mem.take i).map (λm=>addr j.v.number m x)++[addr j.v.number m x]=(j.v.mem.take (i+1)).map λm=>addr j.v.number m x:=by rw [iW,hm];simp
  rw [e] at hj;refine ⟨j.v.mem.length - (i+1),by omega,i+1,ap,bU,_,rfl,by omega,by rw [<-hlen];rfl,eT,hj,fe.an (ai.an (a5.new bf) bm) UA,(pO.ck (a5.new bf)).aO fe λk J=>?_⟩;have h4:=d'.kD k J;have zP:=h.new.size;refine ⟨by omega,λe=>?_⟩
  obtain ⟨dD,aq,_⟩:=d'.ex;obtain ⟨cs,dG⟩:=jX aq J;exact absurd (e▸dG |>.ne pO.an (by decide)) (λed=>ed rfl)
 ·have g2:i=j.v.mem.length:=by omega
  subst g2;rw [avV];rw [nx] at d';exact ⟨pa,pc,rfl,d'.mono fI,a1.new dN⟩
def IL (R:dM) (f:List (List a_)->dM):dM:=if R.ok then f R.bD else R
def F0 (G:List (List a_)):dM:=⟨true,[],(0,0),G,none,false⟩
def Ch (j:eP) (at_:Int) (ws:bR):List bn:=j.v.mem.map λm=>addr j.v.number m ⟨2,0,at_,0,0,0,ws,0,0⟩
def yL (j:eP) (G:List (List a_)) (at_:Int) (ws:bR) (lr:Int):dM:=if j.writes=[] then F0 G else dz G (Ch j at_ ws) lr
def F1 (j:eP) (G:List (List a_)):dM:=yL j G (iR j.bw+8) (je j.seq j.writes) 1
def IM (j:eP) (G:List (List a_)):dM:=yL j G (iR j.bw) [j7 j.seq] 2
def sR (A:bB) (w0 u:av) (tb B:Nat) (R:dM) (v:bx) (b_:av):Prop:=v=.tuple #[cl.val ⟨R.out.1,R.out.2⟩,.bool R.ok]/\k' A w0 u tb B R b_
theorem k'.skip (bq:h2 A w0 u tb T G) (c7:kl T) (aj:ai u b_):k' A w0 u tb B (F0 G) b_:=
 ⟨ay.db aj,T,bq.new aj,c7.gb,c7.fi⟩
theorem k'.put {ct cS b2 c6:av} {B':Nat} {R:dM} (h:k' A w0 ct tb B R cS) (aj:ai u ct) (a5:ai cS b2) (J:ay (λk=>k=b) b2 c6) (ak:u.heap.size<=b) (GD:b<B) (fb:b≠tb) (hy:B'<=B):k' A w0 u tb B' R c6:=by
 obtain ⟨hk,er,aZ,hw,bc⟩:=h;refine ⟨(((ay.db aj).trans hk λ_ _ e=>e).new a5).trans J λk aK e=>by omega,er,(aZ.new a5).aO J λe=>fb e.symm,hw,?_⟩;cases cC:R.ask with
 |none=>rw [cC] at bc;exact bc
 |some vs=>rw [cC] at bc;obtain ⟨aN,w1,af,al,aL⟩:=bc;exact ⟨aN,w1,af,by omega,(aL.new a5).aO J λk e=>by omega⟩
theorem aab (aE:aF u b zs h7) (au:zs.length=2) (o:cl) (J:∀ b2 c6,ai u b2->ay (λk=>k=b) b2 c6->K o c6) :
  ∀ aP cK,aP=u.heap.size->cK=u.alloc (.cells #[.int .i64 0,.int .i64 0] h7)->ha cK ⟨aP,0,none⟩ 0 o.cells/\∀ dh,dh=dO cK ⟨aP,0,none⟩ 0 o.cells->cl.ex λr=>df dh ⟨aP,0,none⟩ 0 r.cells/\ha dh ⟨b,0,none⟩ 0 r.cells/\∀ cR,cR=dO dh ⟨b,0,none⟩ 0 r.cells->cl.ex λres=>df cR ⟨b,0,none⟩ 0 res.cells/\cR=cR/\K res cR:=by
 refine g0 (zs:=[.int .i64 0,.int .i64 0]) (vs:=o.cells) rfl (cl.single _) λaP dh ak bP aj=>?_
 refine cl.bd o ⟨cD bP rfl,gL (ai.an aj aE) (by rw [au];rfl) (cl.single _) λcR fQ eD=>?_⟩;exact cl.bd o ⟨cD fQ rfl,rfl,J dh cR aj eD⟩
theorem aac (ab:iS w0 u bo tb r m j) (bq:h2 A w0 u tb T G) (c7:kl T) {at_:Int} (hw:j.writes≠[]->bW u a (us ws)/\n=ws.length/\n<=cap/\(a=none->ws=[])/\(∀ x ∈ ws,dp x)/\ws.length<=1000000) (lr:Int) :
  bK 208 [ptr bo,.int .i64 at_,.slice a n cap,.int .i64 lr] u (sR A w0 u tb u.heap.size (yL j G at_ ws lr)):=by
 refine bO Tryz.func208 ?_;rw [ptr,axe];rintro b1 ct bA gx;obtain ⟨bm,a1⟩:=b4 bA gx;have bm:aF ct b1 (cl.cells ⟨0,0⟩) h7:=bm;clear gx;have eC:=ab.ck a1;have oJ:=bq.new a1;have hlen:=ab.cH.cO.len;have fI:=a1.size;have g3:=bm.lt;have lY:=bq.an.lt;unfold yL;refine ⟨_,_,_,eC.an.cell (i:=6) rfl,gX (λe=>?_) (λe=>?_)⟩
 ·have mJ:j.writes=[]:=jR (by omega);rw [if_pos mJ];exact vI bm rfl 0 0 λc6 dv=>⟨rfl,(k'.skip (B:=ct.heap.size) oJ c7 (ay.refl _ _)).put a1 (ay.refl _ _) dv (by omega) g3 (by omega) fI⟩
 ·have mJ:j.writes≠[]:=λbg=>by rw [bg] at hlen;simp at hlen <;> omega
  rw [if_neg mJ];obtain ⟨af,al,aL,ca,c9,e8⟩:=hw mJ;have j4:ei (λ_=>False) ct ⟨2,0,at_,0,0,0,a,n,cap,0,0⟩ ⟨2,0,at_,0,0,0,ws,0,0⟩:=CF (af.new a1) al aL ca c9 e8 mw mw;have ij:=aoH eC j4;refine aR ij ?_;rintro v cS ⟨aa,ac,rfl,d',a5⟩;refine ⟨_,_,_,rfl,?_⟩;have Tq:=FW (eC.ck a5) (oJ.new a5) c7 eC.new (w1:=ct) (by omega) d' (by rw [jS];have:=ab.du.mem;omega) lr;refine aR Tq ?_;rintro v c6 ⟨f8,dc,raw,rfl,hT,_⟩;refine ⟨_,_,_,cl.bd ⟨(dz G (Ch j at_ ws) lr).out.1,(dz G (Ch j at_ ws) lr).out.2⟩ ⟨(dz G (Ch j at_ ws) lr).ok,rfl,?_⟩⟩;have dk:aF c6 b1 (cl.cells ⟨0,0⟩) h7:=hT.aO.an (ai.an a5 bm) (by omega);refine aab dk rfl _ λff jP bH eu=>⟨rfl,hT.put (a1.new a5) bH eu (by omega) g3 (by omega) fI⟩
end
end Go.Proofs.YtmkljjbioomepaaGreat
