import Derived.Test.YtmkljjbioomepaaGreatProg
import Derived.Test.YtmkljjbioomepaaGreate03
import Derived.Test.YtmkljjbioomepaaGreate40
import Derived.Test.YtmkljjbioomepaaGreate41
import Derived.Test.YtmkljjbioomepaaGreate04
import Derived.Test.YtmkljjbioomepaaGreate13
import Derived.Test.YtmkljjbioomepaaGreate39
import Derived.Test.YtmkljjbioomepaaGreate23
set_option linter.all false
set_option maxHeartbeats 4000000
set_option maxRecDepth 100000
namespace Go.Proofs.YtmkljjbioomepaaGreat
open Go.Proofs.Tryz Go.bn
variable {A:a2} {a last seq:Int} {b aM k most n y:Nat} {u w:al}
section
open IntKind
variable (w:al) (R:cp) {i k l:Int} {s:an} {a b c:Nat} {j:aq} {A B C:aV}
theorem SG  : bd prog f14 [] R w=(E0 23 #[ab 1,ab 2,ab 101] w λa b w1=>cond (!b) (R (ad false) w1) (aQ w1 #[ab 96] 3 λb1 G=>Calls prog 24 #[.pointer a,ab 1,ab 0,ab 1,ae (bj b1) 1 1] G λe H=>cf.ex λs=>∃ (c:Bool),e=.returned (.tuple #[s.val,ad c])/\aQ H #[ab 0,ab 0,ab 0,ab 0,ab 0,ab 0,ab 0,ah 0,ab 0,ab 0,ab 0,ab 0,a3,a3,a3,ab 0,ab 0,ab 0,ab 0,a3,ab 0,ab 0,ah 0,a3,ad false,ad false,ab 0,ab 0,a3,ab 0,a3,ah 0,ab 0,ab 0,ab 0,ab 0] 45 λaz I=>a_ I (af az 0) 0 s.cells λu=>cond (!c) (R (ad false) u) (ey u (af az 0) λr=>aQ u r.cells.toArray 45 λF J=>eF 15 #[.pointer a,ae (bj F) 1 1,a3,a3,ab 3] J λd f g K=>Calls prog 30 #[.pointer a,ab 0,ab 96] K λe L=>aR.ex λt=>∃ (h:Bool),e=.returned (.tuple #[t.val,ad h])/\aQ L #[ab 0,ah 0,ah 0,ah 0,ah 0,ah 0,ah 0,ah 0,ah 0] 73 λB M=>a_ M (af B 0) 0 t.cells λv=>cond (!h) (R (ad false) v) (dN v (af B 1) λi=>cond (i != 257) (R (ad false) v) (dm 22 #[.pointer a,ab 0] v λk x=>cond (!k) (R (ad false) x) (pV 16 #[ab 1,ab 1,ah 0] x λz y=>pV 26 #[.pointer a,z.val] y λD aa=>a_ aa (af az 0) 0 D.cells λac=>Calls prog 30 #[.pointer a,ab 0,ab 96] ac λe bu=>aR.ex λA=>∃ (l:Bool),e=.returned (.tuple #[A.val,ad l])/\aQ bu #[ab 0,ah 0,ah 0,ah 0,ah 0,ah 0,ah 0,ah 0,ah 0] 73 λC E=>a_ E (af C 0) 0 A.cells λj=>jM j (af az 24) λm=>cond m (bG j (af az 26) λn=>cond (n == 0) (bG j (af az 33) λo=>cond (o == 3) (bG j (af az 35) λp=>cond (p == 2) (cond l (dN j (af C 1) λq=>R (ad ((q:Int) == 256)) j) (R (ad false) j)) (R (ad false) j)) (R (ad false) j)) (R (ad false) j)) (R (ad false) j))))))):=by kernel_rfl
theorem Td:bd prog f16 [ab i,ab k,ah l] R w=(aQ w #[ab 0,ab 0,ab 0,ab 0,ab 0,ab 0,ab 0,ah 0,ab 0,ab 0,ab 0,ab 0,a3,a3,a3,ab 0,ab 0,ab 0,ab 0,a3,ab 0,ab 0,ah 0,a3,ad false,ad false,ab 0,ab 0,a3,ab 0,a3,ah 0,ab 0,ab 0,ab 0,ab 0] 45 λd f=>E1 28 #[ab i] f λa e=>a_ e (af d 0) 0 [ab 4,ab k,ab 0,ab 0,ab 0,ab 0,ab 0,ah 0,ab 0,ab 0,ab 0,ab 0,a3,a3,a3,ab k,ab 1,ab 101,ab a.Number,ae a.e8 a.eM a.fv,ab 0,ab 2,ah l,a3,ad false,ad false,ab 0,ab 0,a3,ab 0,a3,ah 0,ab 0,ab 0,ab 0,ab 0] λc=>ey c (af d 0) λb=>c=c/\R b.val c):=by kernel_rfl
def sS (c:Int) (d:an) (a b:Nat) (e:Int) (j:aq):aq:=ab c::ag j 0 2 (ae d a b::ab e::ag j 2 18 [])
def Eu (c:an) (a b:Nat) (j:aq):aq:=ag j 0 3 (ae c a b::ag j 3 19 [])
theorem Sh:bd prog f19 [ab i] R w=(cx prog (cY f19 [1,1,0,1,0,0]) (sS i none 0 0 0 (undef::a3::bx 18 [])) (aW 0 (aZ f19 [1,1,1] R)) w):=by kernel_rfl
theorem PK (g:aq->aE):W prog (sb f19 [1,1,0,1,0,0]) (sS i s a b k j) (a1 g (aW 0 (aZ f19 [1,1,1] R))) w=(cond (k<4) (cm 12 #[ab i,ab 14] w λc l=>0<=(u64.wrap k)/\cond (((gw .i64 (c5 .i64 (i64.wrap (c+1)) (u64.wrap k)) 1):Int) == 1) (aQ l #[ab (i64.wrap (96+k))] 3 λh m=>cZ 22 (ae s a b) (ae (bj h) 1 1) m λe d f n=>g (sS i e d f (i64.wrap (k+1)) [aN j 0,aN j 1,ab k,ad (k<4),ab k,ab (i64.wrap (k+1)),ab i,ab c,ab (i64.wrap (c+1)),ab k,ah (u64.wrap k),ab (c5 .i64 (i64.wrap (c+1)) (u64.wrap k)),ab (gw .i64 (c5 .i64 (i64.wrap (c+1)) (u64.wrap k)) 1),ad (((gw .i64 (c5 .i64 (i64.wrap (c+1)) (u64.wrap k)) 1):Int) == 1),ae s a b,ab k,ab (i64.wrap (96+k)),ae (bj h) 1 1,ae e d f,aN j 19]) n) (g (sS i s a b (i64.wrap (k+1)) (aN j 0::aN j 1::ab k::ad (k<4)::ab k::ab (i64.wrap (k+1))::ab i::ab c::ab (i64.wrap (c+1))::ab k::ah (u64.wrap k)::ab (c5 .i64 (i64.wrap (c+1)) (u64.wrap k))::ab (gw .i64 (c5 .i64 (i64.wrap (c+1)) (u64.wrap k)) 1)::ad (((gw .i64 (c5 .i64 (i64.wrap (c+1)) (u64.wrap k)) 1):Int) == 1)::ag j 14 6 [])) l)) (W prog (sb f19 [1,1,1]) (Eu s a b (ab i::aN j 0::aN j 1::ab k::ab k::ad (k<4)::ag j 4 16 [])) (bW f19 R) w)):=by kernel_rfl
theorem QI:W prog (sb f19 [1,1,1]) (Eu s a b j) (bW f19 R) w=(R (ae s a b) w):=by kernel_rfl
def vh (e:aV) (s2:Int) (g:an) (a b:Nat) (c d:aV) (f:Int) (j:aq):aq:=.pointer (some e)::ag j 0 1 (ab s2::ag j 1 1 (ae g a b::ag j 2 5 (.pointer (some c)::ag j 7 1 (.pointer (some d)::ab f::ag j 8 44 []))))
def Ei (s2:Int) (a b:aV) (j:aq):aq:=ag j 0 2 (ab s2::ag j 2 7 (.pointer (some a)::ag j 9 1 (.pointer (some b)::ag j 10 45 [])))
theorem R0:bd prog f24 [a' a,ab i,ab k,ab l,ae s b c] R w=(aQ w #[ab 0,ab 0,ab 0,ab 0,ab 0,ab 0,ab 0,ah 0,ab 0,ab 0,ab 0,ab 0,a3,a3,a3,ab 0,ab 0,ab 0,ab 0,a3,ab 0,ab 0,ah 0,a3,ad false,ad false,ab 0,ab 0,a3,ab 0,a3,ah 0,ab 0,ab 0,ab 0,ab 0] 45 λh m=>E1 28 #[ab i] m λd f=>aQ f #[ab 0,ab 0,ab 0,ab 0,a3,a3,a3] 39 λe j=>a_ j (af e 0) 0 [ab k,ab l,ab 101,ab d.Number,ae d.e8 d.eM d.fv,a3,a3] λg=>cx prog (cY f24 [1,1,0,1,0,0]) (vh (af a 0) k s b c (af h 0) (af e 0) 0 (ab i::ab l::bx 5 (ad false::bx 2 (ab k::ab l::ab i::d.val::.agg #[ab k,ab l,ab 101,ab d.Number,ae d.e8 d.eM d.fv,a3,a3]::bx 37 [])))) (aW 0 (aZ f24 [1,1,1] R)) g):=by kernel_rfl
theorem PR (F:aq->aE):W prog (sb f24 [1,1,0,1,0,0]) (vh A i s a b B C k j) (a1 F (aW 0 (aZ f24 [1,1,1] R))) w=(cond (k<(a:Nat)) (bB s a k 1 λH=>bG w H λx=>Calls prog 30 #[.pointer (some A),ab 0,ab x] w λe a8=>aR.ex λo=>∃ (g:Bool),e=.returned (.tuple #[o.val,ad g])/\aQ a8 #[ab 0,ah 0,ah 0,ah 0,ah 0,ah 0,ah 0,ah 0,ah 0] 73 λf M=>a_ M (af f 0) 0 o.cells λD=>cond (!g) (a_ D B 0 [ab 0,ab 0,ab 0,ab 0,ab 0,ab 0,ab 0,ah 0,ab 0,ab 0,ab 0,ab 0,a3,a3,a3,ab 0,ab 0,ab 0,ab 0,a3,ab 0,ab 0,ah 0,a3,ad false,ad false,ab 0,ab 0,a3,ab 0,a3,ah 0,ab 0,ab 0,ab 0,ab 0] λv=>ey v B λp=>v=v/\R (.tuple #[p.val,ad false]) v) (dN D (af f 1) λh=>cE D (af f 1) (ah (n4 .u64 h 255)) λE=>ow (af f 2) 7 0 1 λq=>dN E q λy=>ow (af f 2) 7 0 1 λd=>cE E d (ah (u64.wrap (y+1))) λz=>b0 z (bS C 6) λc t l=>hG z (af f 0) λr=>aQ z r.cells.toArray 73 λG K=>cZ 37 (ae c t l) (ae (bj G) 1 1) K λu m n a5=>cE a5 (bS C 6) (ae u m n) λL=>F (vh A i s a b B C (i64.wrap (k+1)) (ag j 0 8 (jp (af f 0)::ad g::ag j 10 5 [ab k,ae s a b,du a,ad (k<(a:Nat)),ab k,ab (i64.wrap (k+1)),.tuple #[o.val,ad g],jp A,ae s a b,ab k,jp H,ab x,.tuple #[o.val,ad g],o.val,ad g,ad g,ad (!g),aN j 32,jp (af f 1),ah h,ah (n4 .u64 h 255),jp (af f 1),jp (af f 2),jp q,ah y,ah (u64.wrap (y+1)),jp (af f 2),jp d,bE C 6,ae c t l,r.val,ae (bj G) 1 1,ae u m n,bE C 6,aN j 49,aN j 50,aN j 51]))) L)) (W prog (sb f24 [1,1,1]) (Ei i B C (jp A::aN j 0::aN j 1::ae s a b::ag j 2 6 (ab k::ag j 8 7 (ab k::ae s a b::du a::ad (k<(a:Nat))::ag j 19 33 [])))) (bW f24 R) w)):=by kernel_rfl
theorem QS:W prog (sb f24 [1,1,1]) (Ei i A B j) (bW f24 R) w=(y' w B λr=>a_ w A 0 [ab 3,ab i,ab 0,ab 0,ab 0,ab 0,ab 0,ah 0,ab r.Client,ab r.Seq,ab r.gS,ab r.View.Number,ae r.View.e8 r.View.eM r.View.fv,ae r.Reads r.ky r.ob,ae r.ef r.dF r.gT,ab 0,ab 0,ab 0,ab 0,a3,ab 0,ab 0,ah 0,a3,ad false,ad false,ab 0,ab 0,a3,ab 0,a3,ah 0,ab 0,ab 0,ab 0,ab 0] λa=>ey a A λc=>a=a/\R (.tuple #[c.val,ad true]) a):=by kernel_rfl
end
section
open dr
theorem K8 {x:Int} (F:dO x):ba 19 [.int .i64 x] w λv u=>∃ a c,v=.slice a (eu (x % 14).toNat).length c/\bg u a (is (ns (eu (x % 14).toNat)))/\ai w u:=by
 refine bc Tryz.func19 ?_;rw [Sh];obtain ⟨y,G,j⟩:∃ y:Nat,x % 14=y/\y<14:=⟨(x % 14).toNat,by omega,by omega⟩;refine c1 mix (λm env u=>∃ (i:Nat) (a:an) (n c:Nat) (z:aw),m=4 - i/\i<=4/\n=(lf y i).length/\env=sS x a n c i z/\ai w u/\aY u 3 1 a n c (is (ns (lf y i)))/\∀ k,aL a k->w.heap.size<=k) 4
  ⟨0,none,0,0,_,rfl,by omega,rfl,rfl,ao.refl _ _,aY.nil _ _ _,λk q=>(rv q).elim⟩ ?_
 rintro m env u ⟨i,a,n,c,z,rfl,H,rfl,rfl,l,d,f⟩;rw [PK];refine a9 (λh=>?_) (λD=>?_)
 ·have h:i<4:=by omega
  refine aD (p0 _ _ _ F (by omega)) ?_;rintro v bH ⟨rfl,rfl⟩;rw [if_neg (by omega),G];refine ⟨_,rfl,?_⟩;have hlen:=G8 y i;have A:IntKind.i64.wrap ((y:Int)+1)=((y+1:Nat):Int):=by rw [bA (by omega) (by omega)];omega
  have B:IntKind.u64.wrap (i:Int)=(i:Int):=jt (by omega) (by omega);dsimp only;rw [A,B,IM y j i h,bA (x:=(i:Int)+1) (by omega) (by omega),bA (x:=96+(i:Int)) (by omega) (by omega)];refine ⟨by omega,fy (λp=>?_) (λp=>?_)⟩
  ·refine LY d (x:=96+(i:Int)) (by omega) ?_;intro b ap cap br C s r o;have E:=l.size;have g:=FF y i;rw [if_pos p] at g;refine ⟨4 - (i+1),by omega,i+1,ap,_,cap,_,rfl,by omega,by rw [g,c8];rfl,rfl,q8 l r f,?_,λk q=>?_⟩
   ·rw [g];have:is (ns (lf y i++[96+i]))=is (ns (lf y i)++[96+(i:Int)]):=by simp [is,ns]
    rw [this];exact s
   ·rcases o k q with t | t
    ·exact f k t
    ·omega
  ·have g:=FF y i;rw [if_neg (by simp [p]),g_] at g;exact ⟨4 - (i+1),by omega,i+1,a,_,c,_,rfl,by omega,by rw [g],rfl,l,by rw [g];exact d,f⟩
 ·have:i=4:=by omega
  subst this;rw [QI];have e:(x % 14).toNat=y:=by omega
  rw [e];exact ⟨a,c,rfl,d.rd,l⟩
def tK:cf:=⟨0,0,⟨0⟩,⟨0,0,0,0,0⟩,⟨0,0,0,⟨0,none,0,0⟩,none,0,0,none,0,0⟩,⟨0,0,0,⟨0,none,0,0⟩,0,0,0⟩,none,0,0,false,false,0,⟨0,none,0,0⟩,0,none,0,0,0,0,0,0,0⟩
def hR (c seq lines:Int) (dn:cO) (c0:an) (wl dY:Nat):cf:={ tK with Kind:=3,Client:=c,ie:=⟨c,seq,lines,dn,none,0,0,c0,wl,dY⟩ }
def rl (c prev:Int) (dn:cO):cf:={ tK with Kind:=4,Client:=c,Recover:=⟨c,1,101,dn,0,2,prev⟩ }
def ik (p:aR):aR:={ p with Head:=n4 .u64 p.Head 255,uw:=IntKind.u64.wrap (p.uw+1) }
def gJ (n:aH) (L:d9):List aR:=L.map λl=>ik (n.eE l)
theorem AF {ar:Nat->Tag} {X:bl} (h:bX A ar w aM X) (UI:1<=n/\n<=5) {x:iz} (UW:X.nodes[0]?=some x) (aA:x.n.down=false)
  {L:d9} (UM:∀ l ∈ L,96<=l/\l<256/\l * 8+8<=x.n.words.length) (hlen:L.length<=1000) {a:an} {cc:Nat} (UR:bg w a (is (ns L))) (c seq:Int) :
  ba 24 [ptr aM,.int .i64 n,.int .i64 c,.int .i64 seq,.slice a L.length cc] w λv u=>∃ dn c0 dY,v=.tuple #[(hR c seq 101 dn c0 L.length dY).val,.bool true]/\ai w u/\fG A u dn (h9 n)/\aY u eN 9 c0 L.length dY (hz (gJ x.n L)).flatten/\∀ k,aL c0 k->w.heap.size<=k:=by
 refine bc Tryz.func24 ?_;rw [ptr,R0];rintro b1 w1 Up V;obtain ⟨f,Q⟩:=bk Up V;have f:av w1 b1 tK.cells 45:=f;clear V;refine aD (B2 _ (n:=n) (by omega) (by omega)) ?_;rintro v Un ⟨dn,U2,rfl,aj,j,_,rfl⟩;have UQ:=f.lt;have US:=Q.size;have UT:=j.size;have aj:fG (λk=>k<w1.heap.size\/Un.heap.size<=k) Un dn (h9 n):=aj.mono λk r d=>d.resolve_right (by omega)
 refine cO.aS dn ⟨rfl,?_⟩;rintro az U3 N W;obtain ⟨Uj,J⟩:=bk N W;have F:=ai.ak (j.new J) f;clear W;refine dC (vs:=cU.cells ⟨c,seq,101,dn,none,0,0,none,0,0⟩) Uj rfl (cU.single ⟨c,seq,101,dn,none,0,0,none,0,0⟩) λUL Uk p=>?_
 have G:=p.ak F (by omega);have y:ai Un UL:=J.trans p λk r e=>by omega
 have K:ai w UL:=(Q.new j).new y;have O:az=Un.heap.size:=N;have Uy:=aj.new y;clear f F Uj p J y;refine c1 mix (λq env z=>∃ (i:Nat) (c0:an) (dY:Nat) (UJ:aw),q=L.length - i/\i<=L.length/\env=vh ⟨aM,0,none⟩ c a L.length cc ⟨b1,0,none⟩ ⟨az,0,none⟩ i UJ/\ai w z/\fG (λk=>k<w1.heap.size\/Un.heap.size<=k) z dn (h9 n)/\av z b1 tK.cells 45/\av z az (cU.cells ⟨c,seq,101,dn,none,0,0,c0,i,dY⟩) 39/\aY z eN 9 c0 i dY (hz (gJ x.n (L.take i))).flatten/\∀ k,aL c0 k->az<k) L.length
  ⟨0,none,0,_,rfl,by omega,rfl,K,Uy,G,Uk,aY.nil _ _ _,λk d=>(rv d).elim⟩ ?_
 clear G Uk;rintro q env z ⟨i,c0,dY,UJ,rfl,UZ,rfl,P,U,f,M,B,g⟩;rw [PR];refine a9 (λr=>?_) (λUP=>?_)
 ·have t:i<L.length:=by omega
  obtain ⟨Uu,O,Uv⟩:=UM L[i] (jw t);have UG:(ns L)[i]?=some (L[i]:Int):=by simp [ns,t]
  have S:gJ x.n (L.take (i+1))=gJ x.n (L.take i)++[ik (x.n.eE L[i])]:=by unfold gJ;rw [Gm t,jx];rfl
  generalize L[i]=l at Uu O Uv UG S;refine v3 (UR.new P) UG rfl (by simp [ns]) λb o UO=>⟨_,UO _ (ao.refl _ _),?_⟩
  refine aD (x1 (h.new P) UW (l:=l) (by omega) (by omega) aA) ?_;rintro v bY ⟨rfl,j⟩;refine aR.aS (x.n.eE l) ⟨true,rfl,?_⟩;rintro UD br Uq T;obtain ⟨Um,R⟩:=bk Uq T;clear T;refine dC (vs:=(x.n.eE l).cells) Um rfl (aR.single _) λUX au p=>?_
  have K:ai z UX:=(j.new R).trans p λk r e=>by have:=j.size;omega
  have UF:z.heap.size<=UD:=by have:=j.size;omega
  clear Um R p;refine dw rfl ⟨_,au.cell (i:=1) rfl,?_⟩;refine rT au (o:=1) (by simp [aR.cells]) λU0 Ul Us=>?_
  refine tx (by omega) (by omega) ⟨_,Ul.cell (i:=2) rfl,?_⟩;refine tx (by omega) (by omega) ?_;refine rT Ul (o:=2) (by simp [aR.cells]) λUK UA Ut=>?_
  have UB:av UK UD (ik (x.n.eE l)).cells eN:=UA;have s:ai z UK:=K.trans (Us.trans Ut λ_ _ h=>h) λk r e=>by omega
  have Y:=ai.ak s f;have H:=ai.ak s M;refine ⟨_,_,_,H.cell (i:=6) rfl,?_⟩;refine aR.aS (ik (x.n.eE l)) ⟨bI UB rfl,?_⟩;refine Mm (B.new s) (by omega) ?_;intro UY ap cap u8 UN Ux C Uo;have Z:=C.ak Y (λe=>by have:=g b1 e;omega);have Ui:=C.ak H (λe=>by have:=g az e;omega);have UH:=M.lt;have UU:=s.size;have UV:=P.size;have E:∀ k,aL ap k->az<k:=λk d=>by
   rcases Uo k d with UE | UE
   ·exact g k UE
   ·omega
  refine rT (b:=az) Ui (o:=6) (by simp [cU.cells]) λU1 UC D=>?_
  rw [bA (x:=(i:Int)+1) (by omega) (by omega)];have Uw:ai w u8:=q8 (P.new s) C λk d=>by have:=g k d;omega
  have Uz:=((U.new s).ax C λk d=>.inr (by have:=g k d;omega)).ax D λk e=>.inr (by omega)
  exact ⟨L.length - (i+1),by omega,i+1,ap,cap,_,rfl,by omega,rfl,Uw.trans D λk r e=>by omega,Uz,D.ak Z (by omega),UC,by rw [S];exact Ux.ax D λk d e=>by have:=E k d;omega,E⟩
 ·have Ur:i=L.length:=by omega
  subst Ur;rw [QS];rw [hq] at B;refine cU.aS ⟨c,seq,101,dn,none,0,0,c0,L.length,dY⟩ ⟨bI M rfl,?_⟩;refine dC (vs:=(hR c seq 101 dn c0 L.length dY).cells) f rfl (cf.single _) λbH au d=>?_
  refine cf.aS (hR c seq 101 dn c0 L.length dY) ⟨bI au rfl,rfl,dn,c0,dY,rfl,P.trans d λk r e=>by omega,?_,B.ax d λk I e=>by have:=g k I;omega,λk I=>by have:=g k I;omega⟩;exact (U.ax d λk e=>.inl (by omega)).mono λk _ d=>.inl (by have:=h.low k d;omega)
theorem DE (l:∀ k,A k->k<w.heap.size) (j:1<=n/\n<=5) (c prev:Int) :
  ba 16 [.int .i64 n,.int .i64 c,.int .u64 prev] w λv u=>∃ dn,v=(rl c prev dn).val/\ai w u/\fG A u dn (h9 n):=by
 refine bc Tryz.func16 ?_;rw [Td];rintro b1 w1 h g;obtain ⟨a,d⟩:=bk h g;have a:av w1 b1 tK.cells 45:=a;clear g;refine aD (B2 _ (n:=n) (by omega) (by omega)) ?_;rintro v t ⟨dn,s,rfl,aj,f,_,rfl⟩;have r:=d.size;refine cO.aS dn ⟨rfl,?_⟩;refine dC (vs:=(rl c prev dn).cells) (ai.ak f a) rfl (cf.single _) λx i b=>?_
 refine cf.aS (rl c prev dn) ⟨bI i rfl,rfl,dn,rfl,(d.new f).trans b λk q e=>by omega,?_⟩;have p:=a.lt;exact (aj.ax b λk e=>(by show k<w1.heap.size;omega)).mono λk _ o=>(by have:=l k o;show k<w1.heap.size;omega)
end
section
open dr
def kV (c:Int) (j:b_):bL dr.conv:=⟨c,.inl j,[],false,false,.inl (0,0)⟩
def nj (c:Int) (j:bz):bL dr.conv:=⟨c,.inr j,[],false,false,.inr ⟨0,0,0,0,0⟩⟩
structure yk (p:aR):Prop where
 head:b3 p.Head
 data:∀ x ∈ gZ p,b3 x
theorem Bs {c seq lines:Int} {dn:cO} {c0:an} {wl dY:Nat} {W:List aR} (aj:fG A u dn (h9 n))
  (hw:bg u c0 (hz W).flatten) (d:wl=W.length) (b:W.length<=1000000) (e:(hz W).flatten=[]\/fM A c0) (hu:∀ p ∈ W,yk p) :
  gn A u (hR c seq lines dn c0 wl dY) (kV c ⟨c,seq,lines,h9 n,[],W⟩):=
 ⟨rfl,rfl,rfl,rfl,hj.nil _ _ _,rfl,dd _,⟨⟨rfl,rfl,rfl,⟨A,aj⟩,.inl rfl,rfl,by simp,⟨hw,d,b,λp a=>(hu p a).head⟩⟩,aj,.inl rfl,e,λp a=>(hu p a).data⟩,⟨rfl,rfl⟩,by show ([]:List (List aC)).length<=201;simp⟩
theorem Bt {c prev:Int} {dn:cO} (aj:fG A u dn (h9 n)) (a:b3 prev) :
  gn A u (rl c prev dn) (nj c ⟨c,1,101,h9 n,0,2,prev⟩):=
 ⟨rfl,rfl,rfl,rfl,hj.nil _ _ _,rfl,dd _,⟨⟨rfl,rfl,rfl,⟨A,aj⟩,rfl,rfl,rfl,a⟩,aj⟩,⟨rfl,rfl,rfl,rfl⟩,by show ([]:List (List aC)).length<=201;simp⟩
structure mo (w z:al) (aM:Nat) (A:a2) (ar:Nat->Tag) (X:bl) (F:aB):Prop where
 b9:bX A ar z aM X
 pure:X.pure=F
 new:ai w z
 own:∀ k,A k->w.heap.size<=k
section
variable {w z:al} {aM:Nat} {A:a2} {ar:Nat->Tag} {X:bl} {F:aB}
theorem mo.jo {b:al} (h:mo w z aM A ar X F) (a:ai z b):mo w b aM A ar X F:=⟨h.b9.new a,h.pure,h.new.new a,h.own⟩
theorem mo.op {cw:aB} {K:(a2)->Prop} (h:mo w z aM A ar X F) (p:dD A ar z aM cw u K):∃ A' χ' e,mo w u aM A' χ' e cw/\K A'/\ao A z u/\∀ k,k<z.heap.size->A' k->A k:=by
 obtain ⟨A',χ',e,g,i,l,j⟩:=p;have d:ao A z u:=g.ax.mono λk _ n=>h.b9.eO k n
 have a:∀ k,k<z.heap.size->A' k->A k:=λk b c=>by
  rcases (g.iff k).1 c with f | ⟨_,f,_⟩
  ·exact h.b9.eO k (g.grow k b f)
  ·exact f
 refine ⟨A',χ',e,⟨i,l,h.new.trans d λk b c=>by have:=h.own k c;omega,λk c=>?_⟩,j,d,a⟩;have:=h.new.size;by_cases b:k<z.heap.size
 ·exact h.own k (a k b c)
 ·omega
theorem fe.owns {w0 w u:al} {L B:a2} {h:Nat->Tag} {e:bl} (t:fe A ar w aM L u B h X) (f:bX A ar w aM e) (g:ai w0 w) (d:∀ k,A k->w0.heap.size<=k):∀ k,B k\/L k->w0.heap.size<=k:=λk a=>by
 have i:=g.size;rcases a with a | a
 ·rcases (t.next.iff k).1 a with b | ⟨_,b,_⟩
  ·by_cases c:k<w.heap.size
   ·exact d k (f.eO k (t.next.grow k c b))
   ·omega
  ·exact d k b
 ·have:=(t.loc k a).1;omega
attribute [local irreducible] eX
end
end
section
open dq
section
variable {cv:Conv}
theorem IN {c L:Nat} {bs:cv.a8} {ns':List aH} {G':List (List aC)} {o:cv.O} {F:aB} {t:bL cv} {b:Int} (z:ha c (F,t)) (y:F.aU[c]?=some (e6 n c a b)) (N:F.nodes.length=n) (H:F.lines=L) (j:t=⟨(c:Int),bs,[],false,false,t.out⟩) (h:Lone cv c n L bs k F.nodes [] o ns' G') (sch:a4) (M:k<most) :
  ∃ g b',eX F [t] sch [] most=(eo F ns' c (e6 n c g b'),[⟨(c:Int),bs,G',true,false,o⟩]):=by
 have d:t.aP=(c:Int):=by rw [j]
 obtain ⟨g,b',P⟩:=Ay h (F:=F) (t:=t) y rfl N H d (by rw [j]) (by rw [j]) (by rw [j]);have A:b4 F t=hE F t:=by
  have B:F.cC (c:Int)=some (e6 n c a b):=by rw [iw];exact y
  unfold b4;have p:F.alive t.aP=true:=by unfold aB.alive;rw [d,B];rfl
  have f:F.waiting t.aP=0:=by unfold aB.waiting;rw [d,B];rfl
  have E:F.take t.aP=(none,F):=by unfold aB.take;rw [d,B];rfl
  have w:t.e0=false:=by rw [j]
  rw [if_neg (by rw [w,p,f];simp),E];rfl
 have r:∀ i,h8 (cv:=cv) c i (eo F ns' c (e6 n c g b'),⟨t.aP,t.bs,G',true,t.bad,o⟩)=none:=λi=>by
  cases Q:h8 (cv:=cv) c i (eo F ns' c (e6 n c g b'),⟨t.aP,t.bs,G',true,t.bad,o⟩) with
  |none=>rfl
  |some s=>
   obtain ⟨cw,p,_⟩:=lQ.1 Q;obtain ⟨C,l,x,p,f,_,w,_⟩:=jk.1 p;have J:=cz y;have:(eo F ns' c (e6 n c g b')).aU[c]?=some (e6 n c g b'):=by unfold eo;simp only;rw [ei J]
   rw [this] at p;cases p;have f:(h1 n c 1)[i]?=some l:=f;unfold h1 at f;rw [eL] at f;cases D:(List.range n)[i]? with
   |none=>rw [D] at f;cases f
   |some q=>rw [D] at f;cases f;exact absurd rfl w
 have e:=P.norm (.nil r);rw [<-A,lz] at e;refine ⟨g,b',?_⟩;rw [HV z e sch M];have I:t.bad=false:=by rw [j]
 have K:t.bs=bs:=by rw [j]
 have u:∀ G:aB,b4 G (⟨t.aP,t.bs,G',true,t.bad,o⟩:bL cv)=(G,⟨t.aP,t.bs,G',true,t.bad,o⟩):=λG=>by unfold b4;rw [if_pos (.inl rfl)]
 simp only;rw [u,d,K,I]
end
structure uW (b:Nat) (x:aH) (l:Nat):Prop where
 head:∃ a:Nat,x.get (l * 8)=((256 * (1+a):Nat):Int)/\a<=b
 j6:∀ k,1<=k->k<8->b3 (x.get (l * 8+k))
structure o8 (n b:Nat) (last:Int) (F:aB):Prop where
 fg:cb F
 hC:F.bP=[]
 lines:F.lines=101
 len:F.nodes.length=n
 mem:∀ (m:Nat) (x:aH),F.nodes[m]?=some x->cQ 101 false x/\x.get 49=0/\x.get 48=q7 last/\x.get 56=last/\x.get 32=last
 fR:∀ x,F.nodes[0]?=some x->∀ l,96<=l->l<101->uW b x l
 DS:F.aU.length=4
 cC:∀ k,k<4->∃ a b,F.aU[k]?=some (e6 n k a b)
theorem zD {j:Nat} {b:Int} {l:cH} (h:(e6 n k a b).ay[j]?=some l):l.pair.a6=[]/\l.pair.words=[]:=by have c:=cj (show (h1 n k 1)[j]?=some l from h);unfold h1 at c;obtain ⟨z,au,rfl⟩:=cD.1 c;exact ⟨rfl,rfl⟩
theorem JD (n k:Nat) (a b:Int):ni n (e6 n k a b)/\t7 (e6 n k a b):=by refine ⟨⟨rfl,rfl,by simp [e6,h1],λj l c v hJ e _=>?_⟩,λj l c=>(zD c).1⟩;rw [(zD c).1] at e;cases e
theorem o8.lp {F:aB} (h:o8 n b last F) (c:Nat):fN c F:=by refine Bo h.fg h.hC (λC f l i=>?_) c;obtain ⟨k,d⟩:=gh.1 f;obtain ⟨a,b,e⟩:=h.cC k (by have:=cz d;rw [h.DS] at this;exact this);rw [d] at e;cases e;obtain ⟨j,g⟩:=gh.1 i;exact (zD g).1
def kh (n y:Nat) (seq:Int) (x:aH):b_:=⟨0,seq,101,h9 n,[],gJ x (eu y)⟩
def kS (n y:Nat) (seq last:Int) (x:aH):Env:=⟨n,101,λl k=>x.get (l * 8+k),λ_=>last,[0],λ_=>kh n y seq x,false⟩
theorem JE (y:Nat):(eu y).Pairwise (·<·):=by
 unfold eu lf;rw [tV];refine (List.pairwise_lt_range.filter _).imp λh=>?_
 omega
theorem rJ {x:aH} {p:aR}:p ∈ gJ x (eu y)↔∃ l,l ∈ eu y/\p=ik (x.eE l):=by unfold gJ;rw [cD];exact ⟨λ⟨l,a,b⟩=>⟨l,a,b.symm⟩,λ⟨l,a,b⟩=>⟨l,a,b.symm⟩⟩
section
variable {n b y:Nat} {last seq:Int} {x:aH}
theorem tA {l:Nat} (h:uW b x l) (f:b<=1000):∃ a:Nat,(ik (x.eE l)).Head=((256 * (1+a):Nat):Int)/\(ik (x.eE l)).Head=x.get (l * 8)/\a<=b/\∀ w ∈ gZ (ik (x.eE l)),b3 w:=by
 obtain ⟨a,c,d⟩:=h.head;have e:(ik (x.eE l)).Head=((256 * (1+a):Nat):Int):=by show n4 .u64 (x.get (l * 8)) 255=_;rw [c];exact JA (by omega)
 refine ⟨a,e,by rw [e,c],d,λw hw=>?_⟩;simp only [gZ,ik,aH.eE,dy,kt,or_false] at hw;rcases hw with rfl | rfl | rfl | rfl | rfl | rfl | rfl
 ·exact wI _
 all_goals exact h.j6 _ (by omega) (by omega)
theorem Og (c:∀ l,96<=l->l<101->uW b x l) (g:b<=1000):∀ p ∈ gJ x (eu y),yk p:=λp i=>by obtain ⟨l,h,rfl⟩:=rJ.1 i;obtain ⟨d,j⟩:=q4 h;obtain ⟨a,e,_,k,f⟩:=tA (c l d (by omega)) g;exact ⟨⟨by omega,by omega⟩,f⟩
theorem Dv (O:1<=n/\n<=3) (Q:y<14) (u:∀ l,96<=l->l<101->uW b x l) (H:b<=1000) (D:0<=last) (c:last<seq) (d:seq<1073741824):dP (kS n y seq last x):=by
 obtain ⟨M,N⟩:=zl y Q;have hlen:(gJ x (eu y)).length=(eu y).length:=by simp [gJ]
 have g:∀ p ∈ gJ x (eu y),∃ l a:Nat,p.bm=(l:Int)/\96<=l/\l<100/\p.Head=((256 * (1+a):Nat):Int)/\p.Head=x.get (l * 8)/\a<=b/\∀ w ∈ gZ p,b3 w:=λp g=>by obtain ⟨l,K,rfl⟩:=rJ.1 g;obtain ⟨c,d⟩:=q4 K;obtain ⟨a,z,A,B,C⟩:=tA (u l c (by omega)) H;exact ⟨l,a,rfl,c,d,z,A,B,C⟩
 have t:∀ p ∈ gJ x (eu y),hh p.bm ((101:Nat):Int)=true:=λp h=>by obtain ⟨l,a,e,c,d,_⟩:=g p h;rw [e];exact decide_eq_true (by omega)
 have f:(gJ x (eu y)).Pairwise λp q=>p.bm<q.bm:=by unfold gJ;rw [tV];exact List.Pairwise.imp (R:=λa b:Nat=>a<b) (λ{a b} h=>show (a:Int)<(b:Int) by omega) (JE y)
 have r:∀ p ∈ gJ x (eu y),hP p=true:=λp h=>by obtain ⟨l,a,e,c,d,j,_,o,_⟩:=g p h;exact JB j (by omega) (by omega)
 have aj:(kh n y seq x).valid=0:=K4 (i:=0) (n:=n) (seq:=seq) (L:=((101:Nat):Int)) (by omega) (by omega) (by omega) (by omega) (by rw [hlen];omega) (by rw [hlen];omega) t f r;have J:db (kS n y seq last x) 0 ((kS n y seq last x).a8 0):=db.QK aj rfl (by omega) rfl rfl (λe=>by
  have e:gJ x (eu y)=[]:=e;rw [e] at hlen;simp at hlen <;> omega) (λp h=>by
  obtain ⟨l,a,e,c,d,j,o,_⟩:=g p h;show p.Head=x.get (p.bm.toNat * 8+0);rw [e,o];rfl) (λs P=>by cases P)
 refine ⟨⟨⟨O.1,by show n<=5;omega⟩,⟨by show 98<=101;omega,by show 101<=256;omega⟩,by show ([0]:d9).Nodup;simp,λi I=>?_⟩,rfl,rfl,λp h=>?_,AD (L:=((101:Nat):Int)) (by omega) (by show 1<=seq/\seq<_;omega) (by show 1<=(gJ x (eu y)).length;rw [hlen];omega) (by show (gJ x (eu y)).length<=12;rw [hlen];omega) t f r,λp h=>?_,λp h=>?_,⟨D,c⟩,λl b6 l2=>?_⟩
 ·have:i ∈ ([0]:d9):=I;simp at this;subst this;exact J
 ·obtain ⟨l,a,e,c,d,j,_,o,_⟩:=g p h;have F:=zL (a:=1+a) (k:=0) (by omega) (by omega);have G:=zM (a:=1+a) (by omega);rw [j,G];show eP _ ((0:Nat):Int)≠_;rw [F];omega
 ·obtain ⟨l,a,e,c,d,j,_,o,E⟩:=g p h;exact E
 ·obtain ⟨l,a,e,c,d,j,_,o,_⟩:=g p h;exact ⟨by omega,by omega⟩
 ·obtain ⟨a,e,_⟩:=(u l b6 l2).head;show x.get (l * 8+0) % 2=0;rw [lz,e];omega
end
theorem K9 {F:aB} {x:aH} (h:o8 n b last F) (Z:1<=n/\n<=3) (Ui:y<14) (Uk:b<=999) (W:0<=last) (X:last<seq) (Y:seq<1073741824) (J:F.nodes[0]?=some x) :
  ∃ cw G',eX F [kV 0 (kh n y seq x)] [] [] 20000=(cw,[⟨0,.inl (kh n y seq x),G',true,false,.inl (0,3)⟩])/\o8 n (b+1) seq cw:=by
 have i:=h.fR x J;have aJ:=Dv Z Ui i (by omega) W X Y;have w:∀ z ∈ F.nodes,cQ 101 false z:=λz au=>by obtain ⟨k,j⟩:=gh.1 au;exact (h.mem k z j).1
 have A:=aJ.bs;obtain ⟨k,G',E,K,f,j⟩:=Hp aJ.e A rfl h.len w λp u=>by obtain ⟨l,E,rfl⟩:=rJ.1 u;obtain ⟨b6,l2⟩:=q4 E;obtain ⟨a,_,e,_⟩:=tA (i l b6 (by omega)) (by omega);rw [lW J,e];show x.get ((l:Int).toNat * 8)=_;rw [fT]
 obtain ⟨Uj,aT,P⟩:=h.cC 0 (by omega);have I:ha 0 (F,kV 0 (kh n y seq x)):=⟨h.fg,h.lp 0,rfl⟩;obtain ⟨M,b',aA⟩:=IN I P h.len h.lines (t:=kV 0 (kh n y seq x)) rfl E [] (most:=20000) (by omega);refine ⟨_,G',aA,?_⟩;have c:=h.fg.eX [kV 0 (kh n y seq x)] [] [] 20000;rw [aA] at c;have d:∀ z ∈ F.nodes,cQ (kS n y seq last x).L false z:=w;have o:∀ (m:Nat) (z:aH),(h3 ((kS n y seq last x).a8 0) F.nodes)[m]?=some z->m<n/\z=(h3 ((kS n y seq last x).a8 0) F.nodes).getD m bp:=λm z au=>⟨by have:=cz au;rw [f] at this;exact this,(lW au).symm⟩
 refine ⟨c,h.hC,h.lines,f,λm z au=>?_,λz au l b6 l2=>?_,by show (F.aU.set 0 _).length=4;rw [je];exact h.DS,λk j=>?_⟩
 ·have H:=K z (cj au);obtain ⟨hm,rfl⟩:=o m z au;obtain ⟨S,T,U,V⟩:=Mk aJ.e A rfl h.len d (m:=m) hm;have s:=h.mem m _ (jF (show m<F.nodes.length by rw [h.len];exact hm));refine ⟨H,?_,?_,T,U⟩
  ·rw [V 49 (by omega) (by omega) (by omega) (by omega)];exact s.2.1
  ·rw [S];unfold q7;rw [if_neg (by omega)];rfl
 ·obtain ⟨_,rfl⟩:=o 0 z au;by_cases q:l ∈ eu y
  ·obtain ⟨a,C,D,N,R⟩:=tA (i l b6 l2) (by omega);have u:ik (x.eE l) ∈ ((kS n y seq last x).a8 0).writes:=rJ.2 ⟨l,q,rfl⟩;have G:(ik (x.eE l)).bm.toNat=l:=fT l;have g:∀ k,k<8->((h3 ((kS n y seq last x).a8 0) F.nodes).getD 0 bp).get (l * 8+k)=(hc (ik (x.eE l))).getD k 0:=λk j=>by have:=N4 aJ.e A rfl h.len d u j;rw [G] at this;exact this
   refine ⟨⟨a+1,?_,by omega⟩,λk Q B=>?_⟩
   ·have:=g 0 (by omega);rw [lz] at this;rw [this];show m6 (ik (x.eE l)).Head=_;rw [C,show 256 * (1+a)=256 * (a+1) by omega,zM (by omega)];omega
   ·rw [g k B];refine R _ ?_;obtain ⟨z,rfl⟩:∃ z,k=z+1:=⟨k - 1,by omega⟩;have r:z<(gZ (ik (x.eE l))).length:=by show z<7;omega
    have:(hc (ik (x.eE l))).getD (z+1) 0=(gZ (ik (x.eE l)))[z]:=by unfold hc;rw [cK,qc,bM r];rfl
    rw [this];exact jw r
  ·have g:∀ k,k<8->((h3 ((kS n y seq last x).a8 0) F.nodes).getD 0 bp).get (l * 8+k)=x.get (l * 8+k):=λk j=>by
    have:=Ml (m:=0) aJ.e A rfl h.len d b6 (λp u e=>by obtain ⟨l',f,rfl⟩:=rJ.1 u;have e:(l':Int).toNat=l:=e;rw [fT] at e;exact q (by rw [<-e];exact f)) j
    rw [lW J] at this;exact this
   obtain ⟨⟨a,C,D⟩,N⟩:=i l b6 l2;have O:=g 0 (by omega);rw [lz] at O;exact ⟨⟨a,by rw [O];exact C,by omega⟩,λk Q B=>by rw [g k B];exact N k Q B⟩
 ·show ∃ a b,(F.aU.set 0 (e6 n 0 M b'))[k]?=some (e6 n k a b);by_cases e:k=0
  ·subst e;exact ⟨M,b',ei (cz P)⟩
  ·rw [gg λD=>e D.symm];exact h.cC k j
def Dw (n:Nat):Bool:=(fmt 101 n).getD 56 0 == 0
theorem Nt (a:1<=n/\n<=3):Dw n=true:=by
 obtain rfl | rfl | rfl:n=1\/n=2\/n=3:=by omega
 all_goals kernel_rfl
theorem K_ (f:1<=n/\n<=3):o8 n 0 0 (aB.fresh n 4 101):=by
 obtain ⟨h,hm⟩:=zB f;have au:=Nt f;simp only [uq,eH,gd,dS,beq_iff_eq] at h;obtain ⟨i,j,o,b,p⟩:=h;simp only [CE,Dw,eH,beq_iff_eq] at hm au;have g:∀ (m:Nat) (x:aH),(aB.fresh n 4 101).nodes[m]?=some x->x=⟨fmt 101 n,false⟩:=λm x e=>by have e:=cj e;exact (List.mem_replicate.1 e).2
 have a:∀ l,96<=l->l<101->∀ k,k<8->(⟨fmt 101 n,false⟩:aH).get (l * 8+k)=yc l k:=λl b6 l2 k d=>by have:=p (l - 96) (by omega) k d;rw [show l - 96+96=l by omega] at this;exact this
 refine ⟨cb.fresh (by omega) (by omega) (by omega),rfl,rfl,by show (aB.fresh n 4 101).nodes.length=n;simp [aB.fresh],λm x e=>?_,λx e l b6 l2=>?_,rfl,λk d=>⟨0,0,?_⟩⟩
 ·rw [g m x e];exact ⟨⟨rfl,i,j,o,(b 0 (by omega)).1,λc _ q=>(b c q).1⟩,hm.2,hm.1,au,(b 0 (by omega)).2⟩
 ·rw [g 0 x e];refine ⟨⟨0,?_,dd _⟩,λk s r=>?_⟩
  ·have:=a l b6 l2 0 (by omega);rw [lz] at this;rw [this];rfl
  ·rw [a l b6 l2 k r];obtain ⟨z,rfl⟩:∃ z,k=z+1:=⟨k - 1,by omega⟩;exact ⟨by show (0:Int)<=0;omega,by show (0:Int)<_;omega⟩
 ·show ((List.range 4).map (jN n))[k]?=_;rw [eL,lA d];rfl
end
section
open dq
def mS (n:Nat):bz:=⟨1,1,101,h9 n,0,2,0⟩
section
attribute [local irreducible] eX
theorem Nu {F:aB} {x:aH} (h:o8 n b last F) (Ul:1<=n/\n<=3) (Un:y<14) (Ur:b<=999) (O:0<=last) (P:last<seq) (Q:seq<1073741824) (R:F.nodes[0]?=some x) (sch:a4) (most:Nat) :
  ∃ B t1 o,eX F [kV 0 (kh n y seq x)] sch [] most=(B,[t1])/\cb B/\B.die 0=(true,o)/\cb o/\∃ T G' v s q,eX o [nj 1 (mS n)] [] [] 20000=(T,[⟨1,.inr (mS n),G',true,false,.inr ⟨0,v,s,q,0⟩⟩])/\last<q/\q<=seq+1/\(v=3->s=seq/\q=seq+1):=by
 have D:=h.fR x R;have aJ:=Dv Ul Un D (by omega) O P Q;obtain ⟨V,aT,Ui⟩:=h.cC 0 (by omega);obtain ⟨b8,U⟩:=JD n 0 V aT;have K:ha 0 (F,kV 0 (kh n y seq x)):=⟨h.fg,h.lp 0,rfl⟩;have M:jy (kS n y seq last x) last (λk=>F.aU[k]?) F ⟨8,q6⟩:=by
  refine ⟨h.fg,h.lines,h.len,λm z au=>?_,λe=>by have:8=0:=e;omega,λz au=>⟨λ_ p Um=>?_,λe=>by have:8=1:=e;omega⟩,λq d e=>(by cases e),⟨_,Ui,b8,λe=>by have:8<=4:=e;omega,λ_=>⟨rfl,U⟩⟩,λk _=>rfl⟩
  ·obtain ⟨E,W,X,Y,Z⟩:=h.mem m z au;exact ⟨E,W,.inl X,.inr ⟨.inr rfl,Y⟩,.inl Z⟩
  ·rw [R] at au;cases au;obtain ⟨l,J,rfl⟩:=rJ.1 Um;obtain ⟨b6,l2⟩:=q4 J;obtain ⟨a,_,e,_⟩:=tA (D l b6 (by omega)) (by omega);rw [e];show x.get ((l:Int).toNat * 8)=_;rw [fT]
 have Uk:od (kS n y seq last x) ⟨8,q6⟩ (kV 0 (kh n y seq x)):=⟨rfl,rfl,λe=>by have:8<=4:=e;omega,λe=>by have:8=6:=e;omega,λ_=>⟨rfl,rfl⟩,.inr (.inr rfl)⟩;obtain ⟨B,t1,E,aA,u,i⟩:=K2 aJ sch most K M Uk;obtain ⟨o,d1,d2,d3,d4,d5,d6⟩:=N2 u i;refine ⟨B,t1,o,aA,u.fg,d1,d2,?_⟩;have hlen:o.nodes.length=n:=by rw [d3];exact i.len
 have f:∀ m,m<n->k2 (kS n y seq last x) last E.bK (o.nodes.getD m bp):=λm hm=>i.mem m _ (by rw [<-d3];exact jF (by omega))
 obtain ⟨k,ns',G',Ls,dE,J,Us,N,w,H⟩:=JZ aJ (c:=1) (by omega) (ns:=o.nodes) hlen (λz au=>by obtain ⟨m,hm⟩:=gh.1 au;rw [d3] at hm;exact (i.mem m z hm).aZ) (f 0 (by omega)).rG
 obtain ⟨Ut,aI,G⟩:=h.cC 1 (by omega);have I:=HN d2 (Bo d2.hT rfl d6 1) ((d5 1 (by omega)).trans G) hlen (d4.trans i.lines) (t:=nj 1 (mS n)) rfl J (most:=20000) (by omega);have r:=K1 (j:=bV (kS n y seq last x) 1) (m:=bb 0) (Ls:=Ls) (clk:=(o.nodes.getD 0 bp).get 32) O P Q ((f 0 (by omega)).lL) (λL Uj=>by
  obtain ⟨m,hm⟩:=gh.1 Uj;have C:m<n:=by have:=cz hm;rw [w] at this;exact this
  have A:=f m C;obtain ⟨_,hw⟩:=H m C;have e:Ls.getD m []=L:=by rw [cK,hm];rfl
  rw [e] at hw;have w0:=hw 0 (by omega) (by omega);have S:=hw 8 (by omega) (by omega);refine ⟨?_,?_⟩
  ·rw [w0,S];rcases A.s0 with e | ⟨e,Up,Uq⟩
   ·exact .inl e
   ·refine .inr ⟨e,?_⟩;rcases A.kz with g | ⟨g,_⟩
    ·exact g
    ·omega
  ·rw [S];exact (A.kz.imp id And.right).symm) (λe=>by rw [e] at w;have:0=n:=w;omega) []
 rw [<-N] at r;obtain ⟨⟨b6,l2⟩,Uo⟩:=r;exact ⟨(eX o [nj 1 (mS n)] [] [] 20000).1,G',_,_,_,Prod.ext rfl I,b6,l2,Uo⟩
end
end
section
open dr

end
section
section
variable {F:aB}
variable {cv:Conv}
end
end
section
open dr
theorem ur {α β:Type} {f:α->β} {l:List α} {y:β} (h:l.map f=[y]):∃ x,l=[x]/\f x=y:=by
 cases l with
 |nil=>cases h
 |cons x l=>
  cases l with
  |nil=>exact ⟨x,rfl,by simpa using h⟩
  |cons y l=>simp at h
section
attribute [local irreducible] eX
theorem A8 {ar:Nat->Tag} {h z:al} {b1:Nat} {X:bl} (J:bX A ar h aM X) (S:ai h z) (N:h.heap.size<=b1/\b1<z.heap.size) (P:cb X.pure) {r:eI} {t:bL conv} (V:gn (λk=>A k\/k=b1) z r t) (E:mh t)
  {aX:an} {pc:Nat} (y:bg z aX r.cells) {sch:a4} {sa:an} {sc:Nat} (D:oa (λk=>A k\/k=b1) z sa (is sch)) (F:∀ x ∈ sch,dO x) (hm:most<=1000000) {cw:aB} {l:bL conv} (aA:eX X.pure [t] sch [] most=(cw,[l])) :
  ba 15 [ptr aM,.slice aX 1 pc,.slice sa sch.length sc,.slice none 0 0,.int .i64 most] z λv u=>∃ la lc c B Y j,v=.slice la 1 lc/\fe A ar h aM (λk=>k=b1) u B Y j/\j.pure=cw/\gn (λk=>B k\/k=b1) u c l/\(∀ K:aV->Prop,(∀ b o,b7 u ⟨b,o,none⟩ 0 c.cells->K ⟨b,o,none⟩)->bB la 1 0 36 K)/\
   u.heap[b1]?=z.heap[b1]?:=by
 have G:fe A ar h aM (λk=>k=b1) z A ar X:=fe.start J S λk Q=>by subst Q;exact N
 have C:bg z aX (h6 [(r,t)]).flatten:=by simpa [h6] using y
 have d:=Cp G.b9 P (ts:=[(r,t)]) (pc:=pc) C (λx g=>by simp at g;rw [g];exact ⟨V,E⟩) (by simp) (sch:=sch) (sa:=sa) (sc:=sc) D F (most:=most) hm;have H:eX X.pure ([(r,t)].map Prod.snd) sch [] most=(cw,[l]):=aA;rw [H] at d;refine aD d ?_;rintro v u U;obtain ⟨B',Z,j,I,s,p,R,M,q⟩:=G.op U;obtain ⟨la,lc,W,rfl,e,w,T,f⟩:=p;obtain ⟨⟨c,t2⟩,rfl,n⟩:=ur e;have n:t2=l:=n;subst n;refine ⟨_,rfl,la,lc,c,B',Z,j,rfl,I,s,f (c,t2) (by simp),λK L=>?_,q b1 rfl⟩;have a:bg u la (([(c,t2)]:List (eI×bL conv)).map λx=>x.1.cells).flatten:=w.rd
 exact ew (cells:=λx:eI×bL conv=>x.1.cells) (λx=>cf.len x.1) (by omega) a (i:=0) rfl rfl rfl λb o O _=>L b o O
end
def o_ (n y:Nat):bL conv:=kV 0 (Fo n y)
theorem JF (i:1<=n/\n<=3) (o:y<14) {x:aH} (j:x=⟨fmt 101 n,false⟩):gJ x (eu y)=(eu y).map px:=by
 obtain ⟨h,_⟩:=zB i;simp only [uq,eH,gd,dS,beq_iff_eq] at h;obtain ⟨_,_,_,_,c⟩:=h;unfold gJ;refine ml λl f=>?_
 obtain ⟨b6,l2⟩:=q4 f;have g:∀ k,k<8->x.get (l * 8+k)=yc 0 k:=λk d=>by have:=c (l - 96) (by omega) k d;rw [show l - 96+96=l by omega] at this;rw [j];exact this
 have a:=g 0 (by omega);rw [lz] at a;unfold ik aH.eE px;simp only;rw [a,g 1 (by omega),g 2 (by omega),g 3 (by omega),g 4 (by omega),g 5 (by omega),g 6 (by omega),g 7 (by omega)];have e:n4 .u64 256 255=256:=by decide
 have b:IntKind.u64.wrap (0+1)=1:=by decide
 show (⟨(l:Int),n4 .u64 256 255,IntKind.u64.wrap (0+1),0,0,0,0,0,0⟩:aR)=_;rw [e,b]
theorem Nv:∀ p ∈ (eu y).map px,yk p:=λp b=>by obtain ⟨l,_,rfl⟩:=cD.1 b;refine ⟨⟨by show (0:Int)<=256;omega,by show (256:Int)<_;omega⟩,λx a=>?_⟩;simp [gZ,px] at a;rcases a with rfl | rfl<;>exact ⟨by omega,by omega⟩
theorem Hc (n y:Nat):mh (o_ n y):=λ_=>by show ([]:List (List aC)).length<=200;simp
section
attribute [local irreducible] eX
end
end
section
open dr
def qB (n c:Nat):jf:=nj c ⟨(c:Int),1,101,h9 n,0,2,0⟩
end
end Go.Proofs.YtmkljjbioomepaaGreat
