import Derived.Test.YtmkljjbioomepaaGreatf03
import Derived.Test.YtmkljjbioomepaaGreatf10
import Derived.Test.YtmkljjbioomepaaGreatf13
import Derived.Test.YtmkljjbioomepaaGreatProg
import Derived.Test.YtmkljjbioomepaaGreatf02
set_option linter.all false
set_option maxHeartbeats 4000000
set_option maxRecDepth 100000
namespace Go.Proofs.YtmkljjbioomepaaGreat
open Go.Proofs.Tryz Go.bd
variable {A:a6}{B L l:ba}{a bS:an}{c c' i k n n':Nat}{v:Int}{w:aj}
section
def vb (r x:Int):Int:=ka 8 (fc .u64 r (IntKind.u64.wrap x))
def AG (s:Int)(l:ba):Int:=fc .u64 18446744073709551615 (l.foldl vb (fc .u64 18446744073709551615 s))
theorem Ry (s:Int)(B:bh w a (hl l))(A:n=l.length)(G:n<=1000000) :
  a9 231 [.int .u64 s,.slice a n c] w λv w'=>v=.int .u64 (AG s l)/\w'=w:=by
 subst A;refine a' Tryz.func231 ?_;rw[ZK];refine cP mix (λm env u=>∃ (i:Nat) (g:au),m=l.length-i/\i<=l.length/\env=yt a l.length c ((l.take i).foldl vb (fc .u64 18446744073709551615 s)) i g/\u=w) l.length ⟨0,_,rfl,by omega,rfl,rfl⟩ ?_;rintro m env u ⟨i,g,rfl,H,rfl,rfl⟩;rw[WQ];refine a5 (λz=>?_) (λt=>?_)
 ·obtain⟨x,C⟩:∃ x,l[i]?=some x:=⟨_,bW (by omega)⟩;rcases B with he | ⟨b,o,rfl,F⟩
  ·have E:l.length=0:=by
    have:=eh List.length he
    grind[hl,List.length_map]
   omega
  refine dM (by omega) (by omega) ⟨x,by grind[E9],?_⟩;dsimp only;have p:(l.take (i+1)).foldl vb (fc .u64 18446744073709551615 s)=ka 8 (fc .u64 ((l.take i).foldl vb (fc .u64 18446744073709551615 s)) (IntKind.u64.wrap x)):=zE C;generalize fc .u64 ((l.take i).foldl vb (fc .u64 18446744073709551615 s)) (IntKind.u64.wrap x)=q at p;refine cP mix (λr d y=>∃ (k:Nat) (g:au),r=8-k/\k<=8/\d=vd (some ⟨b,o,none⟩) l.length c (ka k q) i k g/\y=u) 8 ⟨0,_,rfl,by omega,rfl,rfl⟩ ?_;rintro r d y ⟨k,D,rfl,I,rfl,rfl⟩;rw[WR,bq (x:=(k:Int)+1) (by omega) (by omega)];refine a5 (λf=>?_) (λf=>?_)
  ·refine dJ (λh=>?_) (λh=>?_)
   ·have e:ka (k+1) q=fc .u64 (cD .u64 (ka k q) 1) 14514072000185962306:=bm h;rw[<-e];exact⟨8-(k+1),by omega,k+1,_,rfl,by omega,rfl,rfl⟩
   ·have e:ka (k+1) q=cD .u64 (ka k q) 1:=aW h;rw[<-e];exact⟨8-(k+1),by omega,k+1,_,rfl,by omega,rfl,rfl⟩
  ·have f:k=8:=by omega
   subst f;rw[X9,bq (x:=(i:Int)+1) (by omega) (by omega),<-p];exact⟨l.length-(i+1),by omega,i+1,_,rfl,by omega,rfl,rfl⟩
 ·have j:i=l.length:=by omega
  subst j;rw[X8,jC];exact⟨rfl,rfl⟩
def sV (v:Int):ba:=(List.range 8).map λ(k:Nat)=>IntKind.u8.wrap (cD .u64 v ((8*k:Nat):Int))
def oH (v:Int)(i:Nat):ba:=((List.range i).map λ(k:Nat)=>IntKind.u8.wrap (cD .u64 v ((8*k:Nat):Int)))++List.replicate (8-i) 0
theorem Oc (h:i<8):(oH v i).set i (IntKind.u8.wrap (cD .u64 v ((8*i:Nat):Int)))=oH v (i+1):=by
 unfold oH;rw[o1,lG,List.set_append];simp only[jc,rH,Nat.lt_irrefl,if_false,rC];obtain⟨m,hm⟩:∃ m,8-i=m+1:=⟨7-i,by omega⟩
 grind
theorem Od (h:i<=8):(oH v i).length=8:=by grind[oH]
theorem QE (l:ba)(i:Nat)(x:Int):(hl l).set i (.int .u8 x)=hl (l.set i x):=by simp[hl]
theorem Rz (w:aj)(x:Int):a9 232 [.int .u64 x] w λv w'=>∃ b,v=.slice (some ⟨b,0,none⟩) 8 8/\ai w w'/\bh w' (some ⟨b,0,none⟩) (hl (sV x)):=by
 refine a' Tryz.func232 ?_;rw[ZL];refine⟨by omega,by omega,by omega,by omega,λb w1 r hw=>?_⟩;obtain⟨c,f⟩:=bo r hw;have c:aq w1 b (hl (oH x 0)) 5:=c;clear hw;refine cP mix (λm env u=>∃ (i:Nat) (n:au),m=8-i/\i<=8/\env=x' x (some ⟨b,0,none⟩) (Int.toNat 8) (Int.toNat 8) i n/\ai w u/\aq u b (hl (oH x i)) 5) 8 ⟨0,_,rfl,by omega,rfl,f,c⟩ ?_;rintro m env u ⟨i,n,rfl,t,rfl,g,d⟩;rw[WS];refine a5 (λl=>?_) (λs=>?_)
 ·have a:i<8:=by omega
  rw[bq (x:=(8:Int)*i) (by omega) (by omega),jx (x:=(8:Int)*i) (by omega) (by omega),bq (x:=(i:Int)+1) (by omega) (by omega)];refine⟨by omega,dM (by omega) (by grind) ?_⟩;have p:0+(i:Int).toNat*1=i:=by omega
  rw[p];refine nX d (o:=i) (by grind[hl,List.length_map,Od]) λz h j=>?_
  have q:(8:Int)*i=((8*i:Nat):Int):=by omega
  rw[q,QE,Oc a]at h;have y:=f.size;exact⟨8-(i+1),by omega,i+1,_,rfl,by omega,rfl,g.trans j λk l e=>by omega,h⟩
 ·have a:i=8:=by omega
  subst a;rw[X_];refine⟨b,rfl,g,?_⟩;have e:oH x 8=sV x:=by simp[oH,sV]
  rw[e]at d;exact e6 d (by grind)
def th (l:ba):Int:=l.foldl (λs x=>AG s (sV x)) 0
theorem Oe (t:bh w a (us l))(s:n=l.length)(y:n<=1000000) :
  a9 191 [.slice a n c] w λv w'=>v=.int .u64 (th l)/\ai w w':=by
 subst s;refine a' Tryz.func191 ?_;rw[Z6];refine cP mix (λm env u=>∃ (i:Nat) (k:au),m=l.length-i/\i<=l.length/\env=yp a l.length c (th (l.take i)) i k/\ai w u) l.length ⟨0,_,rfl,by omega,rfl,ao.refl _ _⟩ ?_;rintro m env u ⟨i,k,rfl,z,rfl,d⟩;rw[W0];refine a5 (λr=>?_) (λq=>?_)
 ·obtain⟨x,j⟩:∃ x,l[i]?=some x:=⟨_,bW (by omega)⟩;refine j8 (t.new d) j rfl rfl λb o p=>⟨_,p u (ao.refl _ _),?_⟩
  refine aE (Rz u x) ?_;rintro v bp ⟨b1,rfl,f,g⟩;refine⟨_,_,_,rfl,?_⟩;refine aE (Ry _ g (by simp[sV]) (by omega)) ?_;rintro v b3 ⟨rfl,h⟩;obtain rfl:bp=b3:=h.symm;refine⟨_,rfl,?_⟩;rw[bq (x:=(i:Int)+1) (by omega) (by omega)];have e:th (l.take (i+1))=AG (th (l.take i)) (sV x):=zE j;rw[<-e];exact⟨l.length-(i+1),by omega,i+1,_,rfl,by omega,rfl,d.new f⟩
 grind[Yj,List.take_length]
theorem Of {l':ba}(C:bh w a (us l))(p:bh w bS (us l'))(B:n=l.length)(k:n'=l'.length)(G:n<=1000000) :
  a9 145 [.slice a n c,.slice bS n' c'] w λv w'=>v=.bool (decide (l=l'))/\ai w w':=by
 subst B k;refine a' Tryz.func145 ?_;rw[Yt];refine dw (λh=>⟨?_,ao.refl _ _⟩) (λz=>?_)
 ·have:l≠l':=λe=>h (by rw[e])
  grind
 have z:l.length=l'.length:=by omega
 refine cP mix (λm env u=>∃ (i:Nat) (s:au),m=l.length-i/\i<=l.length/\env=x8 a l.length c bS l'.length c' i s/\ai w u/\l.take i=l'.take i) l.length ⟨0,_,rfl,by omega,rfl,ao.refl _ _,rfl⟩ ?_;rintro m env u ⟨i,s,rfl,H,rfl,f,D⟩;rw[UG];refine a5 (λA=>?_) (λt=>?_)
 ·obtain⟨x,E⟩:∃ x,l[i]?=some x:=⟨_,bW (by omega)⟩;obtain⟨fh,q⟩:∃ x,l'[i]?=some x:=⟨_,bW (by omega)⟩;rintro bp g;have d:ai u bp:=by rw[g];exact cC _
  clear g;refine⟨λy=>ai bp y,ao.refl _ _,?_⟩;refine j8 (C.new (f.new d)) E rfl rfl λb o j=>⟨_,λy r=>j y r,?_⟩
  refine j8 (p.new (f.new d)) q rfl rfl λb o j=>⟨_,λy r=>j y r,dw (λe=>⟨?_,f.new d⟩) (λe=>?_)⟩
  ·have:l≠l':=λF=>e (by grind)
   grind
  ·rw[bq (x:=(i:Int)+1) (by omega) (by omega)];refine⟨l.length-(i+1),by omega,i+1,_,rfl,by omega,rfl,f.new d,?_⟩
   grind[List.take_add_one]
 grind[WP,List.take_length,List.take_of_length_le,decide_eq_true]
theorem Og (r s:aD):Go.gg.fW r.cells s.cells=true↔r=s:=by obtain⟨a,b,b8,c,d,e,f,g,h⟩:=r;obtain⟨g',b1,az,i,j,k,l,n,o⟩:=s;simp[aD.cells,Go.gg.fW,Go.gg.pE]
theorem LD (r s:aD){K:Bool->Prop}(f:∀ b,(b=true↔r=s)->K b):od prog eo r.val s.val K:=by
 refine⟨Go.gg.fW r.cells s.cells,λw=>?_,f _ (Og r s)⟩;have d:Go.gg.jD [false,false,false,false,false,false,false,false,false] r.cells s.cells:=by obtain⟨g,h,b8,i,j,k,l,n,o⟩:=r;obtain⟨g',b1,az,p,q,t,u,z,A⟩:=s;exact⟨rfl,rfl,rfl,rfl,rfl,rfl,rfl,rfl,rfl,trivial⟩
 have c:=Go.gg.ur 8 eo _ N9 10000 (by omega) r.cells s.cells d w;unfold Go.gg.k0 at c;rw[bm Qs]at c;generalize Go.gg.fW r.cells s.cells=e at c;have a:(Op.equalIn 10000 eo (.agg r.cells.toArray) (.agg s.cells.toArray)).run prog w=.ok e w:=c;exact⟨λop x y=>run_eqGuard_agg w op eo x y _ _ No,by rw[aD.val,aD.val,run_eql_struct,a];rfl,by rw[aD.val,aD.val,run_neq_struct,a];rfl⟩
theorem Oh {l l':List aD}(C:bh w a (ef l).flatten)(p:bh w bS (ef l').flatten)(B:n=l.length)(k:n'=l'.length)(G:n<=1000000) :
  a9 111 [.slice a n c,.slice bS n' c'] w λv w'=>(∃ b,v=.bool b/\(b=true↔l=l'))/\ai w w':=by
 subst B k;refine a' Tryz.func111 ?_;rw[Ys];refine dw (λh=>⟨⟨false,rfl,?_⟩,ao.refl _ _⟩) (λz=>?_)
 ·grind
 have z:l.length=l'.length:=by omega
 refine cP mix (λm env u=>∃ (i:Nat) (s:au),m=l.length-i/\i<=l.length/\env=x7 a l.length c bS l'.length c' i s/\ai w u/\l.take i=l'.take i) l.length ⟨0,_,rfl,by omega,rfl,ao.refl _ _,rfl⟩ ?_;rintro m env u ⟨i,s,rfl,H,rfl,e,D⟩;rw[UF];refine a5 (λA=>?_) (λt=>?_)
 ·obtain⟨x,E⟩:∃ x,l[i]?=some x:=⟨_,bW (by omega)⟩;obtain⟨fh,q⟩:∃ x,l'[i]?=some x:=⟨_,bW (by omega)⟩;rintro bp f;have d:ai u bp:=by rw[f];exact cC _
  clear f;refine⟨λy=>ai bp y,ao.refl _ _,?_⟩;refine io (cells:=aD.cells) aD.len (by omega) (C.new (e.new d)) E rfl rfl λb o j=>?_
  refine aD.aT x ⟨λy r=>jk (j y r),?_⟩;refine io (cells:=aD.cells) aD.len (by omega) (p.new (e.new d)) q rfl rfl λb o j=>?_
  refine aD.aT fh ⟨λy r=>jk (j y r),?_⟩;refine LD x fh λb F=>?_
  refine ek (λg=>⟨⟨false,rfl,?_⟩,e.new d⟩) (λg=>?_)
  ·grind
  ·rw[bq (x:=(i:Int)+1) (by omega) (by omega)];refine⟨l.length-(i+1),by omega,i+1,_,rfl,by omega,rfl,e.new d,?_⟩
   grind[List.take_add_one]
 grind[WO,List.take_length,List.take_of_length_le]
end
section
def p4 (h:Int):Bool:=((ee .u64 h 255:Int) == 0)
def vq (h:Int):Int:=if cD .u64 h 8<1\/IntKind.u64.wrap (cD .u64 h 8+1)>=281474976710656 then 2 else 0
theorem RA (w:aj)(h:Int):a9 189 [.int .u64 h] w λv w'=>(∃ x,v=.tuple #[.int .u64 x,.int .i64 (vq h)])/\w'=w:=by refine a' Tryz.func189 ?_;rw[JP];unfold vq;refine a5 (λa=>⟨⟨0,by grind⟩,rfl⟩) (λa=>a5 (λb=>⟨⟨0,by grind⟩,rfl⟩) (λb=>⟨⟨_,by rw[aW (λe=>e.elim a b)]⟩,rfl⟩))
theorem Fp (w:aj)(h:Int):a9 190 [.int .u64 h] w λv w'=>v=.bool (p4 h)/\w'=w:=by refine a' Tryz.func190 ?_;rw[Y6];exact⟨rfl,rfl⟩
theorem RB (w:aj)(line lines:Int):a9 188 [.int .i64 line,.int .i64 lines] w λv w'=>v=.bool (hv line lines)/\w'=w:=by
 refine a' Tryz.func188 ?_;rw[ZJ];unfold hv
 grind
def pO:aD:=⟨0,0,0,0,0,0,0,0,0⟩
def kX (W:List aD)(i:Nat):Bool:=(decide (i=0) || decide ((W.getD (i-1) pO).bw<(W.getD i pO).bw)) && (p4 (W.getD i pO).Head && (vq (W.getD i pO).Head == 0))
def lB (seq lines:Int)(W:List aD):Int:=
 if lines<98\/256<lines then 18
 else if seq<1\/1073741824<=seq\/W.length<1\/12<W.length then 1
 else if¬ ∀ k,k<W.length->hv (W.getD k pO).bw lines=true then 2
 else if¬ ∀ k,k<W.length->kX W k=true then 1 else 0
theorem ER {r:cX}{W:List aD}(a7:bh w r.de (ef W).flatten)(M:r.dj=W.length)(lines:Int) :
  a9 144 [r.val,.int .i64 lines] w λv w'=>v=.int .i64 (lB r.Seq lines W)/\ai w w':=by
 refine a' Tryz.func144 ?_;rw[X7];rintro b1 w1 ae X;obtain⟨f,n⟩:=bo ae X;have f:aq w1 b1 r.cells 144:=f;clear X;generalize bJ:(λ(v:bl) (w':aj)=>v=.int .i64 (lB r.Seq lines W)/\ai w w')=R;have j:∀ (x:Int) (u:aj),x=lB r.Seq lines W->ai w u->R (.int .i64 x) u:=λx u bb t=>by grind
 have bb:∀ (b:Bool) (a:au),b=decide (lines<98\/256<lines)->Go.bd.W prog (sub (ay f144) [1,0,1]) (xL lines ⟨b1,0,none⟩ b a) (aM (λenv w=>Go.bd.W prog (sub (ay f144) [1,1]) env (cS prog f144 R) w) (cS prog f144 R)) w1:=by
  intro b a S;refine eL (P:=prog) (fn:=f144) (R:=R) (λ_ _=>rfl) ?_;rw[U'];refine ek (λh=>j _ _ ?_ n) (λh=>cb ?_)
  ·rw[S,jA]at h;unfold lB
   grind
  have bk:¬ (lines<98\/256<lines):=by grind
  rw[Ul,ms];refine eL (P:=prog) (fn:=f144) (R:=R) (λ_ _=>rfl) ?_;rw[Va];have ad:∀ (b:Bool) (a:au) (Q:Exit->au->aK),(∀ env z,Q .ret env z=cS prog f144 R .ret env z)->b=decide (r.Seq<1\/1073741824<=r.Seq\/W.length<1\/12<W.length)->(b=false->∀ a,Q .normal (xM lines ⟨b1,0,none⟩ a) w1)->Go.bd.W prog (sub (ay f144) [1,1,0,1]) (sy lines ⟨b1,0,none⟩ b a) Q w1:=by
   intro b a Q c4 S aR;refine eL (P:=prog) (fn:=f144) (R:=R) c4 ?_;rw[Vb];refine ek (λh=>j _ _ ?_ n) (λh=>aR h _);rw[S,jA]at h;unfold lB
   grind
  have bm:(decide (r.Seq<1\/1073741824<=r.Seq\/W.length<1\/12<W.length)=false)->∀ a,Go.bd.W prog (sub (ay f144) [1,1,1]) (xM lines ⟨b1,0,none⟩ a) (cS prog f144 R) w1:=by
   intro ag a;have ag:¬ (r.Seq<1\/1073741824<=r.Seq\/W.length<1\/12<W.length):=by grind
   refine eL (P:=prog) (fn:=f144) (R:=R) (λ_ _=>rfl) ?_;rw[U1];refine cP mix (λm env u=>∃ (i:Nat) (a:au),m=W.length-i/\i<=W.length/\env=xN lines ⟨b1,0,none⟩ i a/\ai w1 u/\∀ k,k<i->hv (W.getD k pO).bw lines=true) W.length ⟨0,_,rfl,by omega,rfl,ao.refl _ _,λk aI=>by omega⟩ ?_;rintro m env u ⟨i,a,rfl,bx,rfl,p,a4⟩;refine eL (P:=prog) (fn:=f144) (R:=R) (λ_ _=>rfl) ?_;rw[Um];have J:=ai.ak p f;have aT:=a7.new (n.new p);refine⟨_,_,_,J.cell (i:=1) rfl,a5 (λl=>?_) (λT=>?_)⟩
   ·have l:i<W.length:=by omega
    obtain⟨x,G⟩:∃ x,W[i]?=some x:=⟨_,bW l⟩;refine⟨_,_,_,J.cell (i:=1) rfl,?_⟩;refine ei (cells:=aD.cells) aD.len (by omega) aT G rfl M λb o _ D=>⟨_,D 0 _ rfl,?_⟩
    refine aE (RB u _ _) ?_;rintro v bp ⟨rfl,aW⟩;obtain rfl:u=bp:=aW.symm;refine⟨_,rfl,ek (λh=>j _ _ ?_ (n.new p)) (λh=>?_)⟩
    ·unfold lB
     grind
    ·rw[bq (x:=(i:Int)+1) (by omega) (by omega)];refine cb ⟨W.length-(i+1),by omega,i+1,_,rfl,by omega,rfl,p,λk aI=>?_⟩
     grind
   ·have E:i=W.length:=by omega
    subst E;refine j9 (j0 (cb ?_));refine eL (P:=prog) (fn:=f144) (R:=R) (λ_ _=>rfl) ?_;rw[VQ];refine cP mix (λm env z=>∃ (i:Nat) (a:au),m=W.length-i/\i<=W.length/\env=u0 ⟨b1,0,none⟩ i a/\ai u z/\∀ k,k<i->kX W k=true) W.length ⟨0,_,rfl,by omega,rfl,ao.refl _ _,λk aI=>by omega⟩ ?_;rintro m env z ⟨i,a,rfl,bx,rfl,F,bG⟩;refine eL (P:=prog) (fn:=f144) (R:=R) (λ_ _=>rfl) ?_;rw[Un];have q:=n.new (p.new F);have K:=ai.ak F J;have V:=a7.new q;refine⟨_,_,_,K.cell (i:=1) rfl,a5 (λl=>?_) (λT=>?_)⟩
    ·have l:i<W.length:=by omega
     obtain⟨x,G⟩:∃ x,W[i]?=some x:=⟨_,bW l⟩;refine⟨_,_,_,K.cell (i:=1) rfl,?_⟩;refine ei (cells:=aD.cells) aD.len (by omega) V G rfl M λb o _ D=>⟨_,D 1 _ rfl,?_⟩
     refine aE (RA z _) ?_;rintro v bH ⟨⟨y,rfl⟩,Z⟩;obtain rfl:z=bH:=Z.symm;refine⟨_,_,rfl,?_⟩;dsimp only;rw[Uo];refine eL (P:=prog) (fn:=f144) (R:=R) (λ_ _=>rfl) ?_;rw[VR];have O:∀ (B:aj) (b:Bool) (a:au) (Q:Exit->au->aK),(∀ env z,Q .ret env z=cS prog f144 R .ret env z)->ai z B->b=!kX W i->(kX W i=true->∀ a,Q .normal (xO ⟨b1,0,none⟩ i a) B)->Go.bd.W prog (sub (ay f144) [1,1,1,1,0,1,0,0,1,0,0,1,1]) (qP ⟨b1,0,none⟩ i b a) Q B:=by
      intro B b a Q c4 H S aR;refine eL (P:=prog) (fn:=f144) (R:=R) c4 ?_;rw[VT];refine ek (λh=>j _ _ ?_ (q.new H)) (λh=>aR (by grind) _);rw[S]at h;have h:kX W i=false:=by grind
      unfold lB
      grind
     have a1:∀ (B:aj) (a:au),ai z B->kX W i=true->Go.bd.W prog (sub (ay f144) [1,1,1,1,0,1,0,0,1,1]) (xO ⟨b1,0,none⟩ i a) (aV prog f144 R (aM (λN w'=>∃ m,m<W.length-i/\∃ (i:Nat) (a:au),m=W.length-i/\i<=W.length/\N=u0 ⟨b1,0,none⟩ i a/\ai u w'/\∀ k,k<i->kX W k=true) (aL 2 (aM (λenv w=>Go.bd.W prog (sub (ay f144) [1,1,1,1,1]) env (aV prog f144 R (aV prog f144 R (cS prog f144 R))) w) (aV prog f144 R (aV prog f144 R (cS prog f144 R))))))) B:=by
      intro B a H bK;rw[pm];rw[bq (x:=(i:Int)+1) (by omega) (by omega)];refine cb ⟨W.length-(i+1),by omega,i+1,_,rfl,by omega,rfl,F.new H,λk aI=>?_⟩
      grind
     rintro L ab;have d:ai z L:=by rw[ab];exact cC _
     clear ab;have eT:W.getD i pO=x:=Gv G;have c:∀ y,ai L y->y.cell? ⟨b1,1,none⟩=some (.slice r.de r.dj r.fG):=λy s=>(ai.ak (d.new s) K).cell (i:=1) rfl
     have g:=V.new d;refine⟨λy=>ai L y,ao.refl _ _,a5 (λA=>?_) (λA=>?_)⟩
     ·have A:0<i:=by omega
      obtain⟨a8,Y⟩:∃ x,W[i-1]?=some x:=⟨_,bW (by omega)⟩;have br:W.getD (i-1) pO=a8:=Gv Y;refine⟨_,_,_,c,?_⟩;rw[bq (x:=(i:Int)-1) (by omega) (by omega)];refine io (cells:=aD.cells) aD.len (by omega) g Y (by omega) M λb o ah=>⟨_,λy s=>ah y s 0 _ rfl,_,_,_,c,?_⟩
      refine io (cells:=aD.cells) aD.len (by omega) g G rfl M λb o aB=>⟨_,λy s=>aB y s 0 _ rfl,?_⟩
      refine a5 (λT=>?_) (λU=>?_)
      ·refine cb (O _ _ _ _ (λ_ _=>rfl) d ?_ (λh=>?_))
       ·grind[kX,decide_eq_false]
       grind[kX,decide_eq_false]
      ·have U:a8.bw<x.bw:=by omega
       refine⟨_,_,_,c,?_⟩;refine io (cells:=aD.cells) aD.len (by omega) g G rfl M λb o C=>⟨_,λy s=>C y s 1 _ rfl,?_⟩
       refine aE (Fp L _) ?_;rintro v aZ ⟨rfl,I⟩;obtain rfl:L=aZ:=I.symm;have aP:kX W i=(p4 x.Head && (vq x.Head == 0)):=by
        unfold kX
        grind
       refine⟨_,rfl,ao.refl _ _,ek (λh=>?_) (λh=>?_)⟩
       ·have h:p4 x.Head=false:=by grind
        refine cb (O _ _ _ _ (λ_ _=>rfl) d (by grind) (λt=>?_))
        grind
       ·have h:p4 x.Head=true:=by grind
        refine cb (O _ _ _ _ (λ_ _=>rfl) d (by grind) (λt a=>k9 (cb (a1 _ _ d t))))
     ·have bD:i=0:=by omega
      refine⟨_,_,_,c,?_⟩;refine io (cells:=aD.cells) aD.len (by omega) g G rfl M λb o C=>⟨_,λy s=>C y s 1 _ rfl,?_⟩
      refine aE (Fp L _) ?_;rintro v aZ ⟨rfl,I⟩;obtain rfl:L=aZ:=I.symm;have aP:kX W i=(p4 x.Head && (vq x.Head == 0)):=by
       unfold kX
       grind
      refine⟨_,rfl,ao.refl _ _,ek (λh=>?_) (λh=>?_)⟩
      ·have h:p4 x.Head=false:=by grind
       refine cb (O _ _ _ _ (λ_ _=>rfl) d (by grind) (λt=>?_))
       grind
      ·have h:p4 x.Head=true:=by grind
       refine cb (O _ _ _ _ (λ_ _=>rfl) d (by grind) (λt a=>k9 (cb (a1 _ _ d t))))
    ·have E:i=W.length:=by omega
     subst E;refine j9 (j0 (cb ?_));refine eL (P:=prog) (fn:=f144) (R:=R) (λ_ _=>rfl) ?_;rw[VS];refine j _ _ ?_ q;unfold lB
     grind
  refine⟨_,f.cell (i:=0) rfl,a5 (λbs=>?_) (λbs=>?_)⟩
  ·exact cb (ad _ _ _ (λ_ _=>rfl) (by grind) (λe=>by cases e))
  refine⟨_,f.cell (i:=0) rfl,a5 (λaf=>?_) (λaf=>?_)⟩
  ·exact cb (ad _ _ _ (λ_ _=>rfl) (by grind) (λe=>by cases e))
  refine⟨_,_,_,f.cell (i:=1) rfl,a5 (λag=>?_) (λag=>?_)⟩
  ·exact cb (ad _ _ _ (λ_ _=>rfl) (by grind) (λe=>by cases e))
  refine⟨_,_,_,f.cell (i:=1) rfl,?_⟩;have e:decide (((r.dj:Nat):Int)>12)=decide (r.Seq<1\/1073741824<=r.Seq\/W.length<1\/12<W.length):=by
   grind
  refine cb (ad _ _ _ (λ_ _=>rfl) e (λt a=>?_));exact cb (bm (e▸t) _)
 grind
end
section
theorem Bm {g:aj}{cap m:Nat}{xs:ba}(l:aZ g 30 1 a n cap (us L)){b1:Nat}(q:aq g b1 (us xs) 30)(hm:m=xs.length)(x:n<=1000000)(y:m<=1000000) :
  ∃ ap b h,(Builtin.append_ #[94,94] 94 #[(.slice a n cap),(.slice (some ⟨b1,0,none⟩) m m)]).run prog g=.ok (.slice ap (n+m) b) h/\aZ h 30 1 ap (n+m) b (us (L++xs))/\ao (aP a) g h/\(∀ k,aP ap k->aP a k\/g.heap.size<=k):=by
 obtain⟨inf,u,ax,f,r⟩:=ft (T:=30) (z:=.int .u64 0) (n:=1) (m:=8) (by kernel_rfl);rw[<-f]at l;obtain⟨ap,b,h,d,p,w,i⟩:=aZ.append (P:=prog) (t:=94) (ty:=94) Tryz.underlying94 u ax (by rw[f];rfl) (by omega) l (s:=some ⟨b1,0,none⟩) (m:=m) (c:=m) (news:=us xs) (by grind[ht]) (e6 q (by grind)) (oJ _) (by omega) (by grind);refine⟨ap,b,h,d,?_,w,λk j=>?_⟩
 ·grind[us]
 ·rcases i with e | e
  ·grind
  ·obtain⟨o,l⟩:=j
   grind
def rb (p:aD):ba:=[IntKind.u64.wrap p.bw,p.Head,p.qo,p.tU,p.tV,p.tW,p.tX,p.tY,p.tZ]
def l8 (seq:Int)(W:List aD):ba:=[IntKind.u64.wrap seq,IntKind.u64.wrap (W.length:Int)]++(W.map rb).flatten
def xc (seq:Int)(W:List aD):ba:=l8 seq W++[th (l8 seq W)]
def l9 (seq:Int)(W:List aD):ba:=if lB seq 256 W=0 then xc seq W else[]
theorem QF (W:List aD):((W.map rb).flatten).length=9*W.length:=by
 induction W with
 |nil=>rfl
 |cons p W a=>grind[List.flatten_cons,List.length_append,List.length_cons,rb]
theorem zN (seq:Int)(W:List aD):(l8 seq W).length=2+9*W.length:=by grind[l8,List.length_append,QF]
def e8 (p:aD):ba:=[p.qo,p.tU,p.tV,p.tW,p.tX,p.tY,p.tZ]
theorem Oi {seq lines:Int}{W:List aD}(h:lB seq lines W=0):W.length<=12:=by
 grind[lB]
theorem P1 {r:cX}{W:List aD}(a7:bh w r.de (ef W).flatten)(T:r.dj=W.length) :
  a9 146 [r.val] w λv w'=>(∃ a n c,v=.slice a n c/\n=(l9 r.Seq W).length/\bh w' a (us (l9 r.Seq W)))/\ai w w':=by
 refine a' Tryz.func146 ?_;rw[JO];rintro b1 w1 ah ab;obtain⟨F,q⟩:=bo ah ab;have F:aq w1 b1 r.cells 144:=F;clear ab;refine cX.aT r ⟨bJ F rfl,?_⟩;refine aE (ER (a7.new q) T 256) ?_;rintro v N ⟨rfl,s⟩;refine⟨_,rfl,dw (λh=>?_) (λar=>?_)⟩
 ·refine⟨⟨none,0,0,rfl,?_,.inl ?_⟩,q.new s⟩
  ·rw[l9,aW h];rfl
  ·rw[l9,aW h];rfl
 have hlen:=Oi ar;have bO:l9 r.Seq W=xc r.Seq W:=by rw[l9,bm ar]
 rw[bO];have t:=ai.ak s F;refine⟨_,t.cell (i:=0) rfl,_,_,_,t.cell (i:=1) rfl,?_⟩;rintro az cf ao ad;obtain⟨ae,a1⟩:=bo ao ad;clear ad;rw[T]at ae;have b7:=q.size;have b9:=s.size;have b4:aZ cf 30 1 (some ⟨az,0,none⟩) 2 2 (us (l8 r.Seq W |>.take 2)):=⟨rfl,.inr ⟨az,_,rfl,ae,dr _,by decide,rfl,rfl⟩⟩;refine cP mix (λm env u=>∃ (i:Nat) (a:an) (n c:Nat) (ag:au),m=W.length-i/\i<=W.length/\env=yz ⟨b1,0,none⟩ a n c i ag/\ai N u/\n=2+9*i/\aZ u 30 1 a n c (us ((l8 r.Seq W).take 2++((W.take i).map rb).flatten))/\(∀ k,aP a k->N.heap.size<=k)) W.length
  ⟨0,_,2,2,_,rfl,by omega,rfl,a1,rfl,by grind,λk af=>by obtain⟨o,cm⟩:=af;grind⟩ ?_
 rintro m env u ⟨i,a,n,c,ag,rfl,cl,rfl,l,bY,p,bR⟩;rw[Xg];have br:=ai.ak l t;have b6:=a7.new ((q.new s).new l);refine⟨_,_,_,br.cell (i:=1) rfl,a5 (λA=>?_) (λbV=>?_)⟩
 ·have A:i<W.length:=by omega
  obtain⟨x,bb⟩:∃ x,W[i]?=some x:=⟨_,bW A⟩;rintro bp Z;have f:ai u bp:=by rw[Z];exact cC _
  clear Z;have cb:∀ y,(aq y b1 r.cells 144/\bh y r.de (ef W).flatten)->y.cell? ⟨b1,1,none⟩=some (.slice r.de r.dj r.fG):=λy E=>E.1.cell (i:=1) rfl
  refine⟨λy=>ai N y,l.new f,_,_,_,λy E=>(ai.ak E t).cell (i:=1) rfl,?_⟩;have K:=a7.new (q.new s);refine io (cells:=aD.cells) aD.len (by omega) K bb rfl T λb o aI=>⟨_,λy E=>aI y E 0 _ rfl,_,_,_,λy E=>(ai.ak E t).cell (i:=1) rfl,?_⟩
  refine io (cells:=aD.cells) aD.len (by omega) K bb rfl T λb o aL=>⟨_,λy E=>aL y E 1 _ rfl,?_⟩
  rintro bN b3 H D;obtain⟨M,g⟩:=bo H D;clear D;refine⟨(l.new f).new g,?_⟩;obtain⟨ap,O,bz,C,X,I,P⟩:=Bm (xs:=[IntKind.u64.wrap x.bw,x.Head]) (m:=2) (p.new (f.new g)) M rfl (by omega) (by omega);have a8:=l.size;have Y:=(f.new g).size;have V:ai N bz:=((l.new f).new g).trans I λk A af=>by grind
  have Q:∀ k,aP ap k->N.heap.size<=k:=λk af=>by
   grind
  refine⟨_,_,_,_,C,V,?_⟩;refine cP mix (λm env z=>∃ (k:Nat) (a:an) (fB c:Nat) (ag:au),m=7-k/\k<=7/\env=yA ⟨b1,0,none⟩ a fB c i k ag/\ai N z/\fB=n+2+k/\aZ z 30 1 a fB c (us (((l8 r.Seq W).take 2++((W.take i).map rb).flatten++[IntKind.u64.wrap x.bw,x.Head])++(e8 x).take k))/\(∀ k,aP a k->N.heap.size<=k)) 7
   ⟨0,_,_,_,_,rfl,by omega,rfl,V,rfl,by grind,Q⟩ ?_
  rintro m env z ⟨k,ch,cq,ck,cd,rfl,S,rfl,B,bK,a4,R⟩;rw[Xh];have bs:=ai.ak B t;refine a5 (λU=>?_) (λbH=>?_)
  ·have U:k<7:=by omega
   refine⟨_,_,_,bs.cell (i:=1) rfl,?_⟩;refine ei (cells:=aD.cells) aD.len (by omega) (K.new B) bb rfl T λb o _ bQ=>?_
   refine iY (by omega) (by omega) ?_;obtain⟨d,bG⟩:∃ d,(e8 x)[k]?=some d:=⟨_,bW (by grind[e8])⟩;have aM:x.cells[2+k]?=some (.int .u64 d):=by
    have:k=0\/k=1\/k=2\/k=3\/k=4\/k=5\/k=6:=by omega
    rcases this with rfl | rfl | rfl | rfl | rfl | rfl | rfl<;>(simp[e8]at bG;simp[aD.cells,bG])
   refine⟨d,?_,?_⟩
   ·grind
   rintro cj cr aB G;obtain⟨bk,J⟩:=bo aB G;clear G;obtain⟨bL,bx,cu,L,b5,aV,bD⟩:=Bm (xs:=[d]) (m:=1) (a4.new J) bk rfl (by omega) (by omega);have ca:=B.size;have b_:=J.size;refine⟨_,_,_,_,L,?_⟩;rw[bq (x:=(k:Int)+1) (by omega) (by omega)];refine⟨7-(k+1),by omega,k+1,_,_,_,_,rfl,by omega,rfl,(B.new J).trans aV λj A bX=>by grind,by omega,?_,λj bX=>?_⟩
   ·grind[e8,List.take_add_one,List.append_assoc]
   grind
  ·have S:k=7:=by omega
   subst S;rw[Yv];rw[bq (x:=(i:Int)+1) (by omega) (by omega)];refine⟨W.length-(i+1),by omega,i+1,_,_,_,_,rfl,by omega,rfl,B,by omega,?_,R⟩;have e:(W.take (i+1))=W.take i++[x]:=by grind[List.take_add_one]
   grind[l8,rb,e8]
 ·have aR:i=W.length:=by omega
  subst aR;rw[Yu];have e:(l8 r.Seq W).take 2++((W.take W.length).map rb).flatten=l8 r.Seq W:=by rw[jC];rfl
  rw[e]at p;refine aE (Oe p.rd (by grind[zN]) (by omega)) ?_;rintro v bp ⟨rfl,f⟩;refine⟨_,rfl,?_⟩;rintro bN b3 H D;obtain⟨M,g⟩:=bo H D;clear D;obtain⟨ap,O,bz,C,X,I,P⟩:=Bm (xs:=[th (l8 r.Seq W)]) (m:=1) (p.new (f.new g)) M rfl (by omega) (by omega);have a8:=l.size;have Y:=(f.new g).size;refine⟨_,_,_,_,C,⟨_,_,_,rfl,?_,X.rd⟩,(q.new s).new (((l.new f).new g).trans I λk A af=>by grind)⟩
  grind[xc,List.length_append,zN,List.length_singleton]
end
section
def nh (B:ba)(i:Nat):aD:=⟨IntKind.i64.wrap (B.getD (2+9*i) 0),B.getD (3+9*i) 0,B.getD (4+9*i) 0,B.getD (5+9*i) 0,B.getD (6+9*i) 0,B.getD (7+9*i) 0,B.getD (8+9*i) 0,B.getD (9+9*i) 0,B.getD (10+9*i) 0⟩
def hx (B:ba):List aD:=(List.range (B.getD 1 0).toNat).map (nh B)
def jO (B:ba):Prop:=B.length<3\/1073741824<=B.getD 0 0\/B.getD 1 0<1\/12<B.getD 1 0\/(B.length:Int)<3+9*B.getD 1 0
instance (B:ba):Decidable (jO B):=by unfold jO;infer_instance
def lI (B:ba)(lines:Int):Prop:=lB (IntKind.i64.wrap (B.getD 0 0)) lines (hx B)=0/\l9 (IntKind.i64.wrap (B.getD 0 0)) (hx B)=B.take (3+9*(B.getD 1 0).toNat)
instance (B:ba) (lines:Int):Decidable (lI B lines):=by unfold lI;infer_instance
def hp (B:ba)(lines:Int):Int×Int×List aD:=
 if lines<98\/256<lines then(18,0,[])
 else if jO B then(14,0,[])
 else if¬ ∀ i,i<(B.getD 1 0).toNat->B.getD (2+9*i) 0<256 then(14,0,[])
 else if lI B lines then(0,IntKind.i64.wrap (B.getD 0 0),hx B)else(14,0,[])
def q' (p:aD)(k:Nat):au:=[.int .i64 p.bw,.int .u64 p.Head]++us ((e8 p).take k++List.replicate (7-k) 0)
theorem P2 {p:aD}{d:Int}(b:k<7)(a:(e8 p)[k]?=some d):(q' p k).set (2+k) (.int .u64 d)=q' p (k+1):=by
 have:k=0\/k=1\/k=2\/k=3\/k=4\/k=5\/k=6:=by omega
 rcases this with rfl | rfl | rfl | rfl | rfl | rfl | rfl<;>(simp[e8]at a;subst a;rfl)
theorem Tp (p:aD):q' p 7=p.cells:=rfl
theorem RC (a:k<7):(e8 (nh B i))[k]?=some (B.getD (4+9*i+k) 0):=by
 grind[e8,nh,List.getElem?_cons_zero,List.getElem?_cons_succ]
structure lJ (Uc:Nat)(w:aj)(r:cX)(x:Int×List aD):Prop where
 seq:r.Seq=x.1
 rd:bh w r.de (ef x.2).flatten
 len:r.dj=x.2.length
 low:∀ k,aP r.de k->Uc<=k
theorem Oj (ca:bh w a (us B))(d8:B.length<=c)(d9:B.length<=1000)(lines:Int) :
  a9 110 [.slice a B.length c,.int .i64 lines] w λv w'=>(∃ r:cX,v=.tuple #[r.val,.int .i64 (hp B lines).1]/\lJ w.heap.size w' r (hp B lines).2)/\ai w w':=by
 refine a' Tryz.func110 ?_;rw[Z5];rintro b1 w1 ch ab;obtain⟨N,A⟩:=bo ch ab;have N:aq w1 b1 (cX.cells ⟨0,none,0,0⟩) 144:=N;clear ab;generalize dZ:(λ(v:bl) (w':aj)=>(∃ r:cX,v=.tuple #[r.val,.int .i64 (hp B lines).1]/\lJ w.heap.size w' r (hp B lines).2)/\ai w w')=R;have bs:∀ (r:cX) (x:Int) (u:aj),x=(hp B lines).1->lJ w.heap.size u r (hp B lines).2->ai w u->R (.tuple #[r.val,.int .i64 x]) u:=λr x u dn b5 dX=>by grind
 have E:∀ (u:aj) (x:Int),ai w1 u->hp B lines=(x,0,[])->dT u ⟨b1,0,none⟩ 0 [.int .i64 0,.slice none 0 0]/\∀ bp,bp=cv u ⟨b1,0,none⟩ 0 [.int .i64 0,.slice none 0 0]->cX.ex λf=>b6 bp ⟨b1,0,none⟩ 0 f.cells/\bp=bp/\R (.tuple #[f.val,.int .i64 x]) bp:=by
  intro u x hu dh;refine dI (vs:=cX.cells ⟨0,none,0,0⟩) (ai.ak hu N) rfl (cX.single _) λbp ax U=>?_
  refine cX.aT ⟨0,none,0,0⟩ ⟨bJ ax rfl,rfl,?_⟩;have I:=A.size;exact bs _ _ _ (by rw[dh]) (by rw[dh];exact⟨rfl,.inl rfl,rfl,λk U=>(oP U).elim⟩) ((A.new hu).trans U λk t e=>by omega)
 have ad:∀ i,i<B.length->∃ x,B[i]?=some x/\B.getD i 0=x:=λi cu=>⟨B[i],bW cu,by grind⟩
 have dn:∀ (b:Bool) (p:au),b=decide (lines<98\/256<lines)->Go.bd.W prog (sub (ay f110) [1,0,1]) (yi a B.length c lines ⟨b1,0,none⟩ b p) (aM (λenv w=>Go.bd.W prog (sub (ay f110) [1,1]) env (cS prog f110 R) w) (cS prog f110 R)) w1:=by
  intro b p b7;refine eL (P:=prog) (fn:=f110) (R:=R) (λ_ _=>rfl) ?_;rw[Yd];refine ek (λh=>E _ _ (ao.refl _ _) ?_) (λh=>cb ?_)
  ·rw[b7,jA]at h;unfold hp
   grind
  have dp:¬ (lines<98\/256<lines):=by grind
  rw[WW,Wx];refine eL (P:=prog) (fn:=f110) (R:=R) (λ_ _=>rfl) ?_;rw[Ye];have dq:¬ jO B->∀ p,Go.bd.W prog (sub (ay f110) [1,1,1]) (yl a B.length c lines ⟨b1,0,none⟩ p) (cS prog f110 R) w1:=by
   intro cM p;have bO:=cM;unfold jO at bO;have bH:3<=B.length:=by omega
   obtain⟨g',cd,rfl⟩:∃ b o,a=some ⟨b,o,none⟩:=by
    rcases ca with he | ⟨b,o,e,_⟩
    ·have:=eh List.length he
     grind[ht]
    grind
   obtain⟨D,aR,cm⟩:=ad 0 (by omega);obtain⟨aL,J,cq⟩:=ad 1 (by omega);obtain⟨n,d_,df⟩:∃ n:Nat,aL=n/\1<=n/\n<=12:=⟨aL.toNat,by omega,by omega,by omega⟩;have dE:3+9*n<=B.length:=by grind
   have dF:(B.getD 1 0).toNat=n:=by grind
   have aW:(hx B).length=n:=by grind[hx,List.length_map,List.length_range]
   have dD:∀ i,i<n->(hx B)[i]?=some (nh B i):=λi cu=>by
    grind[hx,List.getElem?_range]
   refine eL (P:=prog) (fn:=f110) (R:=R) (λ_ _=>rfl) ?_;rw[Yg];refine j8 (ca.new A) aR rfl rfl λb o d=>⟨_,d _ (ao.refl _ _),?_⟩
   refine dP (vs:=cX.cells ⟨IntKind.i64.wrap D,none,0,0⟩) rfl (cX.single _) λaz cY dt bX ah=>?_
   have cj:=bX.lt;have dG:=A.size;have dH:=ah.size;have c6:b1≠az:=λe=>by have:=N.lt;omega
   refine cP mix (λm env u=>∃ (i:Nat) (ap:an) (T:Nat) (p:au),m=n-i/\i<=n/\env=ym (some ⟨g',cd,none⟩) B.length c lines ⟨b1,0,none⟩ ⟨az,0,none⟩ i p/\ai w1 u/\aq u az (cX.cells ⟨IntKind.i64.wrap D,ap,i,T⟩) 144/\aZ u eo 9 ap i T (ef ((hx B).take i)).flatten/\(∀ k,aP ap k->cY.heap.size<=k)/\cY.heap.size<=u.heap.size/\∀ k,k<i->B.getD (2+9*k) 0<256) n
    ⟨0,none,0,_,rfl,by omega,rfl,ah,bX,aZ.nil _ _ _,(λk U=>(oP U).elim),dr _,λk U=>by omega⟩ ?_
   rintro m env u ⟨i,ap,T,p,rfl,cu,rfl,G,O,s,dA,dQ,da⟩;refine eL (P:=prog) (fn:=f110) (R:=R) (λ_ _=>rfl) ?_;rw[WX];have a4:=ca.new (A.new G);refine j8 a4 J rfl rfl λb o d=>⟨_,d _ (ao.refl _ _),?_⟩
   dsimp only;rw[bq (x:=aL) (by omega) (by omega)];refine a5 (λt=>?_) (λbD=>?_)
   ·have t:i<n:=by omega
    rw[bq (x:=(9:Int)*i) (by omega) (by omega),bq (x:=(2:Int)+9*i) (by omega) (by omega)];refine jq (by omega) (by omega) (by omega) (by omega) (by omega) λa8 L=>?_
    have dk:Int.toNat (B.length:Int)-Int.toNat (2+9*(i:Int))=(B.drop (2+9*i)).length:=by grind
    have L:a8=some ⟨g',cd+(2+9*i),none⟩:=by
     grind
    have X:∀ y,ai u y->bh y a8 (us (B.drop (2+9*i))):=λy M=>by
     have:=(a4.new M).drop (2+9*i);rw[L];have e:(us B).drop (2+9*i)=us (B.drop (2+9*i)):=by simp[us]
     grind
    have af:∀ q,2+9*i+q<B.length->(B.drop (2+9*i))[q]?=some (B.getD (2+9*i+q) 0):=λq b9=>by
     grind
    have bR:(B.drop (2+9*i))[0]?=some (B.getD (2+9*i) 0):=af 0 (by omega);have ab:(B.drop (2+9*i))[1]?=some (B.getD (3+9*i) 0):=by grind
    rw[dk];refine j8 (X u (ao.refl _ _)) bR rfl rfl λb o d=>⟨_,d _ (ao.refl _ _),?_⟩
    refine a5 (λae=>E _ _ G ?_) (λae=>?_)
    ·unfold hp
     grind
    have ae:B.getD (2+9*i) 0<256:=by omega
    rintro bp K;have g:ai u bp:=by rw[K];exact cC _
    clear K;refine⟨λy=>ai bp y,ao.refl _ _,?_⟩;refine j8 (X bp g) bR rfl rfl λb o d=>⟨_,λy M=>d y M,?_⟩
    refine j8 (X bp g) ab rfl rfl λb o d=>⟨_,λy M=>d y M,?_⟩
    rintro cZ b3 ck bQ;obtain⟨cQ,l⟩:=bo ck bQ;clear bQ;refine⟨l,?_⟩;refine dI (vs:=q' (nh B i) 0) cQ rfl ?_ λbz b4 cA=>?_
    ·intro v ar;simp[q',us]at ar;rcases ar with rfl | rfl | ⟨_,rfl⟩<;>rfl
    have dJ:=g.size;have dK:=l.size;have C:ai u bz:=(g.new l).trans cA λk t e=>by omega
    have cl:=b4.lt;refine cP mix (λm env z=>∃ (k:Nat) (p:au),m=7-k/\k<=7/\env=yo (some ⟨g',cd,none⟩) B.length c lines ⟨b1,0,none⟩ ⟨az,0,none⟩ i a8 (B.drop (2+9*i)).length (Int.toNat (c:Int)-Int.toNat (2+9*(i:Int))) ⟨cZ,0,none⟩ k p/\ai u z/\aq z cZ (q' (nh B i) k) 73) 7 ⟨0,_,rfl,by omega,rfl,C,b4⟩ ?_;rintro m env z ⟨k,dS,rfl,F,rfl,H,S⟩;refine eL (P:=prog) (fn:=f110) (R:=R) (λ_ _=>rfl) ?_;rw[WZ];refine a5 (λag=>?_) (λc9=>?_)
    ·have ag:k<7:=by omega
     rw[bq (x:=(2:Int)+k) (by omega) (by omega),bq (x:=(k:Int)+1) (by omega) (by omega)];refine j8 (X z H) (af (2+k) (by omega)) (by omega) rfl λb o d=>⟨_,d _ (ao.refl _ _),?_⟩
     refine iY (by omega) (by omega) ?_;have dm:0+2+(k:Int).toNat*1=2+k:=by omega
     rw[dm];refine nX S (o:=2+k) (by simp[q',us,e8];omega) λec bV cy=>?_
     have dz:(e8 (nh B i))[k]?=some (B.getD (2+9*i+(2+k)) 0):=by grind[RC]
     rw[P2 ag dz]at bV;refine cb ⟨7-(k+1),by omega,k+1,_,rfl,by omega,rfl,H.trans cy λj t e=>by grind,bV⟩
    ·have F:k=7:=by omega
     subst F;refine j9 (j0 (cb ?_));refine eL (P:=prog) (fn:=f110) (R:=R) (λ_ _=>rfl) ?_;rw[X5];have aI:=ai.ak H O;refine⟨_,_,_,aI.cell (i:=1) rfl,?_⟩;rw[Tp]at S;refine aD.aT (nh B i) ⟨bJ S rfl,?_⟩;have dR:=H.size;refine Fh (s.new H) (by omega) λdV bb bk ee dv cH F c5=>?_
     have bN:¬ aP ap az:=λh=>by grind
     have bY:=F.ak aI bN;have bx:∀ k,aP bb k->cY.heap.size<=k:=λk U=>by
      grind
     refine nX bY (o:=1) (by show 1<2;decide) λeg cO aV=>?_
     have dM:=F.size;have dN:=aV.size;refine k9 (cb ?_);refine eL (P:=prog) (fn:=f110) (R:=R) (λ_ _=>rfl) ?_;rw[X6];rw[bq (x:=(i:Int)+1) (by omega) (by omega)];refine Gm (cb ⟨n-(i+1),by omega,i+1,bb,bk,_,rfl,by omega,rfl,?_,cO,?_,bx,by omega,λk U=>?_⟩)
     ·exact((G.new H).trans F λk t U=>by grind).trans aV λk t e=>by grind
     ·have e:(hx B).take (i+1)=(hx B).take i++[nh B i]:=by grind[List.take_add_one]
      rw[e];exact aZ.aC aV cH λj c_ e=>by grind
     grind
   ·have cx:i=n:=by omega
    subst cx;refine j9 (j0 (cb ?_));have aB:hp B lines=if lI B lines then(0,IntKind.i64.wrap D,hx B)else(14,0,[]):=by
     unfold hp
     grind
    have Z:lI B lines↔lB (IntKind.i64.wrap D) lines (hx B)=0/\l9 (IntKind.i64.wrap D) (hx B)=B.take (3+9*i):=by
     grind[lI]
    have cN:(hx B).take i=hx B:=rM (by omega);rw[cN]at s;have cf:∀ (z:aj) (p:au) (Q:Exit->au->aK),(∀ env z,Q .ret env z=cS prog f110 R .ret env z)->ai u z->lI B lines->Go.bd.W prog (sub (ay f110) [1,1,1,1,1,1]) (yr ⟨b1,0,none⟩ ⟨az,0,none⟩ p) Q z:=by
     intro z p Q c4 ax a7;refine eL (P:=prog) (fn:=f110) (R:=R) c4 ?_;rw[X4];refine cX.aT ⟨IntKind.i64.wrap D,ap,i,T⟩ ⟨bJ (ai.ak ax O) rfl,?_⟩;refine dI (vs:=cX.cells ⟨IntKind.i64.wrap D,ap,i,T⟩) (ai.ak (G.new ax) N) rfl (cX.single _) λeb S bG=>?_
     refine cX.aT ⟨IntKind.i64.wrap D,ap,i,T⟩ ⟨bJ S rfl,rfl,?_⟩;rw[bm a7]at aB;refine bs _ _ _ (by grind) (by rw[aB];exact⟨rfl,(aZ.aC bG (s.new ax) λj c_ e=>by grind).rd,aW.symm,λj c_=>by grind⟩) ((A.new (G.new ax)).trans bG λk t e=>by grind)
    have c1:∀ (z:aj) (b:Bool) (p:au) (Q:Exit->au->aK),(∀ env z,Q .ret env z=cS prog f110 R .ret env z)->ai u z->b=!decide (lI B lines)->(lI B lines->∀ p,Q .normal (yr ⟨b1,0,none⟩ ⟨az,0,none⟩ p) z)->Go.bd.W prog (sub (ay f110) [1,1,1,1,1,0,1]) (yn ⟨b1,0,none⟩ ⟨az,0,none⟩ b p) Q z:=by
     intro z b p Q c4 ax b7 b9;refine eL (P:=prog) (fn:=f110) (R:=R) c4 ?_;rw[Yi];refine ek (λh=>E _ _ (G.new ax) ?_) (λh=>b9 (by grind) _)
     grind
    rw[WY,Wy];refine eL (P:=prog) (fn:=f110) (R:=R) (λ_ _=>rfl) ?_;rw[Yh];rintro bp K;have g:ai u bp:=by rw[K];exact cC _
    clear K;refine⟨λy=>ai bp y,ao.refl _ _,?_⟩;refine cX.aT ⟨IntKind.i64.wrap D,ap,i,T⟩ ⟨λy M=>bJ (ai.ak (g.new M) O) rfl,?_⟩;refine aE (ER (r:=⟨IntKind.i64.wrap D,ap,i,T⟩) (W:=hx B) (s.rd.new g) aW.symm lines) ?_;rintro v b3 ⟨rfl,l⟩;refine⟨_,rfl,l,dw (λcD=>?_) (λar=>?_)⟩
    ·have cG:¬ lI B lines:=λh=>cD (Z.1 h).1
     exact cb (c1 _ _ _ _ (λ_ _=>rfl) (g.new l) (by grind) (λh=>b_ h cG))
    refine cX.aT ⟨IntKind.i64.wrap D,ap,i,T⟩ ⟨λy M=>bJ (ai.ak (g.new M) O) rfl,_,_,_,λy M=>(ai.ak (g.new M) O).cell (i:=1) rfl,?_⟩;dsimp only;rw[bq (x:=(9:Int)*i) (by omega) (by omega),bq (x:=(3:Int)+9*i) (by omega) (by omega)];refine jq (by omega) (by omega) (by omega) (by omega) (by omega) λa8 L=>?_
    have L:a8=some ⟨g',cd,none⟩:=by
     grind
    refine aE (P1 (r:=⟨IntKind.i64.wrap D,ap,i,T⟩) (W:=hx B) (s.rd.new (g.new l)) aW.symm) ?_;rintro v bz ⟨⟨dU,d',dW,rfl,bL,cK⟩,C⟩;refine⟨_,_,_,rfl,l.new C,?_⟩;have cL:bh bz a8 (us (B.take (3+9*i))):=by
     rw[L];have:=(a4.new ((g.new l).new C)).take (3+9*i);have e:(us B).take (3+9*i)=us (B.take (3+9*i)):=by simp[us]
     grind
    have dy:(l9 (IntKind.i64.wrap D) (hx B)).length<=1000:=by
     grind[l9,xc,List.length_append,zN]
    refine aE (Of cK cL bL (by grind) (by grind)) ?_;rintro v ea ⟨rfl,a1⟩;refine⟨_,rfl,(l.new C).new a1,?_⟩;have es:lI B lines↔l9 (IntKind.i64.wrap D) (hx B)=B.take (3+9*i):=by
     grind
    refine cb (c1 _ _ _ _ (λ_ _=>rfl) (((g.new l).new C).new a1) (by grind) (λb5 p=>?_));exact cb (cf _ _ _ (λ_ _=>rfl) (((g.new l).new C).new a1) b5)
  have br:∀ (b:Bool) (p:au) (Q:Exit->au->aK),(∀ env z,Q .ret env z=cS prog f110 R .ret env z)->b=decide (jO B)->(¬ jO B->∀ p,Q .normal (yl a B.length c lines ⟨b1,0,none⟩ p) w1)->Go.bd.W prog (sub (ay f110) [1,1,0,1]) (yk a B.length c lines ⟨b1,0,none⟩ b p) Q w1:=by
   intro b p Q c4 b7 b9;refine eL (P:=prog) (fn:=f110) (R:=R) c4 ?_;rw[Yf];refine ek (λh=>E _ _ (ao.refl _ _) ?_) (λh=>b9 (by grind) _);rw[b7,jA]at h;unfold hp
   grind
  have V:=ca.new A;have Y:jO B->true=decide (jO B):=λh=>(tF h).symm
  refine a5 (λbH=>?_) (λbH=>?_)
  ·have I:jO B:=.inl (by omega);rw[HJ];refine fq rfl ?_;rw[BI];refine fq rfl ?_;rw[x3];refine fq rfl ?_;exact cb (br _ _ _ (λ_ _=>rfl) (Y I) (λh=>b_ I h))
  obtain⟨D,aR,cm⟩:=ad 0 (by omega);obtain⟨aL,J,cq⟩:=ad 1 (by omega);refine j8 V aR rfl rfl λb o d=>⟨_,d _ (ao.refl _ _),?_⟩
  rw[HJ];refine a5 (λbD=>?_) (λbD=>?_)
  ·have I:jO B:=.inr (.inl (by grind));rw[BI];refine fq rfl ?_;rw[x3];refine fq rfl ?_;exact cb (br _ _ _ (λ_ _=>rfl) (Y I) (λh=>b_ I h))
  refine j8 V J rfl rfl λb o d=>⟨_,d _ (ao.refl _ _),?_⟩
  rw[BI];refine a5 (λbK=>?_) (λbK=>?_)
  ·have I:jO B:=.inr (.inr (.inl (by grind)));rw[x3];refine fq rfl ?_;exact cb (br _ _ _ (λ_ _=>rfl) (Y I) (λh=>b_ I h))
  refine j8 V J rfl rfl λb o d=>⟨_,d _ (ao.refl _ _),?_⟩
  rw[x3];refine a5 (λcr=>?_) (λcr=>?_)
  ·have I:jO B:=.inr (.inr (.inr (.inl (by grind))));exact cb (br _ _ _ (λ_ _=>rfl) (Y I) (λh=>b_ I h))
  refine j8 V J rfl rfl λb o d=>⟨_,d _ (ao.refl _ _),?_⟩
  dsimp only;rw[bq (x:=aL) (by omega) (by omega),bq (x:=9*aL) (by omega) (by omega),bq (x:=3+9*aL) (by omega) (by omega)];have e:decide (((B.length:Nat):Int)<3+9*aL)=decide (jO B):=by
   rw[decide_eq_decide]
   grind[jO]
  refine cb (br _ _ _ (λ_ _=>rfl) e (λb5 p=>?_));exact cb (dq b5 _)
 grind
end
section
open IntKind
variable (w:aj)(R:bg){i:Int}
theorem ZM:bc prog f42 [ab i] R w=(c6 41 #[ab i] w λa b=>cond (!a) (R (ab (-1)) b) (R (ab (i64.wrap ((i64.wrap (6+(i64.wrap (i*15))))*8))) b)):=by kernel_rfl
theorem JQ:bc prog f112 [ab i] R w=(cond (i<1) (R (.tuple #[ag 0,ab 2]) w) (cond (i>=1073741824) (R (.tuple #[ag 0,ab 2]) w) (R (.tuple #[ag (iA .u64 (hk .u64 (u64.wrap i) 2) 2),ab 0]) w))):=by kernel_rfl
end
section
def jP (L:ba)(lines:Int):Bool×Int×List aD:=((hp (L.drop 8) lines).1 == 0,(hp (L.drop 8) lines).2)
theorem lJ.new {a:Nat}{w w':aj}{r:cX}{x:Int×List aD}(h:lJ a w r x)(b:ai w w'):lJ a w' r x:=⟨h.seq,h.rd.new b,h.len,h.low⟩
theorem ES (x:bh w a (us L))(H:L.length=120)(C:120<=c)(lines:Int) :
  a9 77 [.slice a 120 c,.int .i64 lines] w λv w'=>(∃ r:cX,v=.tuple #[r.val,.bool (jP L lines).1]/\lJ w.heap.size w' r (jP L lines).2)/\ai w w':=by
 refine a' Tryz.func77 ?_;rw[Z4];rintro b1 w1 q n;obtain⟨f,g⟩:=bo q n;have f:aq w1 b1 (cX.cells ⟨0,none,0,0⟩) 144:=f;clear n;refine dw (λh=>b_ rfl h) (λ_=>?_)
 obtain⟨g',G,rfl⟩:∃ b o,a=some ⟨b,o,none⟩:=by
  rcases x with he | ⟨b,o,e,_⟩
  ·have:=eh List.length he
   grind[ht]
  grind
 refine jq (by omega) (by omega) (by omega) (by omega) C λy p=>?_
 have p:y=some ⟨g',G+8,none⟩:=by
  grind
 have z:Int.toNat ((120:Nat):Int)-Int.toNat 8=(L.drop 8).length:=by grind
 have s:bh w1 y (us (L.drop 8)):=by
  have:=(x.new g).drop 8;rw[p];have e:(us L).drop 8=us (L.drop 8):=by simp[us]
  grind
 rw[z];refine aE (Oj s (by grind) (by grind) lines) ?_;rintro v J ⟨⟨r,rfl,d⟩,i⟩;refine cX.aT r ⟨_,rfl,?_⟩;refine dP (vs:=r.cells) rfl (cX.single _) λaz M B t j=>?_
 refine GC (cells:=cX.cells) (ex:=cX.ex) (r:=r) (λK r h=>cX.aT r h) cX.single (ai.ak (i.new j) f) rfl t λN l=>?_
 have I:=g.size;have F:=i.size;refine⟨⟨r,rfl,d.seq,?_,d.len,λk D=>by have:=d.low k D;omega⟩,((g.new i).new j).trans l λk E e=>by grind⟩;have A:=d.rd.new j;rcases A with h | ⟨b,o,e,h⟩
 ·exact .inl h
 ·refine bh.aC l (.inr ⟨b,o,e,h⟩) (.inr ?_);have:=d.low b ⟨o,e⟩;have u:=f.lt;rw[e];show¬ (b=b1);omega
def uC (seq:Int):Int:=if seq<1\/1073741824<=seq then 0 else iA .u64 (hk .u64 (IntKind.u64.wrap seq) 2) 2
def ij (L:ba)(lines:Int):Bool×Int×List aD:=
 if(jP L lines).1=true/\L.getD 0 0=uC (jP L lines).2.1 then jP L lines else(false,0,[])
theorem P3 (w:aj)(seq:Int):a9 112 [.int .i64 seq] w λv w'=>(∃ e,v=.tuple #[.int .u64 (uC seq),.int .i64 e])/\w'=w:=by refine a' Tryz.func112 ?_;rw[JQ];unfold uC;refine a5 (λa=>⟨⟨_,by rw[bm (.inl a)]⟩,rfl⟩) (λa=>a5 (λb=>⟨⟨_,by rw[bm (.inr b)]⟩,rfl⟩) (λb=>⟨⟨_,by rw[aW (λe=>e.elim a b)]⟩,rfl⟩))
theorem Le (G:bh w a (us L))(F:L.length=120)(N:120<=c)(lines:Int) :
  a9 79 [.slice a 120 c,.int .i64 lines] w λv w'=>(∃ r:cX,v=.tuple #[r.val,.bool (ij L lines).1]/\lJ w.heap.size w' r (ij L lines).2)/\ai w w':=by
 refine a' Tryz.func79 ?_;rw[YQ];rintro b1 w1 y t;obtain⟨n,l⟩:=bo y t;have n:aq w1 b1 (cX.cells ⟨0,none,0,0⟩) 144:=n;clear t;have T:=l.size;generalize D:(λ(v:bl) (w':aj)=>(∃ r:cX,v=.tuple #[r.val,.bool (ij L lines).1]/\lJ w.heap.size w' r (ij L lines).2)/\ai w w')=R;have p:∀ (u:aj),ai w1 u->ij L lines=(false,0,[])->dT u ⟨b1,0,none⟩ 0 [.int .i64 0,.slice none 0 0]/\∀ bp,bp=cv u ⟨b1,0,none⟩ 0 [.int .i64 0,.slice none 0 0]->cX.ex λf=>b6 bp ⟨b1,0,none⟩ 0 f.cells/\bp=bp/\R (.tuple #[f.val,.bool false]) bp:=by
  intro u hu Q;refine dI (vs:=cX.cells ⟨0,none,0,0⟩) (ai.ak hu n) rfl (cX.single _) λbp ax q=>?_
  refine cX.aT ⟨0,none,0,0⟩ ⟨bJ ax rfl,rfl,?_⟩;rw[<-D,Q];exact⟨⟨_,rfl,rfl,.inl rfl,rfl,λk q=>(oP q).elim⟩,(l.new hu).trans q λk B e=>by grind⟩
 refine aE (ES (G.new l) F N lines) ?_;rintro v U ⟨⟨r,rfl,d⟩,g⟩;refine cX.aT r ⟨_,rfl,?_⟩;refine dP (vs:=r.cells) rfl (cX.single _) λaz H M x j=>?_
 subst D;refine ek (λh=>p _ (g.new j) ?_) (λh=>?_)
 ·unfold ij
  grind
 have hw:(jP L lines).1=true:=by grind
 refine⟨_,x.cell (i:=0) rfl,?_⟩;refine aE (P3 H _) ?_;rintro v S ⟨⟨e,rfl⟩,C⟩;obtain rfl:H=S:=C.symm;refine⟨_,_,rfl,?_⟩;have I:L[0]?=some (L.getD 0 0):=by grind
 refine j8 (G.new (l.new (g.new j))) I rfl F.symm λb o z=>⟨_,z _ (ao.refl _ _),?_⟩
 rw[d.seq];refine dw (λO=>p _ (g.new j) ?_) (λheq=>?_)
 ·unfold ij
  grind
 have A:ij L lines=jP L lines:=by unfold ij;grind
 refine GC (cells:=cX.cells) (ex:=cX.ex) (r:=r) (λK r h=>cX.aT r h) cX.single (ai.ak (g.new j) n) rfl x λV s=>?_
 rw[A,hw];have P:=g.size;refine⟨⟨r,rfl,d.seq,?_,d.len,λk q=>by have:=d.low k q;omega⟩,((l.new g).new j).trans s λk B e=>by grind⟩;have J:=d.rd.new j;rcases J with h | ⟨b,o,e,h⟩
 ·exact .inl h
 ·refine bh.aC s (.inr ⟨b,o,e,h⟩) (.inr ?_);have:=d.low b ⟨o,e⟩;have E:=n.lt;rw[e];show¬ (b=b1);omega
theorem ET {y q:Nat}{r s:cX}{x fh:Int×List aD}(h:lJ y w r x)(l:lJ q w s fh)(u:x.2.length<=1000000) :
  a9 78 [r.val,s.val] w λv w'=>(∃ b,v=.bool b/\(b=true↔x=fh))/\ai w w':=by
 refine a' Tryz.func78 ?_;rw[Yc];rintro b1 w1 n j;obtain⟨g,c⟩:=bo n j;have g:aq w1 b1 r.cells 144:=g;clear j;rintro az z o k;obtain⟨d,a⟩:=bo o k;have d:aq z az s.cells 144:=d;clear k;have f:=ai.ak a g;refine⟨_,f.cell (i:=0) rfl,_,d.cell (i:=0) rfl,dJ (λhe=>?_) (λhe=>?_)⟩
 ·refine⟨_,_,_,f.cell (i:=1) rfl,_,_,_,d.cell (i:=1) rfl,?_⟩;refine aE (Oh (h.rd.new (c.new a)) (l.rd.new (c.new a)) h.len l.len (by rw[h.len];exact u)) ?_;rintro v B ⟨⟨b,rfl,t⟩,p⟩;refine⟨_,rfl,⟨b,rfl,?_⟩,(c.new a).new p⟩;rw[t];have A:x.1=fh.1:=by rw[<-h.seq,<-l.seq];exact he
  grind
 ·refine⟨⟨false,rfl,λe=>(by cases e),λe=>?_⟩,c.new a⟩;exact b_ (by rw[h.seq,l.seq,e]) he
end
section
theorem Nr (w:aj)(a:c<6):a9 42 [.int .i64 c] w λv w'=>v=.int .i64 ((48+120*c:Nat):Int)/\w'=w:=by
 refine a' Tryz.func42 ?_;rw[ZM];refine aE (Dr w c) ?_;rintro v u ⟨rfl,rfl⟩;refine⟨_,rfl,dm (by grind) ⟨?_,rfl⟩⟩;rw[bq (x:=(c:Int)*15) (by omega) (by omega),bq (x:=6+(c:Int)*15) (by omega) (by omega),bq (x:=(6+(c:Int)*15)*8) (by omega) (by omega)]
 grind
def h9 (x:aO)(c:Nat):ba:=x.read ((48+120*c:Nat):Int) 120
theorem RD {av:bI}{aJ:Nat}{X:bt}(h:b4 A av w aJ X){x:d'}(k:X.nodes[i]?=some x)(o:x.n.down=false)(hw:768<=x.n.words.length)(g:c<6) :
  a9 76 [ptr aJ,.int .i64 i,.int .i64 c] w λv w'=>(∃ a cap,v=.slice a 120 cap/\120<=cap/\bh w' a (us (h9 x.n c))/\(h9 x.n c).length=120)/\ai w w':=by
 refine a' Tryz.func76 ?_;rw[ptr,JN];refine aE (ze h k) ?_;rintro v bp ⟨rfl,e⟩;obtain rfl:w=bp:=e.symm;refine⟨_,rfl,dm rfl ?_⟩;refine aE (Nr w g) ?_;rintro v b3 ⟨rfl,f⟩;obtain rfl:w=b3:=f.symm;refine⟨_,rfl,?_⟩;have b:x.n.e0 ((48+120*c:Nat):Int) 120=0:=by
  unfold aO.e0
  grind
 refine aE (uh (h.node i x k).node ((48+120*c:Nat):Int) 120) ?_;rintro v bz (⟨g,_⟩ | ⟨_,a,cap,rfl,d,j,l⟩)
 ·grind
 have hlen:(x.n.read ((48+120*c:Nat):Int) 120).length=120:=aO.vB b;exact⟨_,_,_,_,rfl,dm rfl ⟨⟨some a,cap,rfl,j.le,j.rd,hlen⟩,d⟩⟩
end
section
def uD (p:aD):Bool:=(cD .u64 p.Head 8 == 1) && (e8 p == [0,0,0,0,0,0,0])
def kY (p q:aD):Bool:=(p.Head == 512) && (e8 p == e8 q)
def kC (p:aD):Bool:=!(ee .u64 p.Head 255 == 0)
def lK (x:aO)(q:aD):aD:=x.eM q.bw.toNat
def vt (c i:Nat)(p q:aD):Bool:=(uD p || kY p q) && ((!uD p || (p.Head == 256 || p.Head == 257+(c:Int))) && (!kC p || decide (i=0)))
def hY (W:List aD)(x:aO):Nat:=(W.filter λq=>kY (lK x q) q).length
def nV (W:List aD)(x:aO):Nat:=(W.filter λq=>kC (lK x q)).length
def r3 (c:Nat)(x:aO):Int:=x.get (32+c)
structure AX (c:Nat)(lines seq:Int)(W:List aD)(ns:List aO):Prop where
 up:∀ x ∈ ns,x.down=false
 eM:∀ (i:Nat) (x:aO),ns[i]?=some x->∀ q ∈ W,vt c i (lK x q) q=true
 whole:(∃ x ∈ ns,0<nV W x)->∀ x ∈ ns,jP (h9 x c) lines=(true,seq,W)
 comm:(∃ x ∈ ns,0<hY W x)->∀ x ∈ ns,ij (h9 x c) lines=(true,seq,W)
 clock:∀ x ∈ ns,r3 c x=0\/r3 c x=seq
 last:∀ (i:Nat) (x tt:aO),ns[i]?=some x->ns[0]?=some tt->0<i->(0<hY W tt\/r3 c x≠0)->hY W x=W.length
 first:∀ tt,ns[0]?=some tt->0<hY W tt->r3 c tt≠0
end
section
abbrev GN:bU:=274
theorem RE {w0 u:aj}{a0 tb:Nat}{r:cE}{bP:aU}{j:cJ}(a:ff w0 u a0 tb r bP j){T:eG}{G:bn}(b4:eJ A w0 u tb T G)(br:f8 T) :
  a9 173 [ptr a0] u (kk A w0 u tb u.heap.size (j' j G)):=by
 refine a' Tryz.func173 ?_;rw[ptr,Yb];rintro b1 bp bk aM;obtain⟨J,I⟩:=bo bk aM;have J:aq bp b1 (bG.cells ⟨0,0⟩) eQ:=J;clear aM;have X:=a.bK I;have bh:=b4.new I;have hlen:=a.job.bT.len;have cm:=I.size;have bD:=J.lt;have bR:=b4.ak.lt;have Z:=a.ct;have cb:=Z.a3;have cd:=Z.tq;have cf:=Z.yU;have bx:=a.job.a3;have bL:=a.mem;have ck:=Z.eS bP (cu bL);have N:eb bP.cB:=by grind[eb]
 have b5:=X.new.size;have ca:sW j=bP:=by
  unfold sW;cases cl:j.v.mem with
  |nil=>grind
  |cons x xs=>grind
 refine⟨_,_,_,X.ak.cell (i:=6) rfl,?_⟩;refine cP mix (λq env z=>∃ (i:Nat) (a2:an) (pc:Nat) (R:an) (U:Nat) (aP:au),q=j.writes.length-i/\i<=j.writes.length/\env=xV ⟨a0,0,none⟩ ⟨b1,0,none⟩ a2 i pc none 0 0 R i U r.de r.dj r.fG r.dj i aP/\oi w0 bp a0 tb r bP j z a2 i pc R U ((j.writes.take i).map (lR j)) ((j.writes.take i).map (·.Head))) j.writes.length
  ⟨0,none,0,none,0,_,rfl,by omega,rfl,⟨X,ao.refl _ _,bO.nil _ _,(λx aV=>by grind),aZ.nil _ _ _,(λk cj=>b_ cj nK),rfl⟩⟩ ?_
 rintro q env z ⟨i,a2,pc,R,U,aP,rfl,ch,rfl,t⟩;rw[UR,hlen];refine a5 (λbH=>?_) (λbs=>?_)
 ·obtain⟨p,aB⟩:∃ p,j.writes[i]?=some p:=⟨_,bW (by omega)⟩;have F:=cu aB;have E:=Z.wl p F;have bN:=Z.I7 p F;have bQ:=a.job.bT.u64 p F;refine ei (cells:=aD.cells) aD.len (by omega) (a.job.bT.rd.new t.du.new) aB rfl rfl λb o Y _=>aD.aT p ⟨Y,?_⟩
  refine dP (vs:=p.cells) rfl (aD.single _) λM bX bm K ad=>?_
  rintro aR e;have w:ai bX aR:=by rw[e];exact cC _
  clear e;have d:=ad.new w;refine⟨λy=>aq y M p.cells eo/\ff w0 y a0 tb r bP j,⟨ai.ak w K,t.du.bK d⟩,aD.aT p ⟨λy B=>bJ B.1 rfl,_,λy B=>B.2.ak.cell (i:=0) rfl,?_⟩⟩;refine aE (z7 aR p bN.1 (by omega)) ?_;rintro v cv ⟨rfl,ag⟩;refine⟨_,_,rfl,?_⟩;rintro b6 Q;have ah:ai cv b6:=by rw[Q];exact cC _
  clear Q;have P:=(d.new ag).new ah;have l:=ai.ak ((w.new ag).new ah) K;have s:=t.du.bK P;refine⟨λy=>aq y M p.cells eo/\ff w0 y a0 tb r bP j,⟨l,s⟩,aU.aT bP ⟨λy B=>bJ B.2.ak rfl,_,λy B=>B.1.cell (i:=0) rfl,_,λy B=>B.1.cell (i:=1) rfl,?_⟩⟩;refine aE (qm b6 E.1 E.2) ?_;rintro v bY ⟨rfl,rfl⟩;refine⟨_,rfl,⟨l,s⟩,?_⟩;rw[bx];have ae:cQ (λ_=>False) bY ⟨3,0,p.bw*8,0,p.Head,ew p.Head j.a3,none,0,0,0,0⟩ ⟨3,0,p.bw*8,0,p.Head,ew p.Head j.a3,[],0,0⟩:=p9 (.inl rfl) rfl (by omega) (λ_=>rfl) (λx aV=>by cases aV) (by simp) bQ (Fj _ _);have f:=tm s N ae;refine aE f ?_;rintro v cx ⟨bV,rfl,H,c⟩;refine aI.aT bV ⟨rfl,⟨ai.ak c l,s.bK c⟩,?_⟩;rintro b7 cy W af;have V:=t.bK P;have C:addr j.v.number bP ⟨3,0,p.bw*8,0,p.Head,ew p.Head j.a3,[],0,0⟩=lR j p:=by grind[lR]
  rw[C]at H;refine V.push c H rfl (by omega) (by omega) (ai.ak c l) (by decide) (by decide) (y:=p.Head) (S:=λy=>aq y M p.cells eo/\ff w0 y a0 tb r bP j) (λL a8 bb=>⟨a8,bb⟩) W af (rd:=λL y=>L.cell? ⟨M,1,none⟩=some (.int .u64 y)) (λL h=>h.cell (i:=1) rfl) λap ac cq b9 cr a1 aW L D=>?_
  rw[bq (x:=(i:Int)+1) (by omega) (by omega)];have a4:(j.writes.take i).map (lR j)++[lR j p]=(j.writes.take (i+1)).map (lR j):=by grind[List.take_add_one]
  have a7:(j.writes.take i).map (·.Head)++[p.Head]=(j.writes.take (i+1)).map (·.Head):=by grind[List.take_add_one]
  rw[a4,a7]at D;exact⟨j.writes.length-(i+1),by omega,i+1,ap,ac,a1,aW,_,rfl,by omega,by rw[<-hlen];rfl,D⟩
 ·have ab:i=j.writes.length:=by omega
  subst ab;simp only[jC]at t;rw[VF];have aL:=a.job.len;refine⟨_,_,_,t.du.ak.cell (i:=5) rfl,?_⟩;refine cP mix (λq env z=>∃ (i:Nat) (a2:an) (pc:Nat) (R:an) (U:Nat) (aP:au),q=j.reads.length-i/\i<=j.reads.length/\env=xW ⟨a0,0,none⟩ ⟨b1,0,none⟩ a2 (j.writes.length+i) pc none 0 0 R (j.writes.length+i) U r.Reads r.k3 r.po r.k3 i aP/\oi w0 bp a0 tb r bP j z a2 (j.writes.length+i) pc R U (j.writes.map (lR j)++(j.reads.take i).map (EQ j)) (j.writes.map (·.Head)++(j.reads.take i).map (·.Head))) j.reads.length
   ⟨0,a2,pc,R,U,_,rfl,by omega,rfl,by grind⟩ ?_
  rintro q env z ⟨i,a2,pc,R,U,aP,rfl,ch,rfl,t⟩;rw[US,aL];refine a5 (λbH=>?_) (λbs=>?_)
  ·obtain⟨p,aB⟩:∃ p,j.reads[i]?=some p:=⟨_,bW (by omega)⟩;have F:=cu aB;have E:=Z.oR p F;refine ei (cells:=eK.cells) eK.len (by omega) (a.job.rd.new t.du.new) aB rfl rfl λb o Y _=>eK.aT p ⟨Y,?_⟩
   refine dP (vs:=p.cells) rfl (eK.single _) λM bX bm K ad=>?_
   rintro aR e;have w:ai bX aR:=by rw[e];exact cC _
   clear e;have d:=ad.new w;have g:=ai.ak w K;have n:=t.du.bK d;refine⟨λy=>aq y M p.cells GN/\ff w0 y a0 tb r bP j,⟨g,n⟩,aU.aT bP ⟨λy B=>bJ B.2.ak rfl,_,λy B=>B.1.cell (i:=0) rfl,?_⟩⟩;refine aE (qm aR E.1 E.2) ?_;rintro v bY ⟨rfl,rfl⟩;refine⟨_,rfl,⟨g,n⟩,?_⟩;have ae:cQ (λ_=>False) bY ⟨1,0,p.bw*8,1,0,0,none,0,0,0,0⟩ ⟨1,0,p.bw*8,1,0,0,[],0,0⟩:=p9 (.inl rfl) rfl (by omega) (λ_=>rfl) (λx aV=>by cases aV) (by simp) gU gU;have f:=tm n N ae;refine aE f ?_;rintro v cx ⟨bV,rfl,H,c⟩;refine aI.aT bV ⟨rfl,⟨ai.ak c g,n.bK c⟩,?_⟩;rintro b7 cy W af;have V:=t.bK d;have C:addr j.v.number bP ⟨1,0,p.bw*8,1,0,0,[],0,0⟩=EQ j p:=by grind[EQ]
   rw[C]at H;refine V.push c H rfl (by omega) (by omega) (ai.ak c g) (by decide) (by decide) (y:=p.Head) (S:=λy=>aq y M p.cells GN/\ff w0 y a0 tb r bP j) (λL a8 bb=>⟨a8,bb⟩) W af (rd:=λL y=>L.cell? ⟨M,1,none⟩=some (.int .u64 y)) (λL h=>h.cell (i:=1) rfl) λap ac cq b9 cr a1 aW L D=>?_
   rw[bq (x:=(i:Int)+1) (by omega) (by omega)];have a4:j.writes.map (lR j)++(j.reads.take i).map (EQ j)++[EQ j p]=j.writes.map (lR j)++(j.reads.take (i+1)).map (EQ j):=by grind[List.take_add_one]
   have a7:j.writes.map (·.Head)++(j.reads.take i).map (·.Head)++[p.Head]=j.writes.map (·.Head)++(j.reads.take (i+1)).map (·.Head):=by grind[List.take_add_one]
   rw[a4,a7]at D;exact⟨j.reads.length-(i+1),by omega,i+1,ap,ac,a1,aW,_,rfl,by omega,by rw[<-aL];rfl,D⟩
  ·have ab:i=j.reads.length:=by omega
   subst ab;simp only[jC]at t;have O:=t.new;refine QD t I a.new (bh.new O) br (ai.ak O J) (by omega) bD bR a.ak.lt _ λv w' ar=>ar
end
section
open IntKind
variable (w:aj)(R:bg){s:an}{a b:Nat}{A:aw}{i k:Int}{j:al}
theorem Kz (M:cE):bc prog f92 [M.val,af s a b] R w=(aR w M.cells.toArray 39 λH Q=>aR Q #[ab 0,ab 0] 171 λA I=>s7 I (ah H 0) λr=>cx 124 #[r.val] I λc K=>cond (c != 0) (a8 K (ah A 0) 0 [ab c,ab 0] λC=>dW C (ah A 0) λm=>C=C/\R (.tuple #[a4,m.val,ad true]) C) (ck K λY B=>pW B (ah H 0) λu=>lY 115 #[af s a b] Y λd L=>B L/\aR L #[ab u.Client,ab u.Seq,ab u.et,ab u.View.Number,af u.View.fr u.View.e_ u.View.fS,af u.Reads u.k3 u.po,af u.de u.dj u.fG,.pointer d,ab 0,ab 0,ad false] 212 λE bf=>B bf/\l0 bf (ah H 3) λn=>Calls prog 125 #[n.val] bf λe S=>aU.ex λo=>∃ (f:Bool),e=.returned (.tuple #[o.val,ad f])/\a8 S (ah E 8) 0 o.cells λN=>WE 126 #[bb E] N λq p=>a8 p (ah A 0) 0 q.cells λj=>mL j (ah E 7) λt=>h4 118 #[.pointer t] j λg h i k v=>cond k (a8 v (ah A 0) 0 [ab 0,ab 0] λx=>dW x (ah A 0) λy=>x=x/\R (.tuple #[af g h i,y.val,ad false]) x) (mL v (ah E 7) λW=>c6 119 #[.pointer W] v λl z=>cond l (a8 z (ah A 0) 0 [ab 6,ab 0] λV=>ck V λU O=>Io O (ah A 0) λP=>a8 U (ah A 0) 0 P.cells λG=>dW G (ah A 0) λF=>G=G/\R (.tuple #[a4,F.val,ad true]) G) (ck z λX Z=>Io Z (ah A 0) λJ=>a8 X (ah A 0) 0 J.cells λD=>dW D (ah A 0) λT=>D=D/\R (.tuple #[a4,T.val,ad true]) D)))):=by kernel_rfl
def xZ (s2:aw)(a:an)(b c:Nat)(d f:Int)(j:al):al:=ae j 0 2 (.pointer (some s2)::ae j 2 14 (af a b c::ab d::ab f::ae j 16 13 []))
def Hy (a:aw)(j:al):al:=ae j 0 2 (.pointer (some a)::ae j 2 30 [])
theorem Yw:bc prog f126 [bb a] R w=(aR w #[ab 0,ab 0] 171 λd e=>aR e #[.func (.func 172) #[bb a] #[],.func (.func 173) #[bb a] #[],.func (.func 174) #[bb a] #[],.func (.func 175) #[bb a] #[],.func (.func 176) #[bb a] #[]] 277 λb c=>cj prog (cN f126 [1,0,1,0,0]) (xZ (ah d 0) (bs b) 5 5 5 0 (jp (ah a 0)::a1 5 (jp (ah a 0)::.func (.func 172) #[bb a] #[]::jp (ah a 0)::.func (.func 173) #[bb a] #[]::jp (ah a 0)::.func (.func 174) #[bb a] #[]::jp (ah a 0)::.func (.func 175) #[bb a] #[]::jp (ah a 0)::.func (.func 176) #[bb a] #[]::a1 13 []))) (aL 0 (aS f126 [1,1] R)) c):=by kernel_rfl
theorem UH (m:al->aK):W prog (sb f126 [1,0,1,0,0]) (xZ A s a b i k j) (aM m (aL 0 (aS f126 [1,1] R))) w=(cond (k<i) (bk s a k 1 λn=>∃ x,w.cell? n=some x/\i_ prog x #[] w λe o=>bG.ex λh=>∃ g,e=.returned (.tuple #[h.val,ad g])/\aR o #[ab 0,ab 0] 171 λf p=>a8 p (ah f 0) 0 h.cells λl=>cond (!g) (dW l (ah f 0) λr=>a8 l A 0 r.cells λd=>dW d A λc=>d=d/\R c.val d) (m (xZ A s a b i (i64.wrap (k+1)) (aB j 0::aB j 1::aB j 2::x::jp (ah f 0)::ad g::ae j 6 10 [ad (k<i),jp n,x,.tuple #[h.val,ad g],x,.tuple #[h.val,ad g],h.val,ad g,ad g,ad (!g),aB j 26,ab (i64.wrap (k+1)),aB j 28])) l)) (W prog (sb f126 [1,1]) (Hy A (ae j 0 16 (af s a b::ab i::ab k::ad (k<i)::ae j 17 12 []))) (bV f126 R) w)):=by kernel_rfl
theorem WT:W prog (sb f126 [1,1]) (Hy A j) (bV f126 R) w=(a8 w A 0 [ab 0,ab 3] λa=>dW a A λb=>a=a/\R b.val a):=by kernel_rfl
end
end Go.Proofs.YtmkljjbioomepaaGreat
