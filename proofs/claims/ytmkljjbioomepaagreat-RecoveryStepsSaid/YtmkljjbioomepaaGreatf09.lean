import Derived.Test.YtmkljjbioomepaaGreatf08
import Derived.Test.YtmkljjbioomepaaGreatf03
set_option linter.all false
set_option maxHeartbeats 4000000
set_option maxRecDepth 100000
namespace Go.Proofs.YtmkljjbioomepaaGreat
open Go.Proofs.Tryz Go.bd
variable {A:a6}{a inc p v x:Int}{b c aJ i k lines n:Nat}{u w w':aj}
section
def h6 (ls:List df):List (Nat×dz):=(ls.filter λl=>decide (0<l.p.bj.length)).map λl=>(l.pb,l.p)
theorem In (l:df)(ls:List df):h6 (l::ls)=if 0<l.p.bj.length then(l.pb,l.p)::h6 ls else h6 ls:=by
 grind[h6]
theorem OK (ls:List df):(h6 ls).map (λp=>p.2.pure)=((ls.map df.pure).map cL.pair).filter λp=>decide (0<p.bj.length):=by
 induction ls with
 |nil=>rfl
 |cons l ls a=>
  rw[In,jT,jT,List.filter_cons];have:l.pure.pair.bj=l.p.bj:=rfl;rw[this,<-a];by_cases h:0<l.p.bj.length
  ·simp[h];rfl
  grind
theorem EW {ls:List df}{x:Nat×dz}(h:x ∈ h6 ls):∃ (j:Nat) (l:df),ls[j]?=some l/\x=(l.pb,l.p)/\0<l.p.bj.length:=by
 simp only[h6,dD,vZ,jA]at h
 grind[List.mem_iff_getElem?]
def o3 (i:Nat)(ls:List df):Tag->Tag
 |.lane c n=>if c=i then(match ls[n]? with
  |some l=>if 0<l.p.bj.length then .hI l.pb else .lane c n
  |none=>.lane c n)else .lane c n
 |t=>t
theorem KZ {ls:List df}{t:Tag}(h:∀ n,t≠.lane i n):o3 i ls t=t:=by
 cases t with
 |lane c n=>
  simp only[o3]
  grind
 | _=>rfl
theorem C0 {ls:List df}{t:Tag}(h:o3 i ls t≠.cF):t≠.cF:=by rintro rfl;exact h rfl
theorem Mm {ls:List df}{l:df}(a:ls[n]?=some l)(b:0<l.p.bj.length):o3 i ls (.lane i n)=.hI l.pb:=by
 grind[o3]
structure C_ (A:a6)(av:bI)(w:aj)(aJ:Nat)(X:bt)(c:b9)(k:Nat)(u:aj)(f9:an)(jN:Nat)(os:List (Nat×dz)):Prop where
 aC:ao (λz=>av z=.cn\/av z=.f_) w u
 cn:aq u aJ (X.cells.set 3 (.slice f9 os.length jN)) lN
 own:aZ u ot 1 f9 os.length jN (os.map λp=>ptr p.1)
 tag:∀ z,aP f9 z->av z=.f_\/w.heap.size<=z
 eq:os++h6 (c.aG.drop k)=X.b2++h6 c.aG
theorem OL {av:bI}{X:bt}(h:b4 A av w aJ X)(ab:n_ X.pure)(ca:X.b2.length<=100000000){c:b9}(bX:X.aY[i]?=some c)
  {j:au} {R:bg} (ck:∀ u x N os,C_ A av w aJ X c c.aG.length u x N os->∀ aR,W prog (sub (ay f22) [1,1,1,1]) (BN (some ⟨X.a0,0+i*7,none⟩) aR) (cS prog f22 R) u) :
  cj prog (.loop (sub (ay f22) [1,1,1,0,1,0,0])) (sM ⟨aJ,0,none⟩ (some ⟨X.a0,0+i*7,none⟩) c.la c.aG.length c.lc c.aG.length 0 j)
   (aL 0 (aM (λenv w=>W prog (sub (ay f22) [1,1,1,1]) env (cS prog f22 R) w) (cS prog f22 R))) w:=by
 have a8:=ab.a3 i c.pure (by grind[bt.pure]);have b_:=ab.nodes;have b6:c.aG.length<=5:=by
  have ch:=a8.aG
  grind[b9.pure]
 have br:∀ ls:List df,(h6 ls).length<=ls.length:=λls=>by grind[h6,List.length_filter_le]
 have bK:=br c.aG;refine cP mix (λm env u=>∃ (k:Nat) (aR:au) (x:an) (N:Nat) (os:List (Nat×dz)),k<=c.aG.length/\m=c.aG.length-k/\env=sM ⟨aJ,0,none⟩ (some ⟨X.a0,0+i*7,none⟩) c.la c.aG.length c.lc c.aG.length k aR/\C_ A av w aJ X c k u x N os) c.aG.length
  ⟨0,_,X.f9,X.jN,X.b2,by omega,by omega,rfl,ao.refl _ _,h.cn,h.f_,λz ax=>.inl (h.j6 z ax),rfl⟩ ?_
 rintro m env u ⟨k,aR,x,N,os,cl,rfl,rfl,bf⟩;rw[Wv];have bJ:os.length<=100000005:=by
  have:=eh List.length bf.eq
  grind
 refine a5 (λV=>?_) (λV=>?_)
 ·have b5:k<c.aG.length:=by omega
  obtain⟨l,bh⟩:∃ l,c.aG[k]?=some l:=⟨c.aG[k],by grind⟩;have F:=h.a3 i c bX;have ad:aZ u lO 2 c.la c.aG.length c.lc (g4 c.aG).flatten:=F.own.aC bf.aC λz ax=>by rw[F.tag z ax];simp
  obtain⟨g,S,_,_,bb,_⟩:=aZ.row ad (lw c.aG) (by omega) (kw bh);have Y:=F.lane k l bh;rw[S];refine dM (by omega) (by omega) ?_;rw[g9];refine⟨_,_,_,_,bb,?_⟩;rintro bR cm a4 af;obtain⟨M,Z⟩:=bo a4 af;refine⟨fU (vs:=l.cells) M (by simp[df.cells]) (by simp[df.cells,single]),?_⟩;intro bL ag;obtain⟨aI,y⟩:=oV (vs:=l.cells) M (by simp[df.cells]) Z (by omega) ag;clear af ag M Z;refine⟨_,aI.cell (i:=0) rfl,?_⟩;have D:ao (λz=>av z=.cn\/av z=.f_) w bL:=bf.aC.new y;have bk:dK A bL l.pb l.p:=Y.pair.aC D (λz ax=>by rw[Y.tag z ax];simp) (λz ax=>h.fb z (by grind));refine aE (zd bk) ?_;rintro v cf ⟨rfl,rfl⟩;have a9:=EI bh;have heq:=bf.eq;rw[a9,In]at heq;rw[<-S];have b:=ai.ak y bf.cn;have q:=bf.own.new y;refine⟨_,rfl,a5 (λcb=>?_) (λcb=>?_)⟩
  ·have J:0<l.p.bj.length:=by omega
   rw[bm J]at heq;intro bN ah;have B:ai cf bN:=by rw[ah];exact cC _
   clear ah;have d:=ai.ak B b;have bs:=ai.ak B aI;have H:=q.new B;have Q:¬ aP x aJ:=λa1=>by
    rcases bf.tag aJ a1 with e | e
    ·rw[h.gO]at e;cases e
    ·have:=h.cn.lt;omega
   have O:¬ aP x bR:=λa1=>by have:=bf.own.lt a1;omega
   refine⟨λz=>ao (aP x) bN z,ao.refl _ _,_,_,_,λz ax=>(ax.ak d Q).cell (i:=3) rfl,_,λz ax=>(ax.ak bs O).cell (i:=0) rfl,?_⟩;rintro bV bO a7 aB;obtain⟨bx,f⟩:=bo a7 aB;clear aB;refine⟨ao.b7 f,?_⟩;obtain⟨cd,bY,bD,K,bW⟩:=ft (T:=103) (z:=.pointer none) (n:=1) (m:=8) (by kernel_rfl);have I:aZ bO ot cd.size x os.length N (os.map λp=>ptr p.1):=by rw[K];exact H.new f
   obtain⟨ap,cT,bG,ae,r,G,aV⟩:=I.append (P:=prog) (t:=106) (ty:=106) Tryz.underlying106 bY bD (by rw[K];rfl) (by omega)
    (s:=some ⟨bV,0,none⟩) (m:=1) (c:=1) (news:=[ptr l.pb]) (by grind) (e6 bx (by simp[ptr])) (by simp[ptr,single]) (by omega) (by grind)
   rw[K]at r;have a:aq bG aJ (X.cells.set 3 (.slice x os.length N)) lN:=G.ak (ai.ak f d) Q;refine⟨ap,_,cT,bG,ae,(ao.b7 f).trans G λ_ _ h=>h,⟨_,a.cell (i:=3) rfl⟩,a.frozen,?_⟩;intro bQ L;have U:ao (λz=>z=aJ) bG bQ:=by rw[L];exact eY _ _ _ _
   have a':aq bQ aJ (X.cells.set 3 (.slice ap (os.length+1) cT)) lN:=by
    rw[L];have:=a.setCell (i:=3) (.slice ap (os.length+1) cT)
    simp_all
   clear L;have E:ai u bO:=(y.new B).new f;have C:∀ z,aP ap z->av z=.f_\/w.heap.size<=z:=by
    intro z ax;rcases aV with e | e
    ·exact bf.tag z (e▸ax)
    ·obtain⟨o,bH⟩:=ax;rw[e]at bH;simp at bH;have:=bf.aC.size;have:=E.size
     grind
   rw[show IntKind.i64.wrap ((k:Int)+1)=((k+1:Nat):Int) by rw[bq (by omega) (by omega)];rfl];refine⟨c.aG.length-(k+1),by omega,k+1,_,ap,cT,os++[(l.pb,l.p)],by omega,rfl,rfl,?_,?_,?_,C,?_⟩
   ·refine((bf.aC.new E).trans G λz V ax=>?_).trans U λz _ e=>.inl (by rw[e];exact h.gO)
    rcases bf.tag z ax with e | e
    ·grind
    ·omega
   ·grind
   ·have:=r.aC U (λz ax e=>?_)
    ·grind
    ·rcases C z ax with aT | aT
     ·rw[e,h.gO]at aT;cases aT
     ·have:=h.cn.lt;omega
   grind
  ·have J:¬ 0<l.p.bj.length:=by omega
   rw[aW J]at heq;rw[show IntKind.i64.wrap ((k:Int)+1)=((k+1:Nat):Int) by rw[bq (by omega) (by omega)];rfl];exact⟨c.aG.length-(k+1),by omega,k+1,_,x,N,os,by omega,rfl,rfl,D,b,q,bf.tag,heq⟩
 grind
theorem Ql (ls:List df):((h6 ls).map Prod.fst).Sublist (ls.map df.pb):=by
 have:(h6 ls).map Prod.fst=(ls.filter λl=>decide (0<l.p.bj.length)).map df.pb:=by simp[h6,Function.comp_def]
 grind[List.filter_sublist]
def p2 (i:Nat)(t:Tag):Prop:=t=.cn\/t=.f_\/t=.aY\/iF i t
open Classical in
theorem b4.die {av:bI}{X:bt}(h:b4 A av w aJ X){c:b9}(f:X.aY[i]?=some c){f9:an}{jN:Nat}
  (d:ao (λz=>av z=.cn\/av z=.f_\/av z=.aY) w w') (P:aq w' aJ (X.cells.set 3 (.slice f9 (X.b2++h6 c.aG).length jN)) lN) (B:aZ w' ot 1 f9 (X.b2++h6 c.aG).length jN ((X.b2++h6 c.aG).map λp=>ptr p.1))
  (Q:∀ z,aP f9 z->av z=.f_\/w.heap.size<=z) {c':b9} (I:c'.aG=[]/\c'.la=none/\c'.lc=0/\c'.gY=none/\c'.raw=[]/\c'.batch=[]) (g:aq w' X.a0 (fY (X.aY.set i c')).flatten jV) :
  ∃ A' χ',Next A A' av χ' w w'/\b4 A' χ' w' aJ {X with aY:=X.aY.set i c',b2:=X.b2++h6 c.aG,f9:=f9,jN:=jN}:=by
 let χ':bI:=λk=>if aP f9 k then .f_ else o3 i c.aG (av k)
 have t1:∀ k,aP f9 k->χ' k=.f_:=λk d=>bm d
 have t2:∀ k,¬ aP f9 k->χ' k=o3 i c.aG (av k):=λk d=>aW d
 have Z:∀ k,k<w.heap.size->χ' k≠.cF->av k≠.cF:=by
  grind[C0]
 have af:∀ k,k<w.heap.size->¬ p2 i (av k)->av k≠.cF->χ' k=av k:=by
  intro k D V _;by_cases g:aP f9 k
  ·grind
  ·rw[t2 k g];exact KZ λn e=>V (.inr (.inr (.inr (by rw[e];rfl))))
 obtain⟨m,aS⟩:=h.move (T:=p2 i) (χ':=χ') (w':=w') (d.mono λk _ f=>by grind[p2]) (by simp[p2,iF]) Z af;have f2:=aZ.cY m h.nodes h.jM (by simp[p2,iF]) (by simp);have E:=h.a3 i c f;have s:∀ k,k<w.heap.size->av k≠.f_->¬ aP f9 k:=λk D ab g=>by
  grind
 have G:∀ (j:Nat) (l:df),c.aG[j]?=some l->av l.pb=.lane i j:=λj l F=>(E.lane j l F).tag _ (.inl rfl)
 refine⟨_,χ',aS,m.mv,λk f=>?_,?_,?_,f2.1,f2.2,λq z ax=>(h.node q z ax).cY m (by simp[p2,iF]) (by simp[p2,iF]),g,?_,λq z ax=>?_,B,t1,λx C=>?_,?_⟩
 ·rcases f with f | f
  ·by_cases g:aP f9 k
   ·exact B.lt g
   ·rw[t2 k g]at f;exact fQ (h.jK (C0 f)) d.size
  ·exact fQ f.1 d.size
 ·grind[bt.cells]
 ·rw[t2 aJ (s aJ h.cn.lt (by rw[h.gO];simp)),h.gO];rfl
 ·show χ' X.a0=_;rw[t2 _ (s _ h.cls.lt (by rw[h.fj];simp)),h.fj];rfl
 ·simp only[kg]at ax;split at ax
  ·rename_i he;subst he;split at ax
   ·simp only[hA]at ax;subst ax;obtain⟨R,L,S,ah,M,N⟩:=I;refine⟨?_,λk d=>?_,λj l F=>?_,λ_=>⟨M,N⟩,λb Y=>?_,?_⟩
    ·rw[R,L,S];exact aZ.nil _ _ _
    ·rw[L]at d;obtain⟨o,ad⟩:=d;cases ad
    ·grind
    ·grind
    ·rw[M,N];exact⟨rfl,λ_ _ _ f=>by grind⟩
   grind
  ·rename_i he;refine(h.a3 q z ax).cY m λt u O=>?_
   rcases O with e | e | e | e
   ·rw[e]at u;cases u
   ·rw[e]at u;cases u
   ·rw[e]at u;cases u
   ·exact F7 he t u (.inr e)
 ·rcases kh.1 C with C | C
  ·exact dK.cY m (h.eC x C).1 (h.eC x C).2 (by simp[p2,iF]) (by simp)
  ·obtain⟨j,l,F,rfl,ae⟩:=EW C;have r:=E.lane j l F;have J:∀ k,l.p.mut l.pb k->k<w.heap.size:=λk d=>h.jK (by rw[r.tag k d];simp)
   have K:∀ k,l.p.mut l.pb k->χ' k=.hI l.pb:=λk d=>by
    rw[t2 k (s k (J k d) (by rw[r.tag k d];simp)),r.tag k d]
    grind[Mm]
   refine⟨?_,K⟩;refine(r.pair.mP (λk D U=>m.old k D U) (λk d=>m.mv k (by grind))).aC d (λk d f=>?_) (λk f=>m.mv k ?_)
   ·rw[r.tag k d]at f
    grind
   grind[o3]
 ·show((X.b2++h6 c.aG).map Prod.fst).Nodup;rw[lG,List.nodup_append];refine⟨h.nodup,(Ql c.aG).nodup ?_,?_⟩
  ·refine aad.2 λa b H g W he=>?_
   simp only[jc]at H g;simp only[List.getElem_map]at he;have u:=G a _ (bW H);have O:=G b _ (bW g)
   grind
  ·intro a H b g he;obtain⟨x,C,rfl⟩:=dD.1 H;obtain⟨y,ag,rfl⟩:=dD.1 g;obtain⟨j,l,F,rfl,ae⟩:=EW ag;have u:=(h.eC x C).2 x.1 (.inl rfl)
   grind
theorem A7 {av:bI}{X:bt}(h:b4 A av w aJ X)(N:n_ X.pure)(M:X.b2.length<=100000000)(c:Int):a9 22 [ptr aJ,.int .i64 c] w λv w'=>
  v=.bool (X.pure.die c).1/\dV A av w aJ (X.pure.die c).2 w' λ_=>True:=by
 refine a' Tryz.func22 ?_;rw[ptr,Zn];refine aE (E8 h c) ?_;rintro v w1 ⟨rfl,rfl⟩;rcases X.sD c with⟨r,U⟩ | ⟨i,x,rfl,r,U⟩
 ·have C:X.pure.die c=(false,X.pure):=by grind[aH.die]
  have F:X.pure.alive c=false:=by grind[aH.alive]
  rw[C,F];exact⟨_,rfl,rfl,dV.same h (ao.refl _ _) trivial⟩
 ·have F:X.pure.alive i=x.alive:=by grind[aH.alive,b9.pure]
  rw[F];refine⟨_,rfl,eu (λZ=>?_) (λab=>?_)⟩
  ·have C:X.pure.die i=(false,X.pure):=by grind[aH.die,b9.pure]
   rw[C];exact⟨rfl,dV.same h (ao.refl _ _) trivial⟩
  refine aE (sX h r) ?_;rintro v Y ⟨rfl,rfl⟩;have C:X.pure.die i=(true,{X.pure with b2:=X.pure.b2++(x.pure.aG.map cL.pair).filter (λp=>decide (0<p.bj.length)),aY:=X.pure.aY.set i {x.pure with alive:=false,aG:=[],batch:=none,waiting:=0} }):=by
   grind[aH.die,b9.pure]
  rw[C];refine⟨_,rfl,_,_,_,h.ih (k:=2) r rfl,?_⟩;refine OL h N M r ?_;intro u W ae os bf ad;rw[Xs];have O:os=X.b2++h6 x.aG:=by
   have:=bf.eq
   grind[List.drop_length,h6]
  subst O;have g:aq u X.a0 (fY X.aY).flatten jV:=bf.aC.ak h.cls (by rw[h.fj];simp);refine⟨⟨_,lx (k:=0) g r rfl⟩,g.frozen,?_⟩;intro P D;obtain⟨a,n⟩:=lg (k:=0) (c':={x with alive:=false}) g r (by omega) (v:=.bool false) (by simp[b9.cells]);have l:P=u.setCell ⟨X.a0,0+i*7+0,none⟩ (.bool false):=D;rw[<-l]at a;have H:ao (λz=>z=X.a0) u P:=by rw[l];exact eY _ _ _ _
  clear D l;refine⟨⟨_,lx (k:=2) a n rfl⟩,a.frozen,?_⟩;intro S t;obtain⟨b,o⟩:=lg (k:=2) (c':={x with alive:=false,aG:=[],la:=none,lc:=0}) a n (by omega) (v:=.slice none 0 0) (by simp[b9.cells]);rw[<-t]at b;have I:ao (λz=>z=X.a0) P S:=by rw[t];exact eY _ _ _ _
  clear t;refine⟨⟨_,lx (k:=3) b o rfl⟩,b.frozen,?_⟩;intro T y;obtain⟨d,q⟩:=lg (k:=3) (c':={x with alive:=false,aG:=[],la:=none,lc:=0,gY:=none,raw:=[],batch:=[]}) b o (by omega) (v:=.slice none 0 0) (by simp[b9.cells]);rw[<-y]at d;have J:ao (λz=>z=X.a0) S T:=by rw[y];exact eY _ _ _ _
  clear y;refine⟨⟨_,lx (k:=4) d q rfl⟩,d.frozen,?_⟩;intro Q B;obtain⟨f,R⟩:=lg (k:=4) (c':={x with alive:=false,aG:=[],la:=none,lc:=0,gY:=none,raw:=[],batch:=[],waiting:=0}) d q (by omega) (v:=.int .i64 0) (by simp[b9.cells]);rw[<-B]at f;have K:ao (λz=>z=X.a0) T Q:=by rw[B];exact eY _ _ _ _
  clear B;rw[kq,kq,kq]at f;have j:ao (λz=>z=X.a0) u Q:=((H.trans I λ_ _ h=>h).trans J λ_ _ h=>h).trans K λ_ _ h=>h
  have s:ao (λz=>av z=.cn\/av z=.f_\/av z=.aY) Y Q:=(bf.aC.mono λz _ ax=>ax.elim .inl λe=>.inr (.inl e)).trans j λz _ e=>.inr (.inr (by rw[e];exact h.fj))
  have L:∀ z,aP W z->z≠X.a0:=λz ax e=>by
   rcases bf.tag z ax with E | E
   ·rw[e,h.fj]at E;cases E
   ·have:=h.cls.lt;omega
  have G:aJ≠X.a0:=λe=>by have:=h.gO;rw[e,h.fj]at this;grind
  obtain⟨A',χ',aS,V⟩:=h.die (c':={x with alive:=false,aG:=[],la:=none,lc:=0,gY:=none,raw:=[],batch:=[],waiting:=0}) r s (j.ak bf.cn G) (bf.own.aC j L) bf.tag ⟨rfl,rfl,rfl,rfl,rfl,rfl⟩ f;refine⟨rfl,A',χ',_,aS,V,?_,trivial⟩;simp only[bt.pure,lG,m4,OK];rfl
end
section
theorem oP (h:aP none k):False:=by obtain⟨o,a⟩:=h;cases a
def tl (i:Nat)(inc:Int)(j:Nat):cL:=⟨⟨i,inc,j,[],0,[]⟩,[]⟩
def ku (n i:Nat)(inc:Int):List cL:=(List.range n).map (tl i inc)
def iL (pb i:Nat)(inc:Int)(j:Nat):df:=⟨pb,⟨i,inc,j,[],[],none,0,0,[],none,0⟩,[],none,0⟩
theorem Mn (pb i:Nat)(inc:Int)(j:Nat):(iL pb i inc j).pure=tl i inc j:=rfl
def aH.connect (F:aH)(i:Nat)(C:bB)(inc:Int):aH:=F.eW i {C with alive:=true,inc:=inc,aG:=ku F.nodes.length i inc}
theorem K0 (a b:List df):(g4 (a++b)).flatten=(g4 a).flatten++(g4 b).flatten:=by simp[g4]
open Classical in
theorem b4.Tx {av:bI}{X:bt}(h:b4 A av w aJ X){pb:Nat}{c:b9}(r:X.aY[i]?=some c){la:an}{lc:Nat}
  (s:ao (λk=>av k=.aG i\/av k=.aY) w w') (H:w.heap.size<=pb) (F:∀ k,aP la k->av k=.aG i\/w.heap.size<=k) (G:¬ aP la pb)
  (n:∀ M:a6,M pb->dK M w' pb (iL pb i inc c.aG.length).p) (g:aZ w' lO 2 la (c.aG++[iL pb i inc c.aG.length]).length lc (g4 (c.aG++[iL pb i inc c.aG.length])).flatten)
  (q:aq w' X.a0 (fY (X.aY.set i {c with aG:=c.aG++[iL pb i inc c.aG.length],la:=la,lc:=lc})).flatten jV) :
  ∃ A' χ',Next A A' av χ' w w'/\b4 A' χ' w' aJ {X with aY:=X.aY.set i {c with aG:=c.aG++[iL pb i inc c.aG.length],la:=la,lc:=lc} }:=by
 let χ':bI:=λk=>if k=pb then .lane i c.aG.length else if aP la k then .aG i else av k
 have t1:χ' pb=.lane i c.aG.length:=bm rfl;have t2:∀ k,aP la k->χ' k=.aG i:=λk s=>by
  grind
 have t3:∀ k,k≠pb->¬ aP la k->χ' k=av k:=λk K L=>by
  grind
 have B:∀ k,k<w.heap.size->χ' k=av k:=by
  grind
 have C:∀ k,k<w.heap.size->χ' k≠.cF->av k≠.cF:=λk f r=>by grind
 obtain⟨m,_⟩:=h.move (T:=λt=>t=.aG i\/t=.aY) (χ':=χ') s (by simp) C (λk f _ _=>B k f);have d:=h.a3 i c r;have y:=n (gu A av χ' w) (.inl (by grind));have J:∀ k,χ' k≠.cF->k<w'.heap.size:=λk r=>by
  by_cases u:k=pb
  ·rw[u];exact y.ak.lt
  ·by_cases q:aP la k
   ·exact g.lt q
   ·rw[t3 k u q]at r;exact fQ (h.jK r) s.size
 have I:kI (gu A av χ' w) χ' w' i {c with aG:=c.aG++[iL pb i inc c.aG.length],la:=la,lc:=lc}:=by
  refine⟨g,t2,λj l E=>?_,d.none,λb q=>aq.cY m (d.batch b q).1 (d.batch b q).2 (by simp) (by simp),d.ds.aC m.sT m.old⟩;have a:(c.aG++[iL pb i inc c.aG.length])[j]?=some l:=E;rw[rF]at a;split at a
  ·exact(d.lane j l a).cY m (by simp) (by simp)
  ·rename_i O;rw[List.getElem?_singleton]at a;split at a
   ·rename_i D;have z:j=c.aG.length:=by omega
    simp only[hA]at a;subst a;subst z;refine⟨y,?_,aZ.nil _ _ _,λk ⟨o,x⟩=>by cases x⟩;rintro k (s | ⟨o,x⟩ | ⟨o,x⟩)
    ·rw[s];exact t1
    ·cases x
    ·cases x
   grind
 obtain⟨aS,N⟩:=h.rq (χ':=χ') r (s.mono λk _ e=>e.elim (λe=>.inr (by rw[e];rfl)) .inl) C (λk f _ _=>B k f) J (by grind[tk]) (by rw[B _ h.cls.lt];exact h.fj) I
 grind
theorem b4.setRow {av:bI}{X:bt}(h:b4 A av w aJ X){c c':b9}(a:X.aY[i]?=some c)(f:ao (λk=>av k=.aY) w w')(n:aq w' X.a0 (fY (X.aY.set i c')).flatten jV)
  (b:∀ A' w',kI A' av w' i c->kI A' av w' i c'):∃ A',Next A A' av av w w'/\b4 A' av w' aJ {X with aY:=X.aY.set i c'}:=by
 obtain⟨m,_⟩:=h.move (χ':=av) (T:=λt=>t=.aY) f (by simp) (λ_ _ h=>h) (λ_ _ _ _=>rfl);have d:=(h.a3 i c a).cY m (λt g e=>by rw[e]at g;exact g);obtain⟨j,l⟩:=h.rq (χ':=av) (c':=c') a (f.mono λk _ e=>.inl e) (λ_ _ h=>h) (λ_ _ _ _=>rfl) (λk a=>fQ (h.jK a) f.size) (by grind[tk]) h.fj (b _ _ d)
 grind
theorem Mu {av:bI}{X:bt}(h:b4 A av w aJ X)(cA:X.nodes.length<=5){c:b9}(a8:X.aY[i]?=some c)(ck:X.aY.length<=6)(ad:0<=inc/\inc<=59) :
  a9 53 [ptr aJ,.int .i64 i,.int .i64 inc] w λv w'=>v=.tuple #[]/\dV A av w aJ (X.pure.connect i c.pure inc) w' λ_=>True:=by
 refine a' Tryz.func53 ?_;rw[ptr,t9];have cl:=dk a8;refine⟨_,_,_,h.cn.cell (i:=2) rfl,dM (by omega) (by omega) ?_⟩;rw[g9];refine⟨⟨_,h.ih (k:=0) a8 rfl⟩,h.cls.frozen,?_⟩;intro w1 aR;obtain⟨a,E⟩:=lg (k:=0) (c':={c with alive:=true}) h.cls a8 (by omega) (v:=.bool true) (by simp[b9.cells]);have y:w1=w.setCell ⟨X.a0,0+i*7+0,none⟩ (.bool true):=aR;rw[<-y]at a;have bk:ao (λz=>z=X.a0) w w1:=by rw[y];exact eY _ _ _ _
 clear aR y;refine⟨⟨_,lx (k:=1) a E rfl⟩,a.frozen,?_⟩;intro b5 Q;obtain⟨b,F⟩:=lg (k:=1) (c':={c with alive:=true,inc:=inc}) a E (by omega) (v:=.int .i64 inc) (by simp[b9.cells]);rw[<-Q]at b;have bm:ao (λz=>z=X.a0) w1 b5:=by rw[Q];exact eY _ _ _ _
 clear Q;refine⟨⟨_,lx (k:=2) b F rfl⟩,b.frozen,?_⟩;intro b6 R;obtain⟨d,bQ⟩:=lg (k:=2) (c':={c with alive:=true,inc:=inc,aG:=[],la:=none,lc:=0}) b F (by omega) (v:=.slice none 0 0) (by simp[b9.cells]);rw[<-R]at d;have br:ao (λz=>z=X.a0) b5 b6:=by rw[R];exact eY _ _ _ _
 clear R;rw[kq,kq]at d;have ae:ao (λz=>av z=.aY) w b6:=((bk.trans bm λ_ _ h=>h).trans br λ_ _ h=>h).mono λz _ e=>by rw[e];exact h.fj
 obtain ⟨ca,bL,U⟩:=h.setRow (c':={ c with alive:=true,inc:=inc,aG:=[],la:=none,lc:=0 }) a8 ae d (λA' w' H=>⟨aZ.nil _ _ _,(λk bV=>(oP bV).elim),(λj l cy=>by grind),H.none,H.batch,H.ds⟩);refine ⟨_,_,_,U.cn.cell (i:=1) rfl,?_⟩;show cj _ _ (va i inc ⟨X.a0,0+i * 7,none⟩ X.nodes.length 0 _) _ _;refine cP mix (λm env u=>∃ (k:Nat) (bY:au) (A':a6) (χ':bI) (ls:List df) (la:an) (lc:Nat),k<=X.nodes.length/\m=X.nodes.length - k/\env=va i inc ⟨X.a0,0+i * 7,none⟩ X.nodes.length k bY/\
   Next A A' av χ' w u/\b4 A' χ' u aJ {X with aY:=X.aY.set i {c with alive:=true,inc:=inc,aG:=ls,la:=la,lc:=lc} }/\ls.length=k/\ls.map df.pure=ku k i inc) X.nodes.length
  ⟨0,_,ca,av,[],none,0,by omega,by omega,rfl,bL,U,rfl,rfl⟩ ?_
 rintro m env u ⟨k,bY,A',χ',ls,la,lc,bV,rfl,rfl,aS,S,ah,cq⟩;rw[UP];refine a5 (λbx=>?_) (λbx=>?_)
 ·have cm:k<X.nodes.length:=by omega
  have g:(X.aY.set i {c with alive:=true,inc:=inc,aG:=ls,la:=la,lc:=lc})[i]?=some {c with alive:=true,inc:=inc,aG:=ls,la:=la,lc:=lc}:=by grind
  refine aE (RU (w:=u) (c:=i) (i:=inc) (n:=k) (by omega) ad (by omega)) ?_;rintro v b_ ⟨rfl,O,aB,cr⟩;have V:=S.new aB;refine⟨_,_,rfl,_,_,_,V.ih (k:=2) g rfl,?_⟩;rintro cd aW bb aT;obtain⟨bJ,K⟩:=bo bb aT;have cu:aW.heap.size=b_.heap.size+1:=by simp_all
  clear aT;have I:=V.new K;have r:=I.a3 i _ g;obtain⟨cv,bH,bK,D,ch⟩:=ft (T:=105) (z:=.agg #[.pointer none,.slice none 0 0]) (n:=2) (m:=32) (by kernel_rfl);have L:aZ aW lO cv.size la ls.length lc (g4 ls).flatten:=by rw[D];exact r.own
  obtain⟨ap,cT,a1,aM,x,ag,Y⟩:=L.append (P:=prog) (t:=99) (ty:=99) Tryz.underlying99 bH bK (by rw[D];rfl) (by omega)
   (s:=some ⟨cd,0,none⟩) (m:=1) (c:=1) (news:=(iL u.heap.size i inc k).cells) (by rw[D];rfl) (e6 bJ (by simp[df.cells,iL])) (by simp[df.cells,single]) (by omega) (by grind)
  rw[D]at x;have G:ao (λz=>χ' z=.aG i) aW a1:=ag.mono λz _ ax=>r.tag z ax
  have f:aq a1 X.a0 (fY (X.aY.set i {c with alive:=true,inc:=inc,aG:=ls,la:=la,lc:=lc})).flatten jV:=G.ak I.cls (by have:=I.fj;grind);refine⟨ap,_,cT,a1,aM,⟨_,lx (k:=2) f g rfl⟩,f.frozen,?_⟩;intro a4 aV;obtain⟨q,bR⟩:=lg (k:=2) (c':={c with alive:=true,inc:=inc,aG:=ls++[iL u.heap.size i inc ls.length],la:=ap,lc:=cT}) f g (by omega) (v:=.slice ap (ls.length+1) cT) (by simp[b9.cells]);have B:a4=a1.setCell ⟨X.a0,0+i*7+2,none⟩ (.slice ap (ls.length+1) cT):=aV;rw[<-B]at q;have J:ao (λz=>z=X.a0) a1 a4:=by rw[B];exact eY _ _ _ _
  clear aV B;have aI:ai u aW:=aB.new K;have bh:χ' X.a0=.aY:=S.fj;have af:ao (λz=>χ' z=.aG i\/χ' z=.aY) u a4:=((ao.b7 aI).trans G λz _ e=>.inl e).trans J λz _ e=>.inr (by grind)
  have bW:∀ z,aP la z->z<u.heap.size:=λz ax=>(S.a3 i _ g).own.lt ax
  have ab:∀ z,aP ap z->χ' z=.aG i\/aW.heap.size<=z:=by
   intro z ax;rcases Y with e | e
   ·exact .inl (r.tag z (e▸ax))
   ·obtain⟨o,aL⟩:=ax
    grind
  have bO:X.a0<u.heap.size:=S.cls.lt;have Z:¬ aP ap u.heap.size:=λa7=>by
   rcases Y with e | e
   ·grind
   ·obtain⟨o,aL⟩:=a7
    grind
  have C:∀ M:a6,M u.heap.size->dK M a4 u.heap.size (iL u.heap.size i inc ls.length).p:=by
   intro M cf;have bD:dK (λk=>M k\/aP la k\/k=X.a0) b_ u.heap.size (iL u.heap.size i inc ls.length).p:=by have:=O (λk=>M k\/aP la k\/k=X.a0) (.inl cf);rw[ah];exact this
   have bX:∀ z,(iL u.heap.size i inc ls.length).p.mut u.heap.size z->z=u.heap.size:=by
    rintro z (ax | ⟨o,aL⟩ | ⟨o,aL⟩)
    ·exact ax
    ·cases aL
    ·cases aL
   have bG:=((bD.new K).aC ag (λz ax a7=>by grind) (λz a7=>.inr (.inl a7))).aC J (λz ax e=>by grind) (λz e=>.inr (.inr e));exact bG.mP (λz _ ax=>.inl ax) (λz ax=>by grind)
  have N:aZ a4 lO 2 ap (ls++[iL u.heap.size i inc ls.length]).length cT (g4 (ls++[iL u.heap.size i inc ls.length])).flatten:=by
   rw[K0,hi];have e:(g4 [iL u.heap.size i inc ls.length]).flatten=(iL u.heap.size i inc k).cells:=by rw[ah];rfl
   rw[e];refine x.aC J λz ax e=>?_
   grind
  rw[kq]at q;obtain⟨cb,cx,bN,W⟩:=S.Tx (pb:=u.heap.size) (inc:=inc) (la:=ap) (lc:=cT) g af (dr _) (λz ax=>(ab z ax).imp id λe=>by grind) Z C N (by simp_all);rw[kq]at W;rw[show IntKind.i64.wrap ((k:Int)+1)=((k+1:Nat):Int) by rw[bq (by omega) (by omega)];rfl];refine⟨X.nodes.length-(k+1),by omega,k+1,_,cb,cx,ls++[iL u.heap.size i inc ls.length],ap,cT,by omega,rfl,rfl,aS.trans bN,W,by grind,?_⟩
  grind[ku,List.range_succ,Mn]
 ·have bs:k=X.nodes.length:=by omega
  subst bs;refine⟨rfl,A',χ',_,aS,S,?_,trivial⟩
  grind[bt.y0,aH.connect,b9.pure,bt.pure]
open Classical in
theorem b4.addNode {av:bI}{X:bt}(h:b4 A av w aJ X){y:d'}{na:an}{nc:Nat}
  (g:ao (λk=>av k=.nodes\/av k=.cn) w w') (i:d9 w' y.b y.aQ y.n) (F:w.heap.size<=y.b) (G:w.heap.size<=y.aQ) (K:∀ k,aP na k->av k=.nodes\/w.heap.size<=k) (B:¬ aP na y.b) (C:¬ aP na y.aQ)
  (c:aZ w' Bi 1 na (X.nodes++[y]).length nc ((X.nodes++[y]).map λx=>ptr x.b)) (M:aq w' aJ (X.cells.set 1 (.slice na (X.nodes++[y]).length nc)) lN) :
  ∃ A' χ',Next A A' av χ' w w'/\b4 A' χ' w' aJ {X with nodes:=X.nodes++[y],na:=na,nc:=nc}:=by
 have H:=i.ne;let χ':bI:=λk=>if k=y.b then .node X.nodes.length else if k=y.aQ then .word X.nodes.length else if aP na k then .nodes else av k
 have t1:χ' y.b=.node X.nodes.length:=bm rfl;have o:χ' y.aQ=.word X.nodes.length:=by
  grind
 have t2:∀ k,aP na k->χ' k=.nodes:=λk g=>by
  grind
 have t3:∀ k,k≠y.b->k≠y.aQ->¬ aP na k->χ' k=av k:=λk j s L=>by
  grind
 have D:∀ k,k<w.heap.size->χ' k=av k:=by
  grind
 have I:∀ k,k<w.heap.size->χ' k≠.cF->av k≠.cF:=λk f d=>by grind
 obtain⟨m,aS⟩:=h.move (T:=λt=>t=.nodes\/t=.cn) (χ':=χ') g (by simp) I (λk f _ _=>D k f);have f3:=aZ.cY m h.f_ h.j6 (by simp) (by simp);have f4:=aq.cY m h.cls h.fj (by simp) (by simp);refine⟨_,χ',aS,m.mv,λk d=>?_,?_,?_,c,t2,λq z ax=>?_,f4.1,f4.2,λq z ax=>(h.a3 q z ax).cY m λt j s=>?_,f3.1,f3.2,λx E=>dK.cY m (h.eC x E).1 (h.eC x E).2 (by simp) (by simp),h.nodup⟩
 ·rcases d with d | d
  ·by_cases p:k=y.b
   ·rw[p];exact i.node.lt
   ·by_cases r:k=y.aQ
    ·rw[r];exact i.words.lt
    ·by_cases u:aP na k
     ·exact c.lt u
     ·rw[t3 k p r u]at d;exact fQ (h.jK d) g.size
  ·exact fQ d.1 g.size
 ·grind[bt.cells]
 ·rw[D _ h.cn.lt];exact h.gO
 ·have a:(X.nodes++[y])[q]?=some z:=ax;rw[rF]at a;split at a
  ·exact(h.node q z a).cY m (by simp) (by simp)
  ·rename_i N;rw[List.getElem?_singleton]at a;split at a
   ·rename_i J;have l:q=X.nodes.length:=by omega
    simp only[hA]at a;subst a;subst l;exact⟨i,t1,o⟩
   grind
 ·rcases s with e | e<;>(rw[e]at j;cases j)
def mg:b9:=⟨false,0,[],none,0,none,[],[],0,0,0⟩
def tx (lines:Nat):aO:=⟨List.replicate (8*lines) 0,false⟩
def hN (n i:Nat):bB:=⟨true,1,ku n i 1,none,0,0,0⟩
def aH.init (n c lines:Nat):aH:=⟨lines,List.replicate n (tx lines),(List.range c).map (hN n),[]⟩
theorem Mv (n:Nat):ju n [.bool false,.int .i64 0,.slice none 0 0,.slice none 0 0,.int .i64 0,.int .i64 0,.int .i64 0]=(fY (List.replicate n mg)).flatten:=by
 induction n with
 |zero=>rfl
 |succ n a=>rw[rL,fY,jT,kR,<-fY,<-a];rfl
theorem OM (a:k<c):((List.range k).map (hN n)++List.replicate (c-k) mg.pure).set k (hN n k)=(List.range (k+1)).map (hN n)++List.replicate (c-(k+1)) mg.pure:=by obtain⟨d,rfl⟩:∃ d,c=k+1+d:=⟨c-(k+1),by omega⟩;rw[show k+1+d-k=d+1 by omega,show k+1+d-(k+1)=d by omega,rL,List.set_append_right _ _ (by simp)];simp[o1]
open Classical in
theorem RZ (cY:1<=n/\n<=5)(b5:1<=c/\c<=6)(cu:1<=lines/\lines<=256):a9 46 [.int .i64 n,.int .i64 c,.int .i64 lines] w λv w'=>
  ∃ aJ A av X,v=.tuple #[ptr aJ,.int .i64 0]/\b4 A av w' aJ X/\ai w w'/\(∀ k,A k->w.heap.size<=k)/\X.pure=aH.init n c lines:=by
 refine a' Tryz.func46 ?_;rw[KE];refine a5 (λh=>by omega) (λ_=>a5 (λh=>by omega) (λ_=>a5 (λh=>by omega) (λ_=>a5 (λh=>by omega) (λ_=>a5 (λh=>by omega) (λ_=>a5 (λh=>by omega) (λ_=>?_))))))
 refine⟨by omega,by omega,by omega,by omega,?_⟩;rintro a0 w1 bk V;rw[g9,Mv]at V;obtain⟨bb,bK⟩:=bo bk V;have cC:w1.heap.size=w.heap.size+1:=by simp_all
 clear V;rintro aJ aT bD aL;obtain⟨cm,ah⟩:=bo bD aL;have cD:aT.heap.size=w1.heap.size+1:=by simp_all
 clear aL;let aV:bt:=⟨lines,[],none,0,a0,List.replicate c mg,[],none,0⟩;let q:bI:=λk=>if k=aJ then .cn else if k=a0 then .aY else .cF
 have t1:q aJ=.cn:=bm rfl;have t2:q a0=.aY:=by
  grind
 have t3:∀ k,q k≠.cF->k=aJ\/k=a0:=by
  grind
 have Z:b4 (λk=>q k≠.cF) q aT aJ aV:=by
  refine⟨λ_ h=>h,λk M=>?_,?_,t1,aZ.nil _ _ _,(λk M=>(oP M).elim),(λi x cb=>by grind),?_,t2,λi x cb=>?_,aZ.nil _ _ _,(λk M=>(oP M).elim),(λp cZ=>by grind),by grind⟩
  ·grind
  ·grind[bt.cells]
  ·have:=ai.ak ah bb
   grind
  ·have C:(List.replicate c mg)[i]?=some x:=cb;rw[List.getElem?_replicate]at C;split at C
   ·simp only[hA]at C;subst C;exact⟨aZ.nil _ _ _,(λk M=>(oP M).elim),(λj l cu=>by grind[mg]),λ_=>⟨rfl,rfl⟩,(λb bY=>by grind[mg]),⟨rfl,λ_ _ _ b5=>by grind[mg]⟩⟩
   grind
 refine cP mix (λm env u=>∃ (k:Nat) (aR:au) (A':a6) (χ':bI) (ns:List d') (na:an) (nc:Nat),k<=n/\m=n - k/\env=yK lines ⟨aJ,0,none⟩ n k aR/\
   Next (λk=>q k≠.cF) A' q χ' aT u/\b4 A' χ' u aJ {aV with nodes:=ns,na:=na,nc:=nc}/\ns.length=k/\ns.map d'.n=List.replicate k (tx lines)) n
  ⟨0,_,_,q,[],none,0,by omega,by omega,rfl,Z.refl (ao.refl _ _),Z,rfl,rfl⟩ ?_
 rintro m env u ⟨k,aR,A',χ',ns,na,nc,M,rfl,rfl,aS,E,cv,bJ⟩;rw[Zq];refine a5 (λd=>?_) (λd=>?_)
 ·refine aE (OC (w:=u) (lines:=lines) (by omega) (by omega)) ?_;rintro v cL ⟨rfl,f,aq,cG⟩;rw[g9]at f;have ad:=E.new aq;refine⟨_,_,rfl,dw (λh=>b_ rfl h) (λ_=>⟨_,_,_,ad.cn.cell (i:=1) rfl,?_⟩)⟩;rintro ck Y bh aM;obtain⟨bQ,O⟩:=bo bh aM;have cH:Y.heap.size=cL.heap.size+1:=by simp_all
  clear aM;have r:=ad.new O;obtain⟨cK,bO,bR,U,cq⟩:=ft (T:=92) (z:=.pointer none) (n:=1) (m:=8) (by kernel_rfl);have R:aZ Y Bi cK.size na ns.length nc (ns.map λx=>ptr x.b):=by rw[U];exact r.nodes
  obtain⟨ap,cT,a1,aI,g,ag,ae⟩:=R.append (P:=prog) (t:=107) (ty:=107) Tryz.underlying107 bO bR (by rw[U];rfl) (by omega)
   (s:=some ⟨ck,0,none⟩) (m:=1) (c:=1) (news:=[ptr (u.heap.size+1)]) (by grind) (e6 bQ (by simp[ptr])) (by simp[ptr,single]) (by omega) (by grind)
  rw[U]at g;have Q:∀ z,aP na z->χ' z=.nodes:=r.jM;have I:ao (λz=>χ' z=.nodes) Y a1:=ag.mono λz _ ax=>Q z ax
  have a:=I.ak r.cn (by rw[r.gO];simp);refine⟨ap,_,cT,a1,aI,⟨_,a.cell (i:=1) rfl⟩,a.frozen,?_⟩;intro a4 W;have N:ao (λz=>z=aJ) a1 a4:=by rw[W];exact eY _ _ _ _
  have L:=a.setCell (i:=1) (.slice ap (ns.length+1) cT);have J:a4=a1.setCell ⟨aJ,1,none⟩ (.slice ap (ns.length+1) cT):=W;rw[<-J]at L;clear W J;have aB:ai u Y:=aq.new O;have af:ao (λz=>χ' z=.nodes\/χ' z=.cn) u a4:=((ao.b7 aB).trans I λz _ e=>.inl e).trans N λz _ e=>.inr (by rw[e];exact E.gO)
  have ca:∀ z,aP na z->z<u.heap.size:=λz ax=>E.nodes.lt ax
  have b6:aJ<u.heap.size:=E.cn.lt;have H:∀ z,aP ap z->χ' z=.nodes\/Y.heap.size<=z:=by
   intro z ax;rcases ae with e | e
   ·grind
   ·obtain⟨o,cx⟩:=ax
    grind
  have G:∀ z,u.heap.size<=z->z<Y.heap.size->¬ aP ap z:=by
   intro z cQ cS ax;rcases ae with e | e
   ·grind
   ·obtain⟨o,cx⟩:=ax
    grind
  have B:d9 a4 (u.heap.size+1) u.heap.size ⟨List.replicate (8*lines) 0,false⟩:=((f.new O).aC ag (λbY=>by grind) (λbY=>by grind)).aC N (by omega) (by omega);obtain⟨ch,cO,bW,a8⟩:=E.addNode (y:=⟨u.heap.size+1,u.heap.size,tx lines⟩) (na:=ap) (nc:=cT) af B (by grind) (dr _) (λz ax=>(H z ax).imp id λe=>by omega) (G _ (by grind) (by grind)) (G _ (dr _) (by grind))
   (by
    have:=g.aC N (λz ax e=>by
     rcases H z ax with cl | cl
     ·have cr:χ' aJ=.cn:=E.gO
      grind
     ·omega)
    grind) (by grind)
  rw[show IntKind.i64.wrap ((k:Int)+1)=((k+1:Nat):Int) by rw[bq (by omega) (by omega)];rfl];refine⟨n-(k+1),by omega,k+1,_,ch,cO,ns++[⟨u.heap.size+1,u.heap.size,tx lines⟩],ap,cT,by omega,rfl,rfl,aS.trans bW,a8,by grind,?_⟩
  grind[List.replicate_succ']
 ·have bH:k=n:=by omega
  subst bH;rw[Z2];refine⟨_,_,_,E.cn.cell (i:=2) rfl,?_⟩;have br:({aV with nodes:=ns,na:=na,nc:=nc}:bt).aY.length=c:=by grind
  rw [br];refine cP mix (λm env z=>∃ (i:Nat) (aR:au) (A':a6) (χ':bI) (bX:bt),i<=c/\m=c - i/\env=yL ⟨aJ,0,none⟩ c i aR/\
    Next (λk=>q k≠.cF) A' q χ' aT z/\b4 A' χ' z aJ bX/\bX.pure=⟨lines,List.replicate k (tx lines),(List.range i).map (hN k)++List.replicate (c-i) mg.pure,[]⟩) c
   ⟨0,_,_,χ',_,by omega,by omega,rfl,aS,E,by simp[bt.pure,aV,bJ]⟩ ?_
  rintro m env z ⟨i,aR,cd,cM,K,cX,rfl,rfl,D,ab,S⟩;rw[Zr];refine a5 (λd=>?_) (λd=>?_)
  ·have bN:K.aY.map b9.pure=(List.range i).map (hN k)++List.replicate (c - i) mg.pure:=eh aH.aY S;have cA:K.nodes.length=k:=by
    have:=eh (λF=>F.nodes.length) S
    grind[bt.pure]
   have cy:K.aY.length=c:=by
    have:=eh List.length bN
    grind
   obtain⟨aW,bx⟩:∃ aW,K.aY[i]?=some aW:=⟨K.aY[i],by grind⟩;have bs:aW.pure=mg.pure:=by
    have:(K.aY.map b9.pure)[i]?=some aW.pure:=by grind
    grind
   refine aE (Mu ab (by omega) bx (by omega) (inc:=1) (by omega)) ?_;rintro v Y ⟨rfl,cf,cN,cj,bV,a7,bL,_⟩;refine⟨rfl,?_⟩;rw[show IntKind.i64.wrap ((i:Int)+1)=((i+1:Nat):Int) by rw[bq (by omega) (by omega)];rfl];refine⟨c-(i+1),by omega,i+1,_,cf,cN,cj,by omega,rfl,rfl,D.trans bV,a7,?_⟩;rw[bL,bs,S];simp only[aH.connect,aH.eW,g9,Ju];rw[<-OM (by omega)];rfl
  ·have bG:i=c:=by omega
   subst bG;rw[Z3];refine⟨aJ,cd,cM,K,rfl,ab,?_,λz ax=>?_,?_⟩
   ·refine(bK.new ah).trans D.aC λz ax b5=>?_
    grind
   ·rcases(D.iff z).1 ax with ax | ax
    ·by_cases d:z<aT.heap.size
     ·rcases t3 z (D.grow z d ax)with e | e<;>omega
     ·omega
    grind
   grind[aH.init]
end
section
def oB (p a v:Int):Int:=p*4503599627370496+a*1099511627776+v
theorem Qm (e:0<=p/\p<4096)(d:0<=a/\a<4096)(ar:0<=v/\v<1099511627776):iA .u64 (iA .u64 (hk .u64 p 52) (hk .u64 a 40)) v=oB p a v:=by
 obtain⟨p,rfl⟩:=qd e.1;obtain⟨a,rfl⟩:=qd d.1;obtain⟨v,rfl⟩:=qd ar.1;have b:hk .u64 (p:Int) 52=((p*2 ^ 52:Nat):Int):=by
  show IntKind.u64.wrap ((p:Int)*2 ^ 52)=_
  grind[kT]
 have c:hk .u64 (a:Int) 40=((a*2 ^ 40:Nat):Int):=by
  show IntKind.u64.wrap ((a:Int)*2 ^ 40)=_
  grind[kT]
 rw[b,c,tS _ _ (by omega) (by omega),w3 _ _ 52 (by omega),show p*2 ^ 52+a*2 ^ 40=(p*2 ^ 12+a)*2 ^ 40 by omega,tS _ _ (by omega) (by omega),w3 _ _ 40 (by omega)]
 grind[oB]
theorem tz (w:aj)(x a b:Int):a9 141 [.int .i64 x,.int .i64 a,.int .i64 b] w λv w'=>v=.bool (decide (a<=x/\x<=b))/\w'=w:=by
 refine a' Tryz.func141 ?_
 grind[IG]
theorem zY (w:aj)(x a b:Int):a9 143 [.int .u64 x,.int .u64 a,.int .u64 b] w λv w'=>v=.bool (decide (a<=x/\x<=b))/\w'=w:=by
 refine a' Tryz.func143 ?_
 grind[Y0]
theorem Mo (w:aj)(x:Int):a9 158 [.int .i64 x] w λv w'=>v=.bool (decide (0<=x/\x<=5))/\w'=w:=by
 refine a' Tryz.func158 ?_;rw[I0];refine aE (tz _ _ _ _) ?_
 grind
theorem R0 (w:aj):a9 103 [.int .i64 0,.bool true] w λv w'=>v=.tuple #[.int .u64 1,.int .i64 0]/\w'=w:=by refine a' Tryz.func103 ?_;rw[CN];refine aE (tz _ _ _ _) ?_;rintro v w1 ⟨rfl,rfl⟩;exact⟨_,rfl,rfl,rfl⟩
theorem Mw (w:aj):a9 107 [.int .u64 1,.int .i64 0] w λv w'=>v=.tuple #[.int .u64 256,.int .i64 0]/\w'=w:=by refine a' Tryz.func107 ?_;rw[Do];refine aE (zY _ _ _ _) ?_;rintro v w1 ⟨rfl,rfl⟩;refine⟨_,rfl,dm rfl ?_⟩;refine aE (tz _ _ _ _) ?_;rintro v w1 ⟨rfl,rfl⟩;refine⟨_,rfl,dm rfl ⟨?_,rfl⟩⟩;rfl
def xC (p a v:Int):Int:=if p<4096/\a<4096/\v<1099511627776 then oB p a v else 0
theorem K1 (w:aj)(f:0<=p)(d:0<=a)(ar:0<=v):a9 104 [.int .u64 p,.int .u64 a,.int .u64 v] w λr w'=>∃ e,r=.tuple #[.int .u64 (xC p a v),.int .i64 e]/\w'=w:=by
 refine a' Tryz.func104 ?_;rw[JF];unfold xC;refine a5 (λh=>⟨2,?_,rfl⟩) (λh=>a5 (λb=>⟨2,?_,rfl⟩) (λb=>a5 (λc=>⟨2,?_,rfl⟩) (λc=>⟨0,?_,rfl⟩)))
 ·grind
 ·grind
 ·grind
 ·rw[bm (by omega),Qm (by omega) (by omega) (by omega)]
theorem wh (w:aj)(a b:Int):a9 142 [.int .i64 a,.int .i64 b] w λv w'=>∃ cz k,v=.func (.func 187) #[] #[ptr cz,ptr k]/\aq w' cz [.int .i64 b] mo/\aq w' k [.int .i64 a] mo/\ai w w':=by refine a' Tryz.func142 ?_;rw[JU];rintro b1 w1 d g az l e h;obtain⟨i,f⟩:=bo d g;obtain⟨j,c⟩:=bo e h;exact⟨az,b1,rfl,j,ai.ak c i,f.new c⟩
def ng (a b i:Int):Int:=if i<0\/b<=i then -1 else a*8+i
theorem zh (w:aj){cz c:Nat}{b:Int}(d:aq w cz [.int .i64 b] mo)(e:aq w c [.int .i64 a] mo)(g:0<=a/\a<=100000)(j:b<=100000)(i:Int):a9 187 [.int .i64 i,ptr cz,ptr c] w λv w'=>v=.int .i64 (ng a b i)/\w'=w:=by refine a' Tryz.func187 ?_;rw[ptr,ptr,Z0];unfold ng;refine a5 (λh=>⟨by grind,rfl⟩) (λh=>⟨b,d.cell rfl,a5 (λf=>⟨by grind,rfl⟩) (λf=>⟨a,e.cell rfl,?_,rfl⟩)⟩);rw[aW (by omega),bq (x:=a*8) (by omega) (by omega),bq (x:=a*8+i) (by omega) (by omega)]
attribute [local irreducible] iv i_ l5
theorem wi:iv prog 187=true:=by kernel_rfl
theorem LA (w:aj)(i:Int):a9 105 [.int .i64 i] w λv w'=>v=.int .i64 (ng 1 16 i)/\ai w w':=by
 refine a' Tryz.func105 ?_;rw[Zy];refine aE (wh _ _ _) ?_;rintro v w1 ⟨cz,d,rfl,a,b,f⟩;have c:=wi;refine⟨_,rfl,?_⟩;have e:(#[]++#[.int .i64 i]++#[ptr cz,ptr d]:en)=#[.int .i64 i,ptr cz,ptr d]:=by simp
 refine rz c e ?_;refine aE (zh w1 a b (by omega) (by omega) i) ?_
 grind
theorem R1 (w:aj)(i:Int):a9 106 [.int .i64 i] w λv w'=>v=.int .i64 (ng 3 6 i)/\ai w w':=by
 refine a' Tryz.func106 ?_;rw[Je];refine aE (wh _ _ _) ?_;rintro v w1 ⟨cz,d,rfl,a,b,f⟩;have c:=wi;refine⟨_,rfl,?_⟩;have e:(#[]++#[.int .i64 i]++#[ptr cz,ptr d]:en)=#[.int .i64 i,ptr cz,ptr d]:=by simp
 refine rz c e ?_;refine aE (zh w1 a b (by omega) (by omega) i) ?_
 grind
theorem qm (w:aj){i:Int}(a:96<=i)(b:i<256):a9 108 [.int .i64 i] w λv w'=>v=.int .i64 (i*8)/\w'=w:=by
 refine a' Tryz.func108 ?_;rw[Ku];refine a5 (λh=>by omega) (λh=>a5 (λh=>by omega) (λh=>⟨?_,rfl⟩))
 rw[bq (by omega) (by omega)]
theorem Qn (w:aj){i:Int}(a:1<=i)(b:i<=256):a9 102 [.int .i64 i] w λv w'=>v=.int .i64 (i*8)/\w'=w:=by
 refine a' Tryz.func102 ?_;rw[Kg];refine a5 (λh=>by omega) (λh=>a5 (λh=>by omega) (λh=>⟨?_,rfl⟩))
 rw[bq (by omega) (by omega)]
def ub:Nat->Int->Int->Int
 | 0,_,s=>s
 |n+1,i,s=>ub n (i+1) (iA .u64 s (hk .u64 7 (7*i)))
def nG (n:Nat):Int:=ub n 0 549755813888
theorem LI (w:aj)(c:1<=n)(d:n<=5):a9 100 [.int .i64 n] w λv w'=>v=.tuple #[.int .u64 (nG n),.int .i64 0]/\w'=w:=by
 refine a' Tryz.func100 ?_;rw[YH];refine a5 (λh=>by omega) (λh=>a5 (λh=>by omega) (λh=>?_))
 refine cP mix (λm env u=>∃ (i:Nat) (s:Int) (a:au),m=n-i/\i<=n/\env=x2 s n i a/\u=w/\ub (n-i) i s=nG n) n ⟨0,_,_,rfl,by omega,rfl,rfl,rfl⟩ ?_;rintro m env u ⟨i,s,a,rfl,e,rfl,rfl,ar⟩;rw[U8];refine a5 (λb=>?_) (λb=>?_)
 ·rw[bq (by omega) (by omega),kT (by omega) (by omega),bq (by omega) (by omega)];refine⟨by omega,n-(i+1),by omega,i+1,_,_,rfl,by omega,rfl,rfl,?_⟩;rw[show n-i=n-(i+1)+1 by omega,ub]at ar;exact ar
 ·rw[Xa];have:i=n:=by omega
  subst this;rw[rC,ub]at ar
  grind
theorem GB (a:n<=5):0<=nG n/\nG n<1099511627776:=by rcases n with _ | _ | _ | _ | _ | _ | n;all_goals first | decide | omega
end
section
theorem W9 {a:an}{l:ba}(h:bh u a (is l))(j:l[i]?=some x){z:Int}(ax:z=i)(g:n=l.length){K:aw->Prop}
  (e:∀ b o,(∀ y,ai u y->y.cell? ⟨b,o,none⟩=some (.int .i64 x))->K ⟨b,o,none⟩):bk a n z 1 K:=by
 subst ax g;have f:=dk j;have c:(is l)[i]?=some (.int .i64 x):=by grind[is]
 rcases h with he | ⟨b,o,rfl,d⟩
 ·grind
 ·refine dM (by omega) (by omega) ?_;have:=e b (o+i) λy k=>(bh.new k (.inr ⟨b,o,rfl,d⟩)).cell c
  grind
def hv (line lines:Int):Bool:=decide (98<=lines/\lines<=256/\96<=line/\line<lines)
theorem ON (w:aj)(line lines:Int):a9 169 [.int .i64 line,.int .i64 lines] w λv w'=>v=.bool (hv line lines)/\w'=w:=by
 refine a' Tryz.func169 ?_;rw[JW];have a:a9 207 [.int .i64 lines] w λv w'=>v=.bool (decide (98<=lines/\lines<=256))/\w'=w:=by
  refine a' Tryz.func207 ?_
  grind[JH]
 refine aE a ?_
 grind[hv]
theorem GC {b:Type}{cells:b->au}{ex:(b->Prop)->Prop}(mk:∀ (K:b->Prop) r,K r->ex K)(h:∀ r,∀ u ∈ cells r,single u=true){b1 az:Nat}{r:b}{zs:au}{T:bU}(d:aq u b1 zs T)(g:zs.length=(cells r).length)(e:aq u az (cells r) T){K:b->aK}(f:∀ w',ao (λk=>k=b1) u w'->K r w') :
  ex λr=>b6 u ⟨az,0,none⟩ 0 (cells r)/\dT u ⟨b1,0,none⟩ 0 (cells r)/\∀ a,a=cv u ⟨b1,0,none⟩ 0 (cells r)->ex λres=>b6 a ⟨b1,0,none⟩ 0 (cells res)/\a=a/\K res a:=by
 refine mk _ r ⟨bJ e (by simp),fU d (by grind) (h r),λa hw=>?_⟩;have c:ao (λk=>k=b1) u a:=by rw[hw];exact hD _ _ _ _ _
 have ax:aq a b1 (cells r) T:=by
  rw[hw];have:=d.cv (o:=0) (i:=0) (vs:=cells r);rw[m1,oG g.symm]at this
  grind
 exact mk _ r ⟨bJ ax (by simp),rfl,f a c⟩
theorem Qo {a:an}{cap:Nat}{L:ba}(h:aZ u 3 1 a n cap (is L))(j:n<=1000000){K:Nat->an->Nat->Nat->aK}
  (p:∀ b ap e f,b=u.heap.size->aZ f 3 1 ap (n+1) e (is (L++[x]))->ao (aP a) u f->(∀ k,aP ap k->aP a k\/u.heap.size<=k)->K b ap (n+1) e f) :
  ∀ b1 i,b1=u.heap.size->i=u.alloc (.cells #[.int .i64 x] 3)->∃ (ap:an) (d c:Nat),∃ f,(Builtin.append_ #[22,22] 22 #[(.slice a n cap),(.slice (some ⟨b1,0,none⟩) 1 1)]).run prog i=.ok (.slice ap d c) f/\K b1 ap d c f:=by
 obtain⟨inf,o,ax,g,l⟩:=ft (T:=3) (z:=.int .i64 0) (n:=1) (m:=8) (by kernel_rfl);rw[<-g]at h;refine oN (vs:=[.int .i64 x]) Tryz.underlying22 o ax (by rw[g];rfl) (by omega) h (by grind) (by intro v ar;simp at ar;subst ar;rfl) (by omega) (by omega) ?_
 grind[is]
def hj (l:List Bool):au:=l.map .bool
end
section
def sQ (lines n:Nat):ba:=(((List.replicate (lines*8) 0).set 0 1).set 1 1).set 8 (oB 1 1 (nG n))
def p6:Nat->Nat->ba->ba
 | 0,_,ws=>ws
 |k+1,c,ws=>p6 k (c+1) (ws.set (24+c) 1)
def p7:Nat->Nat->ba->ba
 | 0,_,ws=>ws
 |k+1,l,ws=>p7 k (l+1) (ws.set (l*8) 256)
def fmt (lines n:Nat):ba:=p7 (lines-96) 96 (p6 6 0 (sQ lines n))
theorem R2 (n:Nat)(x:Int):List.replicate n (Value.int .u64 x)=us (List.replicate n x):=by simp[us]
theorem R3 (h:n<=5):0<=oB 1 1 (nG n)/\oB 1 1 (nG n)<18446744073709551616:=by
 have:=GB h
 grind[oB]
def p8 (ws:ba):Prop:=∀ x ∈ ws,0<=x/\x<18446744073709551616
theorem p8.set {ws:ba}(h:p8 ws){x:Int}(c:0<=x/\x<18446744073709551616)(i:Nat):p8 (ws.set i x):=λy b=>by
 rcases m5 b with a | rfl
 ·exact h y a
 grind
abbrev uN:bU:=30
theorem tT {w0:aj}{len:Nat}{ws:ba}{i:Int}{K:aw->aK}(ax:aq u b (us ws) uN)(h:ai w0 u)(d:w0.heap.size<=b)(c:0<=i)(k:i<ws.length)(hlen:len=ws.length)
  (g:∀ a bF,aq bF b (us (ws.set i.toNat x)) uN->ai w0 bF->K a bF):bk (some ⟨b,0,none⟩) len i 1 λa=>(∃ bF,u.cell? a=some bF)/\u.frozen? a=false/\∀ w',w'=u.setCell a (.int .u64 x)->K a w':=by
 refine dM c (by omega) ?_;have e:0+i.toNat*1=i.toNat:=by omega
 rw[e];have f:∃ y,ws[i.toNat]?=some y:=⟨_,bW (by omega)⟩;obtain⟨y,j⟩:=f;refine⟨⟨_,ax.cell (ue j)⟩,ax.frozen,?_⟩;rintro w' rfl;refine g _ _ ?_ (ao.setCell h (.inr d) _);have:=ax.setCell (i:=i.toNat) (.int .u64 x)
 grind[us,List.map_set]
theorem OO {aQ:Nat}{s:aO}(h:d9 w b aQ s)(Z:s.words.length=lines * 8)(U:98<=lines)(Q:lines<=256)(Y:s.down=false)(T:1<=n)(K:n<=5) :
  a9 75 [ptr b,.int .i64 n] w λv w'=>v=.int .i64 0/\d9 w' b aQ ⟨fmt lines n,false⟩/\ao (λk=>k=aQ) w w':=by
 have hdiv:s.words.length / 8=lines:=by omega
 have O:=GB K;refine a' Tryz.func75 ?_;rw[ptr,J8];refine aE (LI _ T K) ?_;rintro v w1 ⟨rfl,rfl⟩;refine⟨_,_,rfl,dm rfl ?_⟩;refine aE (zb h) ?_;rintro v w1 ⟨rfl,rfl⟩;refine⟨_,rfl,a5 (λM=>by omega) λ_=>?_⟩
 refine aE (GU h) ?_;rintro v w1 ⟨rfl,rfl⟩;refine⟨_,rfl,dm (by grind) ?_⟩;refine aE (zb h) ?_;rintro v w1 ⟨rfl,rfl⟩;refine⟨_,rfl,?_⟩;rw[hdiv];refine aE (Qn _ (by omega) (by omega)) ?_;rintro v w1 ⟨rfl,rfl⟩;refine⟨_,rfl,by omega,by omega,by omega,by omega,?_⟩;have S:Int.toNat ((lines:Int)*8)=lines*8:=by omega
 rw[S,EH,R2];rintro b1 X L E;obtain⟨a,f⟩:=bo L E;replace a:aq X b1 (us (List.replicate (lines*8) 0)) uN:=a;clear E;have g:w1.heap.size<=b1:=by omega
 refine aE (R0 _) ?_;rintro v ad ⟨rfl,rfl⟩;refine⟨_,_,rfl,?_⟩;refine tT (len:=lines*8) (i:=0) (x:=1) a f g (by omega) (by grind) (by simp) ?_;intro I ae F z;refine tT F z g (by omega) (by grind) (by simp) ?_;intro I af G A;refine aE (LA _ _) ?_;rintro v ag ⟨rfl,q⟩;refine⟨_,rfl,?_⟩;refine aE (K1 _ (by omega) (by omega) O.1) ?_;rintro v ah ⟨e,rfl,rfl⟩;refine⟨_,_,rfl,?_⟩;have N:xC 1 1 (nG n)=oB 1 1 (nG n):=by unfold xC;grind
 rw[N];refine tT (ai.ak q G) (A.new q) g (by decide) (by grind[ng]) (by simp) ?_;intro I aB r B;have y:(((List.replicate (lines*8) 0).set (Int.toNat 0) 1).set (Int.toNat 1) 1).set (ng 1 16 0).toNat (oB 1 1 (nG n))=sQ lines n:=rfl;rw[y]at r;have p:(sQ lines n).length=lines*8:=by grind
 have P:p8 (sQ lines n):=((p8.set (p8.set (λx ab=>by grind) (by omega) _) (by omega) _).set (R3 K) _);clear y a F G f z A q;refine cP mix (λm env u=>∃ (c:Nat) (ws:ba) (H:au),m=6-c/\c<=6/\env=yE ⟨b,0,none⟩ (some ⟨b1,0,none⟩) (lines*8) (lines*8) c H/\aq u b1 (us ws) uN/\ai w1 u/\ws.length=lines*8/\p8 ws/\p6 (6-c) c ws=p6 6 0 (sQ lines n)) 6
  ⟨0,_,_,rfl,by omega,rfl,r,B,p,P,rfl⟩ ?_
 rintro m env u ⟨c,ws,H,rfl,M,rfl,ax,l,hlen,hw,d⟩;rw[t6];refine a5 (λJ=>?_) (λJ=>?_)
 ·refine aE (R1 _ _) ?_;rintro v bp ⟨rfl,C⟩;have D:ng 3 6 (c:Int)=24+c:=by unfold ng;grind
  refine⟨_,rfl,?_⟩;rw[D];refine tT (ai.ak C ax) (l.new C) g (by omega) (by omega) (by omega) ?_;intro I b3 a f;rw[bq (by omega) (by omega)];refine⟨6-(c+1),by omega,c+1,_,_,rfl,by omega,rfl,a,f,by grind,hw.set (by omega) _,?_⟩;rw[show 6-c=6-(c+1)+1 by omega,p6]at d
  grind
 ·have o:c=6:=by omega
  subst o;rw[YV];rw[rC,p6]at d;have R:p7 (lines-96) 96 ws=fmt lines n:=by grind[fmt]
  clear d;refine cP mix (λm env u=>∃ (c:Nat) (ws:ba) (H:au),m=lines-c/\96<=c/\c<=lines/\env=yF ⟨b,0,none⟩ (some ⟨b1,0,none⟩) (lines*8) (lines*8) c H/\aq u b1 (us ws) uN/\ai w1 u/\ws.length=lines*8/\p8 ws/\p7 (lines-c) c ws=fmt lines n) (lines-96)
   ⟨96,_,_,rfl,by omega,by omega,rfl,ax,l,hlen,hw,R⟩ ?_
  clear R ax l hlen hw r B J M;rintro m env u ⟨c,ws,H,rfl,M,V,rfl,ax,l,hlen,hw,d⟩;rw[t7];refine aE (zb (h.new l)) ?_;rintro v bp ⟨rfl,rfl⟩;refine⟨_,rfl,?_⟩;rw[hdiv];refine a5 (λJ=>?_) (λJ=>?_)
  ·refine aE (qm _ (by omega) (by omega)) ?_;rintro v b3 ⟨rfl,rfl⟩;refine⟨_,rfl,?_⟩;refine aE (Mw _) ?_;rintro v b3 ⟨rfl,rfl⟩;refine⟨_,_,rfl,?_⟩;refine tT ax l g (by omega) (by omega) (by omega) ?_;intro I b3 a f;rw[bq (by omega) (by omega)];refine⟨lines-(c+1),by omega,c+1,_,_,rfl,by omega,by omega,rfl,a,f,by grind,hw.set (by omega) _,?_⟩;rw[show lines-c=lines-(c+1)+1 by omega,p7]at d
   grind
  ·have o:c=lines:=by omega
   subst o;rw[YW];rw[rC,p7]at d;rw[<-hlen];refine aE (E5 (h.new l) 0 (e6 ax (by grind)) hw (λh=>by cases h)) ?_;rintro v bz ⟨rfl,j,W⟩;have t:s.e0 0 ws.length=0:=by
    unfold aO.e0
    grind
   rw[t]at j ⊢;rw[bm rfl]at j;refine⟨_,rfl,rfl,?_,(ao.b7 l).trans W (λ_ _ h=>h)⟩
   grind[fmt,aO.write]
theorem Dp:∀ (k c:Nat)(ws:ba),(p6 k c ws).length=ws.length
 | 0,_,_=>rfl
 |k+1,c,ws=>by rw[p6,Dp];simp
theorem Dq:∀ (k c:Nat)(ws:ba),(p7 k c ws).length=ws.length
 | 0,_,_=>rfl
 |k+1,c,ws=>by rw[p7,Dq];simp
theorem EX (lines n:Nat):(fmt lines n).length=lines*8:=by grind[fmt,Dq,Dp,sQ]
def aH.fmt (F:aH):aH:={F with nodes:=F.nodes.map λ_=>⟨Go.Proofs.YtmkljjbioomepaaGreat.fmt F.lines F.nodes.length,false⟩}
def EJ (F:aH):Prop:=98<=F.lines/\F.lines<=256/\1<=F.nodes.length/\F.nodes.length<=5/\∀ n ∈ F.nodes,n.words.length=F.lines*8/\n.down=false
theorem B7 (X:bt):X.pure.nodes.length=X.nodes.length:=by simp[bt.pure]
theorem LB {av:bI}{X:bt}(h:b4 A av w aJ X)(G:EJ X.pure) :
  a9 47 [ptr aJ] w λv w'=>v=.int .i64 0/\dV A av w aJ X.pure.fmt w' λ_=>True:=by
 obtain ⟨f1,f2,f3,f4,f5⟩:=G;rw [B7] at f3 f4;refine a' Tryz.func47 ?_;rw [ptr,Zx];refine aE (AB h) ?_;rintro v w1 ⟨rfl,rfl⟩;refine ⟨_,rfl,?_⟩;let b:Nat:=X.nodes.length;refine cP mix (λm env u=>∃ (i:Nat) (A':a6) (χ':bI) (a:bt) (B:au),m=b - i/\i<=b/\env=yh ⟨aJ,0,none⟩ b i B/\Next A A' av χ' w1 u/\b4 A' χ' u aJ a/\a.nodes.length=b/\a.lines=X.lines/\(∀ x ∈ a.nodes,x.n.words.length=X.lines * 8/\x.n.down=false)/\
   a.pure={X.pure with nodes:=List.replicate i ⟨fmt X.lines b,false⟩++X.pure.nodes.drop i}) b
  ⟨0,A,av,X,_,rfl,by omega,rfl,h.refl (ao.refl _ _),h,rfl,rfl,λx f=>f5 x.n (dD.2 ⟨x,f,rfl⟩),by simp⟩ ?_
 rintro m env u ⟨i,A',χ',a,B,rfl,J,rfl,j,g,q,p,r,c⟩;rw[W_];refine a5 (λI=>?_) (λI=>?_)
 ·have t:i<a.nodes.length:=by omega
  obtain⟨x,f⟩:∃ x,a.nodes[i]?=some x:=⟨_,bW t⟩;refine aE (ze g f) ?_;rintro v bp ⟨rfl,rfl⟩;refine⟨_,rfl,?_⟩;refine aE (AB g) ?_;rintro v bp ⟨rfl,rfl⟩;refine⟨_,rfl,?_⟩;obtain⟨y,z⟩:=r x (cu f);rw[q];refine aE (OO (g.node i x f).node y f1 f2 z (by grind) (by grind)) ?_;rintro v b3 ⟨rfl,d,H⟩;refine⟨_,rfl,dm rfl ?_⟩;obtain⟨C,l,o⟩:=g.setNode f (H.mono λk _ e=>.inr e) d;rw[bq (by omega) (by omega)];refine⟨b-(i+1),by omega,i+1,C,χ',_,_,rfl,by omega,rfl,j.trans l,o,by grind,p,?_,?_⟩
  ·grind[List.mem_or_eq_of_mem_set,fmt,EX]
  ·have hlen:X.pure.nodes.length=b:=B7 X;have D:a.pure.nodes=List.replicate i ⟨fmt X.lines b,false⟩++X.pure.nodes.drop i:=by rw[c]
   have E:a.nodes.map d'.n=List.replicate i ⟨fmt X.lines b,false⟩++X.pure.nodes.drop i:=D;have F:({a with nodes:=a.nodes.set i {x with n:=⟨fmt X.lines b,false⟩} }:bt).pure={a.pure with nodes:=(a.nodes.map d'.n).set i ⟨fmt X.lines b,false⟩}:=by simp[bt.pure,m4]
   rw[F,E,c];congr 1;rw[List.set_append_right _ _ (by simp)];simp only[Ju,rC]
   grind[List.replicate_succ',List.append_assoc,List.drop_eq_getElem_cons]
 ·have s:i=b:=by omega
  subst s;rw[XX];refine⟨rfl,A',χ',a,j,g,?_,trivial⟩;rw[c];unfold aH.fmt;have hlen:X.pure.nodes.length=b:=B7 X;congr 1;rw[List.drop_of_length_le (by omega),lE,hlen,<-hlen];rw[List.map_const'];rfl
theorem Mp (b:1<=n/\n<=5)(a:98<=lines/\lines<=256):EJ (aH.init n c lines):=by
 refine⟨a.1,a.2,by grind[aH.init],by grind[aH.init],?_⟩
 grind[aH.init,tx]
def aH.fresh (n c lines:Nat):aH:=⟨lines,List.replicate n ⟨Go.Proofs.YtmkljjbioomepaaGreat.fmt lines n,false⟩,(List.range c).map (hN n),[]⟩
theorem OP (n c lines:Nat):(aH.init n c lines).fmt=aH.fresh n c lines:=by simp[aH.fmt,aH.init,aH.fresh]
theorem EY (q:1<=n/\n<=5)(d:1<=c/\c<=6)(p:98<=lines/\lines<=256):a9 23 [.int .i64 n,.int .i64 c,.int .i64 lines] w λv w'=>
  ∃ aJ A av X,v=.tuple #[ptr aJ,.bool true]/\b4 A av w' aJ X/\ai w w'/\(∀ k,A k->w.heap.size<=k)/\X.pure=aH.fresh n c lines:=by
 refine a' Tryz.func23 ?_;rw[ZW];refine aE (RZ q d ⟨by omega,p.2⟩) ?_;rintro v w1 ⟨aJ,A,av,X,rfl,f,b,i,r⟩;refine⟨_,_,rfl,dm rfl (dm rfl ?_)⟩;refine aE (LB f (by grind[Mp])) ?_;rintro v s ⟨rfl,A',χ',l,a,g,o,_⟩;refine⟨_,rfl,dm rfl ⟨aJ,A',χ',l,rfl,g,?_,?_,?_⟩⟩
 ·refine b.trans a.aC (λk j e=>?_);have:=i k (f.fb k e);omega
 ·intro k j;by_cases h:k<w1.heap.size
  ·rcases(a.iff k).1 j with d | d
   ·exact i k (f.fb k (a.grow k h d))
   grind
  ·have:=b.size;omega
 grind[OP]
theorem R4 {av:bI}{X:bt}(h:b4 A av w aJ X){x:d'}(g:X.nodes[i]?=some x){at_:Nat}(e:at_<x.n.words.length)(p:x.n.down=false) :
  a9 20 [ptr aJ,.int .i64 i,.int .i64 at_] w λv w'=>v=.tuple #[.int .u64 (x.n.get at_),.bool true]/\ai w w':=by
 refine a' Tryz.func20 ?_;rw[ptr,JD];refine aE (ze h g) ?_;rintro v bp ⟨rfl,rfl⟩;refine⟨_,rfl,dm rfl ?_⟩;refine aE (uh (h.node i x g).node at_ 1) ?_;have f:x.n.e0 at_ 1=0:=by
  unfold aO.e0
  grind
 rintro v b3 (⟨l,_⟩ | ⟨_,a,cap,rfl,q,k,_⟩)
 ·grind
 have d:=k.rd;have j:x.n.read at_ 1=[x.n.get at_]:=by
  unfold aO.read;have r:x.n.words[at_]?=some (x.n.get at_):=aO.get_some e
  grind[Int.toNat_natCast,List.drop_eq_getElem_cons,List.getElem?_eq_getElem,Option.some.inj]
 rw[j]at d;rcases d with d | ⟨b,o,he,c⟩
 ·cases d
 simp at he;subst he;refine⟨_,_,_,_,rfl,dm rfl (dm rfl (dM (by omega) (by decide) ?_))⟩;have:=c 0 _ rfl
 grind
end
end Go.Proofs.YtmkljjbioomepaaGreat
