import Derived.Test.YtmkljjbioomepaaGreatg02
import Derived.Test.YtmkljjbioomepaaGreatg04
import Derived.Test.YtmkljjbioomepaaGreatg03
set_option linter.all false
namespace Go.Proofs.YtmkljjbioomepaaGreat
open Go.Proofs.Tryz Go.bJ
variable {M:a4}{a:ak}{b aK c i gn ga:Nat}{e t ty:bY}{lines:Int}{pc:Int×Int}{w w':an}{ws:a7}{xs:ax}
section
def uG (w w':an)(e sz:Nat)(a b:ak)(n cap:Nat)(xs:ax):Prop:=
 ai w w'/\aX w' e sz b n cap xs/\(∀ k,aP b k->w.heap.size<=k)/\(b=none↔a=none)
theorem yW {i:TypeInfo}{z:bf}(D:prog.underlying t=some (.slice e))(x:prog.info? e=some i)(aq:i.zero=some z)(l:z.cells.size=i.size)(j:0<i.size)
  {a:aU} {n c:Nat} (A:xs.length=n*i.size) (C:bl w (some a) xs) (q:∀ u ∈ xs,single u=true) (r:n<=140737488355328) (s:n*i.bytes<=140737488355328) :
  ∃ g b w',(Builtin.append_ #[t,t] ty #[.slice (some ⟨w.heap.size,0,none⟩) 0 0,.slice (some a) n c]).run prog (w.alloc (.cells #[] e))=.ok (.slice g n b) w'/\uG w w' e i.size (some a) g n b xs:=by
 have p:aX (w.alloc (.cells #[] e)) e i.size (some ⟨w.heap.size,0,none⟩) 0 0 []:=by refine⟨by simp,.inr ⟨w.heap.size,[],rfl,?_,by omega,by grind,by simp,by simp⟩⟩;exact pn w [] e
 obtain⟨g,b,w',f,d,y,h⟩:=p.append (P:=prog) (ty:=ty) D x aq l j A (C.new (hF _ _)) q (c:=c) (by omega) (by grind);simp only[iZ,qO]at f d;refine⟨g,b,w',f,?_,d,?_,?_⟩
 ·refine(hF w _).trans y ?_;rintro k B ⟨o,p⟩
  grind
 ·rintro k ⟨o,rfl⟩;rcases h with h | h
  ·grind
  simp_all
 grind
theorem Ca {n c:Nat}(f:xs.length=n)(r:bl w a xs)(h:∀ u ∈ xs,single u=true)(s:n<=1000000000)(p:a=none->n=0) :
  a5 73 [.slice a n c] w λv w'=>∃ b cap,v=.slice b n cap/\uG w w' 30 1 a b n cap xs:=by
 refine ba Tryz.func73 ?_;rw[U8];obtain⟨i,l,aq,d,j⟩:=fV (T:=30) (z:=.int .u64 0) (n:=1) (m:=8) (by kernel_rfl);cases a with
 |none=>
  refine hc rfl ⟨none,0,by grind,ao.refl _ _,?_,?_,by simp⟩
  ·rw[p rfl]at f ⊢;rw[hN f];exact aX.nil _ _ _
  ·rintro k ⟨o,q⟩;cases q
 |some a=>
  refine dG rfl ?_;rintro b1 w1 rfl rfl;obtain⟨b,e,w',g,x⟩:=yW (t:=94) (ty:=94) (z:=.int .u64 0) (n:=n) (c:=c) (w:=w) (a:=a) (xs:=xs) Tryz.underlying94 l aq (by rw[d];rfl) (by omega) (by grind) r h (by omega) (by grind)
  grind
structure aD where
 words:a7
 down:Bool
structure dX (w:an)(b aK:Nat)(n:aD):Prop where
 node:av w b [.slice (some ⟨aK,0,none⟩) n.words.length n.words.length,.bool n.down] 137
 words:av w aK (us n.words) 30
 len:n.words.length<=2048
 vI:8<=n.words.length
 wf:∀ x ∈ n.words,0<=x/\x<18446744073709551616
theorem dX.ne {w:an}{b aK:Nat}{n:aD}(h:dX w b aK n):b≠aK:=h.node.ne h.words (by decide)
theorem dX.aA {n:aD}(h:dX w b aK n)(a:ao M w w')(c:¬ M b)(d:¬ M aK):dX w' b aK n:=
 ⟨a.aj h.node c,a.aj h.words d,h.len,h.vI,h.wf⟩
theorem dX.new {n:aD}(h:dX w b aK n)(a:ai w w'):dX w' b aK n:=h.aA a id id
def aD.get (n:aD)(i:Nat):Int:=n.words.getD i 0
theorem aD.get_some {n:aD}(h:i<n.words.length):n.words[i]?=some (n.get i):=by
 grind[aD.get]
theorem dX.JT {n:aD}(h:dX w b aK n)(i:Nat):0<=n.get i/\n.get i<18446744073709551616:=by
 by_cases a:i<n.words.length
 ·exact h.wf _ (b9 (aD.get_some a))
 grind[aD.get]
theorem dX.cell {w:an}{b aK:Nat}{n:aD}(h:dX w b aK n){i:Nat}(a:i<n.words.length):w.cell? ⟨aK,i,none⟩=some (.int .u64 (n.get i)):=
 h.words.cell (sB (aD.get_some a))
theorem HC {n:aD}(h:dX w b aK n):a5 101 [.pointer (some ⟨b,0,none⟩)] w λv w'=>v=.bool (!n.down)/\w'=w:=by refine ba Tryz.func101 ?_;rw[YO];exact⟨n.down,h.node.cell rfl,rfl,rfl⟩
theorem tC {n:aD}(h:dX w b aK n):a5 82 [.pointer (some ⟨b,0,none⟩)] w λv w'=>v=.int .i64 (n.words.length / 8:Nat)/\w'=w:=by refine ba Tryz.func82 ?_;rw[XS];have:=h.len;refine⟨_,_,_,h.node.cell rfl,?_,rfl⟩;rw[zo (by omega),bI (by omega) (by omega)];rfl
theorem Rv (l:a7)(i:Nat)(x:Int):(us l).set i (.int .u64 x)=us (l.set i x):=by simp[us]
theorem dX.Js {n:aD}(h:dX w b aK n)(i:Nat){x:Int}(c:0<=x)(d:x<18446744073709551616):dX (w.setCell ⟨aK,i,none⟩ (.int .u64 x)) b aK {n with words:=n.words.set i x}:=by
 refine⟨?_,?_,by simpa using h.len,by simpa using h.vI,?_⟩
 ·have:=h.node.Jn (i:=i) h.ne (.int .u64 x)
  grind
 ·have:=h.words.setCell (i:=i) (.int .u64 x)
  grind[Rv]
 ·intro y a;rcases nP a with a | rfl
  ·exact h.wf y a
  grind
def aD.back (n:aD):aD×Bool:=if n.down=true/\n.get 1<31 then(⟨n.words.set 1 (n.get 1+1),false⟩,true)else(n,false)
def aD.fU (n:aD)(at_ count:Int):Int:=
 if count<1\/at_<0\/(n.words.length:Int)<=at_\/(n.words.length:Int)-at_<count then 2 else if n.down=true then 4 else 0
theorem aD.s_ {n:aD}{at_ count:Int}(h:n.fU at_ count=0):1<=count/\0<=at_/\at_+count<=n.words.length/\n.down=false:=by
 grind[aD.fU]
theorem wW {n:aD}(h:dX w b aK n)(at_ count:Int):a5 72 [.pointer (some ⟨b,0,none⟩),.int .i64 at_,.int .i64 count] w λv w'=>v=.int .i64 (n.fU at_ count)/\w'=w:=by
 refine ba Tryz.func72 ?_;rw[X8];have g:=h.len;refine bb (λc=>⟨?_,rfl⟩) (λc=>bb (λd=>⟨?_,rfl⟩) (λd=>⟨_,_,_,h.node.cell rfl,bb (λe=>⟨?_,rfl⟩) (λe=>⟨_,_,_,h.node.cell rfl,bb (λa=>⟨?_,rfl⟩) (λa=>⟨_,h.node.cell rfl,gW (λf=>⟨?_,rfl⟩) (λf=>⟨?_,rfl⟩)⟩)⟩)⟩))
 ·rw[aD.fU,bh (.inl c)]
 ·rw[aD.fU,bh (.inr (.inl d))]
 ·rw[aD.fU,bh (.inr (.inr (.inl e)))]
 ·rw[bI (by omega) (by omega)]at a;rw[aD.fU,bh (.inr (.inr (.inr (by omega))))]
 ·rw[bI (by omega) (by omega)]at a;rw[aD.fU,aQ (by omega),bh f]
 ·rw[bI (by omega) (by omega)]at a;rw[aD.fU,aQ (by omega),aQ (by grind)]
def aD.read (n:aD)(at_ count:Int):a7:=(n.words.drop at_.toNat).take count.toNat
theorem z8 (l:a7)(k:Nat):(us l).take k=us (l.take k):=by simp[us]
theorem z9 (l:a7)(k:Nat):(us l).drop k=us (l.drop k):=by simp[us]
theorem zD (l m:a7):us l++us m=us (l++m):=by simp[us]
def Ou (n:aD)(at_ count:Int)(w:an)(v:bf)(w':an):Prop:=
 (n.fU at_ count≠0/\v=.tuple #[.slice none 0 0,.int .i64 (n.fU at_ count)]/\w'=w)\/
 (n.fU at_ count=0/\∃ a cap,v=.tuple #[.slice (some a) count.toNat cap,.int .i64 0]/\ai w w'/\aX w' 30 1 (some a) count.toNat cap (us (n.read at_ count))/\w.heap.size<=a.block)
theorem aD.yN {n:aD}{at_ count:Int}(h:n.fU at_ count=0):(n.read at_ count).length=count.toNat:=by
 obtain⟨a,b,c,_⟩:=aD.s_ h
 grind[aD.read]
theorem AA {n:aD}(h:dX w b aK n)(at_ count:Int):a5 40 [.pointer (some ⟨b,0,none⟩),.int .i64 at_,.int .i64 count] w (Ou n at_ count w):=by
 refine ba Tryz.func40 ?_;rw[Yb];refine aB (wW h at_ count) ?_;rintro v w1 ⟨rfl,rfl⟩;refine⟨_,rfl,d8 (λc=>?_) (λc=>?_)⟩
 ·exact .inl ⟨c,rfl,rfl⟩
 ·obtain⟨r,k,l,_⟩:=aD.s_ c;have t:=h.len;refine⟨_,_,_,h.node.cell rfl,?_⟩;rw[bI (by omega) (by omega)];refine ll k (by omega) l (by omega) (by omega) ?_;intro a o;rcases o with rfl | ⟨i,_⟩
  ·have f:bl w1 (some ⟨aK,0+at_.toNat * 1,none⟩) (us (n.read at_ count)):=by
    refine fj h.words ?_
    grind[iS,aD.yN,z9,z8,aD.read]
   have e:(at_+count).toNat-at_.toNat=count.toNat:=by omega
   rw[e];refine aB (Ca (by rw[iS,aD.yN c]) f (qm _) (by omega) (by simp)) ?_;rintro v u ⟨d,cap,rfl,q,j,p,s⟩;refine⟨_,_,_,rfl,.inr ⟨c,?_⟩⟩;cases d with
   |none=>grind
   |some d=>
    refine⟨d,cap,rfl,q,j,?_⟩;rcases j.2 with⟨i,_⟩ | ⟨g,cur,i,_⟩
    ·cases i
    ·exact p _ ⟨d.off,by grind⟩
  ·omega
theorem Ov {P:df}{i:TypeInfo}(l:P.underlying t=some (.slice e))(h:P.info? e=some i)(g:i.size=1){o dl dc:Nat}{s:ak}{m:Nat}{news:ax}(k:news.length=m)
  (hm:m<=dl) (p:bl w s news) (n:s=none->m=0) (hw:ej w ⟨b,o,none⟩ 0 news):(Builtin.copy_ #[t,t] ty #[.slice (some ⟨b,o,none⟩) dl dc,.slice s m c]).run P w=.ok (.int .i64 m) (cI w ⟨b,o,none⟩ 0 news):=by
 have a:Nat.min m dl=m:=Nat.min_eq_left hm;have f:=tI (P:=P) hw;cases s with
 |none=>have:=n rfl;subst this;have:news=[]:=hN k;subst this;simp[Builtin.copy_,run_underlying l,Builtin.lenOf,a,sizeOf,typeInfo,h,Builtin.firstCells,goInt,storeCells,cI]
 |some s=>
  have d:(loadCells s m).run P w=.ok news.toArray w:=by
   have:cn w s 0 news:=by
    rcases p with rfl | ⟨sb,so,he,q⟩
    ·trivial
    ·simp at he;subst he;exact k_ λj v r=>by grind
   have:=bJ.run_loadCellsFrom (P:=P) (acc:=#[]) this;rw[k]at this;simpa[loadCells]using this
  simp[Builtin.copy_,run_underlying l,Builtin.lenOf,a,sizeOf,typeInfo,h,Builtin.firstCells,goInt,g,d,f]
def aD.write (n:aD)(at_:Nat)(ws:a7):aD:={n with words:=n.words.take at_++ws++n.words.drop (at_+ws.length)}
theorem dX.write {w:an}{b aK:Nat}{n:aD}(h:dX w b aK n){o:Nat}{ws:a7}(c:o+ws.length<=n.words.length)(hw:∀ x ∈ ws,0<=x/\x<18446744073709551616):dX (cI w ⟨aK,o,none⟩ 0 (us ws)) b aK (n.write o ws):=by
 have hlen:(n.write o ws).words.length=n.words.length:=by simp[aD.write];omega
 refine⟨?_,?_,by rw[hlen];exact h.len,by rw[hlen];exact h.vI,?_⟩
 ·rw[hlen];exact(ir _ _ _ _ _).aj h.node h.ne
 ·have:=h.words.cI (o:=o) (i:=0) (vs:=us ws);rw[ql (by grind[iS]),mJ,iS,z8,z9,zD,zD]at this;exact this
 ·intro x a;simp only[aD.write,i']at a;rcases a with(a | a) | a
  ·exact h.wf x (qN a)
  ·grind
  ·exact h.wf x (qM a)
theorem Fg {n:aD}(h:dX w b aK n)(at_:Int)(r:bl w a (us ws))(hw:∀ x ∈ ws,0<=x/\x<18446744073709551616)(q:a=none->ws.length=0) :
  a5 109 [.pointer (some ⟨b,0,none⟩),.int .i64 at_,.slice a ws.length c] w λv w'=>v=.int .i64 (n.fU at_ ws.length)/\
   dX w' b aK (if n.fU at_ ws.length=0 then n.write at_.toNat ws else n)/\ao (λk=>k=aK) w w':=by
 refine ba Tryz.func109 ?_;rw[XT];refine aB (wW h at_ _) ?_;rintro v w1 ⟨rfl,rfl⟩;refine⟨_,rfl,d8 (λd=>?_) (λd=>?_)⟩
 ·rw[aQ d];exact⟨rfl,h,ao.refl _ _⟩
 ·obtain⟨u,g,y,_⟩:=aD.s_ d;have A:=h.len;rw[bh d,d];refine⟨_,_,_,h.node.cell rfl,ll g (by omega) (by omega) (by omega) (by omega) ?_⟩;intro s j;rcases j with rfl | ⟨B,_⟩
  ·obtain ⟨i,p,aq,f,l⟩:=fV (T:=30) (z:=.int .u64 0) (n:=1) (m:=8) (by kernel_rfl);have e:=Ov (P:=prog) (w:=w1) (t:=94) (ty:=3) (b:=aK) (o:=0+at_.toNat * 1) (dl:=(n.words.length:Int).toNat - at_.toNat) (dc:=(n.words.length:Int).toNat - at_.toNat) (c:=c) Tryz.underlying94 p f (iS ws) (by omega) r q
    (gq h.words (by grind[iS]) (qm ws))
   refine⟨_,_,e,rfl,?_,ir _ _ _ _ _⟩;have:=h.write (o:=at_.toNat) (ws:=ws) (by omega) hw
   grind
  ·omega
def aD.dr (n:aD)(at_ old new:Int):aD:=if n.get at_.toNat=old then{n with words:=n.words.set at_.toNat new}else n
theorem Sb {n:aD}(h:dX w b aK n)(at_ old new:Int)(e:0<=new)(f:new<18446744073709551616) :
  a5 139 [.pointer (some ⟨b,0,none⟩),.int .i64 at_,.int .u64 old,.int .u64 new] w λv w'=>
   v=.tuple #[.int .u64 (if n.fU at_ 1=0 then n.get at_.toNat else 0),.int .i64 (n.fU at_ 1)]/\dX w' b aK (if n.fU at_ 1=0 then n.dr at_ old new else n)/\ao (λk=>k=aK) w w':=by
 refine ba Tryz.func139 ?_;rw[Yw];refine aB (wW h at_ _) ?_;rintro v w1 ⟨rfl,rfl⟩;refine⟨_,rfl,d8 (λa=>?_) (λa=>?_)⟩
 ·rw[aQ a,aQ a];exact⟨rfl,h,ao.refl _ _⟩
 ·obtain⟨b1,c,g,_⟩:=aD.s_ a;rw[bh a,bh a,a];have d:0+at_.toNat*1=at_.toNat:=by omega
  refine⟨_,_,_,h.node.cell rfl,dW c (by omega) ?_⟩;rw[d];refine⟨_,h.cell (by omega),eg (λhe=>?_) (λhe=>?_)⟩
  ·refine⟨_,_,_,h.node.cell rfl,dW c (by omega) ?_⟩;rw[d];refine⟨⟨_,h.cell (by omega)⟩,h.words.frozen,?_⟩;rintro i rfl;refine⟨rfl,?_,e4 _ _ _ _⟩;rw[aD.dr,bh he];exact h.Js _ e f
  ·rw[aD.dr,aQ he];exact⟨rfl,h,ao.refl _ _⟩
def aD.add (n:aD)(at_ a:Int):aD:={n with words:=n.words.set at_.toNat (IntKind.u64.wrap (n.get at_.toNat+a))}
theorem Cy (x:Int):0<=IntKind.u64.wrap x/\IntKind.u64.wrap x<18446744073709551616:=by simp only[IntKind.wrap,IntKind.bits,IntKind.signed];grind
theorem Sc {n:aD}(h:dX w b aK n)(at_ c:Int) :
  a5 140 [.pointer (some ⟨b,0,none⟩),.int .i64 at_,.int .u64 c] w λv w'=>
   v=.tuple #[.int .u64 (if n.fU at_ 1=0 then n.get at_.toNat else 0),.int .i64 (n.fU at_ 1)]/\dX w' b aK (if n.fU at_ 1=0 then n.add at_ c else n)/\ao (λk=>k=aK) w w':=by
 refine ba Tryz.func140 ?_;rw[YV];refine aB (wW h at_ _) ?_;rintro v w1 ⟨rfl,rfl⟩;refine⟨_,rfl,d8 (λa=>?_) (λa=>?_)⟩
 ·rw[aQ a,aQ a];exact⟨rfl,h,ao.refl _ _⟩
 ·obtain⟨b1,d,f,_⟩:=aD.s_ a;rw[bh a,bh a,a];have e:0+at_.toNat*1=at_.toNat:=by omega
  refine⟨_,_,_,h.node.cell rfl,dW d (by omega) ?_⟩;rw[e];refine⟨_,h.cell (by omega),_,_,_,h.node.cell rfl,dW d (by omega) ?_⟩;rw[e];refine⟨_,h.cell (by omega),dW d (by omega) ?_⟩;rw[e];refine⟨⟨_,h.cell (by omega)⟩,h.words.frozen,?_⟩;rintro g rfl;exact⟨rfl,h.Js _ (Cy _).1 (Cy _).2,e4 _ _ _ _⟩
theorem Ed (n:Nat)(v:bf):ko n [v]=List.replicate n v:=by
 induction n with
 |zero=>rfl
 |succ n a=>simp[ko,ux]at *
theorem Ow (d:1<=lines)(f:lines<=256):a5 74 [.int .i64 lines] w λv w'=>
  v=.tuple #[.pointer (some ⟨w.heap.size+1,0,none⟩),.int .i64 0]/\dX w' (w.heap.size+1) w.heap.size ⟨List.replicate (8*lines.toNat) 0,false⟩/\ai w w'/\w'.heap.size=w.heap.size+2:=by
 refine ba Tryz.func74 ?_;rw[KF];refine bb (λh=>by omega) (λ_=>bb (λh=>by omega) (λ_=>?_))
 have e:IntKind.i64.wrap (lines*8)=lines*8:=bI (by omega) (by omega);rw[e];refine⟨by omega,by omega,by omega,by omega,?_⟩;rintro b1 w1 rfl rfl c g rfl rfl;have a:(lines*8).toNat=8*lines.toNat:=by omega
 rw[a,Ed];have b:(w.alloc (.cells (List.replicate (8*lines.toNat) (Value.int .u64 0)).toArray 30)).heap.size=w.heap.size+1:=by simp
 refine⟨by rw[b],?_,(hF _ _).alloc _,by simp⟩;refine⟨?_,?_,by grind,by grind,?_⟩
 ·have:=pn (w.alloc (.cells (List.replicate (8*lines.toNat) (Value.int .u64 0)).toArray 30)) [.slice (some ⟨w.heap.size,0,none⟩) (8*lines.toNat) (8*lines.toNat),.bool false] 137
  grind
 ·have:=(pn w (List.replicate (8*lines.toNat) (Value.int .u64 0)) 30).alloc (.cells #[.slice (some ⟨w.heap.size,0,none⟩) (8*lines.toNat) (8*lines.toNat),.bool false] 137);simpa[us]using this
 grind
end
section
def aG.last (v:aG):Int:=if v.Kind=1 then 3 else 2
theorem Ch (w:an)(v:aG):a5 133 [v.val] w λx w'=>x=.int .i64 v.last/\ai w w':=by refine ba Tryz.func133 ?_;refine Eq.mpr (Zj v.Kind v.Node v.cL v.N v.Old v.ai v.Words v.dh v.c8 v.Key v.cK w _) ?_;rintro b1 w1 rfl rfl;have c:=pF w v;have b:=hF w (.cells v.cells.toArray cP);refine⟨_,c.cell rfl,eg (λa=>⟨?_,b⟩) (λa=>⟨?_,b⟩)⟩<;>simp[aG.last,a]
def aG.hi (v:aG):Int:=if v.Kind=1 then v.N else if v.Kind=3\/v.Kind=4 then 1 else 0
theorem M4 (w:an)(v:aG):a5 233 [v.val] w λx w'=>x=.int .i64 v.hi/\ai w w':=by
 refine ba Tryz.func233 ?_;refine Eq.mpr (Ks v.Kind v.Node v.cL v.N v.Old v.ai v.Words v.dh v.c8 v.Key v.cK w _) ?_;rintro b1 w1 rfl rfl;have c:=pF w v;have a:=hF w (.cells v.cells.toArray cP);refine⟨_,c.cell rfl,eg (λd=>⟨_,c.cell rfl,?_,a⟩) (λd=>eg (λb=>eg (λ_=>⟨?_,a⟩) (λh=>cp b h)) (λb=>eg (λe=>⟨?_,a⟩) (λe=>⟨?_,a⟩)))⟩
 ·grind[aG.hi]
 ·grind[aG.hi]
 ·grind[aG.hi]
 grind[aG.hi]
def aG.fz (v:aG):Int:=v.cL / 8
def aG.hI (v:aG):Int:=(v.cL+v.count-1) / 8
theorem GP (w:an)(v:aG)(c:0<=v.cL)(e:v.cL<=1000000)(f:1<=v.count)(g:v.count<=1000000) :
  a5 132 [v.val] w λx w'=>x=.tuple #[.int .i64 v.fz,.int .i64 v.hI]/\ai w w':=by
 refine ba Tryz.func132 ?_;refine Eq.mpr (K_ v.Kind v.Node v.cL v.N v.Old v.ai v.Words v.dh v.c8 v.Key v.cK w _) ?_;rintro b1 w1 rfl rfl h rfl;have a:av (w.alloc (.cells v.cells.toArray cP)).drew w.heap.size v.cells cP:=pF w v;have d:Go.bJ.ai w (w.alloc (.cells v.cells.toArray cP)).drew:=(hF w (.cells v.cells.toArray cP)).drew;refine⟨λu=>Go.bJ.ai (w.alloc (.cells v.cells.toArray cP)).drew u,ao.refl _ _,_,λu hu=>(ai.aj hu a).cell rfl,_,λu hu=>(ai.aj hu a).cell rfl,nG (λu hu=>hB (ai.aj hu a)) ?_⟩;refine aB (wJ _ v) ?_;rintro x i ⟨rfl,b⟩;refine⟨_,rfl,b,?_,d.new b⟩;rw[bI (x:=v.cL+v.count) (by omega) (by omega),bI (x:=v.cL+v.count-1) (by omega) (by omega),zo c,zo (by omega),bI (by omega) (by omega),bI (by omega) (by omega)];rfl
def aG.inside (v:aG)(nodes lines:Int):Bool:=
 decide (1<=nodes/\nodes<=5/\1<=lines/\lines<=256/\0<=v.Node/\v.Node<nodes/\0<=v.cL/\v.cL<lines*8/\v.count<=1024/\v.hI<lines/\v.hI-v.fz<128)
theorem Ox (w:an)(v:aG)(nodes lines:Int)(q:1<=v.count):a5 131 [v.val,.int .i64 nodes,.int .i64 lines] w λx w'=>x=.bool (v.inside nodes lines)/\ai w w':=by
 refine ba Tryz.func131 ?_;refine Eq.mpr (KI v.Kind v.Node v.cL v.N v.Old v.ai v.Words v.dh v.c8 v.Key v.cK nodes lines w _) ?_;rintro b1 w1 rfl rfl;have b:=pF w v;have a:=hF w (.cells v.cells.toArray cP);have no:∀ {w'},Go.bJ.ai w w'->¬ (1<=nodes/\nodes<=5/\1<=lines/\lines<=256/\0<=v.Node/\v.Node<nodes/\0<=v.cL/\v.cL<lines * 8/\v.count<=1024/\v.hI<lines/\v.hI - v.fz<128)->
   (Value.bool false=.bool (v.inside nodes lines)/\Go.bJ.ai w w'):=λc h=>⟨by simp only[aG.inside,decide_eq_false h],c⟩
 refine bb (λe=>no a (by omega)) (λe=>bb (λf=>no a (by omega)) (λf=>bb (λg=>no a (by omega)) (λg=>bb (λi=>no a (by omega)) (λi=>
  ⟨_,b.cell rfl,bb (λj=>no a (by omega)) (λj=>⟨_,b.cell rfl,bb (λk=>no a (by omega)) (λk=>⟨_,b.cell rfl,bb (λl=>no a (by omega)) (λl=>⟨_,b.cell rfl,?_⟩)⟩)⟩)⟩))))
 rw[bI (x:=lines*8) (by omega) (by omega)];refine bb (λn=>no a (by omega)) (λn=>jL (hB b) ?_);refine aB (wJ _ v) ?_;rintro x t ⟨rfl,c⟩;refine⟨_,rfl,bb (λo=>no (a.new c) (by omega)) (λo=>jL (hB (ai.aj c b)) ?_)⟩;refine aB (GP _ v (by omega) (by omega) q (by omega)) ?_;rintro x u ⟨rfl,d⟩;have s:v.fz=v.cL / 8:=rfl;have r:v.hI=(v.cL+v.count-1) / 8:=rfl;refine⟨_,_,rfl,bb (λp=>⟨?_,(a.new c).new d⟩) (λp=>no ((a.new c).new d) (by omega))⟩;rw[bI (x:=v.hI-v.fz) (by omega) (by omega)];congr 1;unfold aG.inside
 grind
def aG.valid (v:aG)(nodes lines:Int):Int:=
 if v.count<1 then 1 else if v.inside nodes lines=false then 2 else if v.fz<=v.last/\v.last<v.hI then 2 else 0
theorem qg {v:aG}{nodes:Int}(h:v.inside nodes lines=true):1<=nodes/\nodes<=5/\1<=lines/\lines<=256/\0<=v.Node/\v.Node<nodes/\0<=v.cL/\v.cL<lines*8/\v.count<=1024/\v.hI<lines/\v.hI-v.fz<128:=qK h
theorem z_ (w:an)(v:aG)(nodes lines:Int):a5 94 [v.val,.int .i64 nodes,.int .i64 lines] w λx w'=>x=.int .i64 (v.valid nodes lines)/\ai w w':=by
 refine ba Tryz.func94 ?_;refine Eq.mpr (KW v.Kind v.Node v.cL v.N v.Old v.ai v.Words v.dh v.c8 v.Key v.cK nodes lines w _) ?_;rintro b1 w1 rfl rfl;have o:=pF w v;have t:=hF w (.cells v.cells.toArray cP);refine jL (hB o) ?_;refine aB (wJ _ v) ?_;rintro x y ⟨rfl,p⟩;have b:=ai.aj p o;have i:=t.new p;refine⟨_,rfl,bb (λq=>⟨by grind[aG.valid],i⟩) (λq=>jL (hB b) ?_)⟩;refine aB (Ox _ v nodes lines (by omega)) ?_;rintro x z ⟨rfl,e⟩;have c:=ai.aj e b;have j:=i.new e;refine⟨_,rfl,eF (λn=>⟨by grind[aG.valid],j⟩) (λn=>jL (hB c) ?_)⟩;have u:=qg n;refine aB (GP _ v (by omega) (by omega) (by omega) (by omega)) ?_;rintro x A ⟨rfl,f⟩;have d:=ai.aj f c;have l:=j.new f;refine⟨_,_,rfl,jL (hB d) ?_⟩;refine aB (Ch _ v) ?_;rintro x B ⟨rfl,g⟩;have k:=ai.aj g d;have a:=l.new g;refine⟨_,rfl,bb (λr=>jL (hB k) ?_) (λr=>⟨?_,a⟩)⟩
 ·refine aB (Ch _ v) ?_;rintro x C ⟨rfl,h⟩;refine⟨_,rfl,bb (λs=>⟨?_,a.new h⟩) (λs=>⟨?_,a.new h⟩)⟩
  ·grind[aG.valid]
  grind[aG.valid]
 grind[aG.valid]
def aG.cls (v:aG):Int:=if v.fz<=v.last then 1 else 2
theorem QA (w:an)(v:aG)(e:0<=v.cL)(f:v.cL<=1000000):a5 185 [v.val] w λx w'=>x=.int .i64 v.cls/\ai w w':=by
 refine ba Tryz.func185 ?_;refine Eq.mpr (KZ v.Kind v.Node v.cL v.N v.Old v.ai v.Words v.dh v.c8 v.Key v.cK w _) ?_;rintro b1 w1 rfl rfl g rfl;have b:av (w.alloc (.cells v.cells.toArray cP)).drew w.heap.size v.cells cP:=pF w v;have d:Go.bJ.ai w (w.alloc (.cells v.cells.toArray cP)).drew:=(hF w (.cells v.cells.toArray cP)).drew;refine⟨λu=>Go.bJ.ai (w.alloc (.cells v.cells.toArray cP)).drew u,ao.refl _ _,_,λu hu=>(ai.aj hu b).cell rfl,nG (λu hu=>hB (ai.aj hu b)) ?_⟩;refine aB (Ch _ v) ?_;rintro x i ⟨rfl,a⟩;refine⟨_,rfl,a,?_⟩;rw[zo e,bI (by omega) (by omega)];have c:v.fz=v.cL / 8:=rfl;refine bb (λh=>⟨?_,d.new a⟩) (λh=>⟨?_,d.new a⟩)
 ·rw[aG.cls,c,bh h]
 ·rw[aG.cls,c,aQ h]
def aG.check (v:aG)(inc b key a:Int):Int:=
 if v.cls=1/\v.Kind=1 then 0 else if inc<0\/inc<b then 5 else if v.cls=1 then 0 else if v.cK<0\/v.cK≠a\/v.Key≠key then 5 else 0
theorem QB (w:an)(v:aG)(inc c key b:Int)(k:0<=v.cL)(l:v.cL<=1000000)(r:inc<=1000000)(n:v.cK<9223372036854775808) :
  a5 136 [v.val,.int .i64 inc,.int .u64 c,.int .u64 key,.int .u64 b] w λx w'=>x=.int .i64 (v.check inc c key b)/\ai w w':=by
 refine ba Tryz.func136 ?_;refine Eq.mpr (KX v.Kind v.Node v.cL v.N v.Old v.ai v.Words v.dh v.c8 v.Key v.cK inc c key b w _) ?_;rintro b1 w1 rfl rfl;have g:=pF w v;have o:=hF w (.cells v.cells.toArray cP);refine jL (hB g) ?_;refine aB (QA _ v k l) ?_;rintro x s ⟨rfl,j⟩;have d:=ai.aj j g;have a:=o.new j;refine⟨_,rfl,eg (λi=>?_) (λi=>?_)⟩
 ·refine⟨_,d.cell rfl,eg (λe=>⟨by grind[aG.check],a⟩) (λe=>bb (λf=>⟨by grind[aG.check],a⟩) (λf=>?_))⟩
  rw[kP (x:=inc) (by omega) (by omega)]
  grind[aG.check]
 ·refine bb (λf=>⟨by grind[aG.check],a⟩) (λf=>?_)
  rw[kP (x:=inc) (by omega) (by omega)];refine bb (λq=>⟨by grind[aG.check],a⟩) (λq=>eg (λh=>cp h i) (λ_=>⟨_,d.cell rfl,bb (λaq=>⟨by grind[aG.check],a⟩) (λaq=>⟨_,d.cell rfl,?_⟩)⟩));dsimp only;rw[kP (x:=v.cK) (by omega) (by omega)];refine d8 (λhu=>⟨by grind[aG.check],a⟩) (λhu=>⟨_,d.cell rfl,d8 (λp=>⟨by grind[aG.check],a⟩) (λp=>⟨?_,a⟩)⟩)
  grind[aG.check]
abbrev jz:bY:=131
def fits (v:aG)(d:bV):Bool:=
 if d.Code=0 then decide ((d.dh:Int)=v.hi)else if d.Code=4\/d.Code=5 then decide (d.dh=0)else false
theorem Rw (w:an)(v:aG)(d:bV):a5 192 [v.val,d.val] w λx w'=>x=.bool (fits v d)/\ai w w':=by
 refine ba Tryz.func192 ?_;refine Eq.mpr (K' v.Kind v.Node v.cL v.N v.Old v.ai v.Words v.dh v.c8 v.Key v.cK d.Code d.Words d.dh d.c8 w _) ?_;rintro b1 w1 rfl rfl j l rfl rfl;have i:=(pF w v).alloc (.cells d.cells.toArray jz);have a:=pn (w.alloc (.cells v.cells.toArray cP)) d.cells jz;have b:=(hF w (.cells v.cells.toArray cP)).alloc (.cells d.cells.toArray jz);have k:∀ x:Nat,(((x:Nat):Int) == 0)=decide (x=0):=λx=>by
  grind
 refine⟨_,a.cell rfl,eg (λc=>?_) (λc=>eg (λe=>eg (λ_=>⟨_,_,_,a.cell rfl,?_,b⟩) (λh=>cp e h)) (λe=>eg (λg=>⟨_,_,_,a.cell rfl,?_,b⟩) (λg=>⟨?_,b⟩)))⟩
 ·rintro n rfl;refine⟨λu=>Go.bJ.ai ((w.alloc (.cells v.cells.toArray cP)).alloc (.cells d.cells.toArray jz)).drew u,ao.refl _ _,_,_,_,λu hu=>(ai.aj hu a).cell rfl,nG (λu hu=>hB (ai.aj hu i)) ?_⟩;refine aB (M4 _ v) ?_;rintro x o ⟨rfl,f⟩;refine⟨_,rfl,f,?_,b.drew.new f⟩;rw[fits,bh c];rfl
 ·grind[fits]
 ·grind[fits]
 grind[fits]
def dS (vs:List aG):List ax:=vs.map aG.cells
def gv (ds:List bV):List ax:=ds.map bV.cells
theorem v7 (vs:List aG):∀ r ∈ dS vs,r.length=9:=by intro r a;simp only[dS,cW]at a;obtain⟨v,_,rfl⟩:=a;rfl
theorem y3 (ds:List bV):∀ r ∈ gv ds,r.length=2:=by intro r a;simp only[gv,cW]at a;obtain⟨v,_,rfl⟩:=a;rfl
theorem zE {vs:List aG}{v:aG}(h:vs[i]?=some v):(dS vs)[i]?=some v.cells:=by grind[dS]
theorem Db {ds:List bV}{d:bV}(h:ds[i]?=some d):(gv ds)[i]?=some d.cells:=by grind[gv]
def qU (vs:List aG)(ds:List bV):Bool:=decide (vs.length=ds.length) && (vs.zip ds).all λp=>fits p.1 p.2
theorem S0 {b:ak}{B aY:Nat}{vs:List aG}{ds:List bV}(G:bl w a (dS vs).flatten)(C:bl w b (gv ds).flatten)(O:vs.length<=1000000)(K:ds.length<=1000000000) :
  a5 149 [.slice a vs.length B,.slice b ds.length aY] w λx w'=>x=.bool (qU vs ds)/\ai w w':=by
 refine ba Tryz.func149 ?_;rw[LC];refine d8 (λh=>⟨?_,ao.refl _ _⟩) (λh=>?_)
 ·grind[qU]
 have hlen:vs.length=ds.length:=by omega
 refine cZ mix (λm env u=>∃ (i:Nat) (j:ax),i<=vs.length/\m=vs.length-i/\env=yJ b ds.length aY a vs.length B vs.length i j/\ai w u/\(∀ k,k<i->∀ v d,vs[k]?=some v->ds[k]?=some d->fits v d=true)) vs.length
  ⟨0,_,by omega,by omega,rfl,ao.refl _ _,λk g=>by omega⟩ ?_
 rintro m env u ⟨i,j,N,rfl,rfl,g,e⟩;rw[YW];refine bb (λy=>?_) (λy=>?_)
 ·have E:i<vs.length:=by omega
  have al:vs[i]?=some vs[i]:=by grind
  have D:ds[i]?=some ds[i]:=by grind
  obtain⟨L,Q,rfl,H,s⟩:=(G.new g).row (v7 vs) (by omega) (zE al);obtain⟨M,R,rfl,_,_⟩:=(C.new g).row (y3 ds) (by omega) (Db D);refine dW (by omega) (by omega) ?_;refine jL (v:=vs[i]) (by grind) ?_;rintro b1 w1 q o;obtain⟨aq,n⟩:=bo q o;refine⟨gq (vs:=aG.cells vs[i]) aq (by simp[aG.cells]) (aG.single vs[i]),?_⟩;rintro F p S rfl;obtain⟨f,A⟩:=nw (vs:=aG.cells vs[i]) aq (by simp[aG.cells]) n (by omega) p;clear o p aq n;have c:Go.bJ.ai w F.drew:=(ao.new g A).drew;refine⟨λz=>Go.bJ.ai F.drew z,ao.refl _ _,nG (v:=vs[i]) (λz aq=>hB (ai.aj aq f)) ?_⟩;refine dW (by omega) (by omega) ?_;refine⟨ds[i].Code,ds[i].Words,ds[i].dh,ds[i].c8,λz aq=>?_,?_⟩
  ·obtain⟨b',P,he,r,_⟩:=(C.new (ao.new c aq)).row (y3 ds) (by omega) (Db D);simp only[hM,Addr.mk.injEq,and_true]at he;rw[he.1,he.2];exact r
  refine aB (Rw _ vs[i] ds[i]) ?_;rintro x T ⟨rfl,l⟩;refine⟨_,rfl,eF (λI=>?_) (λI=>?_)⟩
  ·refine⟨?_,ao.new c l⟩;congr 1;symm;unfold qU;rw[Bool.and_eq_false_iff];refine .inr ?_;rw[List.all_eq_false];exact⟨(vs[i],ds[i]),b9 (i:=i) (by grind),by grind⟩
  ·rw[show IntKind.i64.wrap ((i:Int)+1)=((i+1:Nat):Int) by rw[bI (by omega) (by omega)];rfl];refine⟨vs.length-(i+1),by omega,i+1,_,by omega,rfl,rfl,ao.new c l,?_⟩
   grind
 ·have J:i=vs.length:=by omega
  rw[Zl];refine⟨?_,g⟩;congr 1;symm;unfold qU;rw[gL];refine⟨by grind,?_⟩;rw[jt];rintro⟨v,d⟩ hm;obtain⟨k,t,he⟩:=List.mem_iff_getElem.1 hm;simp only[List.length_zip]at t;simp only[List.getElem_zip,Prod.mk.injEq]at he;exact e k (by omega) v d (by grind) (by grind)
end
section
structure bc where
 kind:Int
 node:Int
 at_:Int
 n:Int
 old:Int
 new:Int
 words:a7
 key:Int
 eX:Int
abbrev a_:=List bc
def bc.v (x:bc):aG:=⟨x.kind,x.node,x.at_,x.n,x.old,x.new,none,x.words.length,0,x.key,x.eX⟩
structure cN where
 code:Int
 words:a7
abbrev ck:=List cN
abbrev a3:=List ck
structure cH where
 aL:Int
 inc:Int
 node:Int
 a1:a_
 b4:Nat
 words:a7
def cH.refusal (p:cH)(x:bc)(n:aD):Int:=
 if n.down=true then 4 else if x.v.valid 5 (n.words.length / 8:Nat)≠0 then 2 else x.v.check p.inc (n.get (24+p.aL).toNat) (n.get 0) (n.get 1)
def exec (x:bc)(pc:Int×Int)(n:aD):aD×a7:=
 if x.kind=1 then(n,n.read pc.1 pc.2)
 else if x.kind=2 then(n.write pc.1.toNat ((x.words.drop (pc.1-x.at_).toNat).take pc.2.toNat),[])
 else if x.kind=3 then(n.dr x.at_ x.old x.new,[n.get x.at_.toNat])
 else if x.kind=4 then(n.add x.at_ x.new,[n.get x.at_.toNat])
 else(n,[])
def cH.ih (p:cH):Prop:=∀ x xs,p.a1=x::xs->p.b4<x.v.pieces.length
def cH.done (p:cH):cH:={p with a1:=p.a1.tail,b4:=0,words:=[]}
def cH.step (p:cH)(n:aD):cH×aD×Option cN:=
 match p.a1 with
 | []=>(p,n,none)
 |x::_=>
  if p.refusal x n≠0 then(p.done,n,some ⟨p.refusal x n,[]⟩)
  else
   let r:=exec x (x.v.pieces.getD p.b4 (0,0)) n
   if p.b4+1<x.v.pieces.length then({p with b4:=p.b4+1,words:=p.words++r.2},r.1,none)
   else(p.done,r.1,some ⟨0,p.words++r.2⟩)
structure cT (M:a4)(w:an)(v:aG)(x:bc):Prop where
 eq:v={x.v with Words:=v.Words,c8:=v.c8}
 rd:bl w v.Words (us x.words)
 nil:v.Words=none->x.words=[]
 off:x.words=[]\/gU M v.Words
 wf:∀ u ∈ x.words,cy u
 new:cy x.new
 old:cy x.old
 key:cy x.key
 eX:dU x.eX
 cap:v.dh<=v.c8
 lx:x.words.length<=1000000
theorem cT.aA {M M':a4}{w w':an}{v:aG}{x:bc}(h:cT M w v x)(g:ao M w w')(f:∀ k,k<w.heap.size->M' k->M k):cT M' w' v x:=by
 refine⟨h.eq,h.rd.aA g (h.off.imp (λe=>by rw[e];rfl) id),h.nil,?_,h.wf,h.new,h.old,h.key,h.eX,h.cap,h.lx⟩;rcases h.off with b | b
 ·grind
 ·by_cases i:x.words=[]
  ·grind
  ·refine .inr ?_;cases c:v.Words with
   |none=>trivial
   |some a=>rw[c]at b;have d:=h.rd;rw[c]at d;intro hm;exact b (f _ (d.lt (by simpa[us]using i)) hm)
theorem cT.count {M:a4}{w:an}{v:aG}{x:bc}(h:cT M w v x):v.count=x.v.count:=by rw[h.eq];rfl
theorem cT.valid {M:a4}{w:an}{v:aG}{x:bc}(h:cT M w v x)(a b:Int):v.valid a b=x.v.valid a b:=by rw[h.eq];rfl
theorem cT.check {M:a4}{w:an}{v:aG}{x:bc}(h:cT M w v x)(a b c d:Int):v.check a b c d=x.v.check a b c d:=by rw[h.eq];rfl
theorem cT.pieces {M:a4}{w:an}{v:aG}{x:bc}(h:cT M w v x):v.pieces=x.v.pieces:=by rw[h.eq];rfl
theorem cT.at_ {M:a4}{w:an}{v:aG}{x:bc}(h:cT M w v x):v.cL=x.at_:=by rw[h.eq];rfl
theorem cT.kind {M:a4}{w:an}{v:aG}{x:bc}(h:cT M w v x):v.Kind=x.kind:=by rw[h.eq];rfl
structure dC where
 aL:Int
 inc:Int
 node:Int
 raw:List aG
 a1:a_
 dk:ak
 gg:Nat
 b4:Nat
 words:a7
 hl:ak
 pE:Nat
def dC.pure (p:dC):cH:=⟨p.aL,p.inc,p.node,p.a1,p.b4,p.words⟩
def dC.cells (p:dC):ax:=[.int .i64 p.aL,.int .i64 p.inc,.int .i64 p.node,.slice p.dk p.a1.length p.gg,.int .i64 p.b4,.slice p.hl p.words.length p.pE]
abbrev p2:bY:=139
abbrev rl:bY:=30
def et (M:a4)(w:an)(raw:List aG)(xs:a_):Prop:=raw.length=xs.length/\∀ (i:Nat) (v:aG) (x:bc),raw[i]?=some v->xs[i]?=some x->cT M w v x
theorem et.aA {M M':a4}{w w':an}{raw:List aG}{xs:a_}(h:et M w raw xs)(b:ao M w w')(a:∀ k,k<w.heap.size->M' k->M k):et M' w' raw xs:=
 ⟨h.1,λi v x al c=>(h.2 i v x al c).aA b a⟩
theorem et.tail {v:aG}{raw:List aG}{x:bc}{xs:a_}(h:et M w (v::raw) (x::xs)):et M w raw xs:=
 ⟨by simpa using h.1,λi v x al a=>h.2 (i+1) v x (by grind) (by grind)⟩
def dC.mut (b:Nat)(p:dC)(k:Nat):Prop:=k=b\/aP p.dk k\/aP p.hl k
structure dN (M:a4)(w:an)(b:Nat)(p:dC):Prop where
 aj:av w b p.cells p2
 own:aX w cP 9 p.dk p.a1.length p.gg (dS p.raw).flatten
 kr:aX w rl 1 p.hl p.words.length p.pE (us p.words)
 vs:et M w p.raw p.a1
 aL:0<=p.aL/\p.aL<6
 inc:0<=p.inc/\p.inc<=59
 node:0<=p.node/\p.node<5
 len:p.a1.length<=1024
 lx:p.words.length<=8*p.b4
 nL:∀ x ∈ p.a1,x.v.valid 5 256=0/\x.node=p.node
 ex:match p.a1 with
  | []=>p.b4=0
  |x::_=>p.b4<=x.v.pieces.length
 ua:∀ u ∈ p.words,cy u
 jg:∀ k,p.mut b k->M k
theorem dN.aA {M M':a4}{w w':an}{b:Nat}{p:dC}(h:dN M w b p)(a:ao M' w w')(d:∀ k,p.mut b k->¬ M' k)(e:∀ k,M' k->M k):dN M w' b p:=
 ⟨a.aj h.aj (d b (.inl rfl)),h.own.aA a λk c=>d k (.inr (.inl c)),h.kr.aA a λk c=>d k (.inr (.inr c)),h.vs.aA (a.mono λi _=>e i) λ_ _ h=>h,
  h.aL,h.inc,h.node,h.len,h.lx,h.nL,h.ex,h.ua,h.jg⟩
theorem dN.new {p:dC}(h:dN M w b p)(c:ai w w'):dN M w' b p:=h.aA c (λ_ _ a=>a) (λ_ a=>a.elim)
theorem dN.nB {M':a4}{p:dC}(h:dN M w b p)(a:∀ k,k<w.heap.size->M' k->M k)(c:∀ k,p.mut b k->M' k):dN M' w b p:=
 ⟨h.aj,h.own,h.kr,h.vs.aA (ao.refl _ _) a,h.aL,h.inc,h.node,h.len,h.lx,h.nL,h.ex,h.ua,c⟩
theorem y4 {p:dC}(h:dN M w b p):a5 45 [.pointer (some ⟨b,0,none⟩)] w λv w'=>v=.int .i64 p.a1.length/\w'=w:=by refine ba Tryz.func45 ?_;rw[Wk];exact⟨_,_,_,h.aj.cell rfl,rfl,rfl⟩
theorem M5 {p:dC}(h:dN M w b p):a5 67 [.pointer (some ⟨b,0,none⟩)] w λv w'=>v=.int .i64 p.aL/\w'=w:=by refine ba Tryz.func67 ?_;rw[WW];exact⟨_,h.aj.cell rfl,rfl,rfl⟩
theorem Fh {p:dC}(h:dN M w b p):a5 68 [.pointer (some ⟨b,0,none⟩)] w λv w'=>v=.int .i64 p.node/\w'=w:=by refine ba Tryz.func68 ?_;rw[Xw];exact⟨_,h.aj.cell rfl,rfl,rfl⟩
theorem Rx {c i n:Int}(d:0<=c/\c<6)(e:0<=i/\i<=59)(f:0<=n/\n<5) :
  a5 80 [.int .i64 c,.int .i64 i,.int .i64 n] w λv w'=>v=.tuple #[.pointer (some ⟨w.heap.size,0,none⟩),.int .i64 0]/\(∀ M:a4,M w.heap.size->dN M w' w.heap.size ⟨c,i,n,[],[],none,0,0,[],none,0⟩)/\ai w w'/\w'.heap.size=w.heap.size+1:=by
 refine ba Tryz.func80 ?_;rw[Zi];refine bb (λh=>by omega) (λ_=>bb (λh=>by omega) (λ_=>bb (λh=>by omega) (λ_=>bb (λh=>by omega) (λ_=>bb (λh=>by omega) (λ_=>bb (λh=>by omega) (λ_=>?_))))))
 rintro b1 w1 rfl rfl;refine⟨rfl,λM b=>?_,hF _ _,by simp⟩;refine⟨pn w [.int .i64 c,.int .i64 i,.int .i64 n,.slice none 0 0,.int .i64 0,.slice none 0 0] p2,aX.nil _ _ _,aX.nil _ _ _,⟨rfl,λi v x al=>by grind⟩,d,e,f,by simp,by simp,by simp,rfl,by simp,?_⟩;rintro k (rfl | ⟨o,a⟩ | ⟨o,a⟩)
 ·exact b
 ·cases a
 grind
theorem K7 (vs:List aG):∀ u ∈ (dS vs).flatten,single u=true:=by intro u hu;simp only[dS,qL,cW]at hu;obtain⟨r,⟨v,_,rfl⟩,hu⟩:=hu;exact v.single u hu
theorem KL (vs:List aG):(dS vs).flatten.length=vs.length*9:=by rw[nh (v7 vs)];simp[dS]
theorem Lb {n c:Nat}{vs:List aG}(f:vs.length=n)(q:bl w a (dS vs).flatten)(r:n<=1000000)(l:a=none->n=0) :
  a5 137 [.slice a n c] w λv w'=>∃ b cap,v=.slice b n cap/\uG w w' cP 9 a b n cap (dS vs).flatten:=by
 refine ba Tryz.func137 ?_;rw[T8];obtain⟨i,j,aq,d,h⟩:=fV (T:=cP) (z:=.agg #[.int .i64 0,.int .i64 0,.int .i64 0,.int .i64 0,.int .u64 0,.int .u64 0,.slice none 0 0,.int .u64 0,.int .i64 0]) (n:=9) (m:=88) (by kernel_rfl);cases a with
 |none=>
  refine hc rfl ⟨none,0,by grind,ao.refl _ _,?_,?_,by simp⟩
  ·rw[l rfl]at f ⊢;rw[hN f];exact aX.nil _ _ _
  ·rintro k ⟨o,p⟩;cases p
 |some a=>
  refine dG rfl ?_;rintro b1 w1 rfl rfl;obtain⟨b,e,w',g,s⟩:=yW (t:=125) (ty:=125) (n:=n) (c:=c) (w:=w) (a:=a) (xs:=(dS vs).flatten) Tryz.underlying125 j aq (by rw[d];rfl) (by omega) (by grind[KL]) q (K7 vs) (by omega) (by grind)
  grind
theorem QC {v:aG}(J:bl w v.Words (us ws))(G:ws.length=v.dh)(O:v.dh<=1000000)(H:v.Words=none->v.dh=0) :
  a5 134 [v.val] w λx w'=>∃ a cap,x=aG.val {v with Words:=a,c8:=cap}/\ai w w'/\aX w' rl 1 a v.dh cap (us ws)/\(∀ k,aP a k->w.heap.size<=k)/\(a=none↔v.Words=none):=by
 refine ba Tryz.func134 ?_;refine Eq.mpr (YQ v.Kind v.Node v.cL v.N v.Old v.ai v.Words v.dh v.c8 v.Key v.cK w _) ?_;rintro b1 w1 r n A C s p;obtain⟨B,j⟩:=bo r n;obtain⟨aq,c⟩:=bo s p;have K:w1.heap.size=w.heap.size+1:=by simp_all
 have L:C.heap.size=w.heap.size+2:=by simp_all
 have b:=ai.aj c B;have l:Go.bJ.ai w C:=j.new c;clear n p B j c;refine⟨_,_,_,b.cell rfl,?_⟩;refine aB (Ca (by rw[iS,G]) (J.new l) (qm ws) (by omega) H) ?_;rintro x M ⟨a,cap,rfl,f,I,P,E⟩;refine⟨_,_,_,rfl,⟨_,(ai.aj f b).cell rfl⟩,(ai.aj f b).frozen,?_⟩;intro z d;have u:av z b1 (aG.cells {v with Words:=a,c8:=cap}) cP:=by rw[d];exact(ai.aj f b).setCell _
 have e:=(ai.aj f aq).Jn (b':=b1) (i:=6) (by omega) (.slice a v.dh cap);rw[<-d]at e;have g:ao (λk=>k=b1) M z:=by rw[d];exact e4 _ _ _ _
 refine jL (v:={v with Words:=a,c8:=cap}) (hB u) ⟨gq (vs:=aG.cells {v with Words:=a,c8:=cap}) e (by simp[aG.cells]) (aG.single _),?_⟩;intro D q;have y:av D A (aG.cells {v with Words:=a,c8:=cap}) cP:=by rw[q];have:=e.cI (o:=0) (i:=0) (vs:=aG.cells {v with Words:=a,c8:=cap});rw[qh (by simp[aG.cells])]at this;exact this
 have h:ao (λk=>k=A) z D:=by rw[q];exact ir _ _ _ _ _
 refine jL (v:={v with Words:=a,c8:=cap}) (hB y) ⟨rfl,a,cap,rfl,?_,?_,λk F=>?_,E⟩
 ·exact((l.new f).trans g (λi t he=>by omega)).trans h (λi t he=>by omega)
 ·refine(I.aA g ?_).aA h ?_
  ·grind
  grind
 grind
theorem AB {n:aD}(h:dX w b aK n)(hu:n.down=false)(at_:Int)(l:0<=at_)(o:at_<100):a5 135 [.pointer (some ⟨b,0,none⟩),.int .i64 at_] w λv w'=>v=.int .u64 (n.get at_.toNat)/\ai w w':=by
 refine ba Tryz.func135 ?_;rw[Y7];refine aB (AA h at_ 1) ?_;intro v w1 i;rcases i with⟨d,rfl,rfl⟩ | ⟨d,a,cap,rfl,f,e,p⟩
 ·refine⟨_,_,_,_,rfl,d8 (λ_=>⟨?_,ao.refl _ _⟩) (λh=>cp h d)⟩
  grind[aD.fU,aD.get,List.getElem?_eq_none]
 ·refine⟨_,_,_,_,rfl,d8 (λh=>cp rfl h) (λ_=>?_)⟩
  rcases e.2 with⟨c,_⟩ | ⟨g,cur,c,_⟩
  ·cases c
  simp only[hM]at c;subst c;obtain⟨b1,j,k,_⟩:=aD.s_ d;refine dW (by omega) (by simp) ⟨n.get at_.toNat,?_,rfl,f⟩;refine e.rd.cell (sB ?_);simp only[aD.read];rw[Cs,bh (by simp),uo]
  grind[aD.get_some]
theorem M6 {p:dC}{n:aD}{v:aG}{x:bc}(h:dN M w b p)(z:dX w gn ga n)(al:cT M w v x) :
  a5 96 [.pointer (some ⟨b,0,none⟩),v.val,.pointer (some ⟨gn,0,none⟩)] w λr w'=>r=.int .i64 (p.pure.refusal x n)/\ai w w':=by
 refine ba Tryz.func96 ?_;refine Eq.mpr (Wl b v.Kind v.Node v.cL v.N v.Old v.ai v.Words v.dh v.c8 v.Key v.cK gn w _) ?_;rintro b1 w1 C A;obtain⟨P,i⟩:=bo C A;clear A;refine aB (HC (z.new i)) ?_;rintro r R ⟨rfl,rfl⟩;refine⟨_,rfl,eF (λO=>⟨?_,i⟩) (λO=>?_)⟩
 ·grind[cH.refusal]
 have j:n.down=false:=by grind
 intro I E;have o:Go.bJ.ai R I:=by rw[E];exact cR _
 have B:av I b1 v.cells cP:=ai.aj o P;have f:=i.new o;refine⟨λu=>Go.bJ.ai I u,ao.refl _ _,nG (λu hu=>hB (ai.aj hu B)) ?_⟩;refine aB (tC (z.new f)) ?_;rintro r U ⟨rfl,rfl⟩;refine⟨_,rfl,ao.refl _ _,?_⟩;refine aB (z_ _ v 5 _) ?_;rintro r V ⟨rfl,q⟩;have G:=ai.aj q B;have c:=f.new q;refine⟨_,rfl,d8 (λa=>⟨?_,c⟩) (λa=>?_)⟩
 ·rw[al.valid]at a;rw[cH.refusal,aQ (by grind),bh a]
 have L:=h.aL;refine⟨_,((h.new c).aj).cell rfl,?_⟩;dsimp only;rw[bI (x:=24+p.aL) (by omega) (by omega)];refine aB (AB (z.new c) j (24+p.aL) (by omega) (by omega)) ?_;rintro r S ⟨rfl,s⟩;refine⟨_,rfl,?_⟩;intro K F;have t:Go.bJ.ai S K:=by rw[F];exact cR _
 have d:=(c.new s).new t;have H:=ai.aj t (ai.aj s G);refine⟨λu=>Go.bJ.ai K u,ao.refl _ _,nG (λu hu=>hB (ai.aj hu H)) ⟨_,λu hu=>((h.new (d.new hu)).aj).cell rfl,?_⟩⟩;refine aB (AB (z.new d) j 0 (by omega) (by omega)) ?_;rintro r W ⟨rfl,e⟩;refine⟨_,rfl,e,?_⟩;refine aB (AB (z.new (d.new e)) j 1 (by omega) (by omega)) ?_;rintro r X ⟨rfl,y⟩;refine⟨_,rfl,e.new y,?_⟩;have D:¬ v.valid 5 (n.words.length / 8:Nat)≠0:=by omega
 have k:v.inside 5 (n.words.length / 8:Nat)=true:=by
  grind[aG.valid]
 have T:=qg k;have J:=h.inc;have g:=al.eX;refine aB (QB _ v p.inc _ _ _ (by omega) (by omega) (by omega) (by rw[al.eq];exact g.2)) ?_;rintro r Q ⟨rfl,l⟩;refine⟨_,rfl,?_,((d.new e).new y).new l⟩;rw[al.valid]at a;rw[al.check];rw[cH.refusal,aQ (by grind),aQ (λh=>h a)];rfl
def Oy (M:a4)(gn ga:Nat)(n:aD)(x:bc)(pc:Int×Int)(w:an)(r:bf)(w':an):Prop:=
 ∃ a cap,r=.slice a (exec x pc n).2.length cap/\bl w' a (us (exec x pc n).2)/\(∀ k,aP a k->w.heap.size<=k)/\dX w' gn ga (exec x pc n).1/\ao (λk=>k=ga) w w'
theorem QD {n:aD}(h:dX w b aK n)(i c:Int):∀ u ∈ n.read i c,cy u:=by intro u hu;exact h.wf u (qM (qN hu))
theorem QE {n:aD}(h:dX w b aK n)(x:bc)(pc:Int×Int):∀ u ∈ (exec x pc n).2,cy u:=by
 intro u hu;unfold exec at hu;split at hu
 ·grind[QD]
 split at hu
 ·grind
 split at hu
 ·simp at hu;subst hu;exact h.JT _
 split at hu
 ·simp at hu;subst hu;exact h.JT _
 grind
theorem M7 {n:aD}{v:aG}{x:bc}(ah:dX w gn ga n)(aZ:n.down=false)(al:cT M w v x)(av:x.words=[]\/gU (λk=>k=ga) v.Words)
  (bx:x.at_<=pc.1) (bz:1<=pc.2) (bA:pc.2<=8) (bC:pc.1+pc.2<=x.at_+x.v.count) (bk:0<=x.at_) (bm:x.at_+x.v.count<=n.words.length) :
  a5 99 [v.val,.agg #[.int .i64 pc.1,.int .i64 pc.2],.pointer (some ⟨gn,0,none⟩)] w (Oy M gn ga n x pc w):=by
 have hlen:=ah.len;refine ba Tryz.func99 ?_;refine Eq.mpr (Yc v.Kind v.Node v.cL v.N v.Old v.ai v.Words v.dh v.c8 v.Key v.cK pc.1 pc.2 gn w _) ?_;rintro b1 w1 W J bj ag X K;obtain⟨aH,H⟩:=bo W J;obtain⟨aq,C⟩:=bo X K;have c:=ai.aj C aH;have d:Go.bJ.ai w ag:=H.new C;have br:w.heap.size<=ag.heap.size:=d.size;clear J K aH H C;have F:=ah.new d;have E:=al.kind;have S:=al.at_;refine⟨_,c.cell rfl,eg (λP=>?_) (λP=>eg (λA=>?_) (λA=>eg (λe=>?_) (λe=>eg (λb=>?_) (λb=>?_))))⟩
 ·
  rw[E]at P;have T:x.v.count=x.n:=by grind[aG.count,bc.v]
  have q:n.fU pc.1 pc.2=0:=by
   unfold aD.fU
   grind
  refine⟨_,aq.cell rfl,_,aq.cell rfl,?_⟩;refine aB (AA F pc.1 pc.2) ?_;intro r bD Z;rcases Z with⟨aV,_⟩ | ⟨_,a,cap,rfl,e,aX,bq⟩
  ·grind
  have ex:exec x pc n=(n,n.read pc.1 pc.2):=by grind[exec]
  refine⟨_,_,_,_,rfl,some a,cap,?_,?_,?_,?_,?_⟩
  ·grind[aD.yN]
  ·rw[ex];exact aX.rd
  ·rintro k ⟨o,he⟩
   grind
  ·rw[ex];exact F.new e
  ·exact ao.cm (d.new e)
 ·
  rw[E]at P A;have T:x.v.count=x.words.length:=by grind[aG.count,bc.v]
  have ex:exec x pc n=(n.write pc.1.toNat ((x.words.drop (pc.1-x.at_).toNat).take pc.2.toNat),[]):=by grind[exec]
  refine⟨_,aq.cell rfl,_,c.cell rfl,?_⟩;rintro Q L;have b:Go.bJ.ai ag Q:=by rw[L];exact cR _
  clear L;have p:=ai.aj b aq;have O:=ai.aj b c;have l:=F.new b;have s:=d.new b;refine⟨λu=>ao (λk=>k=ga) Q u,ao.refl _ _,_,λu hu=>(hu.aj p (p.ne l.words (by decide))).cell rfl,_,_,_,λu hu=>(hu.aj O (O.ne l.words (by decide))).cell rfl,_,λu hu=>(hu.aj p (p.ne l.words (by decide))).cell rfl,?_⟩;have aO:IntKind.i64.wrap (pc.1-v.cL)=pc.1-x.at_:=by rw[S,bI (by omega) (by omega)]
  have aP:IntKind.i64.wrap (pc.1-x.at_+pc.2)=pc.1-x.at_+pc.2:=bI (by omega) (by omega);dsimp only;rw[aO,aP];have a0:v.dh=x.words.length:=by rw[al.eq];rfl
  have Y:x.words≠[]:=by grind
  have ab:=al.rd.new s;have af:v.dh<=v.c8:=al.cap;rcases ab with Z | ⟨sb,so,ad,z⟩
  ·exact cp (by simpa[us]using Z) Y
  rw[ad];refine ll (by omega) (by omega) (by omega) (by omega) af ?_;intro a aR;rcases aR with rfl | ⟨a8,_⟩
  ·have B:((x.words.drop (pc.1 - x.at_).toNat).take pc.2.toNat).length=(pc.1 - x.at_+pc.2).toNat - (pc.1 - x.at_).toNat:=by
    grind
   have I:bl Q (some ⟨sb,so+(pc.1-x.at_).toNat*1,none⟩) (us ((x.words.drop (pc.1-x.at_).toNat).take pc.2.toNat)):=by rw[<-z8,<-z9,wo];have:bl Q (some ⟨sb,so,none⟩) (us x.words):=.inr ⟨sb,so,rfl,z⟩;exact(this.drop _).take _
   rw[<-B];refine aB (Fg l pc.1 I (λu hu=>al.wf u (qM (qN hu))) (by simp)) ?_;rintro r bH ⟨rfl,V,G⟩;have q:n.fU pc.1 ((x.words.drop (pc.1-x.at_).toNat).take pc.2.toNat).length=0:=by
    unfold aD.fU
    grind
   rw[bh q]at V;refine⟨_,rfl,G,none,0,?_,?_,?_,?_,?_⟩
   ·grind
   ·rw[ex];exact bl.nil _ _
   ·rintro k ⟨o,he⟩;cases he
   ·grind
   ·exact(ao.cm s).trans G λi _ h=>h
  ·omega
 ·
  rw[E]at e;have T:x.v.count=1:=by grind[aG.count,bc.v]
  have ex:exec x pc n=(n.dr x.at_ x.old x.new,[n.get x.at_.toNat]):=by grind[exec]
  have aQ:v.Old=x.old:=by rw[al.eq];rfl
  have U:v.ai=x.new:=by rw[al.eq];rfl
  refine⟨_,c.cell rfl,_,c.cell rfl,_,c.cell rfl,?_⟩;rw[S,aQ,U];refine aB (Sb F x.at_ x.old x.new al.new.1 al.new.2) ?_;rintro r a' ⟨rfl,f,g⟩;have q:n.fU x.at_ 1=0:=by
   unfold aD.fU
   grind
  rw[bh q]at f;rw[bh q];refine⟨_,_,rfl,?_⟩;intro R bb t D;obtain⟨y,j⟩:=bo t D;have ae:=g.size;refine⟨some ⟨R,0,none⟩,1,?_,?_,?_,?_,?_⟩
  ·grind
  ·rw[ex];exact fj y rfl
  ·rintro k ⟨o,he⟩;grind
  ·rw[ex];exact f.new j
  ·exact((ao.cm d).trans g λi _ h=>h).new j
 ·
  rw[E]at b;have T:x.v.count=1:=by grind[aG.count,bc.v]
  have ex:exec x pc n=(n.add x.at_ x.new,[n.get x.at_.toNat]):=by grind[exec]
  have U:v.ai=x.new:=by rw[al.eq];rfl
  refine⟨_,c.cell rfl,_,c.cell rfl,?_⟩;rw[S,U];refine aB (Sc F x.at_ x.new) ?_;rintro r a' ⟨rfl,f,g⟩;have q:n.fU x.at_ 1=0:=by
   unfold aD.fU
   grind
  rw[bh q]at f;rw[bh q];refine⟨_,_,rfl,?_⟩;intro R bb t D;obtain⟨y,j⟩:=bo t D;have ae:=g.size;refine⟨some ⟨R,0,none⟩,1,?_,?_,?_,?_,?_⟩
  ·grind
  ·rw[ex];exact fj y rfl
  ·rintro k ⟨o,he⟩;grind
  ·rw[ex];exact f.new j
  ·exact((ao.cm d).trans g λi _ h=>h).new j
 ·rw[E]at P A e b;have ex:exec x pc n=(n,[]):=by grind[exec]
  refine⟨none,0,?_,?_,?_,?_,ao.cm d⟩
  ·grind
  ·rw[ex];exact bl.nil _ _
  ·rintro k ⟨o,he⟩;cases he
  grind
def u9 (M M':a4)(w:an)(a:a4):Prop:=∀ k,M' k->(k<w.heap.size/\M k)\/a k
theorem av.kp {cs a:ax}{T c:bY}(h:av w b cs T)(d:av w b a c):T=c:=(h.uniq d).2
def dC.done (p:dC)(dk:ak)(gg:Nat):dC:={p with raw:=p.raw.tail,a1:=p.a1.tail,dk:=dk,gg:=gg,b4:=0,words:=[],hl:=none,pE:=0}
theorem ME (v:aG)(vs:List aG):(dS (v::vs)).flatten.drop 9=(dS vs).flatten:=by simp[dS,aG.cells]
theorem CW {p:dC}(h:dN M w b p)(Q:p.a1≠[]) :
  a5 97 [.pointer (some ⟨b,0,none⟩)] w λr w'=>r=.tuple #[]/\∃ dk gg,(∀ M':a4,u9 M M' w (aP dk)->(∀ k,(p.done dk gg).mut b k->M' k)->dN M' w' b (p.done dk gg))/\ao (λk=>k=b) w w'/\(∀ k,aP dk k->w.heap.size<=k):=by
 refine ba Tryz.func97 ?_;rw[Wu];obtain⟨x,xs,u⟩:∃ x xs,p.a1=x::xs:=by
  cases S:p.a1 with
  |nil=>grind
  |cons x xs=>grind
 obtain⟨v,vs,n⟩:∃ v vs,p.raw=v::vs:=by
  cases S:p.raw with
  |nil=>have:=h.vs.1;grind
  |cons v vs=>grind
 have W:=h.len;have hlen:p.a1.length=vs.length+1:=by have:=h.vs.1;grind
 have hle:=h.own.le;have A:=h.aj;refine⟨_,_,_,A.cell rfl,?_⟩;rcases h.own.2 with⟨_,aq,_⟩ | ⟨g,cur,t,U,P,K,L,D⟩
 ·grind
 rw[t];refine ll (by omega) (by omega) (by omega) (by omega) hle ?_;intro a G;have C:bl w a (dS vs).flatten:=by
  rcases G with rfl | ⟨he,rfl⟩
  ·have o:=h.own.rd;rw[t]at o;have:=o.drop 9
   grind[ME]
  ·have:vs=[]:=hN (by omega);rw[this];exact bl.nil _ _
 have F:((p.a1.length:Int).toNat-(1:Int).toNat)=vs.length:=by omega
 rw[F];refine aB (Lb rfl C (by omega) (by grind)) ?_;rintro r w1 ⟨c,cap,rfl,E,R,N,V⟩;have d:=ai.aj E A;refine⟨_,_,_,rfl,⟨_,d.cell rfl⟩,d.frozen,?_⟩;rintro X rfl;have f:=d.setCell (i:=3) (.slice c vs.length cap);refine⟨⟨_,f.cell rfl⟩,f.frozen,?_⟩;rintro Y rfl;have j:=f.setCell (i:=4) (.int .i64 0);refine⟨⟨_,j.cell rfl⟩,j.frozen,?_⟩;rintro Z rfl;have I:=j.setCell (i:=5) (.slice none 0 0);have q:ao (λk=>k=b) w (((w1.setCell ⟨b,3,none⟩ (.slice c vs.length cap)).setCell ⟨b,4,none⟩ (.int .i64 0)).setCell ⟨b,5,none⟩ (.slice none 0 0)):=
  (((ao.cm (M:=λk=>k=b) E).setCell (.inl rfl) _).setCell (.inl rfl) _).setCell (.inl rfl) _
 have B:ao (λk=>k=b) w1 (((w1.setCell ⟨b,3,none⟩ (.slice c vs.length cap)).setCell ⟨b,4,none⟩ (.int .i64 0)).setCell ⟨b,5,none⟩ (.slice none 0 0)):=
  (((ao.refl (λk=>k=b) _).setCell (.inl rfl) _).setCell (.inl rfl) _).setCell (.inl rfl) _
 refine⟨rfl,c,cap,λM' z l=>?_,q,N⟩;have s:p.a1.tail.length=vs.length:=by grind
 have J:=A.lt;refine⟨?_,?_,aX.nil _ _ _,?_,h.aL,h.inc,h.node,?_,by simp[dC.done],?_,?_,by simp[dC.done],l⟩
 ·have e:(p.done c cap).cells=((p.cells.set 3 (.slice c vs.length cap)).set 4 (.int .i64 0)).set 5 (.slice none 0 0):=by simp only[dC.done,dC.cells,s];rfl
  grind
 ·show aX _ cP 9 c p.a1.tail.length cap (dS p.raw.tail).flatten;rw[s,n];exact R.aA B λk H he=>by grind
 ·show et M' _ p.raw.tail p.a1.tail;rw[n,u];have o:=h.vs;rw[n,u]at o;refine o.tail.aA (q.mono λk _ e=>h.jg k (.inl e)) λk O hm=>?_
  rcases z k hm with hm | hm
  ·grind
  grind
 ·show p.a1.tail.length<=1024;omega
 ·intro y T;exact h.nL y (uw T)
 ·show match p.a1.tail with | []=>(0:Nat)=0 | x::_=>0<=x.v.pieces.length
  grind
def dC.post (p:dC)(v:aG)(x:bc)(dk:ak)(gg:Nat):dC:={p with raw:=p.raw++[v],a1:=p.a1++[x],dk:=dk,gg:=gg}
theorem Kk (a b:List aG):(dS (a++b)).flatten=(dS a).flatten++(dS b).flatten:=by simp[dS]
theorem MF {v:aG}{a b:Int}(h:v.valid a b=0):v.valid 5 256=0:=by
 unfold aG.valid at *;split at h
 ·omega
 rename_i e;split at h
 ·omega
 rename_i f;split at h
 ·omega
 rename_i g;have c:v.inside a b=true:=by grind
 have:=qg c;have d:v.inside 5 256=true:=by
  grind[aG.inside,decide_eq_true]
 grind
theorem QF {b_:a4}{p:dC}{v:aG}{x:bc}(h:dN M w b p)(al:cT b_ w v x)(br:x.v.valid 5 lines=0)(L:x.node=p.node)(hlen:p.a1.length<1024) :
  a5 95 [.pointer (some ⟨b,0,none⟩),v.val,.int .i64 lines] w λr w'=>r=.int .i64 0/\∃ bI dk gg,
   (∀ M':a4,u9 M M' w (aP dk)->(∀ k,(p.post bI x dk gg).mut b k->M' k)->dN M' w' b (p.post bI x dk gg))/\ao (λk=>k=b\/aP p.dk k) w w'/\(dk=p.dk\/∀ k,aP dk k->w.heap.size<=k):=by
 refine ba Tryz.func95 ?_;refine Eq.mpr (Xy b v.Kind v.Node v.cL v.N v.Old v.ai v.Words v.dh v.c8 v.Key v.cK lines w _) ?_;rintro b1 w1 bP bx;obtain⟨b9,bX⟩:=bo bP bx;clear bx;refine jL (v:=v) (hB b9) ?_;refine aB (z_ _ v 5 lines) ?_;rintro r cA ⟨rfl,bk⟩;have b3:=ai.aj bk b9;have bm:=bX.new bk;refine⟨_,rfl,d8 (λd=>cp (by rw[al.valid];grind) d) (λ_=>?_)⟩
 intro bK bz;have bl:Go.bJ.ai cA bK:=by rw[bz];exact cR _
 have bD:av bK b1 v.cells cP:=ai.aj bl b3;have ab:=bm.new bl;have aO:=h.new ab;clear bz;refine⟨λu=>Go.bJ.ai bK u,ao.refl _ _,_,λu hu=>(ai.aj hu bD).cell rfl,_,λu hu=>((aO.new hu).aj).cell rfl,d8 (λd=>cp (by rw[al.eq];exact L) d) (λ_=>?_)⟩
 refine⟨_,_,_,aO.aj.cell rfl,bb (λd=>by omega) (λ_=>?_)⟩
 intro bM bA;have ah:Go.bJ.ai bK bM:=by rw[bA];exact cR _
 have b5:av bM b1 v.cells cP:=ai.aj ah bD;have j:=ab.new ah;have b0:=aO.new ah;clear bA;have aV:∀ k,aP p.dk k->k<w.heap.size:=λk l=>h.own.lt l
 have Z:¬ aP p.dk b:=by
  intro d;rcases h.own.2 with⟨he,_⟩ | ⟨g,cur,he,ag,_⟩
  ·obtain⟨o,f⟩:=d;grind
  ·obtain⟨o,f⟩:=d;rw[he]at f;simp at f;have:=av.kp (f.1▸ag) h.aj
   grind
 refine⟨λu=>ao (aP p.dk) bM u,ao.refl _ _,_,_,_,λu hu=>(hu.aj b0.aj Z).cell rfl,nG (v:=v) (λu hu=>hB (hu.aj b5 (λd=>by grind))) ?_⟩;have a0:x.words.length=v.dh:=by rw[al.eq];rfl
 have bj:x.v.inside 5 lines=true:=by
  grind[aG.valid]
 have cy:=qg bj;refine aB (QC (v:=v) (ws:=x.words) (al.rd.new j) a0 ?_ (λd=>by rw[<-a0,al.nil d];rfl)) ?_
 ·rw[<-a0];exact al.lx
 rintro r cF ⟨X,cap,rfl,V,F,S,bV⟩;refine⟨_,_,_,_,_,_,_,_,_,_,_,rfl,ao.cm V,?_⟩;rintro ca cG bT bC;obtain⟨b7,K⟩:=bo bT bC;clear bC;have O:=(j.new V).new K;have aR:=h.new O;refine⟨(ao.cm V).new K,?_⟩;obtain⟨inf,cu,aq,W,cd⟩:=fV (T:=cP) (z:=.agg #[.int .i64 0,.int .i64 0,.int .i64 0,.int .i64 0,.int .u64 0,.int .u64 0,.slice none 0 0,.int .u64 0,.int .i64 0]) (n:=9) (m:=88) (by kernel_rfl);have ad:=aR.own;rw[<-W]at ad;obtain⟨ap,C,b8,bq,q,D,Q⟩:=ad.append (P:=prog) (t:=125) (ty:=125) Tryz.underlying125 cu aq (by rw[W];rfl) (by omega)
  (s:=some ⟨ca,0,none⟩) (m:=1) (c:=1) (news:=aG.cells {v with Words:=X,c8:=cap}) (by rw[W];rfl) (fj b7 (by simp[aG.cells])) (aG.single _) (by omega) (by grind)
 rw[W]at q;refine⟨ap,p.a1.length+1,C,b8,bq,((ao.cm V).new K).trans D (λ_ _ h=>h),?_⟩;have af:av b8 b p.cells p2:=D.aj aR.aj Z;refine⟨⟨_,af.cell rfl⟩,af.frozen,?_⟩;rintro ae aZ;have E:ao (λk=>k=b) b8 ae:=by rw[aZ];exact e4 _ _ _ _
 have cb:av ae b (p.cells.set 3 (.slice ap (p.a1.length+1) C)) p2:=by rw[aZ];exact af.setCell _
 clear aZ;have H:ap=p.dk\/∀ k,aP ap k->w.heap.size<=k:=by
  rcases Q with Q | Q
  ·grind
  ·refine .inr ?_;rintro k ⟨o,f⟩;rw[Q]at f;simp at f;have:=O.size;omega
 have I:ao (λk=>k=b\/aP p.dk k) w ae:=((ao.cm O).trans D (λk _ l=>.inr l)).trans E (λk _ l=>.inl l);have Y:¬ aP ap b:=by
  intro d;rcases H with he | he
  ·grind
  ·have:=he b d;have:=h.aj.lt;omega
 refine⟨rfl,{v with Words:=X,c8:=cap},ap,C,λM' a8 aH=>?_,I,H⟩;refine⟨?_,?_,?_,?_,h.aL,h.inc,h.node,by grind[dC.post],h.lx,?_,?_,h.ua,aH⟩
 ·grind[dC.post,dC.cells,List.length_append,List.length_cons,List.length_nil]
 ·show aX ae cP 9 ap (p.a1++[x]).length C (dS (p.raw++[_])).flatten;rw[Kk,fF];have:(dS [{v with Words:=X,c8:=cap}]).flatten=aG.cells {v with Words:=X,c8:=cap}:=by simp[dS]
  rw[this];exact q.aA E λk l he=>Y (he▸l)
 ·refine(aR.kr.aA D ?_).aA E ?_
  ·rintro k l d;rcases h.own.2 with⟨he,_⟩ | ⟨g,cur,he,ag,_⟩
   ·obtain⟨o,f⟩:=d;grind
   rcases h.kr.2 with⟨R,_⟩ | ⟨bN,G,R,U,_⟩
   ·obtain⟨o,f⟩:=l;grind
   obtain⟨o,f⟩:=l;obtain⟨cB,cz⟩:=d
   grind[av.kp]
  ·rintro k l he;rcases h.kr.2 with⟨R,_⟩ | ⟨bN,G,R,U,_⟩
   ·obtain⟨o,f⟩:=l;grind
   obtain⟨o,f⟩:=l;rw[R]at f;simp at f;have:=av.kp (f.1▸U) (he▸h.aj)
   grind
 ·show et M' ae (p.raw++[_]) (p.a1++[x]);have hold:et M' ae p.raw p.a1:=h.vs.aA (I.mono λk _ l=>h.jg k (l.elim .inl λe=>.inr (.inl e))) λk J hm=>by
   rcases a8 k hm with hm | hm
   ·grind
   ·rcases H with he | he
    ·exact h.jg k (.inr (.inl (he▸hm)))
    grind
  refine⟨by simp[h.vs.1],λi bI gh A B=>?_⟩;rw[sg]at A B;by_cases J:i<p.raw.length
  ·rw[bh J]at A;rw[bh (h.vs.1▸J)]at B;exact hold.2 i bI gh A B
  ·rw [aQ J] at A;rw [aQ (h.vs.1▸J)] at B;have a':i - p.raw.length=0:=by
    grind
   rw[a']at A;rw[<-h.vs.1,a']at B;simp only[List.getElem?_cons_zero,hM]at A B;subst A B;have b2:∀ k,aP X k->bM.heap.size<=k/\∃ cs,av ae k cs rl:=by
    intro k l;refine⟨S k l,?_⟩;rcases F.2 with⟨he,_⟩ | ⟨g,cur,he,ag,_⟩
    ·obtain⟨o,f⟩:=l;grind
    ·obtain⟨o,f⟩:=l;rw[he]at f;simp at f;have ct:=S g ⟨0,he⟩;have bO:=j.size;refine⟨cur,?_⟩;rw[<-f.1];refine E.aj (D.aj (ai.aj K ag) ?_) ?_
     ·grind
     ·intro d;have:=h.aj.lt;omega
   refine⟨?_,?_,?_,?_,al.wf,al.new,al.old,al.key,al.eX,F.le,al.lx⟩
   ·have he:=al.eq;rw[he]
   ·refine((F.rd.new K).aA D ?_).aA E ?_
    ·cases X with
     |none=>exact .inr trivial
     |some a=>
      refine .inr λd=>?_
      rcases F.2 with⟨he,_⟩ | ⟨g,cur,he,ag,_⟩
      ·cases he
      ·simp at he;subst he;have:=S g ⟨0,rfl⟩;have:=aV _ d;have:=j.size
       grind
    ·cases X with
     |none=>exact .inr trivial
     |some a=>
      refine .inr λd=>?_
      rcases F.2 with⟨he,_⟩ | ⟨g,cur,he,ag,_⟩
      ·cases he
      ·simp at he;subst he;have:=S g ⟨0,rfl⟩;have:=h.aj.lt;have:=j.size
       grind
   ·intro d;exact al.nil (bV.1 d)
   ·cases X with
    |none=>exact .inr trivial
    |some a=>
     refine .inr λhm=>?_
     rcases F.2 with⟨he,_⟩ | ⟨g,cur,he,ag,_⟩
     ·cases he
     simp at he;subst he;obtain⟨cr,cs,cj⟩:=b2 g ⟨0,rfl⟩;have bO:=j.size;rcases a8 g hm with hm | hm
     ·omega
     ·rcases q.2 with⟨he,_⟩ | ⟨bN,G,he,U,_⟩
      ·grind
      ·obtain⟨o,f⟩:=hm;rw[he]at f;simp at f;have cn:av ae bN G cP:=E.aj U (λd=>Y (by rw[he,<-d];exact⟨0,rfl⟩))
       grind[av.kp]
 ·intro y bH;simp only[dC.post,i',sl]at bH;rcases bH with bH | rfl
  ·exact h.nL y bH
  ·exact⟨MF br,L⟩
 ·have hex:=h.ex;show match p.a1++[x]with | []=>p.b4=0 | x::_=>p.b4<=x.v.pieces.length
  grind
structure lV (M:a4)(w:an)(d:bV)(x:cN):Prop where
 code:d.Code=x.code
 len:d.dh=x.words.length
 rd:bl w d.Words (us x.words)
 nil:d.Words=none->x.words=[]
 off:x.words=[]\/gU M d.Words
 wf:∀ u ∈ x.words,cy u
 cap:d.dh<=d.c8
theorem lV.aA {M M':a4}{w w':an}{v:bV}{x:cN}(h:lV M w v x)(g:ao M w w')(f:∀ k,k<w.heap.size->M' k->M k):lV M' w' v x:=by
 refine⟨h.code,h.len,h.rd.aA g (h.off.imp (λe=>by rw[e];rfl) id),h.nil,?_,h.wf,h.cap⟩;rcases h.off with b | b
 ·grind
 ·by_cases i:x.words=[]
  ·grind
  ·refine .inr ?_;cases c:v.Words with
   |none=>trivial
   |some a=>rw[c]at b;have d:=h.rd;rw[c]at d;intro hm;exact b (f _ (d.lt (by simpa[us]using i)) hm)
theorem gN {e sz n cap:Nat}(h:aX w e sz a n cap xs){k:Nat}(b:aP a k):∃ cs,av w k cs e:=by
 rcases h.2 with⟨he,_⟩ | ⟨g,cur,he,d,_⟩
 ·obtain⟨o,c⟩:=b;grind
 ·obtain⟨o,c⟩:=b
  grind
def zk (M:a4)(b gn ga:Nat)(p:dC)(n:aD)(w:an)(r:bf)(w':an):Prop:=
 ∃ (d:bV) (p':dC),r=.tuple #[d.val,.bool (p.pure.step n).2.2.isSome]/\p'.pure=(p.pure.step n).1/\dX w' gn ga (p.pure.step n).2.1/\
  (∀ x,(p.pure.step n).2.2=some x->d.Code=x.code/\d.dh=x.words.length/\bl w' d.Words (us x.words)/\(d.Words=none->x.words=[])/\(∀ u ∈ x.words,cy u)/\d.dh<=d.c8/\p'.hl=none)/\
  (∀ k,aP d.Words k->aP p.hl k\/w.heap.size<=k)/\
  (∀ M':a4,u9 M M' w (λk=>aP p'.dk k\/aP p'.hl k)->(∀ k,p'.mut b k->M' k)->dN M' w' b p')/\
  ao (λk=>k=b\/aP p.hl k\/k=ga) w w'/\(p'.dk=p.dk\/∀ k,aP p'.dk k->w.heap.size<=k)/\(p'.hl=p.hl\/∀ k,aP p'.hl k->w.heap.size<=k)/\
  (∀ k,aP d.Words k->∃ cs,av w' k cs rl)
theorem tT {d:bV}(h:av w b d.cells jz):cn w ⟨b,0,none⟩ 0 d.cells:=bX h (by grind)
theorem uW {bF:aU}{d:bV}{K:Int->ak->Nat->a4}(h:cn w bF 0 d.cells)(b:K d.Code d.Words d.dh d.c8) :
  ∃ (Code:Int) (Words:ak) (a:Nat) (c8:Nat),cn w bF 0 [.int .i64 Code,.slice Words a c8]/\K Code Words a c8:=⟨_,_,_,_,h,b⟩
theorem Oz {p:cH}{n:aD}(h:p.a1=[]):p.step n=(p,n,none):=by grind[cH.step]
theorem M8 {p:cH}{n:aD}{x:bc}{xs:a_}(h:p.a1=x::xs):p.step n =
  if p.refusal x n≠0 then(p.done,n,some ⟨p.refusal x n,[]⟩)
  else if p.b4+1<x.v.pieces.length then({p with b4:=p.b4+1,words:=p.words++(exec x (x.v.pieces.getD p.b4 (0,0)) n).2},(exec x (x.v.pieces.getD p.b4 (0,0)) n).1,none)
   else(p.done,(exec x (x.v.pieces.getD p.b4 (0,0)) n).1,some ⟨0,p.words++(exec x (x.v.pieces.getD p.b4 (0,0)) n).2⟩):=by
 grind[cH.step]
theorem K8 {p:cH}{x:bc}{n:aD}(h:p.refusal x n=0):n.down=false/\x.v.valid 5 (n.words.length / 8:Nat)=0:=by
 grind[cH.refusal]
theorem yX {v:aG}{a b:Int}(h:v.valid a b=0):1<=v.count/\v.inside a b=true:=by
 grind[aG.valid]
theorem OA {x:bc}{n:aD}(h:pc.2<=8)(a:1<=pc.2):(exec x pc n).2.length<=8:=by
 grind[exec,aD.read]
end
end Go.Proofs.YtmkljjbioomepaaGreat
