import Derived.Test.YtgpmeaicjonenaaGreata16
import Derived.Test.YtgpmeaicjonenaaGreata03
import Derived.Test.YtgpmeaicjonenaaGreatProg
set_option linter.unusedVariables false
namespace Go.Proofs.YtgpmeaicjonenaaGreat
open Go.Eng
def fmt0 (lines n:Nat):List Int:=(((List.replicate (lines * 8) 0).set 0 1).set 1 1).set 8 (cw 1 1 (iv n))
def nv:Nat→Nat→List Int→List Int
 | 0,_,ws=>ws
 |k+1,c,ws=>nv k (c+1) (ws.set (24+c) 1)
def ny:Nat→Nat→List Int→List Int
 | 0,_,ws=>ws
 |k+1,l,ws=>ny k (l+1) (ws.set (l * 8) 256)
def fmt (lines n:Nat):List Int:=ny (lines - 96) 96 (nv 6 0 (fmt0 lines n))
theorem ES (n:Nat) (x:Int):List.replicate n (Value.int .u64 x)=us (List.replicate n x):=by simp [us]
theorem ET {n:Nat} (h:n≤5):0≤cw 1 1 (iv n)∧cw 1 1 (iv n)<18446744073709551616:=by
 have:=EQ h
 unfold cw
 omega
def nz (ws:List Int):Prop:=∀ x ∈ ws,0≤x∧x<18446744073709551616
theorem nz.set {ws:List Int} (h:nz ws) {x:Int} (hx:0≤x∧x<18446744073709551616) (i:Nat):nz (ws.set i x):=λy hy=>by
 rcases List.mem_or_eq_of_mem_set hy with h1 | rfl
 ·exact h y h1
 ·exact hx
abbrev TU64:TypeId:=30
theorem si {u w0:World} {b len:Nat} {ws:List Int} {i x:Int} {K:Addr→World→Prop} (hz:Blk u b (us ws) TU64) (hn:New w0 u) (hb:w0.heap.size≤b) (h0:0≤i) (h1:i<ws.length) (hlen:len=ws.length)
  (hk:∀ ad u',Blk u' b (us (ws.set i.toNat x)) TU64→New w0 u'→K ad u'):idxS (some ⟨b,0,none⟩) len i 1 λad=>(∃ u',u.cell? ad=some u')∧u.frozen? ad=false∧∀ w',w'=u.setCell ad (.int .u64 x)→K ad w':=by
 refine bE h0 (by omega) ?_
 have e:0+i.toNat * 1=i.toNat:=by omega
 rw [e]
 have hc:∃ y,ws[i.toNat]?=some y:=⟨_,List.getElem?_eq_getElem (by omega)⟩
 obtain ⟨y,hy⟩:=hc
 refine ⟨⟨_,hz.cell (uY hy)⟩,hz.frozen,?_⟩
 rintro w' rfl
 refine hk _ _ ?_ (Keep.setCell hn (.inr hb) _)
 have:=hz.setCell (i:=i.toNat) (.int .u64 x)
 rwa [show (us ws).set i.toNat (.int .u64 x)=us (ws.set i.toNat x) by simp [us,List.map_set]] at this
set_option maxHeartbeats 1000000 in
theorem B3 {w:World} {b bw:Nat} {s:aP} (h:bM w b bw s) {lines n:Nat} (hl:s.words.length=lines * 8) (h98:98≤lines) (h256:lines≤256) (hd:s.down=false) (h1:1≤n) (h5:n≤5) :
  Does 82 [ptr b,.int .i64 n] w λv w'=>v=.int .i64 0∧bM w' b bw ⟨fmt lines n,false⟩∧Keep (λk=>k=bw) w w':=by
 have hdiv:s.words.length / 8=lines:=by omega
 have hiv:=EQ h5
 refine does Tryz.func82 ?_
 rw [ptr,qX]
 refine aF (IV_c _ h1 h5) ?_
 rintro v w1 ⟨rfl,rfl⟩
 refine ⟨_,_,rfl,er rfl ?_⟩
 refine aF (pF h) ?_
 rintro v w1 ⟨rfl,rfl⟩
 refine ⟨_,rfl,aH (λhc=>by omega) λ_=>?_⟩
 refine aF (Up_c h) ?_
 rintro v w1 ⟨rfl,rfl⟩
 refine ⟨_,rfl,er (by simp [hd]) ?_⟩
 refine aF (pF h) ?_
 rintro v w1 ⟨rfl,rfl⟩
 refine ⟨_,rfl,?_⟩
 rw [hdiv]
 refine aF (DB _ (by omega) (by omega)) ?_
 rintro v w1 ⟨rfl,rfl⟩
 refine ⟨_,rfl,by omega,by omega,by omega,by omega,?_⟩
 have e8:Int.toNat ((lines:Int) * 8)=lines * 8:=by omega
 rw [e8,xx,ES]
 rintro b1 w2 hb1 hw2
 obtain ⟨hz2,hn2⟩:=aO hb1 hw2
 replace hz2:Blk w2 b1 (us (List.replicate (lines * 8) 0)) TU64:=hz2
 clear hw2
 have hbl:w1.heap.size≤b1:=by omega
 refine aF (EO _) ?_
 rintro v w3 ⟨rfl,rfl⟩
 refine ⟨_,_,rfl,?_⟩
 refine si (len:=lines * 8) (i:=0) (x:=1) hz2 hn2 hbl (by omega) (by simp;omega) (by simp) ?_
 intro ad w4 hz4 hn4
 refine si hz4 hn4 hbl (by omega) (by simp;omega) (by simp) ?_
 intro ad w5 hz5 hn5
 refine aF (wQ _ _) ?_
 rintro v w6 ⟨rfl,hn6⟩
 refine ⟨_,rfl,?_⟩
 refine aF (vz _ (by omega) (by omega) hiv.1) ?_
 rintro v w7 ⟨e,rfl,rfl⟩
 refine ⟨_,_,rfl,?_⟩
 have hcw:cwOf 1 1 (iv n)=cw 1 1 (iv n):=by unfold cwOf;rw [if_pos (by omega)]
 rw [hcw]
 refine si (New.blk hn6 hz5) (hn5.new hn6) hbl (by decide) (by simp [uk];omega) (by simp) ?_
 intro ad w8 hz8 hn8
 have hf0:(((List.replicate (lines * 8) 0).set (Int.toNat 0) 1).set (Int.toNat 1) 1).set (uk 1 16 0).toNat (cw 1 1 (iv n))=fmt0 lines n:=rfl
 rw [hf0] at hz8
 have hlen0:(fmt0 lines n).length=lines * 8:=by simp [fmt0]
 have hw0:nz (fmt0 lines n):=((nz.set (nz.set (λx hx=>by simp at hx <;> omega) (by omega) _) (by omega) _).set (ET h5) _)
 clear hf0 hz2 hz4 hz5 hn2 hn4 hn5 hn6
 refine aT mix (λm env u=>∃ (c:Nat) (ws:List Int) (jj:List Value),m=6 - c∧c≤6∧env=fJ ⟨b,0,none⟩ (some ⟨b1,0,none⟩) (lines * 8) (lines * 8) c jj∧Blk u b1 (us ws) TU64∧New w1 u∧ws.length=lines * 8∧nz ws∧nv (6 - c) c ws=nv 6 0 (fmt0 lines n)) 6
  ⟨0,_,_,rfl,by omega,rfl,hz8,hn8,hlen0,hw0,rfl⟩ ?_
 rintro m env u ⟨c,ws,jj,rfl,hc,rfl,hz,hn,hlen,hw,hds⟩
 rw [lI]
 refine aH (λhp=>?_) (λhp=>?_)
 ·refine aF (EP _ _) ?_
  rintro v u1 ⟨rfl,hnu⟩
  have hreg:uk 3 6 (c:Int)=24+c:=by unfold uk;rw [if_neg (by omega)];omega
  refine ⟨_,rfl,?_⟩
  rw [hreg]
  refine si (New.blk hnu hz) (hn.new hnu) hbl (by omega) (by omega) (by omega) ?_
  intro ad u2 hz2 hn2
  rw [w64 (by omega) (by omega)]
  refine ⟨6 - (c+1),by omega,c+1,_,_,rfl,by omega,rfl,hz2,hn2,by simpa using hlen,hw.set (by omega) _,?_⟩
  rw [show 6 - c=6 - (c+1)+1 by omega,nv] at hds
  rw [show Int.toNat (24+(c:Int))=24+c by omega]
  exact hds
 ·have hc6:c=6:=by omega
  subst hc6
  rw [mX]
  rw [Nat.sub_self,nv] at hds
  have hf:ny (lines - 96) 96 ws=fmt lines n:=by rw [fmt,←hds]
  clear hds
  refine aT mix (λm env u=>∃ (c:Nat) (ws:List Int) (jj:List Value),m=lines - c∧96≤c∧c≤lines∧env=fK ⟨b,0,none⟩ (some ⟨b1,0,none⟩) (lines * 8) (lines * 8) c jj∧Blk u b1 (us ws) TU64∧New w1 u∧ws.length=lines * 8∧nz ws∧ny (lines - c) c ws=fmt lines n) (lines - 96)
   ⟨96,_,_,rfl,by omega,by omega,rfl,hz,hn,hlen,hw,hf⟩ ?_
  clear hf hz hn hlen hw hz8 hn8 hp hc
  rintro m env u ⟨c,ws,jj,rfl,hc,hcl,rfl,hz,hn,hlen,hw,hds⟩
  rw [lJ]
  refine aF (pF (h.new hn)) ?_
  rintro v u1 ⟨rfl,rfl⟩
  refine ⟨_,rfl,?_⟩
  rw [hdiv]
  refine aH (λhp=>?_) (λhp=>?_)
  ·refine aF (vA _ (by omega) (by omega)) ?_
   rintro v u2 ⟨rfl,rfl⟩
   refine ⟨_,rfl,?_⟩
   refine aF (Ac _) ?_
   rintro v u2 ⟨rfl,rfl⟩
   refine ⟨_,_,rfl,?_⟩
   refine si hz hn hbl (by omega) (by omega) (by omega) ?_
   intro ad u2 hz2 hn2
   rw [w64 (by omega) (by omega)]
   refine ⟨lines - (c+1),by omega,c+1,_,_,rfl,by omega,by omega,rfl,hz2,hn2,by simpa using hlen,hw.set (by omega) _,?_⟩
   rw [show lines - c=lines - (c+1)+1 by omega,ny] at hds
   rw [show Int.toNat ((c:Int) * 8)=c * 8 by omega]
   exact hds
  ·have hc6:c=lines:=by omega
   subst hc6
   rw [mY]
   rw [Nat.sub_self,ny] at hds
   rw [←hlen]
   refine aF (zG (h.new hn) 0 (eQ hz (by rw [List.drop_zero];exact List.take_of_length_le (Nat.le_refl _))) hw (λh=>by cases h)) ?_
   rintro v u3 ⟨rfl,hnode,hk⟩
   have hchk:s.chk 0 ws.length=0:=by
    unfold aP.chk
    rw [if_neg (by omega),if_neg (by simp [hd])]
   rw [hchk] at hnode ⊢
   rw [if_pos rfl] at hnode
   refine ⟨_,rfl,rfl,?_,(Keep.of_new hn).trans hk (λ_ _ h=>h)⟩
   have:s.write (Int.toNat 0) ws=⟨fmt c n,false⟩:=by
    unfold aP.write
    rw [←hds]
    simp [hd,hl,hlen]
   rw [←this]
   exact hnode
theorem vK:∀ (k c:Nat) (ws:List Int),(nv k c ws).length=ws.length
 | 0,_,_=>rfl
 |k+1,c,ws=>by rw [nv,vK];simp
theorem vL:∀ (k c:Nat) (ws:List Int),(ny k c ws).length=ws.length
 | 0,_,_=>rfl
 |k+1,c,ws=>by rw [ny,vL];simp
theorem Ah (lines n:Nat):(fmt lines n).length=lines * 8:=by rw [fmt,vL,vK];simp [fmt0]
def Fab.fmt (F:Fab):Fab:={ F with nodes:=F.nodes.map λ_=>⟨Go.Proofs.YtgpmeaicjonenaaGreat.fmt F.lines F.nodes.length,false⟩ }
def xF (F:Fab):Prop:=98≤F.lines∧F.lines≤256∧1≤F.nodes.length∧F.nodes.length≤5∧∀ n ∈ F.nodes,n.words.length=F.lines * 8∧n.down=false
theorem jH (X:FabX):X.pure.nodes.length=X.nodes.length:=by simp [FabX.pure]
theorem wT {A:Nat→Prop} {χ:Nat→Tag} {w:World} {fb:Nat} {X:FabX} (h:aZ A χ w fb X) (hf:xF X.pure) :
  Does 52 [ptr fb] w λv w'=>v=.int .i64 0∧dE A χ w fb X.pure.fmt w' λ_=>True:=by
 obtain ⟨f1,f2,f3,f4,f5⟩:=hf
 rw [jH] at f3 f4
 refine does Tryz.func52 ?_
 rw [ptr,oN]
 refine aF (ug h) ?_
 rintro v w1 ⟨rfl,rfl⟩
 refine ⟨_,rfl,?_⟩
 let NN:Nat:=X.nodes.length
 refine aT mix (λm env u=>∃ (i:Nat) (A':Nat→Prop) (χ':Nat→Tag) (X':FabX) (jj:List Value),m=NN - i∧i≤NN∧env=eH ⟨fb,0,none⟩ NN i jj∧Next A A' χ χ' w1 u∧aZ A' χ' u fb X'∧X'.nodes.length=NN∧X'.lines=X.lines∧(∀ x ∈ X'.nodes,x.n.words.length=X.lines * 8∧x.n.down=false)∧
   X'.pure={ X.pure with nodes:=List.replicate i ⟨fmt X.lines NN,false⟩++X.pure.nodes.drop i }) NN
  ⟨0,A,χ,X,_,rfl,by omega,rfl,h.refl (Keep.refl _ _),h,rfl,rfl,λx hx=>f5 x.n (List.mem_map.2 ⟨x,hx,rfl⟩),by simp⟩ ?_
 rintro m env u ⟨i,A',χ',X',jj,rfl,hi,rfl,hnx,hF,hXn,hXl,hXw,hXp⟩
 rw [kx]
 refine aH (λhp=>?_) (λhp=>?_)
 ·have hlt:i<X'.nodes.length:=by omega
  obtain ⟨x,hx⟩:∃ x,X'.nodes[i]?=some x:=⟨_,List.getElem?_eq_getElem hlt⟩
  refine aF (rX hF hx) ?_
  rintro v u1 ⟨rfl,rfl⟩
  refine ⟨_,rfl,?_⟩
  refine aF (ug hF) ?_
  rintro v u1 ⟨rfl,rfl⟩
  refine ⟨_,rfl,?_⟩
  obtain ⟨hw1,hw2⟩:=hXw x (List.mem_of_getElem? hx)
  rw [hXn]
  refine aF (B3 (hF.node i x hx).node hw1 f1 f2 hw2 (by show 1≤NN;omega) (by show NN≤5;omega)) ?_
  rintro v u2 ⟨rfl,hnode,hk⟩
  refine ⟨_,rfl,er rfl ?_⟩
  obtain ⟨A2,hnx2,hF2⟩:=hF.setNode hx (hk.mono λk _ e=>.inr e) hnode
  rw [w64 (by omega) (by omega)]
  refine ⟨NN - (i+1),by omega,i+1,A2,χ',_,_,rfl,by omega,rfl,hnx.trans hnx2,hF2,by simpa using hXn,hXl,?_,?_⟩
  ·intro y hy
   rcases List.mem_or_eq_of_mem_set hy with hy | rfl
   ·exact hXw y hy
   ·refine ⟨?_,rfl⟩
    have:=hnode.len
    show (fmt X.lines NN).length=_
    rw [Ah]
  ·have hlen:X.pure.nodes.length=NN:=jH X
   have e1:X'.pure.nodes=List.replicate i ⟨fmt X.lines NN,false⟩++X.pure.nodes.drop i:=by rw [hXp]
   have e2:X'.nodes.map nm.n=List.replicate i ⟨fmt X.lines NN,false⟩++X.pure.nodes.drop i:=e1
   have e3:({ X' with nodes:=X'.nodes.set i { x with n:=⟨fmt X.lines NN,false⟩ } }:FabX).pure={ X'.pure with nodes:=(X'.nodes.map nm.n).set i ⟨fmt X.lines NN,false⟩ }:=by
    simp [FabX.pure,List.map_set]
   rw [e3,e2,hXp]
   congr 1
   rw [List.set_append_right _ _ (by simp)]
   simp only [List.length_replicate,Nat.sub_self]
   rw [List.replicate_succ',List.append_assoc]
   congr 1
   rw [List.drop_eq_getElem_cons (by omega)]
   rfl
 ·have hiN:i=NN:=by omega
  subst hiN
  rw [lF]
  refine ⟨rfl,A',χ',X',hnx,hF,?_,trivial⟩
  rw [hXp]
  unfold Fab.fmt
  have hlen:X.pure.nodes.length=NN:=jH X
  congr 1
  rw [List.drop_of_length_le (by omega),List.append_nil,hlen,←hlen]
  rw [List.map_const']
  rfl
theorem yO {n c lines:Nat} (hn:1≤n∧n≤5) (hl:98≤lines∧lines≤256):xF (Fab.init n c lines):=by
 refine ⟨hl.1,hl.2,by simp [Fab.init];omega,by simp [Fab.init];omega,?_⟩
 intro x hx
 simp [Fab.init] at hx
 rw [hx.2]
 simp [nT,Fab.init]
 omega
def Fab.fresh (n c lines:Nat):Fab:=⟨lines,List.replicate n ⟨Go.Proofs.YtgpmeaicjonenaaGreat.fmt lines n,false⟩,(List.range c).map (gI n),[]⟩
theorem B4 (n c lines:Nat):(Fab.init n c lines).fmt=Fab.fresh n c lines:=by simp [Fab.fmt,Fab.init,Fab.fresh]
theorem Ai {w:World} {n c lines:Nat} (hn:1≤n∧n≤5) (hc:1≤c∧c≤6) (hl:98≤lines∧lines≤256):Does 24 [.int .i64 n,.int .i64 c,.int .i64 lines] w λv w'=>
  ∃ fb A χ X,v=.tuple #[ptr fb,.bool true]∧aZ A χ w' fb X∧New w w'∧(∀ k,A k→w.heap.size≤k)∧X.pure=Fab.fresh n c lines:=by
 refine does Tryz.func24 ?_
 rw [pu]
 refine aF (EN hn hc ⟨by omega,hl.2⟩) ?_
 rintro v w1 ⟨fb,A,χ,X,rfl,hF,hn1,hA,hX⟩
 refine ⟨_,_,rfl,er rfl (er rfl ?_)⟩
 refine aF (wT hF (by rw [hX];exact yO hn hl)) ?_
 rintro v w2 ⟨rfl,A',χ',X',hnx,hF',hX',_⟩
 refine ⟨_,rfl,er rfl ⟨fb,A',χ',X',rfl,hF',?_,?_,?_⟩⟩
 ·refine hn1.trans hnx.keep (λk hk hA'=>?_)
  have:=hA k (hF.avoid k hA')
  omega
 ·intro k hk
  by_cases hlt:k<w1.heap.size
  ·rcases (hnx.iff k).1 hk with hc | hc
   ·exact hA k (hF.avoid k (hnx.grow k hlt hc))
   ·exact hA k hc.2.1
  ·have:=hn1.size;omega
 ·rw [hX',hX,B4]
end Go.Proofs.YtgpmeaicjonenaaGreat
namespace Go.Proofs.YtgpmeaicjonenaaGreat
open Go.Proofs.Tryz
open Go.Eng
def eA (d:Done):Int:=d.words.headD 0
def fitP (v:Verb) (d:Done):Bool:=if d.code=0 then decide ((d.words.length:Int)=v.v.rets) else if d.code=4∨d.code=5 then decide (d.words.length=0) else false
def fitL (vs:List Verb) (ds:List Done):Bool:=decide (vs.length=ds.length) && (vs.zip ds).all λp=>fitP p.1 p.2
structure BRes where
 done:List Done
 ok:Bool
 got:List (List Done)
 ask:Option (List Verb)
 wrong:Bool
def batch (G:List (List Done)) (vs:List Verb):BRes:=
 if vs.length=0 then ⟨[],true,G,none,false⟩ else match G with
 | []=>⟨[],false,[],some vs,false⟩
 |d::G'=>if fitL vs d then ⟨d,true,G',none,false⟩ else ⟨[],false,d::G',none,true⟩
abbrev TTk:TypeId:=278
theorem DK {M:Nat→Prop} {w:World} {d:aY} {x:Done} (h:j9 M w d x):Does 218 [d.val] w λv w'=>v=.int .u64 (eA x)∧New w w':=by
 refine does Tryz.func218 ?_
 refine Eq.mpr (vg d.Code d.Words d.Wl d.Wc w _) ?_
 rintro b1 w1 hb1 hw1
 obtain ⟨hz,hn⟩:=aO hb1 hw1
 have hl:=h.len
 refine ⟨_,_,_,hz.cell rfl,bK (λh0=>?_) (λh0=>⟨_,_,_,hz.cell rfl,?_⟩)⟩
 ·have:x.words=[]:=List.eq_nil_of_length_eq_zero (by omega)
  refine ⟨by simp [eA,this],hn⟩
 ·cases hx:x.words with
  |nil=>rw [hx] at hl;simp at hl <;> omega
  |cons y ys=>
   have hr:=h.rd.new hn
   rw [hx] at hr
   rcases hr with hr | ⟨b,o,he,hc⟩
   ·cases hr
   rw [he]
   refine bE (by omega) (by omega) ⟨y,?_,by simp [eA,hx],hn⟩
   exact hc 0 _ rfl
structure TkX where
 ga:Option Addr
 gl:Nat
 gc:Nat
 aa:Option Addr
 al:Nat
 ac:Nat
 wrong:Bool
def TkX.cells (T:TkX):List Value:=[.slice T.ga T.gl T.gc,.slice T.aa T.al T.ac,.bool T.wrong]
structure Row where
 a:Option Addr
 c:Nat
 raw:List aY
def pQ (rows:List Row):List Value:=rows.map λr=>.slice r.a r.raw.length r.c
def lr (A:Nat→Prop) (w:World) (a:Option Addr) (G:List (List Done)):Prop:=
 ∃ rows:List Row,rows.length=G.length∧Rd w a (pQ rows)∧(pQ rows=[]∨Off A a)∧
  ∀ (i:Nat) (r:Row) (ds:List Done),rows[i]?=some r→G[i]?=some ds→Rd w r.a (j1 r.raw).flatten∧((j1 r.raw).flatten=[]∨Off A r.a)∧Ds A w r.raw ds∧ds.length≤1024
theorem lr.nil (A:Nat→Prop) (w:World) (a:Option Addr):lr A w a []:=⟨[],rfl,.inl rfl,.inl rfl,λi r ds h=>by simp at h⟩
theorem lr.head {A:Nat→Prop} {w:World} {a:Option Addr} {d:List Done} {G:List (List Done)} (h:lr A w a (d::G)) :
  ∃ (b o:Nat) (r:Row),a=some ⟨b,o,none⟩∧w.cell? ⟨b,o,none⟩=some (.slice r.a r.raw.length r.c)∧Rd w r.a (j1 r.raw).flatten∧Ds A w r.raw d∧d.length≤1024∧lr A w (some ⟨b,o+1,none⟩) G:=by
 obtain ⟨rows,hl,hr,ho,hd⟩:=h
 cases rows with
 |nil=>simp at hl
 |cons r rows=>
  rcases hr with hr | ⟨b,o,rfl,hc⟩
  ·simp [pQ] at hr
  ·obtain ⟨h1,h2,h3,h4⟩:=hd 0 r d rfl rfl
   refine ⟨b,o,r,rfl,hc 0 _ rfl,h1,h3,h4,rows,by simpa using hl,?_,?_,λi r' ds h5 h6=>hd (i+1) r' ds (by simpa using h5) (by simpa using h6)⟩
   ·refine .inr ⟨b,o+1,rfl,λj u hu=>?_⟩
    rw [Nat.add_assoc,Nat.add_comm 1 j]
    exact hc (j+1) u (by simpa [pQ] using hu)
   ·rcases ho with ho | ho
    ·simp [pQ] at ho
    ·exact .inr ho
theorem DL {M A:Nat→Prop} {w w':World} {v:aJ} {x:Verb} {d:aY} {y:Done} (hv:bI M w v x) (h:j9 A w' d y):fits v d=fitP x y:=by
 unfold fits fitP
 rw [h.code,h.len,hv.eq]
 rfl
theorem Aj {M A:Nat→Prop} {w w':World} {raws:List aJ} {vs:List Verb} {raw:List aY} {ds:List Done} (hv:Vs M w raws vs) (h:Ds A w' raw ds):rU raws raw=fitL vs ds:=by
 unfold rU fitL
 rw [h.1,hv.1]
 congr 1
 obtain ⟨h1,h2⟩:=h
 obtain ⟨k1,k2⟩:=hv
 induction vs generalizing raw ds raws with
 |nil=>
  cases raws with
  |nil=>simp
  |cons=>simp at k1
 |cons v vs ih=>
  cases raws with
  |nil=>simp at k1
  |cons rv raws=>
   cases raw with
   |nil=>cases ds with
    |nil=>simp
    |cons=>simp at h1
   |cons r raw=>cases ds with
    |nil=>simp at h1
    |cons d ds=>
     simp only [List.zip_cons_cons,List.all_cons]
     rw [DL (k2 0 rv v rfl rfl) (h2 0 r d rfl rfl),ih (by simpa using h1) (λi v x hv hx=>h2 (i+1) v x (by simpa using hv) (by simpa using hx)) (by simpa using k1) λi v x hv hx=>k2 (i+1) v x (by simpa using hv) (by simpa using hx)]
theorem ro {vs:List Verb} {ds:List Done} (h:fitL vs ds=true):vs.length=ds.length:=by
 unfold fitL at h
 simp at h
 exact h.1
theorem pR {G:List (List Done)} {vs:List Verb}:(batch G vs).done.length≤vs.length:=by
 unfold batch
 split
 ·simp
 ·cases G with
  |nil=>simp
  |cons d G=>
   simp only
   split
   ·rename_i h;rw [ro h];exact Nat.le_refl _
   ·simp
theorem Ak {A:Nat→Prop} {w0 u:World} {tb:Nat} {T:TkX} {G:List (List Done)} (hn:New w0 u) (hl:w0.heap.size≤tb) (hb:Blk u tb T.cells TTk) (hg:lr A w0 T.ga G) (hgl:T.gl=G.length) (hgc:T.gl≤T.gc)
  {M:Nat→Prop} {raws:List aJ} {vs:List Verb} {aa:Option Addr} {ac:Nat} (hr:Rd u aa (eC raws).flatten) (hvs:Vs M u raws vs) (hvl:vs.length≤1000000) :
  Does 126 [ptr tb,.slice aa raws.length ac] u λv u'=>∃ (T':TkX) (da:Option Addr) (dc:Nat) (raw:List aY),v=.tuple #[.slice da raw.length dc,.bool (batch G vs).ok]∧Blk u' tb T'.cells TTk∧Keep (λk=>k=tb) u u'∧
   Rd w0 da (j1 raw).flatten∧Ds A w0 raw (batch G vs).done∧lr A w0 T'.ga (batch G vs).got∧T'.gl=(batch G vs).got.length∧T'.gl≤T'.gc∧T'.wrong=(T.wrong || (batch G vs).wrong)∧
   (match (batch G vs).ask with | none=>T'.aa=T.aa∧T'.al=T.al∧T'.ac=T.ac | some _=>T'.aa=aa∧T'.al=vs.length∧T'.ac=ac):=by
 refine does Tryz.func126 ?_
 rw [ptr,px]
 rw [hvs.1]
 have hds0:Ds A w0 [] []:=⟨rfl,λi v x hv=>by simp at hv⟩
 unfold batch
 refine bK (λh0=>?_) (λh0=>⟨_,_,_,hb.cell rfl,bK (λh1=>?_) (λh1=>?_)⟩)
 ·have hv0:vs.length=0:=by omega
  rw [if_pos hv0]
  exact ⟨T,none,0,[],rfl,hb,Keep.refl _ _,.inl rfl,hds0,hg,hgl,hgc,by simp,rfl,rfl,rfl⟩
 ·have hv0:¬ vs.length=0:=by omega
  have hG:G=[]:=List.eq_nil_of_length_eq_zero (by omega)
  subst hG
  rw [if_neg hv0]
  refine ⟨⟨_,hb.cell rfl⟩,hb.frozen,?_⟩
  rintro u1 rfl
  exact ⟨{ T with aa:=aa,al:=vs.length,ac:=ac },none,0,[],rfl,hb.setCell _,aR _ _ _ _,.inl rfl,hds0,lr.nil _ _ _,hgl,hgc,by simp,rfl,rfl,rfl⟩
 ·have hv0:¬ vs.length=0:=by omega
  rw [if_neg hv0]
  cases G with
  |nil=>simp at hgl <;> omega
  |cons d G'=>
   simp only
   obtain ⟨b,o,r,ha,hc,hrd,hds,hdl,htl⟩:=hg.head
   have hne:b≠tb:=by
    have h1:b<w0.heap.size:=by
     have:=hc
     unfold World.cell? at this
     by_cases hlt:b<w0.heap.size
     ·exact hlt
     ·simp [Array.getElem?_eq_none (Nat.le_of_not_lt hlt)] at this
    omega
   have hcell:∀ z,New w0 z→z.cell? ⟨b,o,none⟩=some (.slice r.a r.raw.length r.c):=by
    intro z hz
    have h2:Rd w0 (some ⟨b,o,none⟩) [.slice r.a r.raw.length r.c]:=.inr ⟨b,o,rfl,λj u hu=>by
     cases j with
     |zero=>simp at hu;subst hu;exact hc
     |succ j=>simp at hu⟩
    exact (h2.new hz).cell (j:=0) rfl
   refine ⟨_,_,_,hb.cell rfl,?_⟩
   rw [ha]
   refine bE (by omega) (by omega) ?_
   refine ⟨_,_,_,hcell u hn,?_⟩
   have hfit:rU raws r.raw=fitL vs d:=Aj hvs hds
   have hrl:=hds.1
   have hlen:raws.length=vs.length:=hvs.1
   rw [←hlen]
   refine aF (FG hr (hrd.new hn) (by omega) (by omega)) ?_
   rintro v u2 ⟨rfl,hn2⟩
   rw [hfit]
   refine ⟨_,rfl,dG (λhf=>?_) (λhf=>?_)⟩
   ·have hb2:=New.blk hn2 hb
    rw [hf]
    refine ⟨⟨_,hb2.cell rfl⟩,hb2.frozen,?_⟩
    rintro u3 rfl
    exact ⟨{ T with wrong:=true },none,0,[],rfl,hb2.setCell _,(Keep.of_new hn2).trans (aR _ _ _ _) (λ_ _ h=>h),.inl rfl,hds0,hg,hgl,hgc,by simp,rfl,rfl,rfl⟩
   ·rw [hf]
    rintro u3 hu3
    have hn3:New u u3:=by rw [hu3];exact hn2.drew
    have hb3:=New.blk hn3 hb
    refine ⟨λz=>New u3 z,Keep.refl _ _,_,_,_,λz hz=>(New.blk hz hb3).cell rfl,?_⟩
    rw [ha]
    refine bE (by omega) (by omega) ?_
    refine ⟨_,_,_,λz hz=>hcell z ((hn.new hn3).new hz),_,_,_,λz hz=>(New.blk hz hb3).cell rfl,?_⟩
    rw [ha]
    refine ⟨by omega,by omega,by omega,by omega,by omega,⟨_,hb3.cell rfl⟩,hb3.frozen,?_⟩
    rintro u4 rfl
    have hgl':T.gl=G'.length+1:=by simpa using hgl
    refine ⟨{ T with ga:=if (T.gc:Int)=1 then some ⟨b,o,none⟩ else (some ⟨b,o,none⟩:Option Addr).map (·.add (Int.toNat 1 * 1)),gl:=Int.toNat T.gl - Int.toNat 1,gc:=Int.toNat T.gc - Int.toNat 1 },r.a,r.c,r.raw,rfl,hb3.setCell _,(Keep.of_new hn3).trans (aR _ _ _ _) (λ_ _ h=>h),hrd,hds,?_,?_,?_,by simp,rfl,rfl,rfl⟩
    ·show lr A w0 (if (T.gc:Int)=1 then _ else _) G'
     split
     ·have:G'=[]:=List.eq_nil_of_length_eq_zero (by omega)
      rw [this]
      exact lr.nil _ _ _
     ·exact htl
    ·show Int.toNat (T.gl:Int) - Int.toNat 1=G'.length
     omega
    ·show Int.toNat (T.gl:Int) - Int.toNat 1≤Int.toNat (T.gc:Int) - Int.toNat 1
     omega
abbrev TSV:TypeId:=140
theorem DM {u:World} {a:Option Addr} {n cap:Nat} {xs:List Value} (ho:Owns u TV 9 a n cap xs) {v:aJ} (hb1:n≤1000000000) {K:Nat→Option Addr→Nat→Nat→World→Prop}
  (hk:∀ b ap cap' w3,b=u.heap.size→Owns w3 TV 9 ap (n+1) cap' (xs++v.cells)→Keep (isB a) u w3→(∀ k,isB ap k→isB a k∨u.heap.size≤k)→K b ap (n+1) cap' w3) :
  ∀ b1 w2,b1=u.heap.size→w2=u.alloc (.cells v.cells.toArray TV)→∃ (ap:Option Addr) (ap_len ap_cap:Nat),∃ w3,(Builtin.append_ #[TSV,TSV] TSV #[(.slice a n cap),(.slice (some ⟨b1,0,none⟩) 1 1)]).run prog w2=.ok (.slice ap ap_len ap_cap) w3∧K b1 ap ap_len ap_cap w3:=by
 obtain ⟨inf,hi,hz,hsz,hby⟩:=iF (T:=TV) (z:=.agg #[.int .i64 0,.int .i64 0,.int .i64 0,.int .i64 0,.int .u64 0,.int .u64 0,.slice none 0 0,.int .u64 0,.int .i64 0]) (n:=9) (m:=88) (by kernel_rfl)
 rw [←hsz] at ho
 refine push_k Tryz.underlying140 hi hz (by rw [hsz];rfl) (by omega) ho (by rw [hsz];rfl) (aJ.single v) hb1 (by omega) ?_
 intro b ap cap' w3 h1 h2
 rw [hsz] at h2
 exact hk b ap cap' w3 h1 h2
theorem vM {G:List (List Done)} {vs ws:List Verb} (h:(batch G vs).ask=some ws):ws=vs:=by
 unfold batch at h
 split at h
 ·cases h
 ·cases G with
  |nil=>simp at h;exact h.symm
  |cons d G'=>
   simp only at h
   split at h<;>cases h
theorem xG {G:List (List Done)} {vs:List Verb} (h:(batch G vs).ok=true):(batch G vs).ask=none∧(batch G vs).wrong=false:=by
 unfold batch at h ⊢
 split
 ·exact ⟨rfl,rfl⟩
 ·rename_i hv
  rw [if_neg hv] at h
  cases G with
  |nil=>simp at h
  |cons d G'=>
   simp only at h ⊢
   split
   ·exact ⟨rfl,rfl⟩
   ·rename_i hf
    rw [if_neg hf] at h
    simp at h
theorem C6 (w:World) (ga:Option Addr) (gl gc:Nat):Does 125 [.slice ga gl gc] w λv w'=>∃ tb,v=ptr tb∧w.heap.size≤tb∧Blk w' tb (TkX.cells ⟨ga,gl,gc,none,0,0,false⟩) TTk∧New w w':=by
 refine does Tryz.func125 ?_
 rw [wJ]
 rintro b1 w1 hb1 hw1
 obtain ⟨hz,hn⟩:=aO hb1 hw1
 exact ⟨b1,rfl,by omega,hz,hn⟩
theorem B5 {w:World} {tb:Nat} {T:TkX} (h:Blk w tb T.cells TTk):Does 128 [ptr tb] w λv w'=>v=.tuple #[.slice T.aa T.al T.ac,.bool (decide (0<T.al))]∧New w w':=by
 refine does Tryz.func128 ?_
 rw [ptr,kz]
 rintro w1 hw1
 have hn:New w w1:=by rw [hw1];exact aU _
 refine ⟨λz=>New w z,hn,_,_,_,λz hz=>(New.blk hz h).cell rfl,_,_,_,λz hz=>(New.blk hz h).cell rfl,?_,hn⟩
 congr 4
 simp
theorem yP {w:World} {tb:Nat} {T:TkX} (h:Blk w tb T.cells TTk):Does 129 [ptr tb] w λv w'=>v=.bool (T.wrong || decide (0<T.gl))∧w'=w:=by
 refine does Tryz.func129 ?_
 rw [ptr,jR]
 refine ⟨_,h.cell rfl,?_⟩
 cases hw:T.wrong with
 |true=>exact gE rfl ⟨by simp,rfl⟩
 |false=>
  refine er rfl ⟨_,_,_,h.cell rfl,?_,rfl⟩
  congr 1
  simp
end Go.Proofs.YtgpmeaicjonenaaGreat
namespace Go.Proofs.YtgpmeaicjonenaaGreat
open Go.Proofs.Tryz
open Go.Eng IntKind
variable (w:World) (R:Value→World→Prop)
def gQ (s3:Option Addr) (a b:Nat) (c:Option Addr) (d f:Nat) (g h:Int) (j:LV):LV:=[jg j 0,jg j 1,jg j 2,(.slice s3 a b),jg j 3,jg j 4,jg j 5,jg j 6,jg j 7,jg j 8,jg j 9,jg j 10,jg j 11,jg j 12,jg j 13,jg j 14,jg j 15,jg j 16,(.slice c d f),(.int .i64 g),(.int .i64 h),jg j 17,jg j 18,jg j 19,jg j 20,jg j 21,jg j 22,jg j 23,jg j 24,jg j 25,jg j 26,jg j 27,jg j 28,jg j 29,jg j 30,jg j 31,jg j 32,jg j 33,jg j 34,jg j 35,jg j 36,jg j 37]
def mr (s3:Option Addr) (a b:Nat) (j:LV):LV:=jq j 0 3 (.slice s3 a b::jq j 3 38 [])
theorem oI (p0:aS):fnW prog f232 [p0.val] R w=(∀ b1 w1,b1=w.heap.size→w1=w.alloc (.cells p0.cells.toArray 305)→aS.ex λr=>aC w1 ⟨b1,0,none⟩ 0 r.cells∧Calls prog 182 #[r.val,.int .i64 256] w1 λe w2=>∃ a,e=.returned (.int .i64 a)∧(bif ((a:Int) != 0) then (R (.slice none 0 0) w2) else (∃ b,w2.cell? ⟨b1,0,none⟩=some (.int .i64 b)∧∃ c d f,w2.cell? ⟨b1,1,none⟩=some (.slice c d f)∧∀ b2 w3,b2=w2.heap.size→w3=w2.alloc (.cells #[.int .u64 (u64.wrap b),.int .u64 (u64.wrap (d:Nat))] 30)→∃ g h i,w3.cell? ⟨b1,1,none⟩=some (.slice g h i)∧cQ prog (.loop (sub (aD f232) [1,1,1,0,1,0,0])) (gQ (some ⟨b2,0,none⟩) 2 2 g h i (h:Nat) 0 (p0.val::jp ⟨b1,0,none⟩::jz::uq 2 (r.val::ji a::jb ((a:Int) != 0)::jp ⟨b1,0,none⟩::ji b::ju (u64.wrap b)::jp ⟨b1,1,none⟩::js c d f::jn d::ju (u64.wrap (d:Nat))::js (some ⟨b2,0,none⟩) 2 2::jp ⟨b1,1,none⟩::uq 21 []))) (aK 0 (nx f232 [1,1,1,1] R)) w3))):=by kernel_rfl
theorem mD (s3:Option Addr) (a b:Nat) (c:Option Addr) (d f:Nat) (g h:Int) (j:LV) (N1:LV→World→Prop):W prog (sub (aD f232) [1,1,1,0,1,0,0]) (gQ s3 a b c d f g h j) (seqQ N1 (aK 0 (nx f232 [1,1,1,1] R))) w=((bif (decide ((h:Int)<g)) then (idxS c d h 9 λad=>aG.ex λr=>aC w ad 0 r.cells∧∀ b1 w1,b1=w.heap.size→w1=w.alloc (.cells #[.int .i64 0,.int .u64 0,.int .u64 0,.int .u64 0,.int .u64 0,.int .u64 0,.int .u64 0,.int .u64 0,.int .u64 0] 73)→wrAt w1 ⟨b1,0,none⟩ 0 r.cells∧∀ w2,w2=puts w1 ⟨b1,0,none⟩ 0 r.cells→∃ i,w2.cell? ⟨b1,0,none⟩=some (.int .i64 i)∧∃ k,w2.cell? ⟨b1,1,none⟩=some (.int .u64 k)∧∀ b2 w3,b2=w2.heap.size→w3=w2.alloc (.cells #[.int .u64 (u64.wrap i),.int .u64 k] 30)→∃ ap l m,∃ w4,(Builtin.append_ #[106,106] 106 #[.slice s3 a b,.slice (some ⟨b2,0,none⟩) 2 2]).run prog w3=.ok (.slice ap l m) w4∧∃ n o p,∃ w5,(Builtin.append_ #[106,106] 106 #[.slice ap l m,.slice (some ⟨b1,2,none⟩) 7 7]).run prog w4=.ok (.slice n o p) w5∧N1 (gQ n o p c d f g (i64.wrap (h+1)) (jq j 0 4 (jp ⟨b1,0,none⟩::jq j 5 12 (jb (decide ((h:Int)<g))::jp ad::r.val::js s3 a b::jp ⟨b1,0,none⟩::ji i::ju (u64.wrap i)::jp ⟨b1,1,none⟩::ju k::js (some ⟨b2,0,none⟩) 2 2::js ap l m::js ap l m::jp ⟨b1,2,none⟩::js (some ⟨b1,2,none⟩) 7 7::js n o p::ji (i64.wrap (h+1))::jq j 33 5 [])))) w5) else (W prog (sub (aD f232) [1,1,1,1]) (mr s3 a b (jq j 0 17 (js c d f::ji g::ji h::jb (decide ((h:Int)<g))::jq j 18 20 []))) (retQ prog f232 R) w))):=by kernel_rfl
theorem oU (s3:Option Addr) (a b:Nat) (j:LV):W prog (sub (aD f232) [1,1,1,1]) (mr s3 a b j) (retQ prog f232 R) w=(Calls prog 284 #[.slice s3 a b] w λe w1=>∃ c,e=.returned (.int .u64 c)∧∀ b1 w2,b1=w1.heap.size→w2=w1.alloc (.cells #[.int .u64 c] 30)→∃ ap d f,∃ w3,(Builtin.append_ #[106,106] 106 #[.slice s3 a b,.slice (some ⟨b1,0,none⟩) 1 1]).run prog w2=.ok (.slice ap d f) w3∧R (.slice ap d f) w3):=by kernel_rfl
theorem re (p0:aG) (p1:Int):fnW prog f233 [p0.val,.int .i64 p1] R w=(∀ b1 w1,b1=w.heap.size→w1=w.alloc (.cells p0.cells.toArray 73)→∃ a,w1.cell? ⟨b1,1,none⟩=some (.int .u64 a)∧Calls prog 285 #[.int .u64 a,.int .i64 p1] w1 λe w2=>∃ b c,e=.returned (.tuple #[.int .u64 b,.int .i64 c])∧R (.tuple #[.int .u64 b,.int .i64 c]) w2):=by kernel_rfl
theorem qB (p0:aG):fnW prog f274 [p0.val] R w=(∀ b1 w1,b1=w.heap.size→w1=w.alloc (.cells p0.cells.toArray 73)→∃ a,w1.cell? ⟨b1,1,none⟩=some (.int .u64 a)∧Calls prog 228 #[.int .u64 a] w1 λe w2=>∃ b c,e=.returned (.tuple #[.int .u64 b,.int .i64 c])∧(bif ((c:Int) != 0) then (R (.tuple #[.slice none 0 0,.int .i64 c]) w2) else (∀ b2 w3,b2=w2.heap.size→w3=w2.alloc (.cells #[.int .u64 b] 30)→∃ ap d f,∃ w4,(Builtin.append_ #[106,106] 106 #[.slice (some ⟨b2,0,none⟩) 1 1,.slice (some ⟨b1,2,none⟩) 7 7]).run prog w3=.ok (.slice ap d f) w4∧R (.tuple #[.slice ap d f,.int .i64 0]) w4))):=by kernel_rfl
end Go.Proofs.YtgpmeaicjonenaaGreat
