import Derived.Test.YtegepanmkjemjaaGreatt15
set_option linter.unusedVariables false
namespace Go.Proofs.YtegepanmkjemjaaGreat
open Go.Eng
def fmt0 (lines n:Nat):List Int:=(((List.replicate (lines * 8) 0).set 0 1).set 1 1).set 8 (cw 1 1 (iv n))
def pR:Nat→Nat→List Int→List Int
 | 0,_,ws=>ws
 |k+1,c,ws=>pR k (c+1) (ws.set (24+c) 1)
def pS:Nat→Nat→List Int→List Int
 | 0,_,ws=>ws
 |k+1,l,ws=>pS k (l+1) (ws.set (l * 8) 256)
def fmt (lines n:Nat):List Int:=pS (lines - 96) 96 (pR 6 0 (fmt0 lines n))
theorem G2 (n:Nat) (x:Int):List.replicate n (Value.int .u64 x)=us (List.replicate n x):=by simp [us]
theorem G3 {n:Nat} (h:n≤5):0≤cw 1 1 (iv n)∧cw 1 1 (iv n)<18446744073709551616:=by
 have:=G1 h
 unfold cw
 omega
def pT (ws:List Int):Prop:=∀ x ∈ ws,0≤x∧x<18446744073709551616
theorem pT.set {ws:List Int} (h:pT ws) {x:Int} (hx:0≤x∧x<18446744073709551616) (i:Nat):pT (ws.set i x):=λy hy=>by
 rcases List.mem_or_eq_of_mem_set hy with h1 | rfl
 ·exact h y h1
 ·exact hx
abbrev TU64:TypeId:=43
theorem uW {u w0:World} {b len:Nat} {ws:List Int} {i x:Int} {K:Addr→World→Prop} (hz:Blk u b (us ws) TU64) (hn:New w0 u) (hb:w0.heap.size≤b) (h0:0≤i) (h1:i<ws.length) (hlen:len=ws.length)
  (hk:∀ ad u',Blk u' b (us (ws.set i.toNat x)) TU64→New w0 u'→K ad u'):idxS (some ⟨b,0,none⟩) len i 1 λad=>(∃ u',u.cell? ad=some u')∧u.frozen? ad=false∧∀ w',w'=u.setCell ad (.int .u64 x)→K ad w':=by
 refine bB h0 (by omega) ?_
 have e:0+i.toNat * 1=i.toNat:=by omega
 rw [e]
 have hc:∃ y,ws[i.toNat]?=some y:=⟨_,List.getElem?_eq_getElem (by omega)⟩
 obtain ⟨y,hy⟩:=hc
 refine ⟨⟨_,hz.cell (xx hy)⟩,hz.frozen,?_⟩
 rintro w' rfl
 refine hk _ _ ?_ (Keep.setCell hn (.inr hb) _)
 have:=hz.setCell (i:=i.toNat) (.int .u64 x)
 rwa [show (us ws).set i.toNat (.int .u64 x)=us (ws.set i.toNat x) by simp [us,List.map_set]] at this
set_option maxHeartbeats 1000000 in
theorem DO {w:World} {b bw:Nat} {s:aP} (h:bQ w b bw s) {lines n:Nat} (hl:s.words.length=lines * 8) (h98:98≤lines) (h256:lines≤256) (hd:s.down=false) (h1:1≤n) (h5:n≤5) :
  Does 71 [ptr b,.int .i64 n] w λv w'=>v=.int .i64 0∧bQ w' b bw ⟨fmt lines n,false⟩∧Keep (λk=>k=bw) w w':=by
 have hdiv:s.words.length / 8=lines:=by omega
 have hiv:=G1 h5
 refine does Tryz.func71 ?_
 rw [ptr,t6]
 refine aG (IV_c _ h1 h5) ?_
 rintro v w1 ⟨rfl,rfl⟩
 refine ⟨_,_,rfl,eC rfl ?_⟩
 refine aG (sd h) ?_
 rintro v w1 ⟨rfl,rfl⟩
 refine ⟨_,rfl,aI (λhc=>by omega) λ_=>?_⟩
 refine aG (Up_c h) ?_
 rintro v w1 ⟨rfl,rfl⟩
 refine ⟨_,rfl,eC (by simp [hd]) ?_⟩
 refine aG (sd h) ?_
 rintro v w1 ⟨rfl,rfl⟩
 refine ⟨_,rfl,?_⟩
 rw [hdiv]
 refine aG (Fx _ (by omega) (by omega)) ?_
 rintro v w1 ⟨rfl,rfl⟩
 refine ⟨_,rfl,by omega,by omega,by omega,by omega,?_⟩
 have e8:Int.toNat ((lines:Int) * 8)=lines * 8:=by omega
 rw [e8,zQ,G2]
 rintro b1 w2 hb1 hw2
 obtain ⟨hz2,hn2⟩:=aO hb1 hw2
 replace hz2:Blk w2 b1 (us (List.replicate (lines * 8) 0)) TU64:=hz2
 clear hw2
 have hbl:w1.heap.size≤b1:=by omega
 refine aG (GZ _) ?_
 rintro v w3 ⟨rfl,rfl⟩
 refine ⟨_,_,rfl,?_⟩
 refine uW (len:=lines * 8) (i:=0) (x:=1) hz2 hn2 hbl (by omega) (by simp;omega) (by simp) ?_
 intro ad w4 hz4 hn4
 refine uW hz4 hn4 hbl (by omega) (by simp;omega) (by simp) ?_
 intro ad w5 hz5 hn5
 refine aG (zd _ _) ?_
 rintro v w6 ⟨rfl,hn6⟩
 refine ⟨_,rfl,?_⟩
 refine aG (yb _ (by omega) (by omega) hiv.1) ?_
 rintro v w7 ⟨e,rfl,rfl⟩
 refine ⟨_,_,rfl,?_⟩
 have hcw:cwOf 1 1 (iv n)=cw 1 1 (iv n):=by unfold cwOf;rw [if_pos (by omega)]
 rw [hcw]
 refine uW (New.blk hn6 hz5) (hn5.new hn6) hbl (by decide) (by simp [xd];omega) (by simp) ?_
 intro ad w8 hz8 hn8
 have hf0:(((List.replicate (lines * 8) 0).set (Int.toNat 0) 1).set (Int.toNat 1) 1).set (xd 1 16 0).toNat (cw 1 1 (iv n))=fmt0 lines n:=rfl
 rw [hf0] at hz8
 have hlen0:(fmt0 lines n).length=lines * 8:=by simp [fmt0]
 have hw0:pT (fmt0 lines n):=((pT.set (pT.set (λx hx=>by simp at hx;omega) (by omega) _) (by omega) _).set (G3 h5) _)
 clear hf0 hz2 hz4 hz5 hn2 hn4 hn5 hn6
 refine aR mix (λm env u=>∃ (c:Nat) (ws:List Int) (jj:List Value),m=6 - c∧c≤6∧env=gL ⟨b,0,none⟩ (some ⟨b1,0,none⟩) (lines * 8) (lines * 8) c jj∧Blk u b1 (us ws) TU64∧New w1 u∧ws.length=lines * 8∧pT ws∧pR (6 - c) c ws=pR 6 0 (fmt0 lines n)) 6
  ⟨0,_,_,rfl,by omega,rfl,hz8,hn8,hlen0,hw0,rfl⟩ ?_
 rintro m env u ⟨c,ws,jj,rfl,hc,rfl,hz,hn,hlen,hw,hds⟩
 rw [nI]
 refine aI (λhp=>?_) (λhp=>?_)
 ·refine aG (G0 _ _) ?_
  rintro v u1 ⟨rfl,hnu⟩
  have hreg:xd 3 6 (c:Int)=24+c:=by unfold xd;rw [if_neg (by omega)];omega
  refine ⟨_,rfl,?_⟩
  rw [hreg]
  refine uW (New.blk hnu hz) (hn.new hnu) hbl (by omega) (by omega) (by omega) ?_
  intro ad u2 hz2 hn2
  rw [w64 (by omega) (by omega)]
  refine ⟨6 - (c+1),by omega,c+1,_,_,rfl,by omega,rfl,hz2,hn2,by simpa using hlen,hw.set (by omega) _,?_⟩
  rw [show 6 - c=6 - (c+1)+1 by omega,pR] at hds
  rw [show Int.toNat (24+(c:Int))=24+c by omega]
  exact hds
 ·have hc6:c=6:=by omega
  subst hc6
  rw [py]
  rw [Nat.sub_self,pR] at hds
  have hf:pS (lines - 96) 96 ws=fmt lines n:=by rw [fmt,←hds]
  clear hds
  refine aR mix (λm env u=>∃ (c:Nat) (ws:List Int) (jj:List Value),m=lines - c∧96≤c∧c≤lines∧env=gM ⟨b,0,none⟩ (some ⟨b1,0,none⟩) (lines * 8) (lines * 8) c jj∧Blk u b1 (us ws) TU64∧New w1 u∧ws.length=lines * 8∧pT ws∧pS (lines - c) c ws=fmt lines n) (lines - 96)
   ⟨96,_,_,rfl,by omega,by omega,rfl,hz,hn,hlen,hw,hf⟩ ?_
  clear hf hz hn hlen hw hz8 hn8 hp hc
  rintro m env u ⟨c,ws,jj,rfl,hc,hcl,rfl,hz,hn,hlen,hw,hds⟩
  rw [nJ]
  refine aG (sd (h.new hn)) ?_
  rintro v u1 ⟨rfl,rfl⟩
  refine ⟨_,rfl,?_⟩
  rw [hdiv]
  refine aI (λhp=>?_) (λhp=>?_)
  ·refine aG (zU _ (by omega) (by omega)) ?_
   rintro v u2 ⟨rfl,rfl⟩
   refine ⟨_,rfl,?_⟩
   refine aG (Ce _) ?_
   rintro v u2 ⟨rfl,rfl⟩
   refine ⟨_,_,rfl,?_⟩
   refine uW hz hn hbl (by omega) (by omega) (by omega) ?_
   intro ad u2 hz2 hn2
   rw [w64 (by omega) (by omega)]
   refine ⟨lines - (c+1),by omega,c+1,_,_,rfl,by omega,by omega,rfl,hz2,hn2,by simpa using hlen,hw.set (by omega) _,?_⟩
   rw [show lines - c=lines - (c+1)+1 by omega,pS] at hds
   rw [show Int.toNat ((c:Int) * 8)=c * 8 by omega]
   exact hds
  ·have hc6:c=lines:=by omega
   subst hc6
   rw [pz]
   rw [Nat.sub_self,pS] at hds
   rw [←hlen]
   refine aG (BS (h.new hn) 0 (fP hz (by rw [List.drop_zero];exact List.take_of_length_le (Nat.le_refl _))) hw (λh=>by cases h)) ?_
   rintro v u3 ⟨rfl,hnode,hk⟩
   have hchk:s.chk 0 ws.length=0:=by
    unfold aP.chk
    rw [if_neg (by omega),if_neg (by simp [hd])]
   rw [hchk] at hnode ⊢
   rw [if_pos rfl] at hnode
   refine ⟨_,rfl,rfl,?_,(Keep.of_new hn).trans hk (λ_ _ h=>h)⟩
   have:s.write (Int.toNat 0) ws=⟨fmt c n,false⟩:=by
    unfold aP.write
    rw [←hds]
    simp [hd,hl,hlen]
   rw [←this]
   exact hnode
theorem yd:∀ (k c:Nat) (ws:List Int),(pR k c ws).length=ws.length
 | 0,_,_=>rfl
 |k+1,c,ws=>by rw [pR,yd];simp
theorem ye:∀ (k c:Nat) (ws:List Int),(pS k c ws).length=ws.length
 | 0,_,_=>rfl
 |k+1,c,ws=>by rw [pS,ye];simp
theorem xf (lines n:Nat):(fmt lines n).length=lines * 8:=by rw [fmt,ye,yd];simp [fmt0]
def Fab.fmt (F:Fab):Fab:={ F with nodes:=F.nodes.map λ_=>⟨Go.Proofs.YtegepanmkjemjaaGreat.fmt F.lines F.nodes.length,false⟩ }
def zV (F:Fab):Prop:=98≤F.lines∧F.lines≤256∧1≤F.nodes.length∧F.nodes.length≤5∧∀ n ∈ F.nodes,n.words.length=F.lines * 8∧n.down=false
theorem ke (X:FabX):X.pure.nodes.length=X.nodes.length:=by simp [FabX.pure]
theorem ze {A:Nat→Prop} {χ:Nat→Tag} {w:World} {fb:Nat} {X:FabX} (h:aZ A χ w fb X) (hf:zV X.pure) :
  Does 49 [ptr fb] w λv w'=>v=.int .i64 0∧dN A χ w fb X.pure.fmt w' λ_=>True:=by
 obtain ⟨f1,f2,f3,f4,f5⟩:=hf
 rw [ke] at f3 f4
 refine does Tryz.func49 ?_
 rw [ptr,rf]
 refine aG (uS h) ?_
 rintro v w1 ⟨rfl,rfl⟩
 refine ⟨_,rfl,?_⟩
 let NN:Nat:=X.nodes.length
 refine aR mix (λm env u=>∃ (i:Nat) (A':Nat→Prop) (χ':Nat→Tag) (X':FabX) (jj:List Value),m=NN - i∧i≤NN∧env=fB ⟨fb,0,none⟩ NN i jj∧Next A A' χ χ' w1 u∧aZ A' χ' u fb X'∧X'.nodes.length=NN∧X'.lines=X.lines∧(∀ x ∈ X'.nodes,x.n.words.length=X.lines * 8∧x.n.down=false)∧
   X'.pure={ X.pure with nodes:=List.replicate i ⟨fmt X.lines NN,false⟩++X.pure.nodes.drop i }) NN
  ⟨0,A,χ,X,_,rfl,by omega,rfl,h.refl (Keep.refl _ _),h,rfl,rfl,λx hx=>f5 x.n (List.mem_map.2 ⟨x,hx,rfl⟩),by simp⟩ ?_
 rintro m env u ⟨i,A',χ',X',jj,rfl,hi,rfl,hnx,hF,hXn,hXl,hXw,hXp⟩
 rw [mc]
 refine aI (λhp=>?_) (λhp=>?_)
 ·have hlt:i<X'.nodes.length:=by omega
  obtain ⟨x,hx⟩:∃ x,X'.nodes[i]?=some x:=⟨_,List.getElem?_eq_getElem hlt⟩
  refine aG (nQ hF hx) ?_
  rintro v u1 ⟨rfl,rfl⟩
  refine ⟨_,rfl,?_⟩
  refine aG (uS hF) ?_
  rintro v u1 ⟨rfl,rfl⟩
  refine ⟨_,rfl,?_⟩
  obtain ⟨hw1,hw2⟩:=hXw x (List.mem_of_getElem? hx)
  rw [hXn]
  refine aG (DO (hF.node i x hx).node hw1 f1 f2 hw2 (by show 1≤NN;omega) (by show NN≤5;omega)) ?_
  rintro v u2 ⟨rfl,hnode,hk⟩
  refine ⟨_,rfl,eC rfl ?_⟩
  obtain ⟨A2,hnx2,hF2⟩:=hF.setNode hx (hk.mono λk _ e=>.inr e) hnode
  rw [w64 (by omega) (by omega)]
  refine ⟨NN - (i+1),by omega,i+1,A2,χ',_,_,rfl,by omega,rfl,hnx.trans hnx2,hF2,by simpa using hXn,hXl,?_,?_⟩
  ·intro y hy
   rcases List.mem_or_eq_of_mem_set hy with hy | rfl
   ·exact hXw y hy
   ·refine ⟨?_,rfl⟩
    have:=hnode.len
    show (fmt X.lines NN).length=_
    rw [xf]
  ·have hlen:X.pure.nodes.length=NN:=ke X
   have e1:X'.pure.nodes=List.replicate i ⟨fmt X.lines NN,false⟩++X.pure.nodes.drop i:=by rw [hXp]
   have e2:X'.nodes.map ep.n=List.replicate i ⟨fmt X.lines NN,false⟩++X.pure.nodes.drop i:=e1
   have e3:({ X' with nodes:=X'.nodes.set i { x with n:=⟨fmt X.lines NN,false⟩ } }:FabX).pure={ X'.pure with nodes:=(X'.nodes.map ep.n).set i ⟨fmt X.lines NN,false⟩ }:=by
    simp [FabX.pure,List.map_set]
   rw [e3,e2,hXp]
   congr 1
   rw [List.set_append_right _ _ (by simp)]
   simp only [List.length_replicate,Nat.sub_self]
   rw [List.replicate_succ',List.append_assoc]
   congr 1
   rw [List.drop_eq_getElem_cons (by omega)]
   rfl
 ·have hiN:i=NN:=by omega
  subst hiN
  rw [nH]
  refine ⟨rfl,A',χ',X',hnx,hF,?_,trivial⟩
  rw [hXp]
  unfold Fab.fmt
  have hlen:X.pure.nodes.length=NN:=ke X
  congr 1
  rw [List.drop_of_length_le (by omega),List.append_nil,hlen,←hlen]
  rw [List.map_const']
  rfl
theorem AV {n c lines:Nat} (hn:1≤n∧n≤5) (hl:98≤lines∧lines≤256):zV (Fab.init n c lines):=by
 refine ⟨hl.1,hl.2,by simp [Fab.init];omega,by simp [Fab.init];omega,?_⟩
 intro x hx
 simp [Fab.init] at hx
 rw [hx.2]
 simp [qk,Fab.init]
 omega
def Fab.fresh (n c lines:Nat):Fab:=⟨lines,List.replicate n ⟨Go.Proofs.YtegepanmkjemjaaGreat.fmt lines n,false⟩,(List.range c).map (sq n),[]⟩
theorem DP (n c lines:Nat):(Fab.init n c lines).fmt=Fab.fresh n c lines:=by simp [Fab.fmt,Fab.init,Fab.fresh]
theorem Cf {w:World} {n c lines:Nat} (hn:1≤n∧n≤5) (hc:1≤c∧c≤6) (hl:98≤lines∧lines≤256):Does 31 [.int .i64 n,.int .i64 c,.int .i64 lines] w λv w'=>
  ∃ fb A χ X,v=.tuple #[ptr fb,.bool true]∧aZ A χ w' fb X∧New w w'∧(∀ k,A k→w.heap.size≤k)∧X.pure=Fab.fresh n c lines:=by
 refine does Tryz.func31 ?_
 rw [rS]
 refine aG (GY hn hc ⟨by omega,hl.2⟩) ?_
 rintro v w1 ⟨fb,A,χ,X,rfl,hF,hn1,hA,hX⟩
 refine ⟨_,_,rfl,eC rfl (eC rfl ?_)⟩
 refine aG (ze hF (by rw [hX];exact AV hn hl)) ?_
 rintro v w2 ⟨rfl,A',χ',X',hnx,hF',hX',_⟩
 refine ⟨_,rfl,eC rfl ⟨fb,A',χ',X',rfl,hF',?_,?_,?_⟩⟩
 ·refine hn1.trans hnx.keep (λk hk hA'=>?_)
  have:=hA k (hF.avoid k hA')
  omega
 ·intro k hk
  by_cases hlt:k<w1.heap.size
  ·rcases (hnx.iff k).1 hk with hc | hc
   ·exact hA k (hF.avoid k (hnx.grow k hlt hc))
   ·exact hA k hc.2.1
  ·have:=hn1.size;omega
 ·rw [hX',hX,DP]
theorem G4 {A:Nat→Prop} {χ:Nat→Tag} {w:World} {fb:Nat} {X:FabX} (h:aZ A χ w fb X) {i:Nat} {x:ep} (hx:X.nodes[i]?=some x) {at_:Nat} (hat:at_<x.n.words.length) (hd:x.n.down=false) :
  Does 19 [ptr fb,.int .i64 i,.int .i64 at_] w λv w'=>v=.tuple #[.int .u64 (x.n.get at_),.bool true]∧New w w':=by
 refine does Tryz.func19 ?_
 rw [ptr,tl]
 refine aG (nQ h hx) ?_
 rintro v u1 ⟨rfl,rfl⟩
 refine ⟨_,rfl,eC rfl ?_⟩
 refine aG (xP (h.node i x hx).node at_ 1) ?_
 have hchk:x.n.chk at_ 1=0:=by
  unfold aP.chk
  rw [if_neg (by omega),if_neg (by simp [hd])]
 rintro v u2 (⟨hc,_⟩ | ⟨_,a,cap,rfl,hn,ho,_⟩)
 ·exact absurd hchk hc
 have hr:=ho.rd
 have hg:x.n.read at_ 1=[x.n.get at_]:=by
  unfold aP.read
  have hs:x.n.words[at_]?=some (x.n.get at_):=aP.get_some hat
  simp only [Int.toNat_natCast]
  rw [List.drop_eq_getElem_cons hat]
  have:x.n.words[at_]=x.n.get at_:=by
   rw [List.getElem?_eq_getElem hat] at hs
   exact Option.some.inj hs
  rw [this]
  rfl
 rw [hg] at hr
 rcases hr with hr | ⟨b,o,he,hcell⟩
 ·cases hr
 simp at he
 subst he
 refine ⟨_,_,_,_,rfl,eC rfl (eC rfl (bB (by omega) (by decide) ?_))⟩
 have:=hcell 0 _ rfl
 refine ⟨_,this,rfl,hn⟩
end Go.Proofs.YtegepanmkjemjaaGreat
namespace Go.Proofs.YtegepanmkjemjaaGreat
open Go.Proofs.Tryz
open Go.Eng
def su (d:Done):Int:=d.words.headD 0
def fitP (v:Verb) (d:Done):Bool:=if d.code=0 then decide ((d.words.length:Int)=v.v.rets) else if d.code=4∨d.code=5 then decide (d.words.length=0) else false
def fitL (vs:List Verb) (ds:List Done):Bool:=decide (vs.length=ds.length) && (vs.zip ds).all λp=>fitP p.1 p.2
structure BRes where
 done:List Done
 ok:Bool
 got:List (List Done)
 ask:Option (List Verb)
 wrong:Bool
def batch (G:List (List Done)) (vs:List Verb):BRes:=
 if vs.length=0 then ⟨[],true,G,none,false⟩ else match G with
 | []=>⟨[],false,[],some vs,false⟩
 |d::G'=>if fitL vs d then ⟨d,true,G',none,false⟩ else ⟨[],false,d::G',none,true⟩
abbrev TTk:TypeId:=224
theorem Fy {M:Nat→Prop} {w:World} {d:bH} {x:Done} (h:lh M w d x):Does 167 [d.val] w λv w'=>v=.int .u64 (su x)∧New w w':=by
 refine does Tryz.func167 ?_
 refine Eq.mpr (xK d.Code d.Words d.Wl d.Wc w _) ?_
 rintro b1 w1 hb1 hw1
 obtain ⟨hz,hn⟩:=aO hb1 hw1
 have hl:=h.len
 refine ⟨_,_,_,hz.cell rfl,bG (λh0=>?_) (λh0=>⟨_,_,_,hz.cell rfl,?_⟩)⟩
 ·have:x.words=[]:=List.eq_nil_of_length_eq_zero (by omega)
  refine ⟨by simp [su,this],hn⟩
 ·cases hx:x.words with
  |nil=>rw [hx] at hl;simp at hl;omega
  |cons y ys=>
   have hr:=h.rd.new hn
   rw [hx] at hr
   rcases hr with hr | ⟨b,o,he,hc⟩
   ·cases hr
   rw [he]
   refine bB (by omega) (by omega) ⟨y,?_,by simp [su,hx],hn⟩
   exact hc 0 _ rfl
structure TkX where
 ga:Option Addr
 gl:Nat
 gc:Nat
 aa:Option Addr
 al:Nat
 ac:Nat
 wrong:Bool
def TkX.cells (T:TkX):List Value:=[.slice T.ga T.gl T.gc,.slice T.aa T.al T.ac,.bool T.wrong]
structure Row where
 a:Option Addr
 c:Nat
 raw:List bH
def sv (rows:List Row):List Value:=rows.map λr=>.slice r.a r.raw.length r.c
def oF (A:Nat→Prop) (w:World) (a:Option Addr) (G:List (List Done)):Prop:=
 ∃ rows:List Row,rows.length=G.length∧Rd w a (sv rows)∧(sv rows=[]∨Off A a)∧
  ∀ (i:Nat) (r:Row) (ds:List Done),rows[i]?=some r→G[i]?=some ds→Rd w r.a (lr r.raw).flatten∧((lr r.raw).flatten=[]∨Off A r.a)∧Ds A w r.raw ds∧ds.length≤1024
theorem oF.nil (A:Nat→Prop) (w:World) (a:Option Addr):oF A w a []:=⟨[],rfl,.inl rfl,.inl rfl,λi r ds h=>by simp at h⟩
theorem oF.head {A:Nat→Prop} {w:World} {a:Option Addr} {d:List Done} {G:List (List Done)} (h:oF A w a (d::G)) :
  ∃ (b o:Nat) (r:Row),a=some ⟨b,o,none⟩∧w.cell? ⟨b,o,none⟩=some (.slice r.a r.raw.length r.c)∧Rd w r.a (lr r.raw).flatten∧Ds A w r.raw d∧d.length≤1024∧oF A w (some ⟨b,o+1,none⟩) G:=by
 obtain ⟨rows,hl,hr,ho,hd⟩:=h
 cases rows with
 |nil=>simp at hl
 |cons r rows=>
  rcases hr with hr | ⟨b,o,rfl,hc⟩
  ·simp [sv] at hr
  ·obtain ⟨h1,h2,h3,h4⟩:=hd 0 r d rfl rfl
   refine ⟨b,o,r,rfl,hc 0 _ rfl,h1,h3,h4,rows,by simpa using hl,?_,?_,λi r' ds h5 h6=>hd (i+1) r' ds (by simpa using h5) (by simpa using h6)⟩
   ·refine .inr ⟨b,o+1,rfl,λj u hu=>?_⟩
    rw [Nat.add_assoc,Nat.add_comm 1 j]
    exact hc (j+1) u (by simpa [sv] using hu)
   ·rcases ho with ho | ho
    ·simp [sv] at ho
    ·exact .inr ho
theorem Fz {M A:Nat→Prop} {w w':World} {v:aN} {x:Verb} {d:bH} {y:Done} (hv:bN M w v x) (h:lh A w' d y):fits v d=fitP x y:=by
 unfold fits fitP
 rw [h.code,h.len,hv.eq]
 rfl
theorem Cg {M A:Nat→Prop} {w w':World} {raws:List aN} {vs:List Verb} {raw:List bH} {ds:List Done} (hv:Vs M w raws vs) (h:Ds A w' raw ds):uQ raws raw=fitL vs ds:=by
 unfold uQ fitL
 rw [h.1,hv.1]
 congr 1
 obtain ⟨h1,h2⟩:=h
 obtain ⟨k1,k2⟩:=hv
 induction vs generalizing raw ds raws with
 |nil=>
  cases raws with
  |nil=>simp
  |cons=>simp at k1
 |cons v vs ih=>
  cases raws with
  |nil=>simp at k1
  |cons rv raws=>
   cases raw with
   |nil=>cases ds with
    |nil=>simp
    |cons=>simp at h1
   |cons r raw=>cases ds with
    |nil=>simp at h1
    |cons d ds=>
     simp only [List.zip_cons_cons,List.all_cons]
     rw [Fz (k2 0 rv v rfl rfl) (h2 0 r d rfl rfl),ih (by simpa using h1) (λi v x hv hx=>h2 (i+1) v x (by simpa using hv) (by simpa using hx)) (by simpa using k1) λi v x hv hx=>k2 (i+1) v x (by simpa using hv) (by simpa using hx)]
theorem zW {vs:List Verb} {ds:List Done} (h:fitL vs ds=true):vs.length=ds.length:=by
 unfold fitL at h
 simp at h
 exact h.1
theorem sw {G:List (List Done)} {vs:List Verb}:(batch G vs).done.length≤vs.length:=by
 unfold batch
 split
 ·simp
 ·cases G with
  |nil=>simp
  |cons d G=>
   simp only
   split
   ·rename_i h;rw [zW h];exact Nat.le_refl _
   ·simp
theorem FA {A:Nat→Prop} {w0 u:World} {tb:Nat} {T:TkX} {G:List (List Done)} (hn:New w0 u) (hl:w0.heap.size≤tb) (hb:Blk u tb T.cells TTk) (hg:oF A w0 T.ga G) (hgl:T.gl=G.length) (hgc:T.gl≤T.gc)
  {M:Nat→Prop} {raws:List aN} {vs:List Verb} {aa:Option Addr} {ac:Nat} (hr:Rd u aa (fC raws).flatten) (hvs:Vs M u raws vs) (hvl:vs.length≤1000000) :
  Does 98 [ptr tb,.slice aa raws.length ac] u λv u'=>∃ (T':TkX) (da:Option Addr) (dc:Nat) (raw:List bH),v=.tuple #[.slice da raw.length dc,.bool (batch G vs).ok]∧Blk u' tb T'.cells TTk∧Keep (λk=>k=tb) u u'∧
   Rd w0 da (lr raw).flatten∧Ds A w0 raw (batch G vs).done∧oF A w0 T'.ga (batch G vs).got∧T'.gl=(batch G vs).got.length∧T'.gl≤T'.gc∧T'.wrong=(T.wrong || (batch G vs).wrong)∧
   (match (batch G vs).ask with | none=>T'.aa=T.aa∧T'.al=T.al∧T'.ac=T.ac | some _=>T'.aa=aa∧T'.al=vs.length∧T'.ac=ac):=by
 refine does Tryz.func98 ?_
 rw [ptr,rT]
 rw [hvs.1]
 have hds0:Ds A w0 [] []:=⟨rfl,λi v x hv=>by simp at hv⟩
 unfold batch
 refine bG (λh0=>?_) (λh0=>⟨_,_,_,hb.cell rfl,bG (λh1=>?_) (λh1=>?_)⟩)
 ·have hv0:vs.length=0:=by omega
  rw [if_pos hv0]
  exact ⟨T,none,0,[],rfl,hb,Keep.refl _ _,.inl rfl,hds0,hg,hgl,hgc,by simp,rfl,rfl,rfl⟩
 ·have hv0:¬ vs.length=0:=by omega
  have hG:G=[]:=List.eq_nil_of_length_eq_zero (by omega)
  subst hG
  rw [if_neg hv0]
  refine ⟨⟨_,hb.cell rfl⟩,hb.frozen,?_⟩
  rintro u1 rfl
  exact ⟨{ T with aa:=aa,al:=vs.length,ac:=ac },none,0,[],rfl,hb.setCell _,aS _ _ _ _,.inl rfl,hds0,oF.nil _ _ _,hgl,hgc,by simp,rfl,rfl,rfl⟩
 ·have hv0:¬ vs.length=0:=by omega
  rw [if_neg hv0]
  cases G with
  |nil=>simp at hgl;omega
  |cons d G'=>
   simp only
   obtain ⟨b,o,r,ha,hc,hrd,hds,hdl,htl⟩:=hg.head
   have hne:b≠tb:=by
    have h1:b<w0.heap.size:=by
     have:=hc
     unfold World.cell? at this
     by_cases hlt:b<w0.heap.size
     ·exact hlt
     ·simp [Array.getElem?_eq_none (Nat.le_of_not_lt hlt)] at this
    omega
   have hcell:∀ z,New w0 z→z.cell? ⟨b,o,none⟩=some (.slice r.a r.raw.length r.c):=by
    intro z hz
    have h2:Rd w0 (some ⟨b,o,none⟩) [.slice r.a r.raw.length r.c]:=.inr ⟨b,o,rfl,λj u hu=>by
     cases j with
     |zero=>simp at hu;subst hu;exact hc
     |succ j=>simp at hu⟩
    exact (h2.new hz).cell (j:=0) rfl
   refine ⟨_,_,_,hb.cell rfl,?_⟩
   rw [ha]
   refine bB (by omega) (by omega) ?_
   refine ⟨_,_,_,hcell u hn,?_⟩
   have hfit:uQ raws r.raw=fitL vs d:=Cg hvs hds
   have hrl:=hds.1
   have hlen:raws.length=vs.length:=hvs.1
   rw [←hlen]
   refine aG (IE hr (hrd.new hn) (by omega) (by omega)) ?_
   rintro v u2 ⟨rfl,hn2⟩
   rw [hfit]
   refine ⟨_,rfl,dV (λhf=>?_) (λhf=>?_)⟩
   ·have hb2:=New.blk hn2 hb
    rw [hf]
    refine ⟨⟨_,hb2.cell rfl⟩,hb2.frozen,?_⟩
    rintro u3 rfl
    exact ⟨{ T with wrong:=true },none,0,[],rfl,hb2.setCell _,(Keep.of_new hn2).trans (aS _ _ _ _) (λ_ _ h=>h),.inl rfl,hds0,hg,hgl,hgc,by simp,rfl,rfl,rfl⟩
   ·rw [hf]
    rintro u3 hu3
    have hn3:New u u3:=by rw [hu3];exact hn2.drew
    have hb3:=New.blk hn3 hb
    refine ⟨λz=>New u3 z,Keep.refl _ _,_,_,_,λz hz=>(New.blk hz hb3).cell rfl,?_⟩
    rw [ha]
    refine bB (by omega) (by omega) ?_
    refine ⟨_,_,_,λz hz=>hcell z ((hn.new hn3).new hz),_,_,_,λz hz=>(New.blk hz hb3).cell rfl,?_⟩
    rw [ha]
    refine ⟨by omega,by omega,by omega,by omega,by omega,⟨_,hb3.cell rfl⟩,hb3.frozen,?_⟩
    rintro u4 rfl
    have hgl':T.gl=G'.length+1:=by simpa using hgl
    refine ⟨{ T with ga:=if (T.gc:Int)=1 then some ⟨b,o,none⟩ else (some ⟨b,o,none⟩:Option Addr).map (·.add (Int.toNat 1 * 1)),gl:=Int.toNat T.gl - Int.toNat 1,gc:=Int.toNat T.gc - Int.toNat 1 },r.a,r.c,r.raw,rfl,hb3.setCell _,(Keep.of_new hn3).trans (aS _ _ _ _) (λ_ _ h=>h),hrd,hds,?_,?_,?_,by simp,rfl,rfl,rfl⟩
    ·show oF A w0 (if (T.gc:Int)=1 then _ else _) G'
     split
     ·have:G'=[]:=List.eq_nil_of_length_eq_zero (by omega)
      rw [this]
      exact oF.nil _ _ _
     ·exact htl
    ·show Int.toNat (T.gl:Int) - Int.toNat 1=G'.length
     omega
    ·show Int.toNat (T.gl:Int) - Int.toNat 1≤Int.toNat (T.gc:Int) - Int.toNat 1
     omega
abbrev TSV:TypeId:=128
theorem FB {u:World} {a:Option Addr} {n cap:Nat} {xs:List Value} (ho:Owns u TV 9 a n cap xs) {v:aN} (hb1:n≤1000000000) {K:Nat→Option Addr→Nat→Nat→World→Prop}
  (hk:∀ b ap cap' w3,b=u.heap.size→Owns w3 TV 9 ap (n+1) cap' (xs++v.cells)→Keep (isB a) u w3→(∀ k,isB ap k→isB a k∨u.heap.size≤k)→K b ap (n+1) cap' w3) :
  ∀ b1 w2,b1=u.heap.size→w2=u.alloc (.cells v.cells.toArray TV)→∃ (ap:Option Addr) (ap_len ap_cap:Nat),∃ w3,(Builtin.append_ #[TSV,TSV] TSV #[(.slice a n cap),(.slice (some ⟨b1,0,none⟩) 1 1)]).run prog w2=.ok (.slice ap ap_len ap_cap) w3∧K b1 ap ap_len ap_cap w3:=by
 obtain ⟨inf,hi,hz,hsz,hby⟩:=jQ (T:=TV) (z:=.agg #[.int .i64 0,.int .i64 0,.int .i64 0,.int .i64 0,.int .u64 0,.int .u64 0,.slice none 0 0,.int .u64 0,.int .i64 0]) (n:=9) (m:=88) (by kernel_rfl)
 rw [←hsz] at ho
 refine push_k Tryz.underlying128 hi hz (by rw [hsz];rfl) (by omega) ho (by rw [hsz];rfl) (aN.single v) hb1 (by omega) ?_
 intro b ap cap' w3 h1 h2
 rw [hsz] at h2
 exact hk b ap cap' w3 h1 h2
theorem Ch {G:List (List Done)} {vs ws:List Verb} (h:(batch G vs).ask=some ws):ws=vs:=by
 unfold batch at h
 split at h
 ·cases h
 ·cases G with
  |nil=>simp at h;exact h.symm
  |cons d G'=>
   simp only at h
   split at h<;>cases h
theorem DQ {G:List (List Done)} {vs:List Verb} (h:(batch G vs).ok=true):(batch G vs).ask=none∧(batch G vs).wrong=false:=by
 unfold batch at h ⊢
 split
 ·exact ⟨rfl,rfl⟩
 ·rename_i hv
  rw [if_neg hv] at h
  cases G with
  |nil=>simp at h
  |cons d G'=>
   simp only at h ⊢
   split
   ·exact ⟨rfl,rfl⟩
   ·rename_i hf
    rw [if_neg hf] at h
    simp at h
theorem G5 (w:World) (ga:Option Addr) (gl gc:Nat):Does 97 [.slice ga gl gc] w λv w'=>∃ tb,v=ptr tb∧w.heap.size≤tb∧Blk w' tb (TkX.cells ⟨ga,gl,gc,none,0,0,false⟩) TTk∧New w w':=by
 refine does Tryz.func97 ?_
 rw [y6]
 rintro b1 w1 hb1 hw1
 obtain ⟨hz,hn⟩:=aO hb1 hw1
 exact ⟨b1,rfl,by omega,hz,hn⟩
end Go.Proofs.YtegepanmkjemjaaGreat
