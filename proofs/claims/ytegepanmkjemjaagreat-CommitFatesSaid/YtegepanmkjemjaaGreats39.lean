import Derived.Test.YtegepanmkjemjaaGreats36
import Derived.Test.YtegepanmkjemjaaGreats37
import Derived.Test.YtegepanmkjemjaaGreats38
set_option linter.unusedVariables false
namespace Go.Proofs.YtegepanmkjemjaaGreat
open Go.Proofs.Tryz
open Go.Eng C12
attribute [local irreducible] drive alone
theorem AC (w:World):Does 27 [.int .i64 0] w λv w'=>v=.int .i64 ((48:Nat):Int)∧w'=w:=by
 refine does Tryz.func27 ?_
 rw [nD]
 refine aE (yQ w 0) ?_
 rintro v u ⟨rfl,rfl⟩
 refine ⟨_,rfl,dB (by simp) ⟨?_,rfl⟩⟩
 rfl
theorem AY (w:World):Does 24 [.int .i64 5] w λv w'=>v=.tuple #[.int .u64 22,.int .i64 0]∧w'=w:=by
 refine does Tryz.func24 ?_
 rw [pr]
 exact dB (by simp) (dB (by simp) ⟨congrArg (λx=>Value.tuple #[.int .u64 x,.int .i64 0]) (by decide:bor .u64 (bshl .u64 (IntKind.u64.wrap 5) 2) 2=22),rfl⟩)
theorem zc {A:Nat→Prop} {χ:Nat→Tag} {w2 z:World} {fb b1:Nat} {X:FabX} (hF:aZ A χ w2 fb X) (hn:New w2 z) (hb:w2.heap.size≤b1∧b1<z.heap.size) (hf:Fine X.pure) {r:TR} {t:Tk conv} (ht:eP (λk=>A k∨k=b1) z r t) (hsh:rJ t)
  {pa:Option Addr} (hpa:Rd z pa r.cells) {sch:List Int} {sa:Option Addr} {sc:Nat} (hsd:Dat (λk=>A k∨k=b1) z sa (is sch)) (hsi:∀ x ∈ sch,I64 x) {ev:fM} {ea:Option Addr} (hed:Dat (λk=>A k∨k=b1) z ea ev.cells) (hei:ev.Ok) {most:Nat} (hm:most≤1000000) {e:Fab×Tk conv} (hd:drive X.pure [t] sch [ev] most=(e.1,[e.2])) {n:Nat} (hsl:n=sch.length) :
  Does 23 [ptr fb,.slice pa 1 1,.slice sa n sc,.slice ea 1 1,.int .i64 most] z λv u=>∃ la lc r' B ξ X',v=.slice la 1 lc∧TW A χ w2 fb (λk=>k=b1) u B ξ X'∧X'.pure=e.1∧eP (λk=>B k∨k=b1) u r' e.2∧(∀ K:Addr→Prop,(∀ b o,aD u ⟨b,o,none⟩ 0 r'.cells→K ⟨b,o,none⟩)→idxS la 1 0 25 K)∧
   u.heap[b1]?=z.heap[b1]?∧Keep (λk=>A k∨k=b1) z u∧∀ k,k<z.heap.size→B k∨k=b1→A k∨k=b1:=by
 subst hsl
 have hT:TW A χ w2 fb (λk=>k=b1) z A χ X:=TW.start hF hn λk hk=>by subst hk;exact hb
 have hrd:Rd z pa (lN [(r,t)]).flatten:=by simpa [lN] using hpa
 have hed':Dat (λk=>A k∨k=b1) z ea (n0 [ev]).flatten:=by simpa [n0] using hed
 have hdr:=yS hT.fab hf (ts:=[(r,t)]) (pc:=1) hrd (λx hxm=>by simp at hxm;rw [hxm];exact ⟨ht,hsh⟩) (by simp) (sch:=sch) (sa:=sa) (sc:=sc) hsd hsi (es:=[ev]) (ea:=ea) (ec:=1) hed' (λx hx=>by simp at hx;rw [hx];exact hei) (by simp) (most:=most) hm
 have e1:drive X.pure ([(r,t)].map Prod.snd) sch [ev] most=(e.1,[e.2]):=hd
 rw [e1] at hdr
 refine aE hdr ?_
 rintro v u hp
 obtain ⟨B',ξ',X',h3,hX3,hK3,hk3,hM3,hL3⟩:=hT.op hp
 obtain ⟨la,lc,ts',rfl,hts',how,hnB,htx'⟩:=hK3
 obtain ⟨r',rfl⟩:=yT hts'
 refine ⟨_,rfl,la,lc,r',B',ξ',X',rfl,h3,hX3,htx' (r',e.2) (by simp),λK hK=>?_,hL3 b1 rfl,hk3,hM3⟩
 have hrows:Rd u la (([(r',e.2)]:List (TR×Tk conv)).map λx=>x.1.cells).flatten:=how.rd
 exact fU (cells:=λx:TR×Tk conv=>x.1.cells) (λx=>aB.len x.1) (by omega) hrows (i:=0) rfl rfl rfl λb o hc _=>hK b o hc
structure FtAt (w u:World) (n fb p b1:Nat) (E:Fab×Tk conv) (r':TR):Prop where
 fab:∃ B ξ X,aZ B ξ u fb X∧X.pure=E.1
 new:New w u
 fine:Fine E.1
 n3:1≤n∧n≤3
 fend:rq n E
 box:∃ rv,Blk u p (fofC fb 100 rv) TFo
 talk:Blk u b1 r'.cells 49
 over:r'.Over=true
 bad:r'.Bad=false
 code:r'.Code=(outM E.2).1
 fate:r'.Fate=(outM E.2).2
theorem FtAt.next {w u u':World} {n fb p b1:Nat} {E:Fab×Tk conv} {r':TR} (h:FtAt w u n fb p b1 E r') (hn:New u u'):FtAt w u' n fb p b1 E r':=by
 obtain ⟨B,ξ,X,h1,h2⟩:=h.fab
 obtain ⟨rv,h3⟩:=h.box
 exact ⟨⟨B,ξ,X,h1.new hn,h2⟩,h.new.new hn,h.fine,h.n3,h.fend,⟨rv,New.blk hn h3⟩,New.blk hn h.talk,h.over,h.bad,h.code,h.fate⟩
set_option maxRecDepth 20000 in
set_option maxHeartbeats 4000000 in
theorem sk {w u0:World} {n fb p b1:Nat} {E:Fab×Tk conv} {r':TR} (h0:FtAt w u0 n fb p b1 E r') {Q:Exit→List Value→World→Prop} (hQ:∀ env z,Q .ret env z=retQ prog f7 (λv z=>v=.bool true∧New w z) .ret env z) (jj:List Value) :
  cN prog (.loop (sub (aC f7) [1,1,1,1,1,1,1,1,1,1,0,1,0,0])) (aO n (some ⟨p,0,none⟩) ⟨b1,0,none⟩ 22 0 jj) (aJ 0 (seqQ (λenv z=>Go.Eng.W prog (sub (aC f7) [1,1,1,1,1,1,1,1,1,1,1]) env Q z) Q)) u0:=by
 have hn3:=h0.n3
 refine aS mix (λq env z=>∃ (i:Nat) (jj:List Value),q=n - i∧i≤n∧env=aO n (some ⟨p,0,none⟩) ⟨b1,0,none⟩ 22 i jj∧FtAt w z n fb p b1 E r') n ⟨0,_,rfl,by omega,rfl,h0⟩ ?_
 rintro q env z ⟨i,jj,rfl,hi,rfl,h⟩
 refine l8 (P:=prog) (fn:=f7) (R:=(λv z=>v=.bool true∧New w z)) (λ_ _=>by first | rfl | exact hQ _ _) ?_
 rw [gM]
 obtain ⟨B,ξ,X,hF,hX⟩:=h.fab
 obtain ⟨rv,hbox⟩:=h.box
 have hlen:=h.fend.len
 have hlns:=h.fend.lns
 refine aH (λhlt=>?_) (λhge=>?_)
 rotate_left
 ·refine AL (vD (gR ?_))
  refine l8 (P:=prog) (fn:=f7) (R:=(λv z=>v=.bool true∧New w z)) hQ ?_
  rw [ir]
  exact ⟨rfl,h.new⟩
 have hlt:i<n:=by omega
 obtain ⟨x,hx,hxm⟩:=B2 hX (i:=i) (by omega)
 have hlong:x.n.words.length=800:=by rw [yX hX h.fine hx,hlns]
 refine ⟨_,hbox.cell (i:=0) rfl,?_⟩
 refine aE (k7 hF hx) ?_
 rintro v u1 ⟨rfl,hu1⟩
 obtain rfl:z=u1:=hu1.symm
 refine ⟨_,rfl,?_⟩
 refine aE (Up_c (hF.node i x hx).node) ?_
 rintro v u2 ⟨rfl,hu2⟩
 obtain rfl:z=u2:=hu2.symm
 refine ⟨_,rfl,?_⟩
 rw [w64 (x:=(i:Int)+1) (by omega) (by omega)]
 refine rx (λhd=>?_) (λhd=>?_)
 ·exact gR ⟨n - (i+1),by omega,i+1,_,rfl,by omega,rfl,h⟩
 have hd:x.n.down=false:=by simpa using hd
 have hmk:=h.fend.mark i hlt (by rw [hxm];exact hd)
 have hpg:=h.fend.page i hlt (by rw [hxm];exact hd)
 rw [hxm] at hmk hpg
 rintro w3 hw3
 have hn3':New z w3:=by rw [hw3];exact aW _
 clear hw3
 refine ⟨λy=>New w3 y,Keep.refl _ _,some ⟨fb,0,none⟩,λv hv=>(New.blk (hn3'.new hv) hbox).cell (i:=0) rfl,?_⟩
 refine aE (AC _) ?_
 rintro v u4 ⟨rfl,hu4⟩
 obtain rfl:w3=u4:=hu4.symm
 refine ⟨_,rfl,Keep.refl _ _,?_⟩
 refine aE (Cv (hF.new hn3') hx (at_:=48) (by omega) hd) ?_
 rintro v u5 ⟨rfl,hn5⟩
 refine ⟨_,_,rfl,?_⟩
 have h5:=h.next (hn3'.new hn5)
 have hx5:=hF.new (hn3'.new hn5)
 clear hn3' hbox hF
 have hpages:∀ (jj:List Value) (Q2:Exit→List Value→World→Prop),(∀ env z,Q2 .ret env z=retQ prog f7 (λv z=>v=.bool true∧New w z) .ret env z)→(∀ (jj:List Value) (z:World),FtAt w z n fb p b1 E r'→Q2 .normal (aO n (some ⟨p,0,none⟩) ⟨b1,0,none⟩ 22 ((i+1:Nat):Int) jj) z)→
   Go.Eng.W prog (sub (aC f7) [1,1,1,1,1,1,1,1,1,1,0,1,0,0,1,0,0,1,1,1]) (cH n (some ⟨p,0,none⟩) ⟨b1,0,none⟩ 22 i jj) (aJ 1 (seqQ (λenv z=>Go.Eng.W prog (sub (aC f7) [1,1,1,1,1,1,1,1,1,1,0,1,0,0,1,1]) env Q2 z) Q2)) u5:=by
  intro jj Q2 hQ2 hq2
  refine l8 (P:=prog) (fn:=f7) (R:=(λv z=>v=.bool true∧New w z)) (λ_ _=>hQ2 _ _) ?_
  rw [iw]
  refine aS mix (λq env z=>∃ (k:Nat) (jj:List Value),q=4 - k∧k≤4∧env=aV n (some ⟨p,0,none⟩) ⟨b1,0,none⟩ 22 i k jj∧New u5 z) 4 ⟨0,_,rfl,by omega,rfl,Keep.refl _ _⟩ ?_
  rintro q env z2 ⟨k,jj,rfl,hk,rfl,hz2⟩
  refine l8 (P:=prog) (fn:=f7) (R:=(λv z=>v=.bool true∧New w z)) (λ_ _=>by first | rfl | exact hQ2 _ _) ?_
  rw [gP]
  have h6:=h5.next hz2
  obtain ⟨rv6,hbox6⟩:=h6.box
  refine aH (λhlt2=>?_) (λhge2=>?_)
  ·have hlt2:k<4:=by omega
   refine ⟨_,hbox6.cell (i:=0) rfl,?_⟩
   rw [w64 (x:=(96:Int)+k) (by omega) (by omega),show (96:Int)+k=((96+k:Nat):Int) by omega]
   refine aE (vN (hx5.new hz2) hx (l:=96+k) (by omega) (by omega) hd) ?_
   rintro v u7 ⟨rfl,hn7⟩
   refine aG.mk_ex (x.n.page (96+k)) ⟨true,rfl,?_⟩
   refine iI (vs:=(x.n.page (96+k)).cells) rfl (aG.single _) λb8 u8 hb8 hz8 hn8=>?_
   have h8:=(h6.next hn7).next hn8
   rw [gG]
   refine l8 (P:=prog) (fn:=f7) (R:=(λv z=>v=.bool true∧New w z)) (λ_ _=>by first | rfl | exact hQ2 _ _) ?_
   rw [ix]
   have hgo:∀ (jj:List Value) (Q3:Exit→List Value→World→Prop),(∀ env z,Q3 .ret env z=retQ prog f7 (λv z=>v=.bool true∧New w z) .ret env z)→(∀ (jj:List Value),Q3 .normal (cI n (some ⟨p,0,none⟩) ⟨b1,0,none⟩ 22 i k jj) u8)→Go.Eng.W prog (sub (aC f7) [1,1,1,1,1,1,1,1,1,1,0,1,0,0,1,0,0,1,1,1,1,0,0,1,0,0,1,1]) (bP n (some ⟨p,0,none⟩) ⟨b1,0,none⟩ 22 i k false jj) Q3 u8:=by
    intro jj Q3 hQ3 hq3
    refine l8 (P:=prog) (fn:=f7) (R:=(λv z=>v=.bool true∧New w z)) hQ3 ?_
    rw [iz]
    exact dB rfl (hq3 _)
   have hnext:∀ (jj:List Value) (Q3:Exit→List Value→World→Prop),(∀ env z,Q3 .ret env z=retQ prog f7 (λv z=>v=.bool true∧New w z) .ret env z)→(∀ (jj:List Value),Q3 .normal (aV n (some ⟨p,0,none⟩) ⟨b1,0,none⟩ 22 i ((k+1:Nat):Int) jj) u8)→Go.Eng.W prog (sub (aC f7) [1,1,1,1,1,1,1,1,1,1,0,1,0,0,1,0,0,1,1,1,1,0,0,1,1]) (cI n (some ⟨p,0,none⟩) ⟨b1,0,none⟩ 22 i k jj) Q3 u8:=by
    intro jj Q3 hQ3 hq3
    refine l8 (P:=prog) (fn:=f7) (R:=(λv z=>v=.bool true∧New w z)) hQ3 ?_
    rw [iA]
    rw [w64 (x:=(k:Int)+1) (by omega) (by omega)]
    exact hq3 _
   have fin:∀ (jj:List Value),∃ m,m<4 - k∧∃ (q:Nat) (jj':List Value),m=4 - q∧q≤4∧aV n (some ⟨p,0,none⟩) ⟨b1,0,none⟩ 22 i ((k+1:Nat):Int) jj=aV n (some ⟨p,0,none⟩) ⟨b1,0,none⟩ 22 i q jj'∧New u5 u8:=
    λjj=>⟨4 - (k+1),by omega,k+1,jj,rfl,by omega,rfl,(hz2.new hn7).new hn8⟩
   refine dB rfl ⟨_,h8.talk.cell (i:=24) rfl,cU (λhf=>?_) (λhf=>?_)⟩
   ·rw [h8.fate] at hf
    obtain ⟨g1,g2⟩:=hpg hf (96+k) (by omega) (by omega)
    refine ⟨_,hz8.cell (i:=1) rfl,cU (λhne=>absurd g1 hne) λ_=>?_⟩
    refine jY (by omega) (by omega) ⟨_,hz8.cell (i:=2) rfl,?_⟩
    rw [show (((x.n.page (96+k)).Data0:Int) != 0)=false by rw [g2];rfl]
    refine gR (hgo _ _ ?_ ?_)
    ·exact λ_ _=>by first | rfl | exact hQ2 _ _
    ·intro jj
     refine sr (gR (hnext _ _ ?_ ?_))
     ·exact λ_ _=>by first | rfl | exact hQ2 _ _
     ·exact λjj=>Qr_n (gR (fin jj))
   ·refine gR (hgo _ _ ?_ ?_)
    ·exact λ_ _=>by first | rfl | exact hQ2 _ _
    ·intro jj
     refine sr (gR (hnext _ _ ?_ ?_))
     ·exact λ_ _=>by first | rfl | exact hQ2 _ _
     ·exact λjj=>Qr_n (gR (fin jj))
  ·refine AL (vD (Qr_n (sr (gR ?_))))
   refine l8 (P:=prog) (fn:=f7) (R:=(λv z=>v=.bool true∧New w z)) hQ2 ?_
   rw [iy]
   rw [w64 (x:=(i:Int)+1) (by omega) (by omega)]
   exact hq2 _ _ h6
 rw [gF,gz]
 refine l8 (P:=prog) (fn:=f7) (R:=(λv z=>v=.bool true∧New w z)) (λ_ _=>by first | rfl | exact hQ _ _) ?_
 rw [iq]
 have hstep:∀ (jj:List Value) (z:World),FtAt w z n fb p b1 E r'→∃ m,m<n - i∧∃ (q:Nat) (jj':List Value),m=n - q∧q≤n∧aO n (some ⟨p,0,none⟩) ⟨b1,0,none⟩ 22 ((i+1:Nat):Int) jj=aO n (some ⟨p,0,none⟩) ⟨b1,0,none⟩ 22 q jj'∧FtAt w z n fb p b1 E r':=
  λjj z hz=>⟨n - (i+1),by omega,i+1,jj,rfl,by omega,rfl,hz⟩
 have hdone:∀ (jj:List Value) (Q2:Exit→List Value→World→Prop),(∀ env z,Q2 .ret env z=retQ prog f7 (λv z=>v=.bool true∧New w z) .ret env z)→(∀ (jj:List Value),Q2 .normal (cH n (some ⟨p,0,none⟩) ⟨b1,0,none⟩ 22 i jj) u5)→Go.Eng.W prog (sub (aC f7) [1,1,1,1,1,1,1,1,1,1,0,1,0,0,1,0,0,1,1,0,1]) (bO n (some ⟨p,0,none⟩) ⟨b1,0,none⟩ 22 i false jj) Q2 u5:=by
  intro jj Q2 hQ2 hq2
  refine l8 (P:=prog) (fn:=f7) (R:=(λv z=>v=.bool true∧New w z)) hQ2 ?_
  rw [iu]
  exact dB rfl (hq2 _)
 have hfate:=h5.fate
 have hlast:∀ (jj:List Value) (Q2:Exit→List Value→World→Prop),(∀ env z,Q2 .ret env z=retQ prog f7 (λv z=>v=.bool true∧New w z) .ret env z)→(∀ (jj:List Value) (z:World),FtAt w z n fb p b1 E r'→Q2 .normal (aO n (some ⟨p,0,none⟩) ⟨b1,0,none⟩ 22 ((i+1:Nat):Int) jj) z)→
   opsW prog (rops (sub (aC f7) [1,1,1,1,1,1,1,1,1,1,0,1,0,0,1,0,0,1,1,0,0])) ((rops (sub (aC f7) [1,1,1,1,1,1,1,1,1,1,0,1,0,0,1,0,0,1,1,0,0])).drop 12) (aY n (some ⟨p,0,none⟩) ⟨b1,0,none⟩ 22 i (x.n.get 48) false jj) ((Qr prog f7 (λv z=>v=.bool true∧New w z) (seqQ (λenv z=>Go.Eng.W prog (sub (aC f7) [1,1,1,1,1,1,1,1,1,1,0,1,0,0,1,0,0,1,1,0,1]) env (seqQ (λenv z=>Go.Eng.W prog (sub (aC f7) [1,1,1,1,1,1,1,1,1,1,0,1,0,0,1,0,0,1,1,1]) env (aJ 1 (seqQ (λenv z=>Go.Eng.W prog (sub (aC f7) [1,1,1,1,1,1,1,1,1,1,0,1,0,0,1,1]) env Q2 z) Q2)) z) (aJ 1 (seqQ (λenv z=>Go.Eng.W prog (sub (aC f7) [1,1,1,1,1,1,1,1,1,1,0,1,0,0,1,1]) env Q2 z) Q2))) z) (seqQ (λenv z=>Go.Eng.W prog (sub (aC f7) [1,1,1,1,1,1,1,1,1,1,0,1,0,0,1,0,0,1,1,1]) env (aJ 1 (seqQ (λenv z=>Go.Eng.W prog (sub (aC f7) [1,1,1,1,1,1,1,1,1,1,0,1,0,0,1,1]) env Q2 z) Q2)) z) (aJ 1 (seqQ (λenv z=>Go.Eng.W prog (sub (aC f7) [1,1,1,1,1,1,1,1,1,1,0,1,0,0,1,1]) env Q2 z) Q2))))) .normal) u5:=by
  intro jj Q2 hQ2 hq2
  rw [it]
  have hgo:∀ jj,Go.Eng.W prog (sub (aC f7) [1,1,1,1,1,1,1,1,1,1,0,1,0,0,1,0,0,1,1,0,1]) (bO n (some ⟨p,0,none⟩) ⟨b1,0,none⟩ 22 i false jj) (seqQ (λenv z=>Go.Eng.W prog (sub (aC f7) [1,1,1,1,1,1,1,1,1,1,0,1,0,0,1,0,0,1,1,1]) env (aJ 1 (seqQ (λenv z=>Go.Eng.W prog (sub (aC f7) [1,1,1,1,1,1,1,1,1,1,0,1,0,0,1,1]) env Q2 z) Q2)) z) (aJ 1 (seqQ (λenv z=>Go.Eng.W prog (sub (aC f7) [1,1,1,1,1,1,1,1,1,1,0,1,0,0,1,1]) env Q2 z) Q2))) u5:=
   λjj=>hdone jj _ (λ_ _=>hQ2 _ _) λjj=>gR (hpages jj Q2 hQ2 hq2)
  refine dB rfl ⟨_,h5.talk.cell (i:=24) rfl,bL (λhf=>?_) (λhf=>?_)⟩
  ·rw [hfate] at hf
   rw [show ((x.n.get 48:Int) != 22)=false by rw [hmk.2 hf];rfl]
   exact gR (hgo _)
  ·exact gR (hgo _)
 have hnx:∀ (jj:List Value) (z:World),FtAt w z n fb p b1 E r'→Qr prog f7 (λv z=>v=.bool true∧New w z) (seqQ (λenv' w'=>∃ m,m<n - i∧∃ (i:Nat) (jj:List Value),m=n - i∧i≤n∧env'=aO n (some ⟨p,0,none⟩) ⟨b1,0,none⟩ 22 i jj∧FtAt w w' n fb p b1 E r') (aJ 0 (seqQ (λenv z=>Go.Eng.W prog (sub (aC f7) [1,1,1,1,1,1,1,1,1,1,1]) env Q z) Q))) .normal (aO n (some ⟨p,0,none⟩) ⟨b1,0,none⟩ 22 ((i+1:Nat):Int) jj) z:=λjj z hz=>Qr_n (gR (hstep jj z hz))
 refine dB rfl ⟨_,h5.talk.cell (i:=24) rfl,bL (λhf=>?_) (λhf=>?_)⟩
 ·rw [hfate] at hf
  rw [show ((x.n.get 48:Int) == 22)=false by rw [beq_eq_false_iff_ne];exact hmk.1 hf]
  exact hlast _ _ (λ_ _=>by first | rfl | exact hQ _ _) hnx
 ·exact hlast _ _ (λ_ _=>by first | rfl | exact hQ _ _) hnx
end Go.Proofs.YtegepanmkjemjaaGreat
namespace Go.Proofs.YtegepanmkjemjaaGreat
open Go.Proofs.Tryz
open Go.Eng C12
attribute [local irreducible] drive alone
set_option maxRecDepth 20000 in
set_option maxHeartbeats 4000000 in
theorem pR {w u:World} {n fb p b1:Nat} {E:Fab×Tk conv} {r':TR} (h:FtAt w u n fb p b1 E r') {Q:Exit→List Value→World→Prop} (hQ:∀ env z,Q .ret env z=retQ prog f7 (λv z=>v=.bool true∧New w z) .ret env z) (jj:List Value) :
  Go.Eng.W prog (sub (aC f7) [1,1,1,1,1,1,1,1]) (aT n (some ⟨p,0,none⟩) ⟨b1,0,none⟩ jj) Q u:=by
 rw [gL,gE]
 refine l8 (P:=prog) (fn:=f7) (R:=(λv z=>v=.bool true∧New w z)) (λ_ _=>by first | rfl | exact hQ _ _) ?_
 rw [iU]
 have hcode:r'.Code=0∨r'.Code=4:=by rw [h.code];exact h.fend.code
 have hfate:1≤r'.Fate∧r'.Fate≤3:=by rw [h.fate];exact h.fend.fate
 have hf1:decide ((r'.Fate:Int)<1)=false:=by rw [decide_eq_false_iff_not];omega
 have hf3:decide ((r'.Fate:Int)>3)=false:=by rw [decide_eq_false_iff_not];omega
 refine ⟨_,h.talk.cell (i:=16) rfl,dB (by rw [h.over];rfl) ⟨_,h.talk.cell (i:=17) rfl,?_⟩⟩
 rw [h.bad,iV]
 refine dB rfl ⟨_,h.talk.cell (i:=18) rfl,?_⟩
 rcases hcode with hc | hc
 ·rw [hc]
  refine dB rfl ?_
  rw [eK]
  refine dB rfl ⟨_,h.talk.cell (i:=24) rfl,?_⟩
  rw [hf1,eL]
  refine dB rfl ⟨_,h.talk.cell (i:=24) rfl,?_⟩
  rw [hf3,eM]
  refine dB rfl ⟨_,h.talk.cell (i:=18) rfl,?_⟩
  rw [hc]
  refine jG rfl ⟨_,h.talk.cell (i:=24) rfl,?_⟩
  rw [show ((r'.Fate:Int) != 3)=false by rw [h.fate,h.fend.sure (h.code.symm.trans hc)];rfl]
  refine gR ?_
  refine l8 (P:=prog) (fn:=f7) (R:=(λv z=>v=.bool true∧New w z)) (λ_ _=>by first | rfl | exact hQ _ _) ?_
  rw [eN]
  refine dB rfl (gR ?_)
  refine l8 (P:=prog) (fn:=f7) (R:=(λv z=>v=.bool true∧New w z)) (λ_ _=>hQ _ _) ?_
  rw [eC]
  refine aE (AY _) ?_
  rintro v u1 ⟨rfl,hu1⟩
  obtain rfl:u=u1:=hu1.symm
  refine ⟨_,_,rfl,?_⟩
  refine sk h ?_ _
  exact λ_ _=>rfl
 ·rw [hc]
  refine jG rfl ⟨_,h.talk.cell (i:=18) rfl,?_⟩
  rw [hc,show ((4:Int) != 4)=false from rfl,eK]
  refine dB rfl ⟨_,h.talk.cell (i:=24) rfl,?_⟩
  rw [hf1,eL]
  refine dB rfl ⟨_,h.talk.cell (i:=24) rfl,?_⟩
  rw [hf3,eM]
  refine dB rfl ⟨_,h.talk.cell (i:=18) rfl,?_⟩
  rw [hc]
  refine dB rfl ?_
  refine gR ?_
  refine l8 (P:=prog) (fn:=f7) (R:=(λv z=>v=.bool true∧New w z)) (λ_ _=>by first | rfl | exact hQ _ _) ?_
  rw [eN]
  refine dB rfl (gR ?_)
  refine l8 (P:=prog) (fn:=f7) (R:=(λv z=>v=.bool true∧New w z)) (λ_ _=>hQ _ _) ?_
  rw [eC]
  refine aE (AY _) ?_
  rintro v u1 ⟨rfl,hu1⟩
  obtain rfl:u=u1:=hu1.symm
  refine ⟨_,_,rfl,?_⟩
  refine sk h ?_ _
  exact λ_ _=>rfl
theorem oh {w w2:World} {A:Nat→Prop} {χ:Nat→Tag} {n a fb p:Nat} {X0:FabX} {rv:aN} (hm:Made w w2 n 100 fb p A χ X0 rv) (hn3:1≤n∧n≤3) (ha:a<14) (hrun:sX)
  {z:World} (hz:New w2 z) {b1 b2 b3:Nat} {wa:Option Addr} {wc:Nat} (hb1:Blk z b1 (um 0 5 100 rv none 0 0 wa (eJ a).length wc).cells 49) (hb1lo:w2.heap.size≤b1) (how:Owns z TPg 9 wa (eJ a).length wc (kC (sV n a)).flatten) (hwa:∀ k,isB wa k→w2.heap.size≤k∧k≠b1) (hWu:∀ q ∈ sV n a,PgU q)
  (hpa:Rd z (some ⟨b2,0,none⟩) (um 0 5 100 rv none 0 0 wa (eJ a).length wc).cells) {ev:fM} (hev:Rd z (some ⟨b3,0,none⟩) ev.cells) (hb3:w2.heap.size≤b3∧b3≠b1) (hk:ev.kind % 4=1) (hok:ev.Ok)
  {sch:List Int} {sa:Option Addr} {sc:Nat} (hs:Rd w sa (is sch)) (hi:∀ x ∈ sch,I64 x) :
  Does 23 [ptr fb,.slice (some ⟨b2,0,none⟩) 1 1,.slice sa sch.length sc,.slice (some ⟨b3,0,none⟩) 1 1,.int .i64 5000] z λv u=>∃ la lc r' E,v=.slice la 1 lc∧(∀ K:Addr→Prop,(∀ b o,aD u ⟨b,o,none⟩ 0 r'.cells→K ⟨b,o,none⟩)→idxS la 1 0 25 K)∧
   Blk u b1 (um 0 5 100 rv none 0 0 wa (eJ a).length wc).cells 49∧∀ u',Blk u' b1 r'.cells 49→Keep (λk=>k=b1) u u'→FtAt w u' n fb p b1 E r':=by
 have hf0:Fine (Fab.fresh n 6 100):=Fine.fresh (by omega) (by omega) (by omega)
 obtain ⟨e,hd,hfe,hend⟩:=hrun n a hn3 ha ev hk sch
 have hl0:=yY n a
 obtain ⟨hl1,hl3⟩:=si a ha
 have hb1A:=hb1.lt
 have htk:eP (λk=>A k∨k=b1) z (um 0 5 100 rv none 0 0 wa (eJ a).length wc) (vv n a):=by
  refine uo (ViewAt.new (hm.view.mono λj hj h=>?_) hz) (.inl rfl) rfl (by simp) (.inl rfl) how.rd hl0.symm (by omega) (pV how.rd λj hj h=>?_) hWu
  ·rcases h with h | h
   ·exact h
   ·omega
  ·have h4:=hwa j hj
   rcases h with h | h
   ·have:=hm.fab.low j h;omega
   ·omega
 have hcall:=zc hm.fab hz ⟨hb1lo,hb1A⟩ (by rw [hm.pure];exact hf0) htk (rm _ _ _ _ _ _) hpa (B5 (A:=λk=>A k∨k=b1) hs (hm.new.new hz) λj hj=>hj.elim (hm.own j) λh=>by have:=hm.new.size;omega) hi (sc:=sc) (ev:=ev) (ea:=some ⟨b3,0,none⟩) ⟨hev,.inr λh=>h.elim (λh=>by have h2:b3<w2.heap.size:=hm.fab.low _ h;omega) λh=>hb3.2 h⟩ hok (most:=5000) (by omega) (e:=e) (by rw [hm.pure];exact hd) rfl
 refine aE hcall ?_
 rintro v u ⟨la,lc,r',B,ξ,X',rfl,hT,hX',htx,hidx,hblk,hkz,hMz⟩
 refine ⟨_,rfl,la,lc,r',e,rfl,hidx,hblk.trans hb1,λu' hb' hk'=>?_⟩
 have hT':=hT.local hk' λ_ e=>e
 have hkA:Keep A w2 u':=hT'.next.keep.mono λk _ hc=>hm.fab.avoid k hc
 exact ⟨⟨_,_,_,hT'.fab,hX'⟩,hT'.mine hm.fab hm.new hm.own,hfe,hn3,hend,⟨rv,hkA.blk hm.box hm.out⟩,hb',htx.over.trans hend.over,htx.bad.trans hend.bad,htx.out.1,htx.out.2⟩
set_option maxRecDepth 20000 in
set_option maxHeartbeats 4000000 in
theorem rO (hrun:sX) (w:World) {x0 x1 x2 x3:Int} {p4:Option Addr} {c4:Nat} {sch:List Int} (h0:I64 x0) (h1:I64 x1) (h2:I64 x2) (h3:I64 x3) (hs:Rd w p4 (is sch)) (hi:∀ x ∈ sch,I64 x) :
  Does 7 [.int .i64 x0,.int .i64 x1,.int .i64 x2,.int .i64 x3,.slice p4 sch.length c4] w λv u=>v=.bool true∧New w u:=by
 refine does Tryz.func7 ?_
 rw [ku]
 refine aH (λh=>⟨rfl,Keep.refl _ _⟩) (λ_=>?_)
 refine aE (lQ _ _ _ h0 (by omega)) ?_
 rintro v u1 ⟨rfl,hu1⟩
 obtain rfl:w=u1:=hu1.symm
 rw [if_neg (by omega)]
 refine ⟨_,rfl,?_⟩
 obtain ⟨n,hn,hn3⟩:∃ n:Nat,x0 % 3+1=n∧1≤n∧n≤3:=⟨(x0 % 3+1).toNat,by omega,by omega⟩
 rw [w64 (x:=x0 % 3+1) (by omega) (by omega),hn]
 refine aE (BZ (n:=n) (by omega) (x:=2) ⟨by omega,by omega⟩) ?_
 rintro v w2 ⟨fb,p,A,χ,X,rv,rfl,hm⟩
 have hm:Made _ w2 n 100 fb p A χ X rv:=hm
 refine ⟨_,_,rfl,?_⟩
 rw [gK,gD]
 refine l8 (P:=prog) (fn:=f7) (R:=(λv z=>v=.bool true∧New w z)) (λ_ _=>rfl) ?_
 rw [iR]
 refine dB rfl ?_
 refine aE (B3 _) ?_
 rintro v w3 ⟨rfl,hn3'⟩
 refine ⟨_,rfl,gR ?_⟩
 refine l8 (P:=prog) (fn:=f7) (R:=(λv z=>v=.bool true∧New w z)) (λ_ _=>rfl) ?_
 rw [iS]
 refine dB rfl (gR ?_)
 refine l8 (P:=prog) (fn:=f7) (R:=(λv z=>v=.bool true∧New w z)) (λ_ _=>rfl) ?_
 rw [iT]
 obtain ⟨y,hy,hy14⟩:∃ y:Nat,(x3 % 14).toNat=y∧y<14:=⟨_,rfl,by omega⟩
 refine aE (Au h3) ?_
 rw [hy]
 rintro v w4 ⟨ca,cc,rfl,hrc,hn4⟩
 refine ⟨_,_,_,rfl,?_⟩
 have hf0:Fine (Fab.fresh n 6 100):=Fine.fresh (by omega) (by omega) (by omega)
 obtain ⟨x,hx,hxm⟩:=B2 hm.pure (i:=0) (by simp [Fab.fresh];omega)
 have hlong:x.n.words.length=800:=yX hm.pure hf0 hx
 have hup:x.n.down=false:=by rw [←hxm,xk (by omega)]
 have hu:∀ i,U64 (x.n.get i):=λi=>(hm.fab.node 0 x hx).node.wf_get i
 obtain ⟨hl1,hl3⟩:=si y hy14
 have hn24:=hn3'.new hn4
 have hcnt:=xi (hm.fab.new hn24) (New.blk hn24 hm.box) hx hup (L:=eJ y) (λl hl=>by have:=xg hl;omega) (by omega) hrc (cc:=cc) 0 5
 refine aE hcnt ?_
 rintro v w5 ⟨wa,wc,rfl,hn5,hown,hfr⟩
 refine aB.mk_ex (vX 0 5 100 rv wa (eJ y).length wc) ⟨true,rfl,?_⟩
 refine iI (vs:=(um 0 5 100 rv none 0 0 wa (eJ y).length wc).cells) rfl (aB.single _) λb1 w6 hb1 hz6 hn6=>?_
 refine dB rfl ?_
 have hW:cws 0 x.n (eJ y)=sV n y:=by unfold sV;rw [hxm]
 have hWu0:∀ q ∈ sV n y,PgU q:=by rw [←hW];exact Di hu 0 _
 rw [hW] at hown
 have hsz4:=hn24.size
 have hsz5:=hn5.size
 have hb1lt:=hz6.lt
 have hb1lo:w2.heap.size≤b1:=by omega
 have hwa:∀ k,isB wa k→w2.heap.size≤k∧k≠b1:=λk hk=>⟨by have:=hfr k hk;omega,λe=>by have:=hown.lt hk;omega⟩
 obtain ⟨at',hat,hat2⟩:∃ q:Int,x1 % 60=q∧0≤q∧q<60:=⟨_,rfl,by omega⟩
 have hek:(fM.mk at' 1 x2).kind % 4=1:=rfl
 have heo:(fM.mk at' 1 x2).Ok:=⟨⟨by show _≤at';omega,by show at'<_;omega⟩,⟨by show (_:Int)≤1;omega,by show (1:Int)<_;omega⟩,h2⟩
 rintro w7 hw7
 have hn7:New w6 w7:=by rw [hw7];exact aW _
 clear hw7
 have hn27:New w2 w7:=((hn24.new hn5).new hn6).new hn7
 refine ⟨λy=>New w7 y,Keep.refl _ _,some ⟨fb,0,none⟩,λu hu=>(New.blk (hn27.new hu) hm.box).cell (i:=0) rfl,aB.mk_ex (um 0 5 100 rv none 0 0 wa (eJ y).length wc) ⟨λu hu=>aI (New.blk (hn7.new hu) hz6) rfl,?_,?_⟩⟩
 ·rintro b2 w8 hb2 hw8
  obtain ⟨hz8,hn8⟩:=aM hb2 hw8
  clear hw8
  refine ⟨hn8,?_⟩
  refine aE (lQ _ _ _ h1 (by omega)) ?_
  rintro v u8 ⟨rfl,hu8⟩
  obtain rfl:w8=u8:=hu8.symm
  rw [if_neg (by omega),hat]
  refine ⟨_,rfl,hn8,?_⟩
  rintro b3 w9 hb3 hw9
  obtain ⟨hz9,hn9⟩:=aM hb3 hw9
  clear hw9
  refine ⟨hn8.new hn9,?_⟩
  have hnz:New w6 w9:=(hn7.new hn8).new hn9
  have hs79:=(hn7.new hn8).size
  have hcall:=oh hm hn3 hy14 hrun ((hn27.new hn8).new hn9) (New.blk hnz hz6) hb1lo (hown.new (hn6.new hnz)) hwa hWu0 (b2:=b2) (ep (New.blk hn9 hz8) (by simp [aB.cells])) (b3:=b3) (ev:=⟨at',1,x2⟩) (ep hz9 rfl) ⟨by omega,by omega⟩ hek heo hs hi (sc:=c4)
  refine aE hcall ?_
  rintro v w10 ⟨la,lc,r',E,rfl,hidx,hblk,hfin⟩
  refine ⟨_,_,_,rfl,hidx _ λb o hcell=>?_⟩
  refine aB.mk_ex r' ⟨hcell,?_⟩
  refine fK (vs:=r'.cells) hblk rfl (aB.single _) λw18 hz18 hk18=>?_
  refine pR (hfin _ hz18 hk18) ?_ _
  exact λ_ _=>rfl
 ·refine aE (lQ _ _ _ h1 (by omega)) ?_
  rintro v u8 ⟨rfl,hu8⟩
  obtain rfl:w7=u8:=hu8.symm
  rw [if_neg (by omega),hat]
  refine ⟨_,rfl,Keep.refl _ _,?_,?_⟩
  ·rintro b2 w8 hb2 hw8
   obtain ⟨hz8,hn8⟩:=aM hb2 hw8
   clear hw8
   refine ⟨hn8,?_⟩
   rintro b3 w9 hb3 hw9
   obtain ⟨hz9,hn9⟩:=aM hb3 hw9
   clear hw9
   refine ⟨hn8.new hn9,?_⟩
   have hnz:New w6 w9:=(hn7.new hn8).new hn9
   have hs79:=(hn7.new hn8).size
   have hcall:=oh hm hn3 hy14 hrun ((hn27.new hn8).new hn9) (New.blk hnz hz6) hb1lo (hown.new (hn6.new hnz)) hwa hWu0 (b2:=b2) (ep (New.blk hn9 hz8) (by simp [aB.cells])) (b3:=b3) (ev:=⟨at',1,x2⟩) (ep hz9 rfl) ⟨by omega,by omega⟩ hek heo hs hi (sc:=c4)
   refine aE hcall ?_
   rintro v w10 ⟨la,lc,r',E,rfl,hidx,hblk,hfin⟩
   refine ⟨_,_,_,rfl,hidx _ λb o hcell=>?_⟩
   refine aB.mk_ex r' ⟨hcell,?_⟩
   refine fK (vs:=r'.cells) hblk rfl (aB.single _) λw18 hz18 hk18=>?_
   refine pR (hfin _ hz18 hk18) ?_ _
   exact λ_ _=>rfl
  ·rintro b3 w8 hb3 hw8
   obtain ⟨hz8,hn8⟩:=aM hb3 hw8
   clear hw8
   refine ⟨hn8,?_⟩
   rintro b2 w9 hb2 hw9
   obtain ⟨hz9,hn9⟩:=aM hb2 hw9
   clear hw9
   refine ⟨hn8.new hn9,?_⟩
   have hnz:New w6 w9:=(hn7.new hn8).new hn9
   have hs79:=hn7.size
   have hcall:=oh hm hn3 hy14 hrun ((hn27.new hn8).new hn9) (New.blk hnz hz6) hb1lo (hown.new (hn6.new hnz)) hwa hWu0 (b2:=b2) (ep hz9 (by simp [aB.cells])) (b3:=b3) (ev:=⟨at',1,x2⟩) (ep (New.blk hn9 hz8) rfl) ⟨by omega,by omega⟩ hek heo hs hi (sc:=c4)
   refine aE hcall ?_
   rintro v w10 ⟨la,lc,r',E,rfl,hidx,hblk,hfin⟩
   refine ⟨_,_,_,rfl,hidx _ λb o hcell=>?_⟩
   refine aB.mk_ex r' ⟨hcell,?_⟩
   refine fK (vs:=r'.cells) hblk rfl (aB.single _) λw18 hz18 hk18=>?_
   refine pR (hfin _ hz18 hk18) ?_ _
   exact λ_ _=>rfl
end Go.Proofs.YtegepanmkjemjaaGreat
