import Derived.Test.YtgpmeaicjonenaaGreata36
set_option linter.unusedVariables false
namespace Go.Proofs.YtgpmeaicjonenaaGreat
open Go.Proofs.Tryz
open Go.Eng
abbrev TFO:TypeId:=218
abbrev TFJ:TypeId:=86
noncomputable abbrev fFN:Func:=f124
theorem kR {P:Program} {fn:Func} {R:Value→World→Prop} {Q:Exit→List Value→World→Prop} {c:Code} {env:List Value} {w:World} (h':∀ env w,Q .ret env w=retQ P fn R .ret env w) (h:Go.Eng.W P c env (Qr P fn R Q) w):Go.Eng.W P c env Q w:=(W_qr h').mp h
structure FV (j:FJob):Prop where
 num:0≤j.v.number∧j.v.number<16
 mem:∃ m,j.v.mem[0]?=some m∧I64 m.Boot
 few:j.lines.length≤1024
 line:∀ l ∈ j.lines,96≤l∧l<256
theorem CF {j:FJob} (h:j.valid=0):FV j:=by
 unfold FJob.valid at h
 split at h
 ·omega
 rename_i hv
 have hv:j.v.valid 5=0:=by omega
 split at h
 ·omega
 rename_i ht
 split at h
 ·omega
 rename_i hl
 have hl:j.lines.all (fR · j.total)=true:=by simpa using hl
 unfold Vw.valid at hv
 split at hv
 ·omega
 split at hv
 ·omega
 rename_i hn
 split at hv
 ·omega
 rename_i he
 split at hv
 ·omega
 split at hv
 ·omega
 rename_i hb
 have hb:j.v.mem.all mT=true:=by simpa using hb
 refine ⟨by omega,?_,by omega,λl hlm=>?_⟩
 ·have h0:j.v.mem[0]?=some j.v.mem[0]:=List.getElem?_eq_getElem (by omega)
  have hq2:=List.all_eq_true.1 hb _ (List.getElem_mem (by omega:0<j.v.mem.length))
  unfold mT at hq2
  simp at hq2
  exact ⟨_,h0,by unfold I64;omega⟩
 ·have hq:=List.all_eq_true.1 hl l hlm
  unfold fR at hq
  simp at hq <;> omega
theorem nK {α:Type} {l:List α} {i:Nat} {x:α} (h:l[i]?=some x):l.take (i+1)=l.take i++[x]:=by
 rw [List.take_add_one,h];rfl
def qe (lines:List Int) (ds:List Done) (i:Nat):List aG:=((lines.zip ds).take i).map λp=>pgW p.1 p.2.words
theorem zd {lines:List Int} {ds:List Done} {i:Nat} {x:Int} {d:Done} (h:lines[i]?=some x) (hd:ds[i]?=some d):qe lines ds (i+1)=qe lines ds i++[pgW x d.words]:=by
 unfold qe
 rw [nK (x:=(x,d)) (by rw [List.getElem?_zip_eq_some];exact ⟨h,hd⟩)]
 simp
structure FOut (w:World) (o:aQ) (x:Int×List aG):Prop where
 code:o.Code=x.1
 len:o.Pages_l=x.2.length
 rd:Rd w o.Pages (nr x.2).flatten
 u64:∀ p ∈ x.2,U64 p.Head
def kL (w:World) (j:FJob) (G:List (List Done)) (v:Value) (u:World):Prop:=
 ∃ (aa:Option Addr) (ac:Nat) (raws:List aJ) (o:aQ),v=.tuple #[.slice aa raws.length ac,o.val,.bool (eV j G).2.2]∧New w u∧Rd u aa (eC raws).flatten∧(∀ k,isB aa k→w.heap.size≤k)∧Vs (λk=>k<w.heap.size) u raws (eV j G).1∧FOut u o (eV j G).2.1∧∀ k,isB o.Pages k→w.heap.size≤k
theorem yc {u:World} {b:Nat} {zs:List Value} (hz:Blk u b zs TFO) (hl:zs.length=2) (c:Int) {K:aQ→World→Prop} (hk:∀ w',Keep (λk=>k=b) u w'→K ⟨c,none,0,0⟩ w') :
  wrAt u ⟨b,0,none⟩ 0 [(.int .i64 c),(.slice none 0 0)]∧∀ w2,w2=puts u ⟨b,0,none⟩ 0 [(.int .i64 c),(.slice none 0 0)]→aQ.ex λres=>aC w2 ⟨b,0,none⟩ 0 res.cells∧w2=w2∧K res w2:=
 il hz (vs:=aQ.cells ⟨c,none,0,0⟩) (by rw [hl];rfl) (aQ.single _) λw2 hz2 hk2=>aQ.mk_ex ⟨c,none,0,0⟩ ⟨aI hz2 rfl,rfl,hk w2 hk2⟩
theorem kL.nil {w u:World} {j:FJob} {G:List (List Done)} {c:Int} (h:eV j G=([],(c,[]),true)) (hn:New w u):kL w j G (.tuple #[.slice none 0 0,aQ.val ⟨c,none,0,0⟩,.bool true]) u:=
 ⟨none,0,[],⟨c,none,0,0⟩,by rw [h];rfl,hn,.inl rfl,λk hk=>absurd hk noB,by rw [h];exact ⟨rfl,λi v x hv=>by simp at hv⟩,by rw [h];exact ⟨rfl,rfl,.inl rfl,λp hp=>by cases hp⟩,λk hk=>absurd hk noB⟩
theorem FW {ws:List Int} (h:ws.length=8):∃ a b c d e f g i,ws=[a,b,c,d,e,f,g,i]:=by
 match ws,h with
 | [a,b,c,d,e,f,g,i],_=>exact ⟨a,b,c,d,e,f,g,i,rfl⟩
theorem wn {α:Type} {cells:α→List Value} {sz:Nat} (hsz:∀ x,(cells x).length=sz):∀ (l:List α) (n:Nat),(l.map cells).flatten.drop (n * sz)=((l.drop n).map cells).flatten
 |l,0=>by simp
 | [],n+1=>by simp
 |x::l,n+1=>by
  have e:(n+1) * sz=(cells x).length+n * sz:=by rw [hsz,Nat.succ_mul,Nat.add_comm]
  rw [List.map_cons,List.flatten_cons,List.drop_succ_cons,e,←List.drop_drop,List.drop_left]
  exact wn hsz l n
theorem wq {α:Type} {cells:α→List Value} {sz:Nat} (hsz:∀ x,(cells x).length=sz):∀ (l:List α) (n:Nat),(l.map cells).flatten.take (n * sz)=((l.take n).map cells).flatten
 |l,0=>by simp
 | [],n+1=>by simp
 |x::l,n+1=>by
  have e:(n+1) * sz=(cells x).length+n * sz:=by rw [hsz,Nat.succ_mul,Nat.add_comm]
  rw [List.map_cons,List.flatten_cons,List.take_succ_cons,List.map_cons,List.flatten_cons,e,List.take_append,List.take_of_length_le (by omega),Nat.add_sub_cancel_left,wq hsz l n]
theorem CG {α:Type} {cells:α→List Value} {sz:Nat} (hsz:∀ x,(cells x).length=sz) {u:World} {a:Option Addr} {l:List α} (h:Rd u a (l.map cells).flatten) {n cap:Nat} (hn:n=l.length) (hc:n≤cap) {lo hi:Int} {i k:Nat} (hlo:lo=i) (hhi:hi=k) (h1:i≤k) (h2:k≤n) {K:Option Addr→Nat→Nat→Prop}
  (hk:∀ a',Rd u a' (((l.take k).drop i).map cells).flatten→((l.take k).drop i).length=k - i→K a' (k - i) (cap - i)):sl3 a n cap lo hi cap sz K:=by
 subst hlo hhi hn
 refine ⟨by omega,by omega,by omega,by omega,by omega,?_⟩
 have hl:((l.take k).drop i).length=k - i:=by rw [List.length_drop,List.length_take];omega
 refine hk _ ?_ hl
 by_cases hci:(cap:Int)=i
 ·have:(l.take k).drop i=[]:=List.eq_nil_of_length_eq_zero (by omega)
  rw [this]
  exact Rd.nil _ _
 ·rw [if_neg hci]
  have ht:=h.take (k * sz)
  rw [wq hsz] at ht
  have hd:=wn hsz (l.take k) i
  rw [←hd]
  rcases ht with he | ⟨b,o,rfl,hcs⟩
  ·rw [he];exact .inl (by simp)
  ·simp only [Option.map_some,mq,Int.toNat_natCast]
   exact Rd.drop (.inr ⟨b,o,rfl,hcs⟩:Rd u (some ⟨b,o,none⟩) _) (i * sz)
theorem CH {vs:List Verb} {ds:List Done} (hv:∀ v ∈ vs,v.v.rets=8) (h:fitL vs ds=true) (h0:fT ds=0):∀ d ∈ ds,d.words.length=8:=λd hd=>by
 have h1:∀ {l:List Done},fT l=0→∀ d ∈ l,d.code=0:=λ{l}=>by
  induction l with
  |nil=>intro _ d hd;cases hd
  |cons x l ih=>
   intro h d hd
   unfold fT at h
   split at h
   ·rename_i e
    rcases List.mem_cons.1 hd with rfl | hd
    ·exact e
    ·exact ih h d hd
   ·rename_i e;exact absurd h e
 have hc:=h1 h0 d hd
 obtain ⟨i,hi⟩:=List.mem_iff_getElem?.1 hd
 have hlt:=aN hi
 have hll:=ro h
 unfold fitL at h
 rw [Bool.and_eq_true,List.all_eq_true] at h
 have hm:(vs[i],d) ∈ vs.zip ds:=List.mem_of_getElem? (i:=i) (List.getElem?_zip_eq_some.2 ⟨List.getElem?_eq_getElem (by omega),hi⟩)
 have:=h.2 _ hm
 unfold fitP at this
 simp only at this
 rw [if_pos hc,hv _ (List.getElem_mem _)] at this
 have:=of_decide_eq_true this
 omega
set_option maxHeartbeats 2000000 in
theorem fn4 {A:Nat→Prop} {w w0 u:World} {r:bN} {j:FJob} {b1 b2:Nat} (hnw:New w w0) (hnu:New w0 u) (h1:Blk u b1 r.cells TFJ) (h2:Blk u b2 (aQ.cells ⟨0,none,0,0⟩) TFO) (hb2:w.heap.size≤b2) (hjob:sE w r j) {a:Option Addr} {n c:Nat} {raw:List aY} {ds:List Done} (hn:n=raw.length) (hr:Rd w a (j1 raw).flatten) (hd:Ds A w raw ds) (hlen:raw.length=j.lines.length) (hfull:fT ds=0→∀ d ∈ ds,d.words.length=8)
  {R:Value→World→Prop} {Q:Exit→List Value→World→Prop} (hQ:∀ env w',Q .ret env w'=retQ prog fFN R .ret env w')
  (hR:∀ w' o,New w w'→FOut w' o (if fT ds≠0 then (fT ds,([]:List aG)) else (0,lg j.lines ds))→(∀ k,isB o.Pages k→w.heap.size≤k)→R (.tuple #[.slice none 0 0,o.val,.bool true]) w') (jj:List Value) :
  W prog (sub (aD fFN) [1,1,1,1,1,1,1,1,1]) (kK ⟨b1,0,none⟩ ⟨b2,0,none⟩ a n c jj) Q u:=by
 refine kR (P:=prog) (fn:=fFN) (R:=R) hQ ?_
 rw [p9]
 subst hn
 have hdl:=hd.1
 have hfew:=hjob.few
 have hll:=hjob.len
 have hnu0:=hnw.new hnu
 refine aF (xK hnu0 rfl hr hd (by omega)) ?_
 rintro x w1 ⟨rfl,hn1⟩
 have hnw1:=hnu0.new hn1
 refine ⟨_,rfl,cU (λhf=>?_) (λhf=>?_)⟩
 ·rw [if_pos hf] at hR
  exact yc (New.blk hn1 h2) rfl (fT ds) (K:=λres w2=>R (.tuple #[.slice none 0 0,res.val,.bool true]) w2) λw2 hk2=>hR w2 _ (hnw1.trans hk2 λk hlt e=>by omega) ⟨rfl,rfl,.inl rfl,λp hp=>by cases hp⟩ λk hk=>absurd hk noB
 rw [if_neg (by omega)] at hR
 have hfull:=hfull (by omega)
 have g1:=New.blk hn1 h1
 have g2:=New.blk hn1 h2
 clear h1 h2
 have hsw:=hnw1.size
 have hb2l:=g2.lt
 have hb1l:=g1.lt
 have hb12:b1≠b2:=g1.ne g2 (by decide)
 refine aT mix (λq env z=>∃ (i:Nat) (pa:Option Addr) (pc:Nat) (jj:List Value),q=raw.length - i∧i≤raw.length∧env=iC ⟨b1,0,none⟩ ⟨b2,0,none⟩ a raw.length c raw.length i jj∧New w z∧Blk z b1 r.cells TFJ∧Blk z b2 (aQ.cells ⟨0,pa,i,pc⟩) TFO∧Owns z TPg 9 pa i pc (nr (qe j.lines ds i)).flatten∧w1.heap.size≤z.heap.size∧(∀ k,isB pa k→w1.heap.size≤k)∧∀ p ∈ qe j.lines ds i,U64 p.Head) raw.length
  ⟨0,none,0,_,by omega,by omega,rfl,hnw1,g1,g2,Owns.nil _ _ _,Nat.le_refl _,λk hk=>absurd hk noB,λp hp=>by simp [qe] at hp⟩ ?_
 rintro q env z ⟨i,pa,pc,jj,rfl,hi,rfl,hnz,hz1,hz2,hown,hzs,hpf,hu64⟩
 clear g1 g2
 refine kR (P:=prog) (fn:=fFN) (R:=R) (λ_ _=>rfl) ?_
 rw [nJ]
 have hzl2:=hz2.lt
 have hzl1:=hz1.lt
 refine aH (λhq=>?_) (λhq=>?_)
 ·have hlt:i<raw.length:=by omega
  have hg:raw[i]?=some raw[i]:=List.getElem?_eq_getElem hlt
  obtain ⟨x,hgd⟩:∃ x,ds[i]?=some x:=⟨_,List.getElem?_eq_getElem (by omega)⟩
  obtain ⟨l,hgl⟩:∃ l,j.lines[i]?=some l:=⟨_,List.getElem?_eq_getElem (by omega)⟩
  have hda:=hd.2 i _ _ hg hgd
  have hx8:=hfull x (List.mem_of_getElem? hgd)
  generalize raw[i]=d at hg hda
  have hdc:=hda.cap
  have hwl:=hda.len
  obtain ⟨x0,x1,x2,x3,x4,x5,x6,x7,hxw⟩:=FW hx8
  refine ez (cells:=aY.cells) aY.len (by omega) (hr.new hnz) hg rfl rfl λb o hcc _=>aY.mk_ex d ⟨hcc,?_⟩
  refine gF (vs:=d.cells) rfl (aY.single _) λb3 z2 hb3 hz3 hn2=>?_
  have hz3:Blk z2 b3 d.cells 146:=hz3
  rintro z3 hw3
  have hn3:New z2 z3:=by rw [hw3];exact aU _
  clear hw3
  have hn03:=hn2.new hn3
  have y1:=New.blk hn03 hz1
  have y3:=New.blk hn3 hz3
  refine ⟨λy=>New z3 y,Keep.refl _ _,_,_,_,λy hy=>(New.blk hy y1).cell (i:=3) rfl,?_⟩
  refine rd_i (hjob.rd.new (hnz.new hn03)) hgl rfl hll λb o hc=>⟨_,λy hy=>hc y hy,_,_,_,λy hy=>(New.blk hy y3).cell (i:=1) rfl,?_⟩
  refine rd_u (l:=x.words) (hda.rd.new (hnz.new hn03)) (i:=0) (x:=x0) (by rw [hxw];rfl) rfl hwl λb o hc=>⟨x0,λy hy=>hc y hy,?_⟩
  rintro b4 z4 hb4 hw4
  obtain ⟨hz4,hn4⟩:=aO hb4 hw4
  have hz4:Blk z4 b4 (aG.cells ⟨0,0,0,0,0,0,0,0,0⟩) TPg:=hz4
  clear hw4
  have hs2:=hn2.size
  have hs3:=hn3.size
  have hs4:=hn4.size
  have hb3l:=hz3.lt
  refine ⟨hn4,il hz4 (vs:=aG.cells ⟨l,x0,0,0,0,0,0,0,0⟩) rfl (aG.single _) λz5 y4 hk5=>?_⟩
  have hn35:New z3 z5:=hn4.trans hk5 λk hlt e=>by omega
  rintro z6 hw6
  have hn6:New z5 z6:=by rw [hw6];exact aU _
  clear hw6
  have hn36:=hn35.new hn6
  have hn06:=hn03.new hn36
  have y3:=New.blk hn36 y3
  have y4:=New.blk hn6 y4
  have hb34:b3≠b4:=by omega
  refine ⟨λy=>Blk y b3 d.cells 146,y3,d.Words,d.Wl,d.Wc,λy hy=>hy.cell (i:=1) rfl,?_⟩
  have hd6:=hda.rd.new (hnz.new hn06)
  refine CG (cells:=Al) (λ_=>rfl) (l:=x.words) (by rw [sj];exact hd6) hwl hdc (i:=1) (k:=d.Wl) rfl rfl (by omega) (Nat.le_refl _) λsa hsr hsl=>?_
  rw [sj] at hsr
  have e7:(x.words.take d.Wl).drop 1=[x1,x2,x3,x4,x5,x6,x7]:=by
   rw [List.take_of_length_le (by omega),hxw];rfl
  rw [e7] at hsr
  obtain ⟨inf,hinf,hzz,hsz,hby⟩:=iF (T:=30) (z:=.int .u64 0) (n:=1) (m:=8) (by kernel_rfl)
  have hw7:wrAt z6 ⟨b4,2,none⟩ 0 (us [x1,x2,x3,x4,x5,x6,x7]):=cK y4 (by simp [us,aG.cells]) (λv hv=>by
   obtain ⟨t,_,rfl⟩:=List.mem_map.1 hv;rfl)
  refine ⟨_,_,xv Tryz.underlying106 hinf hsz (by simp [us];omega) (by omega) hsr (λe=>by
   rw [e] at hsr
   rcases hsr with e2 | ⟨b,o,e2,_⟩
   ·simp [us] at e2
   ·cases e2) hw7,?_⟩
  generalize hpz:puts z6 ⟨b4,2,none⟩ 0 (us [x1,x2,x3,x4,x5,x6,x7])=z7
  have hk7:Keep (λk=>k=b4) z6 z7:=by rw [←hpz];exact dD _ _ _ _ _
  have y4:=y4.puts (o:=2) (i:=0) (vs:=us [x1,x2,x3,x4,x5,x6,x7])
  rw [hpz] at y4
  have y4:Blk z7 b4 (pgW l x.words).cells TPg:=by rw [hxw];exact y4
  have hn07:New z z7:=hn06.trans hk7 λk hlt e=>by omega
  have y1:=New.blk hn07 hz1
  have y2:=New.blk hn07 hz2
  have hs07:=hn07.size
  have y4l:=y4.lt
  refine ⟨hk7.blk y3 hb34,_,_,_,y2.cell (i:=1) rfl,aG.mk_ex (pgW l x.words) ⟨aI y4 rfl,?_⟩⟩
  rintro b5 z8 hb5 hw8
  obtain ⟨hz5,hn8⟩:=aO hb5 hw8
  have hz5:Blk z8 b5 (pgW l x.words).cells TPg:=hz5
  clear hw8
  obtain ⟨inf2,hinf2,hzz2,hsz2,hby2⟩:=iF (T:=TPg) (z:=.agg #[.int .i64 0,.int .u64 0,.int .u64 0,.int .u64 0,.int .u64 0,.int .u64 0,.int .u64 0,.int .u64 0,.int .u64 0]) (n:=9) (m:=72) (by kernel_rfl)
  refine tB (cells:=aG.cells) aG.len aG.single Tryz.underlying37 hinf2 hzz2 (by rw [hsz2];rfl) hsz2 (by omega) (by omega) (l:=qe j.lines ds i) (Owns.new (hn07.new hn8) hown) (l2:=[pgW l x.words]) (m:=1) (eQ hz5 rfl) rfl (by omega) λap cap' z9 ho9 hk9 hap=>?_
  have hn08:=hn07.new hn8
  have hpn:∀ {k},k<w1.heap.size→¬ isB pa k:=λhk e=>by have:=hpf _ e;omega
  have y1:=hk9.blk (New.blk hn8 y1) (hpn hb1l)
  have y2:=hk9.blk (New.blk hn8 y2) (hpn hb2l)
  have hn9:New w z9:=(hnz.new hn08).trans hk9 λk hlt e=>by have:=hpf k e;omega
  refine pS (b:=b2) y2 (i:=1) rfl λz10 y2 hk10=>?_
  rw [w64 (x:=(i:Int)+1) (by omega) (by omega)]
  have hs08:=hn08.size
  have hs9:=hk9.size
  have hapf:∀ k,isB ap k→w1.heap.size≤k:=λk hk=>by
   rcases hap k hk with e | e
   ·exact hpf k e
   ·have:=hn8.size;have:=hnz.size;omega
  have esn:=zd hgl hgd
  refine ik ⟨raw.length - (i+1),by omega,i+1,ap,cap',_,rfl,by omega,rfl,hn9.trans hk10 λk hlt e=>by omega,hk10.blk y1 hb12,y2,?_,by have:=hk10.size;have:=hn8.size;omega,hapf,λp hp=>?_⟩
  ·rw [esn]
   exact Owns.keep hk10 ho9 λk hk e=>by have:=hapf k hk;omega
  ·rw [esn] at hp
   rcases List.mem_append.1 hp with e | e
   ·exact hu64 p e
   ·rw [List.mem_singleton.1 e]
    show U64 (x.words.getD 0 0)
    rw [hxw]
    exact hda.wf x0 (by rw [hxw];exact List.mem_cons_self)
 ·have hie:i=raw.length:=by omega
  subst hie
  refine xt (ri (ik ?_))
  rw [qd]
  rintro z1 hw1
  have hn1:New z z1:=by rw [hw1];exact aU _
  clear hw1
  have y2:=New.blk hn1 hz2
  have eall:qe j.lines ds raw.length=lg j.lines ds:=by
   unfold qe lg
   rw [List.take_of_length_le]
   rw [List.length_zip]
   omega
  refine ⟨λy=>New z1 y,Keep.refl _ _,aQ.mk_ex ⟨0,pa,raw.length,pc⟩ ⟨λy hy=>aI (New.blk hy y2) rfl,il y2 rfl (aQ.single _) λz2 y2 hk2=>aQ.mk_ex ⟨0,pa,raw.length,pc⟩ ⟨aI y2 rfl,rfl,hR z2 _ ((hnz.new hn1).trans hk2 λk hlt e=>by omega) ⟨rfl,?_,?_,?_⟩ λk hk=>?_⟩⟩⟩
  ·show raw.length=(lg j.lines ds).length
   unfold lg
   rw [List.length_map,List.length_zip]
   omega
  ·have ho2:=Owns.keep hk2 (Owns.new hn1 hown) λk hk e=>by have:=hpf k hk;omega
   have hp:=ho2.rd
   rw [eall] at hp
   exact hp
  ·rw [eall] at hu64
   exact hu64
  ·have:=hpf k hk
   omega
end Go.Proofs.YtgpmeaicjonenaaGreat
namespace Go.Proofs.YtgpmeaicjonenaaGreat
open Go.Proofs.Tryz
open Go.Eng
theorem fn3t {w u:World} {b1 b2:Nat} (hnu:New w u) (h2:Blk u b2 (aQ.cells ⟨0,none,0,0⟩) TFO) (hb2:w.heap.size≤b2) {R:Value→World→Prop} {Q:Exit→List Value→World→Prop} (hQ:∀ env w',Q .ret env w'=retQ prog fFN R .ret env w')
  (hR:∀ w',New w w'→R (.tuple #[.slice none 0 0,aQ.val ⟨6,none,0,0⟩,.bool true]) w') (a:Option Addr) (n c:Nat) (jj:List Value) :
  W prog (sub (aD fFN) [1,1,1,1,1,1,1,1,0,1]) (iB ⟨b1,0,none⟩ ⟨b2,0,none⟩ a n c true jj) Q u:=by
 refine kR (P:=prog) (fn:=fFN) (R:=R) hQ ?_
 rw [lh]
 exact gE rfl (yc h2 rfl 6 (K:=λres w2=>R (.tuple #[.slice none 0 0,res.val,.bool true]) w2) λw2 hk2=>hR w2 (hnu.trans hk2 λk hlt e=>by omega))
theorem Bb {j:FJob}:∀ v ∈ fetV j,v.v.rets=8:=λv hv=>by
 obtain ⟨l,_,rfl⟩:=List.mem_map.1 hv
 rfl
set_option maxHeartbeats 4000000 in
theorem Eo {A:Nat→Prop} {w:World} {r:bN} {j:FJob} (h:sE w r j) {ga:Option Addr} {gl gc:Nat} {G:List (List Done)} (hg:lr A w ga G) (hgl:gl=G.length) (hgc:gl≤gc) :
  Does 124 [r.val,.slice ga gl gc] w (kL w j G):=by
 refine does Tryz.func124 ?_
 rw [uJ]
 rintro b1 w1 hb1 hw1
 obtain ⟨hz1,hn1⟩:=aO hb1 hw1
 have hz1:Blk w1 b1 r.cells TFJ:=hz1
 clear hw1
 rintro b2 w2 hb2 hw2
 obtain ⟨hz2,hn2⟩:=aO hb2 hw2
 have hz2:Blk w2 b2 (aQ.cells ⟨0,none,0,0⟩) TFO:=hz2
 clear hw2
 have hz12:=New.blk hn2 hz1
 have hn02:=hn1.new hn2
 have hs1:=hn1.size
 have hs2:=hn2.size
 have hb2w:w.heap.size≤b2:=by omega
 refine bN.mk_ex r ⟨aI hz12 rfl,?_⟩
 refine aF (CE (h.new hn02)) ?_
 rintro x w3 ⟨rfl,hn3⟩
 have hn03:=hn02.new hn3
 refine ⟨_,rfl,cU (λhv=>?_) (λhv=>?_)⟩
 ·exact yc (New.blk hn3 hz2) rfl j.valid (K:=λres w'=>kL w j G (.tuple #[.slice none 0 0,res.val,.bool true]) w') λw' hk=>kL.nil (by unfold eV;rw [if_pos hv]) (hn03.trans hk λk hlt e=>by omega)
 have hv:j.valid=0:=by omega
 obtain ⟨hnum,⟨m,hm,hmb⟩,hl1024,hlines⟩:=CF hv
 obtain ⟨MM,hview⟩:=h.view
 have hnumr:=hview.num
 have em0:m0F j.v=m:=by
  unfold m0F
  rw [List.getD_eq_getElem?_getD,hm]
  rfl
 refine aM.mk_ex r.View ⟨aI (New.blk hn3 hz12) rfl,?_⟩
 refine aF (vR (hview.new hn03) hm) ?_
 rintro x w5 ⟨rfl,hn5⟩
 refine aE.mk_ex m ⟨_,rfl,gF (vs:=m.cells) rfl (aE.single _) λb3 w7 hb3 hz7 hn7=>?_⟩
 have hz7:Blk w7 b3 m.cells TMb:=hz7
 have hn07:=(hn03.new hn5).new hn7
 have hn27:=(hn3.new hn5).new hn7
 have y1:=New.blk hn27 hz12
 have y2:=New.blk hn27 hz2
 have hll:=h.len
 have hs07:=hn07.size
 have hb2l:=y2.lt
 have hvl:(fetV j).length=j.lines.length:=by simp [fetV]
 refine ⟨_,_,_,y1.cell (i:=3) rfl,?_⟩
 refine aT mix (λq env z=>∃ (i:Nat) (a:Option Addr) (cap:Nat) (jj:List Value),q=j.lines.length - i∧i≤j.lines.length∧env=iA ga gl gc ⟨b1,0,none⟩ ⟨b2,0,none⟩ ⟨b3,0,none⟩ a i cap r.Lines r.Lines_l r.Lines_c r.Lines_l i jj∧New w7 z∧VB w7 z a i cap ((fetV j).take i)) j.lines.length
  ⟨0,none,0,_,by omega,by omega,rfl,Keep.refl _ _,VB.nil _ _⟩ ?_
 rintro q env z ⟨i,a,cap,jj,rfl,hi,rfl,hnz,hvb⟩
 refine kR (P:=prog) (fn:=fFN) (R:=kL w j G) (λ_ _=>rfl) ?_
 rw [nH]
 have hn0z:=hn07.new hnz
 have z1:=New.blk hnz y1
 have z2:=New.blk hnz y2
 have z3:=New.blk hnz hz7
 have hsz:=hnz.size
 refine aH (λhq=>?_) (λhq=>?_)
 ·obtain ⟨l,hgl'⟩:∃ l,j.lines[i]?=some l:=⟨_,List.getElem?_eq_getElem (by omega)⟩
  have hlr:=hlines l (List.mem_of_getElem? hgl')
  refine rd_i (h.rd.new hn0z) hgl' rfl hll λb o hc=>⟨l,hc _ (Keep.refl _ _),?_⟩
  refine aF (vA z hlr.1 hlr.2) ?_
  rintro x u1 ⟨rfl,e⟩
  subst e
  refine ⟨_,rfl,gF (vs:=aJ.cells ⟨1,0,l * 8,8,0,0,none,0,0,0,0⟩) rfl (aJ.single _) λb4 u2 hb4 hz4 hn4=>?_⟩
  refine aM.mk_ex r.View ⟨aI (New.blk hn4 z1) rfl,aE.mk_ex m ⟨aI (New.blk hn4 z3) rfl,aJ.mk_ex ⟨1,0,l * 8,8,0,0,none,0,0,0,0⟩ ⟨aI hz4 rfl,?_⟩⟩⟩
  have hva:bI (λ_=>False) u2 ⟨1,0,l * 8,8,0,0,none,0,0,0,0⟩ ⟨1,0,l * 8,8,0,0,[],0,0⟩:=qD (.inl rfl) rfl (by omega) (λ_=>rfl) (λx hx=>by cases hx) (by simp) u0 u0
  refine aF (tC u2 (r:=r.View) (m:=m) (by omega) (by omega) hmb hva) ?_
  rintro x u3 ⟨v',rfl,hv',hn5'⟩
  refine aJ.mk_ex v' ⟨rfl,?_⟩
  rintro b5 u4 hb5 hw5
  have hn45:=hn4.new hn5'
  have hv'':bI (λk=>k<u1.heap.size) u3 v' (addr j.v.number (m0F j.v) ⟨1,0,l * 8,8,0,0,[],0,0⟩):=by
   rw [em0,←hnumr]
   exact hv'.mono λk hk=>by have:=hn4.size;omega
  refine VB.push_e hvb hnz hn45 hv'' (by omega) hb5 hw5 λap cap' u5 hvb5 hk5 hn05=>?_
  rw [w64 (x:=(i:Int)+1) (by omega) (by omega)]
  have et:(fetV j).take (i+1)=(fetV j).take i++[addr j.v.number (m0F j.v) ⟨1,0,l * 8,8,0,0,[],0,0⟩]:=nK (by simp [fetV,hgl'])
  rw [←et] at hvb5
  exact ik ⟨j.lines.length - (i+1),by omega,i+1,ap,cap',_,rfl,by omega,rfl,hn05,hvb5⟩
 have hie:i=j.lines.length:=by omega
 subst hie
 rw [List.take_of_length_le (by omega)] at hvb
 refine xt (ri (ik ?_))
 refine kR (P:=prog) (fn:=fFN) (R:=kL w j G) (λ_ _=>rfl) ?_
 rw [p6]
 refine aF (C6 z ga gl gc) ?_
 rintro x u1 ⟨tb,rfl,htb,hz4,hn4⟩
 have hn01:=hn0z.new hn4
 have z2:=New.blk hn4 z2
 have z1:=New.blk hn4 z1
 have hs4:=hn4.size
 have hvb1:=hvb.new hn4
 obtain ⟨raws,hown,hvs⟩:=hvb1.ex
 have hrl:j.lines.length=raws.length:=by rw [hvs.1,hvl]
 refine ⟨_,rfl,?_⟩
 have hs0z:=hn0z.size
 have hB:=Ak (A:=A) (T:=⟨ga,gl,gc,none,0,0,false⟩) hn01 (by omega) hz4 hg hgl hgc (aa:=a) (ac:=cap) (by rw [hrl] at hown;exact hown.rd) hvs (by omega)
 rw [←hrl] at hB
 refine aF hB ?_
 rintro v u2 ⟨T',da,dc,raw,rfl,hb4,hk2,hrd,hds,hgot',hgl',hgc',hwr,hask⟩
 rw [Bool.false_or] at hwr
 have hb4l:=hz4.lt
 have hn02':New w u2:=hn01.trans hk2 λk hlt e=>by omega
 have hb24:b2≠tb:=by have:=(New.blk hnz y2).lt;omega
 have hb14:b1≠tb:=by have:=(New.blk hnz y1).lt;omega
 have z1:=hk2.blk z1 hb14
 have z2:=hk2.blk z2 hb24
 have hvb2:VB w7 u2 a j.lines.length cap (fetV j):=by
  obtain ⟨⟨raws,ho,hv⟩,hl,hf⟩:=hvb1
  have hat:∀ k,isB a k→k≠tb:=λk hk e=>by
   obtain ⟨raws0,ho0,_⟩:=hvb.ex
   have:=ho0.lt hk
   omega
  refine ⟨⟨raws,ho.keep hk2 λk hk e=>hat k hk e,hv.1,λi v x h1 h2=>?_⟩,hl,hf⟩
  have hx:=hv.2 i v x h1 h2
  have he:x.words=[]:=by
   obtain ⟨l,_,rfl⟩:=List.mem_map.1 (List.mem_of_getElem? h2)
   rfl
  have hx2:bI (λk=>k=tb∨(k<w7.heap.size∨isB a k)) u1 v x:=⟨hx.eq,hx.rd,hx.nil,.inl he,hx.wf,hx.new,hx.old,hx.key,hx.boot,hx.cap,hx.wlen⟩
  exact (hx2.keep (hk2.mono λk _ e=>.inl e) λ_ _ e=>e).mono λk e=>.inr e
 refine ⟨_,_,_,_,rfl,?_⟩
 refine aF (B5 hb4) ?_
 rintro x u3 ⟨rfl,hn6⟩
 have hn03':=hn02'.new hn6
 have z1:=New.blk hn6 z1
 have z2:=New.blk hn6 z2
 have hb4:=New.blk hn6 hb4
 refine ⟨_,_,_,_,rfl,?_⟩
 cases hq:(batch G (fetV j)).ask with
 |some vs=>
  rw [hq] at hask
  obtain ⟨h1,h2,h3⟩:=hask
  have hva:=vM hq
  have hpos:=(show 0<(fetV j).length by
   have hq2:=hq
   unfold batch at hq2
   split at hq2
   ·cases hq2
   ·omega)
  rw [h1,h2,h3]
  have hal:decide (0<(fetV j).length)=true:=decide_eq_true hpos
  rw [hal]
  refine gE rfl ?_
  have hnx:eV j G=(fetV j,(0,[]),false):=by
   unfold eV
   rw [if_neg (by omega),hq,hva]
  refine yc z2 rfl 0 (K:=λres w'=>kL w j G (.tuple #[.slice a (fetV j).length cap,res.val,.bool false]) w') λw' hk=>?_
  have hs2':=hk2.size
  have hs6:=hn6.size
  have hvb3:VB w7 w' a j.lines.length cap (fetV j):=(hvb2.new hn6).keep hk λk e=>by omega
  obtain ⟨raws',ho',hvs'⟩:=hvb3.ex
  refine ⟨a,cap,raws',⟨0,none,0,0⟩,by rw [hnx,hvs'.1],hn03'.trans hk λk hlt e=>by omega,ho'.rd,λk hb=>by have:=hvb3.fr k hb;omega,by rw [hnx];exact hvs'.keep (Keep.refl _ _) λk _ e=>.inl (by omega),by rw [hnx];exact ⟨rfl,rfl,.inl rfl,λp hp=>by cases hp⟩,λk hk=>absurd hk noB⟩
 |none=>
  rw [hq] at hask
  obtain ⟨_,h2,_⟩:=hask
  have h2:T'.al=0:=h2
  have hal:decide (0<T'.al)=false:=by rw [h2];rfl
  rw [hal]
  refine er rfl ?_
  have hnx:eV j G=if (batch G (fetV j)).ok=false∨(batch G (fetV j)).wrong=true∨0<(batch G (fetV j)).got.length then ([],(6,[]),true)
   else if fT (batch G (fetV j)).done≠0 then ([],(fT (batch G (fetV j)).done,[]),true) else ([],(0,lg j.lines (batch G (fetV j)).done),true):=by
   unfold eV
   rw [if_neg (by omega),hq]
  rw [nI,mG]
  refine kR (P:=prog) (fn:=fFN) (R:=kL w j G) (λ_ _=>rfl) ?_
  rw [p8]
  cases hok:(batch G (fetV j)).ok with
  |false=>
   rw [if_pos (.inl hok)] at hnx
   refine gE rfl (ik (fn3t (R:=kL w j G) hn03' z2 hb2w ?_ (λw' hn'=>kL.nil hnx hn') _ _ _ _))
   exact λ_ _=>rfl
  |true=>
   refine er rfl ?_
   obtain ⟨_,hbw⟩:=xG hok
   refine aF (yP hb4) ?_
   rintro x u5 ⟨rfl,e⟩
   subst e
   refine ⟨_,rfl,ik ?_⟩
   rw [hwr,hbw,Bool.false_or]
   by_cases hc:0<T'.gl
   ·rw [decide_eq_true hc]
    rw [if_pos (.inr (.inr (by rw [←hgl'];exact hc)))] at hnx
    refine fn3t (R:=kL w j G) hn03' z2 hb2w ?_ (λw' hn'=>kL.nil hnx hn') _ _ _ _
    exact λ_ _=>rfl
   ·rw [decide_eq_false hc]
    have hno:¬ ((batch G (fetV j)).ok=false∨(batch G (fetV j)).wrong=true∨0<(batch G (fetV j)).got.length):=by
     rintro (e | e | e)
     ·rw [hok] at e;cases e
     ·rw [hbw] at e;cases e
     ·rw [←hgl'] at e;exact hc e
    rw [if_neg hno] at hnx
    refine kR (P:=prog) (fn:=fFN) (R:=kL w j G) (λ_ _=>rfl) ?_
    rw [lh]
    refine er rfl (ik ?_)
    have hdl:=hds.1
    have hlen:raw.length=j.lines.length∧(fT (batch G (fetV j)).done=0→∀ d ∈ (batch G (fetV j)).done,d.words.length=8):=by
     rw [hdl]
     unfold batch at hok ⊢
     by_cases hv0:(fetV j).length=0
     ·rw [if_pos hv0]
      exact ⟨by simp;omega,λ_ d hd=>by simp at hd⟩
     ·rw [if_neg hv0] at hok ⊢
      cases G with
      |nil=>simp at hok
      |cons d G'=>
       simp only at hok ⊢
       split at hok
       ·rename_i hf
        rw [if_pos hf]
        exact ⟨by have:=ro hf;simp only;omega,λh0=>CH Bb hf h0⟩
       ·simp at hok
    refine fn4 (R:=kL w j G) (Keep.refl _ _) hn03' z1 z2 hb2w h rfl hrd hds hlen.1 hlen.2 ?_ (λw' o hn' ho hf=>?_) _
    ·exact λ_ _=>rfl
    refine ⟨none,0,[],o,?_,hn',.inl rfl,λk hk=>absurd hk noB,?_,?_,hf⟩
    ·rw [hnx];split<;>rfl
    ·rw [hnx];split<;>exact ⟨rfl,λi v x hv=>by simp at hv⟩
    ·rw [hnx]
     split
     ·rename_i e
      rw [if_pos e] at ho
      exact ho
     ·rename_i e
      rw [if_neg e] at ho
      exact ho
end Go.Proofs.YtgpmeaicjonenaaGreat
