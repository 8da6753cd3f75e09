/- A part of the proof. -/
import Derived.Test.YtafopfaomkklpaaGreatp24
import Derived.Test.YtafopfaomkklpaaGreatp25
import Derived.Test.YtafopfaomkklpaaGreatp26
set_option linter.unusedVariables false
namespace Go.Proofs.YtafopfaomkklpaaGreat
open Go.Eng
theorem vB {u:World} {b i:Nat} {cs:List Value} {T:TypeId} {v x:Value} {K:World→Prop} (hb:Blk u b cs T) (hi:cs[i]?=some x) (hk:∀ w',Blk w' b (cs.set i v) T→Keep (λk=>k=b) u w'→K w') :
  (∃ y,u.cell? ⟨b,i,none⟩=some y)∧u.frozen? ⟨b,i,none⟩=false∧∀ w',w'=u.setCell ⟨b,i,none⟩ v→K w':=
 ⟨⟨x,hb.cell hi⟩,hb.frozen,λw' e=>by subst e;exact hk _ (hb.setCell v) (aZ _ _ _ _)⟩
theorem DZ (w:World) {l:Int} (h1:96≤l) (h2:l<256):Does 61 [.int .i64 l] w λv w'=>v=.int .i64 (l * 8)∧w'=w:=by
 refine does Tryz.func61 ?_
 rw [uv]
 refine aD (λh=>absurd h (by omega)) (λ_=>aD (λh=>absurd h (by omega)) (λ_=>⟨?_,rfl⟩))
 rw [w64 (by omega) (by omega)]
theorem AK {M:Nat→Prop} {w:World} {r:aF} {v:Vw} (h:gO M w r v) {m:aB} (hm:v.mem[0]?=some m):Does 60 [r.val] w λx w'=>x=.tuple #[m.val,.bool true]∧New w w':=by
 refine does Tryz.func60 ?_
 rw [tW]
 rintro b1 w1 hb1 hw1
 obtain ⟨hz1,hn1⟩:=aR hb1 hw1
 have hz1:Blk w1 b1 r.cells TVw:=hz1
 clear hw1
 rintro b2 w2 hb2 hw2
 obtain ⟨hz2,hn2⟩:=aR hb2 hw2
 have hz2:Blk w2 b2 (aB.cells noM) TMb:=hz2
 clear hw2
 have hz12:=New.blk hn2 hz1
 have hn02:=hn1.new hn2
 have hs1:=hn1.size
 have hl:=cN hm
 have e3:=h.len
 refine ⟨_,_,_,hz12.cell (i:=1) rfl,bB (λe=>absurd e (by omega)) (λ_=>⟨_,_,_,hz12.cell (i:=1) rfl,?_⟩)⟩
 refine gN (cells:=aB.cells) aB.len (by omega) (i:=0) (h.rd.new hn02) hm rfl e3 λb o hcc _=>aB.mk_ex m ⟨hcc,oG hz2 rfl (aB.single _) λw4 hz4 hk4=>?_⟩
 exact aB.mk_ex m ⟨aH hz4 rfl,rfl,rfl,hn02.trans hk4 λk hlt e=>by omega⟩
theorem zC (w:World) (n c:Nat):Does 108 [.slice none n c] w λx w'=>x=.slice none 0 0∧w'=w:=by
 refine does Tryz.func108 ?_
 rw [ky]
 exact cM rfl ⟨rfl,rfl⟩
def fV0 (at_:Int):aU:=⟨1,0,at_,8,0,0,none,0,0,0,0⟩
def fV (num:Int) (m:aB) (at_:Int):aU:=⟨1,m.Node,at_,8,0,0,none,0,0,key1 num,m.Boot⟩
set_option maxHeartbeats 1000000 in
theorem zD (w:World) {r:aF} {m:aB} (h0:0≤r.Number) (h1:r.Number<16) (at_:Int):Does 62 [r.val,m.val,.bool true,(fV0 at_).val] w λx w'=>x=(fV r.Number m at_).val∧New w w':=by
 refine does Tryz.func62 ?_
 rw [tX]
 rintro b1 w1 hb1 hw1
 obtain ⟨hz1,hn1⟩:=aR hb1 hw1
 have hz1:Blk w1 b1 r.cells TVw:=hz1
 clear hw1
 rintro b2 w2 hb2 hw2
 obtain ⟨hz2,hn2⟩:=aR hb2 hw2
 have hz2:Blk w2 b2 m.cells TMb:=hz2
 clear hw2
 rintro b3 w3 hb3 hw3
 obtain ⟨hz3,hn3⟩:=aR hb3 hw3
 have hz3:Blk w3 b3 (fV0 at_).cells TVb:=hz3
 clear hw3
 rintro b4 w4 hb4 hw4
 obtain ⟨hz4,hn4⟩:=aR hb4 hw4
 have hz4:Blk w4 b4 (aU.cells ⟨0,0,0,0,0,0,none,0,0,0,0⟩) TVb:=hz4
 clear hw4
 rintro w5 hw5
 have hn5:New w4 w5:=by rw [hw5];exact aT _
 clear hw5
 have hs1:=hn1.size
 have hs2:=hn2.size
 have hs3:=hn3.size
 have hs4:=hn4.size
 have hl1:=hz1.lt
 have hl2:=hz2.lt
 have hl3:=hz3.lt
 have hn05:=(((hn1.new hn2).new hn3).new hn4).new hn5
 have y1:=New.blk (((hn2.new hn3).new hn4).new hn5) hz1
 have y2:=New.blk ((hn3.new hn4).new hn5) hz2
 have y3:=New.blk (hn4.new hn5) hz3
 have y4:=New.blk hn5 hz4
 refine ⟨λy=>Blk y b2 m.cells TMb,y2,_,λy hy=>hy.cell (i:=0) rfl,_,λy hy=>hy.cell (i:=1) rfl,vB y3 (i:=1) rfl λw6 y3 hk6=>⟨hk6.blk y2 (by omega),vB y3 (i:=8) rfl λw7 y3 hk7=>?_⟩⟩
 have hk57:=hk6.trans hk7 λ_ _ e=>e
 have y1:=hk57.blk y1 (by omega)
 refine ⟨_,y1.cell (i:=0) rfl,?_⟩
 refine aC (Fh w7 h0 h1) ?_
 rintro x w8 ⟨rfl,rfl⟩
 refine ⟨_,_,rfl,vB y3 (i:=7) rfl λw9 y3 hk9=>⟨_,_,_,y3.cell (i:=6) rfl,?_⟩⟩
 refine aC (zC w9 _ _) ?_
 rintro x w10 ⟨rfl,rfl⟩
 refine ⟨_,_,_,rfl,vB y3 (i:=6) rfl λw11 y3 hk11=>?_⟩
 have hk511:=(hk57.trans hk9 λ_ _ e=>e).trans hk11 λ_ _ e=>e
 have y3:Blk w11 b3 (fV r.Number m at_).cells TVb:=y3
 refine aU.mk_ex _ ⟨aH y3 rfl,oG (hk511.blk y4 (by omega)) rfl (aU.single _) λw12 y4 hk12=>?_⟩
 exact aU.mk_ex _ ⟨aH y4 rfl,rfl,rfl,(hn05.trans hk511 λk hlt e=>by omega).trans hk12 λk hlt e=>by omega⟩
set_option maxHeartbeats 1000000 in
theorem zE (w:World) {r:aF} {m:aB} (h0:0≤r.Number) (h1:r.Number<16) (at_:Int):Does 110 [r.val,m.val,.bool true,(fV0 at_).val] w λx w'=>x=(fV r.Number m at_).val∧New w w':=by
 refine does Tryz.func110 ?_
 rw [ql]
 rintro b1 w1 hb1 hw1
 obtain ⟨hz1,hn1⟩:=aR hb1 hw1
 have hz1:Blk w1 b1 r.cells TVw:=hz1
 clear hw1
 rintro b2 w2 hb2 hw2
 obtain ⟨hz2,hn2⟩:=aR hb2 hw2
 have hz2:Blk w2 b2 m.cells TMb:=hz2
 clear hw2
 rintro b3 w3 hb3 hw3
 obtain ⟨hz3,hn3⟩:=aR hb3 hw3
 have hz3:Blk w3 b3 (fV0 at_).cells TVb:=hz3
 clear hw3
 rintro b4 w4 hb4 hw4
 obtain ⟨hz4,hn4⟩:=aR hb4 hw4
 have hz4:Blk w4 b4 (aU.cells ⟨0,0,0,0,0,0,none,0,0,0,0⟩) TVb:=hz4
 clear hw4
 rintro w5 hw5
 have hn5:New w4 w5:=by rw [hw5];exact aT _
 clear hw5
 have hs1:=hn1.size
 have hs2:=hn2.size
 have hs3:=hn3.size
 have hs4:=hn4.size
 have hl1:=hz1.lt
 have hl2:=hz2.lt
 have hl3:=hz3.lt
 have hn05:=(((hn1.new hn2).new hn3).new hn4).new hn5
 have y1:=New.blk (((hn2.new hn3).new hn4).new hn5) hz1
 have y2:=New.blk ((hn3.new hn4).new hn5) hz2
 have y3:=New.blk (hn4.new hn5) hz3
 have y4:=New.blk hn5 hz4
 refine ⟨λy=>Blk y b2 m.cells TMb,y2,_,λy hy=>hy.cell (i:=0) rfl,_,λy hy=>hy.cell (i:=1) rfl,vB y3 (i:=1) rfl λw6 y3 hk6=>⟨hk6.blk y2 (by omega),vB y3 (i:=8) rfl λw7 y3 hk7=>?_⟩⟩
 have hk57:=hk6.trans hk7 λ_ _ e=>e
 have y1:=hk57.blk y1 (by omega)
 refine ⟨_,y1.cell (i:=0) rfl,?_⟩
 refine aC (Ey w7 h0 h1) ?_
 rintro x w8 ⟨rfl,rfl⟩
 refine ⟨_,_,rfl,vB y3 (i:=7) rfl λw9 y3 hk9=>?_⟩
 have hk59:=hk57.trans hk9 λ_ _ e=>e
 have y3:Blk w9 b3 (fV r.Number m at_).cells TVb:=y3
 refine aU.mk_ex _ ⟨aH y3 rfl,oG (hk59.blk y4 (by omega)) rfl (aU.single _) λw12 y4 hk12=>?_⟩
 exact aU.mk_ex _ ⟨aH y4 rfl,rfl,rfl,(hn05.trans hk59 λk hlt e=>by omega).trans hk12 λk hlt e=>by omega⟩
theorem EN (w:World) {r:aF} {m:aB} (h0:0≤r.Number) (h1:r.Number<16) (at_:Int):Does 65 [r.val,m.val,.int .i64 at_,.int .i64 8] w λx w'=>x=(fV r.Number m at_).val∧New w w':=by
 refine does Tryz.func65 ?_
 rw [sU]
 rintro b1 w1 hb1 hw1
 obtain ⟨hz1,hn1⟩:=aR hb1 hw1
 have hz1:Blk w1 b1 r.cells TVw:=hz1
 clear hw1
 rintro b2 w2 hb2 hw2
 obtain ⟨hz2,hn2⟩:=aR hb2 hw2
 have hz2:Blk w2 b2 m.cells TMb:=hz2
 clear hw2
 rintro b3 w3 hb3 hw3
 obtain ⟨hz3,hn3⟩:=aR hb3 hw3
 have hz3:Blk w3 b3 (aU.cells ⟨0,0,0,0,0,0,none,0,0,0,0⟩) TVb:=hz3
 clear hw3
 have hs1:=hn1.size
 have hs2:=hn2.size
 refine aF.mk_ex r ⟨aH (New.blk (hn2.new hn3) hz1) rfl,aB.mk_ex m ⟨aH (New.blk hn3 hz2) rfl,?_⟩⟩
 refine aC (zE w3 h0 h1 at_) ?_
 rintro x w4 ⟨rfl,hn4⟩
 refine aU.mk_ex (fV r.Number m at_) ⟨rfl,oG (New.blk hn4 hz3) rfl (aU.single _) λw5 hz5 hk5=>?_⟩
 exact aU.mk_ex _ ⟨aH hz5 rfl,rfl,rfl,(((hn1.new hn2).new hn3).new hn4).trans hk5 λk hlt e=>by omega⟩
def fR:List Done→Int
 | []=>0
 |d::ds=>if d.code=0 then fR ds else d.code
theorem tY {ds:List Done} {i:Nat} {x:Done} (h:ds[i]?=some x):fR (ds.drop i)=if x.code=0 then fR (ds.drop (i+1)) else x.code:=by
 have hl:=cN h
 rw [List.drop_eq_getElem_cons hl]
 rw [List.getElem?_eq_getElem hl] at h
 cases h
 rfl
theorem uH:∀ {ds:List Done},fR ds=0→∀ d ∈ ds,d.code=0
 | [],_,d,hd=>by cases hd
 |x::ds,h,d,hd=>by
  unfold fR at h
  split at h
  ·rename_i e
   rcases List.mem_cons.1 hd with rfl | hd
   ·exact e
   ·exact uH h d hd
  ·rename_i e;exact absurd h e
theorem Cn {w:World} {a:Option Addr} {n c:Nat} {raw:List aV} {ds:List Done} (hn:n=raw.length) (hr:Rd w a (gI raw).flatten) (hd:Ds w raw ds) (hfew:raw.length≤1000000):Does 63 [.slice a n c] w λx w'=>x=.int .i64 (fR ds)∧New w w':=by
 subst hn
 refine does Tryz.func63 ?_
 rw [vA]
 have hdl:=hd.1
 refine aW mix (λm env u=>∃ (i:Nat) (jj:List Value),m=raw.length - i∧i≤raw.length∧env=jt a raw.length c raw.length i jj∧New w u∧fR ds=fR (ds.drop i)) raw.length
  ⟨0,_,by omega,by omega,rfl,Keep.refl _ _,rfl⟩ ?_
 rintro m env u ⟨i,jj,rfl,hi,rfl,hnu,hf⟩
 rw [qk]
 refine aD (λhq=>?_) (λhq=>?_)
 ·have hlt:i<raw.length:=by omega
  have hg:raw[i]?=some raw[i]:=List.getElem?_eq_getElem hlt
  obtain ⟨x,hgd⟩:∃ x,ds[i]?=some x:=⟨_,List.getElem?_eq_getElem (by omega)⟩
  have hda:=hd.2 i _ _ hg hgd
  generalize raw[i]=d at hg hda
  have hcode:=hda.code
  rw [tY hgd] at hf
  refine gN (cells:=aV.cells) aV.len (by omega) (hr.new hnu) hg rfl rfl λb o hcc _=>aV.mk_ex d ⟨hcc,?_⟩
  refine mr (vs:=d.cells) rfl (aV.single _) λb1 w2 hb1 hz2 hn2=>⟨_,hz2.cell (i:=0) rfl,bQ (λe=>⟨_,hz2.cell (i:=0) rfl,?_,hnu.new hn2⟩) (λe=>?_)⟩
  ·rw [hf,if_neg (by omega),hcode]
  ·rw [w64 (x:=(i:Int)+1) (by omega) (by omega)]
   exact ⟨raw.length - (i+1),by omega,i+1,_,rfl,by omega,rfl,hnu.new hn2,by rw [hf,if_pos (by omega)]⟩
 ·rw [sr]
  refine ⟨?_,hnu⟩
  rw [hf,List.drop_of_length_le (by omega)]
  rfl
theorem yW {w:World} {a:Option Addr} {n c:Nat} {raw:List aV} {ds:List Done} (hn:n=raw.length) (hr:Rd w a (gI raw).flatten) (hd:Ds w raw ds) (hfew:raw.length≤1000000):Does 68 [.slice a n c] w λx w'=>x=.int .i64 (fR ds)∧New w w':=by
 subst hn
 refine does Tryz.func68 ?_
 rw [rz]
 have hdl:=hd.1
 refine aW mix (λm env u=>∃ (i:Nat) (jj:List Value),m=raw.length - i∧i≤raw.length∧env=eZ a raw.length c i jj∧New w u∧fR ds=fR (ds.drop i)) raw.length
  ⟨0,_,by omega,by omega,rfl,Keep.refl _ _,rfl⟩ ?_
 rintro m env u ⟨i,jj,rfl,hi,rfl,hnu,hf⟩
 rw [mj]
 refine aD (λhq=>?_) (λhq=>?_)
 ·have hlt:i<raw.length:=by omega
  have hg:raw[i]?=some raw[i]:=List.getElem?_eq_getElem hlt
  obtain ⟨x,hgd⟩:∃ x,ds[i]?=some x:=⟨_,List.getElem?_eq_getElem (by omega)⟩
  have hda:=hd.2 i _ _ hg hgd
  generalize raw[i]=d at hg hda
  have hcode:=hda.code
  rw [tY hgd] at hf
  refine gN (cells:=aV.cells) aV.len (by omega) (hr.new hnu) hg rfl rfl λb o hcc hc=>⟨_,hc 0 _ rfl,bQ (λe=>?_) (λe=>?_)⟩
  ·refine gN (cells:=aV.cells) aV.len (by omega) (hr.new hnu) hg rfl rfl λb o hcc hc=>⟨_,hc 0 _ rfl,?_,hnu⟩
   rw [hf,if_neg (by omega),hcode]
  ·rw [w64 (x:=(i:Int)+1) (by omega) (by omega)]
   exact ⟨raw.length - (i+1),by omega,i+1,_,rfl,by omega,rfl,hnu,by rw [hf,if_pos (by omega)]⟩
 ·rw [ow]
  refine ⟨?_,hnu⟩
  rw [hf,List.drop_of_length_le (by omega)]
  rfl
end Go.Proofs.YtafopfaomkklpaaGreat
namespace Go.Proofs.YtafopfaomkklpaaGreat
open Go.Proofs.Tryz
open Go.Eng
def fB (num:Int) (m:aB) (lines:List Int):List aU:=lines.map λl=>fV num m (l * 8)
theorem AL {num:Int} {m:aB} {lines:List Int}:∀ v ∈ fB num m lines,v.Kind=1:=λv hv=>by
 obtain ⟨l,_,rfl⟩:=List.mem_map.1 hv
 rfl
theorem yX (num:Int) (m:aB) (lines:List Int):(fB num m lines).length=lines.length:=by simp [fB]
theorem wI {α:Type} {l:List α} {i:Nat} {x:α} (h:l[i]?=some x):l.take (i+1)=l.take i++[x]:=by
 rw [List.take_add_one,h];rfl
theorem AM (num:Int) (m:aB) {lines:List Int} {i:Nat} {x:Int} (h:lines[i]?=some x):fB num m (lines.take (i+1))=fB num m (lines.take i)++[fV num m (x * 8)]:=by
 rw [wI h];simp [fB]
def pgOf (line:Int) (ws:List Int):aG:=⟨line,ws.getD 0 0,ws.getD 1 0,ws.getD 2 0,ws.getD 3 0,ws.getD 4 0,ws.getD 5 0,ws.getD 6 0,ws.getD 7 0⟩
def gR (lines:List Int) (ds:List Done):List aG:=(lines.zip ds).map λp=>pgOf p.1 p.2.words
theorem uI {lines:List Int} {ds:List Done} {i:Nat} {x:Int} {d:Done} (h:lines[i]?=some x) (hd:ds[i]?=some d):gR (lines.take (i+1)) (ds.take (i+1))=gR (lines.take i) (ds.take i)++[pgOf x d.words]:=by
 unfold gR
 have e1:(lines.take (i+1)).zip (ds.take (i+1))=(lines.zip ds).take (i+1):=by unfold List.zip;rw [List.take_zipWith]
 have e2:(lines.take i).zip (ds.take i)=(lines.zip ds).take i:=by unfold List.zip;rw [List.take_zipWith]
 rw [e1,e2,wI (x:=(x,d)) (by rw [List.getElem?_zip_eq_some];exact ⟨h,hd⟩)]
 simp
def fitF (lines:List Int) (ds:List Done):Prop:=fitM (lines.map λ_=>8) ds
theorem Dj (num:Int) (m:aB) (lines:List Int):(fB num m lines).map retV=lines.map λ_=>8:=by
 unfold fB
 rw [List.map_map]
 exact List.map_congr_left λl _=>rfl
open Classical in
noncomputable def fZ (j:FJob) (gn:Nat) (ds:List Done):Int×List aG:=
 if j.valid≠0 then (j.valid,[])
 else if j.lines=[] then (if gn=0 then (0,[]) else (6,[]))
 else if fitF j.lines ds∧gn=1 then (if fR ds≠0 then (fR ds,[]) else (0,gR j.lines ds))
 else (6,[])
def vC (j:FJob) (gn:Nat):Prop:=j.valid=0∧j.lines≠[]∧gn=0
theorem vD {j:FJob} (h:j.valid=0):(0≤j.v.number∧j.v.number<16)∧(∃ m,j.v.mem[0]?=some m∧0≤m.Node∧m.Node<5∧1≤m.Boot∧m.Boot≤31)∧j.lines.length≤1024∧∀ l ∈ j.lines,96≤l∧l<256:=by
 unfold FJob.valid at h
 split at h
 ·omega
 rename_i hv
 have hv:j.v.valid 5=0:=by omega
 split at h
 ·omega
 rename_i ht
 split at h
 ·omega
 rename_i hl
 have hl:j.lines.all (pT · j.total)=true:=by simpa using hl
 unfold Vw.valid at hv
 split at hv
 ·omega
 split at hv
 ·omega
 rename_i hn
 split at hv
 ·omega
 rename_i he
 split at hv
 ·omega
 rename_i hm
 split at hv
 ·omega
 rename_i hb
 have hm:(List.range j.v.mem.length).all (nl 5 j.v.mem)=true:=by simpa using hm
 have hb:j.v.mem.all k7=true:=by simpa using hb
 refine ⟨by omega,?_,by omega,λl hlm=>?_⟩
 ·have h0:j.v.mem[0]?=some j.v.mem[0]:=List.getElem?_eq_getElem (by omega)
  have hmem:j.v.mem[0] ∈ j.v.mem:=List.getElem_mem (by omega)
  have hq:=List.all_eq_true.1 hm 0 (by rw [List.mem_range];omega)
  have hq2:=List.all_eq_true.1 hb _ hmem
  unfold nl at hq
  rw [lN h0] at hq
  unfold k7 at hq2
  simp at hq hq2
  exact ⟨_,h0,hq.1,hq.2,hq2.1,hq2.2⟩
 ·have hq:=List.all_eq_true.1 hl l hlm
  unfold pT at hq
  simp at hq
  omega
theorem AN {w:World} (p:Nat) (a:Option Addr) (cap:Nat):Does 27 [.pointer (some ⟨p,0,none⟩),.slice a 0 cap] w λx w'=>x=.tuple #[.slice none 0 0,.bool true]∧w'=w:=by
 refine does Tryz.func27 ?_
 rw [m8]
 exact cM rfl ⟨rfl,rfl⟩
theorem D0 {w:World} (p:Nat) (a:Option Addr) (cap:Nat):Does 84 [.pointer (some ⟨p,0,none⟩),.slice a 0 cap] w λx w'=>x=.tuple #[.slice none 0 0,.bool true]∧w'=w:=by
 refine does Tryz.func84 ?_
 rw [jl]
 exact cM rfl ⟨rfl,rfl⟩
structure FOut (w:World) (o:aI) (c:Int) (ps:List aG):Prop where
 code:o.Code=c
 len:o.Pages_l=ps.length
 rd:Rd w o.Pages (eF ps).flatten
theorem FOut.new {w w':World} {o:aI} {c:Int} {ps:List aG} (h:FOut w o c ps) (hn:New w w'):FOut w' o c ps:=⟨h.code,h.len,h.rd.new hn⟩
def pp (w:World) (j:FJob) (num:Int) (gn:Nat) (ds:List Done) (x:Value) (w':World):Prop:=New w w'∧
 ((vC j gn∧∃ (m:aB) (a:Option Addr) (cap:Nat) (o:aI),j.v.mem[0]?=some m∧x=.tuple #[.slice a j.lines.length cap,o.val,.bool false]∧FOut w' o 0 []∧Rd w' a (je (fB num m j.lines)).flatten∧∀ k,isB a k→w.heap.size≤k∧k<w'.heap.size)∨
  (¬ vC j gn∧∃ o:aI,x=.tuple #[.slice none 0 0,o.val,.bool true]∧FOut w' o (fZ j gn ds).1 (fZ j gn ds).2))
noncomputable abbrev fFN:Func:=f18
abbrev TFO:TypeId:=64
abbrev TFJ:TypeId:=60
theorem yY {u:World} {b:Nat} {zs:List Value} (hz:Blk u b zs TFO) (hl:zs.length=2) (c:Int) {K:aI→World→Prop} (hk:∀ o w',Keep (λk=>k=b) u w'→FOut w' o c []→K o w') :
  wrAt u ⟨b,0,none⟩ 0 [(.int .i64 c),(.slice none 0 0)]∧∀ w2,w2=puts u ⟨b,0,none⟩ 0 [(.int .i64 c),(.slice none 0 0)]→aI.ex λres=>aE w2 ⟨b,0,none⟩ 0 res.cells∧w2=w2∧K res w2:=
 oG hz (vs:=aI.cells ⟨c,none,0,0⟩) (by rw [hl];rfl) (aI.single _) λw2 hz2 hk2=>aI.mk_ex ⟨c,none,0,0⟩ ⟨aH hz2 rfl,rfl,hk _ w2 hk2 ⟨rfl,rfl,.inl rfl⟩⟩
theorem vE {P:Program} {w:World} {t ty e:TypeId} {i:TypeInfo} (ht:P.underlying t=some (.slice e)) (hi:P.info? e=some i) (hsz:i.size=1) {b o dl dc:Nat} {s:Option Addr} {m c:Nat} {news:List Value} (hl:news.length=m)
  (hm:m≤dl) (hs:Rd w s news) (hn:s=none→m=0) (hw:wrAt w ⟨b,o,none⟩ 0 news):(Builtin.copy_ #[t,t] ty #[.slice (some ⟨b,o,none⟩) dl dc,.slice s m c]).run P w=.ok (.int .i64 m) (puts w ⟨b,o,none⟩ 0 news):=by
 have hmin:Nat.min m dl=m:=Nat.min_eq_left hm
 have hst:=run_storeCells (P:=P) hw
 cases s with
 |none=>
  have:=hn rfl
  subst this
  have:news=[]:=List.eq_nil_of_length_eq_zero hl
  subst this
  simp [Builtin.copy_,run_underlying ht,Builtin.lenOf,hmin,sizeOf,typeInfo,hi,Builtin.firstCells,goInt,storeCells,puts]
 |some s=>
  have hld:(loadCells s m).run P w=.ok news.toArray w:=by
   have:aE w s 0 news:=by
    rcases hs with rfl | ⟨sb,so,he,hc⟩
    ·trivial
    ·simp at he
     subst he
     exact eb λj v hj=>by simpa using hc j v hj
   have:=Eng.run_loadCellsFrom (P:=P) (acc:=#[]) this
   rw [hl] at this
   simpa [loadCells] using this
  simp [Builtin.copy_,run_underlying ht,Builtin.lenOf,hmin,sizeOf,typeInfo,hi,Builtin.firstCells,goInt,hsz,hld,hst]
theorem EO {ws:List Int} (h:ws.length=8):∃ a b c d e f g i,ws=[a,b,c,d,e,f,g,i]:=by
 match ws,h with
 | [a,b,c,d,e,f,g,i],_=>exact ⟨a,b,c,d,e,f,g,i,rfl⟩
def Co (ds:List Done):Prop:=∀ d ∈ ds,d.words.length=8
theorem yZ {lines:List Int} {ds:List Done} (h:fitF lines ds) (h0:fR ds=0):Co ds:=λd hd=>by
 obtain ⟨i,hi,rfl⟩:=List.getElem_of_mem hd
 have hl:=h.1
 rw [List.length_map] at hl
 have hf:=h.2 i 8 _ (by rw [List.getElem?_map,List.getElem?_eq_getElem (by omega:i<lines.length)];rfl) (List.getElem?_eq_getElem hi)
 have hc:=uH h0 _ (List.getElem_mem hi)
 unfold fit1 at hf
 omega
set_option maxHeartbeats 2000000 in
theorem fn4 {w u:World} {r:aN} {j:FJob} {b1 b2:Nat} (hnu:New w u) (h1:Blk u b1 r.cells TFJ) (h2:Blk u b2 (aI.cells ⟨0,none,0,0⟩) TFO) (hb2:w.heap.size≤b2) (hjob:jP w r j) {a:Option Addr} {n c:Nat} {raw:List aV} {ds:List Done} (hn:n=raw.length) (hr:Rd w a (gI raw).flatten) (hd:Ds w raw ds) (hcap:∀ d ∈ raw,d.Wl≤d.Wc) (hlen:raw.length=j.lines.length) (hfull:fR ds=0→Co ds)
  {R:Value→World→Prop} {Q:Exit→List Value→World→Prop} (hQ:∀ env w',Q .ret env w'=retQ prog fFN R .ret env w')
  (hR:∀ w' o,New w w'→FOut w' o (if fR ds≠0 then (fR ds,([]:List aG)) else (0,gR j.lines ds)).1 (if fR ds≠0 then (fR ds,([]:List aG)) else (0,gR j.lines ds)).2→R (.tuple #[.slice none 0 0,o.val,.bool true]) w') (jj:List Value) :
  W prog (sub (aA fFN) [1,1,1,1,1,1,1,1,1]) (mf ⟨b1,0,none⟩ ⟨b2,0,none⟩ a n c jj) Q u:=by
 refine cH (P:=prog) (fn:=fFN) (R:=R) hQ ?_
 rw [sn]
 subst hn
 have hdl:=hd.1
 have hfew:=hjob.few
 have hll:=hjob.len
 refine aC (Cn rfl (hr.new hnu) (hd.new hnu) (by omega)) ?_
 rintro x w1 ⟨rfl,hn1⟩
 have hnw1:=hnu.new hn1
 refine ⟨_,rfl,bQ (λhf=>?_) (λhf=>?_)⟩
 ·exact yY (New.blk hn1 h2) rfl (fR ds) (K:=λres w2=>R (.tuple #[.slice none 0 0,res.val,.bool true]) w2) λo w2 hk2 ho=>hR w2 o (hnw1.trans hk2 λk hlt e=>by omega) (by rw [if_pos hf];exact ho)
 rw [if_neg (by omega)] at hR
 have hfull:=hfull (by omega)
 have g1:=New.blk hn1 h1
 have g2:=New.blk hn1 h2
 clear h1 h2 hnu
 have hsw:=hnw1.size
 have hb2l:=g2.lt
 have hb1l:=g1.lt
 have hb12:b1≠b2:=g1.ne g2 (by decide)
 refine aW mix (λq env z=>∃ (i:Nat) (pa:Option Addr) (pc:Nat) (jj:List Value),q=raw.length - i∧i≤raw.length∧env=jr ⟨b1,0,none⟩ ⟨b2,0,none⟩ a raw.length c raw.length i jj∧New w z∧Blk z b1 r.cells TFJ∧Blk z b2 (aI.cells ⟨0,pa,i,pc⟩) TFO∧Owns z TPg 9 pa i pc (eF (gR (j.lines.take i) (ds.take i))).flatten∧w1.heap.size≤z.heap.size∧∀ k,isB pa k→w1.heap.size≤k) raw.length
  ⟨0,none,0,_,by omega,by omega,rfl,hnw1,g1,g2,Owns.nil _ _ _,Nat.le_refl _,λk hk=>absurd hk noB⟩ ?_
 rintro q env z ⟨i,pa,pc,jj,rfl,hi,rfl,hnz,hz1,hz2,hown,hzs,hpf⟩
 clear g1 g2
 refine cH (P:=prog) (fn:=fFN) (R:=R) (λ_ _=>rfl) ?_
 rw [qi]
 have hzl2:=hz2.lt
 have hzl1:=hz1.lt
 refine aD (λhq=>?_) (λhq=>?_)
 ·have hlt:i<raw.length:=by omega
  have hg:raw[i]?=some raw[i]:=List.getElem?_eq_getElem hlt
  obtain ⟨x,hgd⟩:∃ x,ds[i]?=some x:=⟨_,List.getElem?_eq_getElem (by omega)⟩
  obtain ⟨l,hgl⟩:∃ l,j.lines[i]?=some l:=⟨_,List.getElem?_eq_getElem (by omega)⟩
  have hda:=hd.2 i _ _ hg hgd
  have hdc:=hcap raw[i] (List.getElem_mem hlt)
  have hx8:=hfull x (List.mem_of_getElem? hgd)
  generalize raw[i]=d at hg hda hdc
  have hwl:=hda.len
  obtain ⟨x0,x1,x2,x3,x4,x5,x6,x7,hxw⟩:=EO hx8
  refine gN (cells:=aV.cells) aV.len (by omega) (hr.new hnz) hg rfl rfl λb o hcc _=>aV.mk_ex d ⟨hcc,?_⟩
  refine mr (vs:=d.cells) rfl (aV.single _) λb3 z2 hb3 hz3 hn2=>?_
  have hz3:Blk z2 b3 d.cells 53:=hz3
  rintro z3 hw3
  have hn3:New z2 z3:=by rw [hw3];exact aT _
  clear hw3
  have hn03:=hn2.new hn3
  have y1:=New.blk hn03 hz1
  have y3:=New.blk hn3 hz3
  refine ⟨λy=>New z3 y,Keep.refl _ _,_,_,_,λy hy=>(New.blk hy y1).cell (i:=3) rfl,?_⟩
  refine rd_i (hjob.rd.new (hnz.new hn03)) hgl rfl hll λb o hc=>⟨_,λy hy=>hc y hy,_,_,_,λy hy=>(New.blk hy y3).cell (i:=1) rfl,?_⟩
  refine rd_w (l:=x.words) (hda.rd.new (hnz.new hn03)) (i:=0) (x:=x0) (by rw [hxw];rfl) rfl hwl λb o hc=>⟨x0,λy hy=>hc y hy,?_⟩
  rintro b4 z4 hb4 hw4
  obtain ⟨hz4,hn4⟩:=aR hb4 hw4
  have hz4:Blk z4 b4 (aG.cells ⟨0,0,0,0,0,0,0,0,0⟩) TPg:=hz4
  clear hw4
  have hs2:=hn2.size
  have hs3:=hn3.size
  have hs4:=hn4.size
  have hb3l:=hz3.lt
  refine ⟨hn4,oG hz4 (vs:=aG.cells ⟨l,x0,0,0,0,0,0,0,0⟩) rfl (aG.single _) λz5 y4 hk5=>?_⟩
  have hn35:New z3 z5:=hn4.trans hk5 λk hlt e=>by omega
  rintro z6 hw6
  have hn6:New z5 z6:=by rw [hw6];exact aT _
  clear hw6
  have hn36:=hn35.new hn6
  have hn06:=hn03.new hn36
  have y3:=New.blk hn36 y3
  have y4:=New.blk hn6 y4
  have hb34:b3≠b4:=by omega
  refine ⟨λy=>Blk y b3 d.cells 53,y3,d.Words,d.Wl,d.Wc,λy hy=>hy.cell (i:=1) rfl,?_⟩
  have hd6:=hda.rd.new (hnz.new hn06)
  refine rU (cells:=As) (λ_=>rfl) (l:=x.words) (by rw [qZ];exact hd6) hwl hdc (i:=1) (k:=d.Wl) rfl rfl (by omega) (Nat.le_refl _) λsa hsr hsl=>?_
  rw [qZ] at hsr
  have e7:(x.words.take d.Wl).drop 1=[x1,x2,x3,x4,x5,x6,x7]:=by
   rw [List.take_of_length_le (by omega),hxw];rfl
  rw [e7] at hsr
  obtain ⟨inf,hinf,hzz,hsz,hby⟩:=nV (T:=32) (z:=.int .u64 0) (n:=1) (m:=8) (by kernel_rfl)
  have hw7:wrAt z6 ⟨b4,2,none⟩ 0 (us [x1,x2,x3,x4,x5,x6,x7]):=fF y4 (by simp [us,aG.cells]) (λv hv=>by
   obtain ⟨t,_,rfl⟩:=List.mem_map.1 hv;rfl)
  refine ⟨_,_,vE Tryz.underlying34 hinf hsz (by simp [us];omega) (by omega) hsr (λe=>by
   rw [e] at hsr
   rcases hsr with e2 | ⟨b,o,e2,_⟩
   ·simp [us] at e2
   ·cases e2) hw7,?_⟩
  generalize hpz:puts z6 ⟨b4,2,none⟩ 0 (us [x1,x2,x3,x4,x5,x6,x7])=z7
  have hk7:Keep (λk=>k=b4) z6 z7:=by rw [←hpz];exact ej _ _ _ _ _
  have y4:=y4.puts (o:=2) (i:=0) (vs:=us [x1,x2,x3,x4,x5,x6,x7])
  rw [hpz] at y4
  have y4:Blk z7 b4 (pgOf l x.words).cells TPg:=by rw [hxw];exact y4
  have hn07:New z z7:=hn06.trans hk7 λk hlt e=>by omega
  have y1:=New.blk hn07 hz1
  have y2:=New.blk hn07 hz2
  have hs07:=hn07.size
  have y4l:=y4.lt
  refine ⟨hk7.blk y3 hb34,_,_,_,y2.cell (i:=1) rfl,aG.mk_ex (pgOf l x.words) ⟨aH y4 rfl,?_⟩⟩
  rintro b5 z8 hb5 hw8
  obtain ⟨hz5,hn8⟩:=aR hb5 hw8
  have hz5:Blk z8 b5 (pgOf l x.words).cells TPg:=hz5
  clear hw8
  obtain ⟨inf2,hinf2,hzz2,hsz2,hby2⟩:=nV (T:=TPg) (z:=.agg #[.int .i64 0,.int .u64 0,.int .u64 0,.int .u64 0,.int .u64 0,.int .u64 0,.int .u64 0,.int .u64 0,.int .u64 0]) (n:=9) (m:=72) (by kernel_rfl)
  refine lR (cells:=aG.cells) aG.len aG.single Tryz.underlying62 hinf2 hzz2 (by rw [hsz2];rfl) hsz2 (by omega) (by omega) (l:=gR (j.lines.take i) (ds.take i)) (Owns.new (hn07.new hn8) hown) (l2:=[pgOf l x.words]) (m:=1) (fM hz5 rfl) rfl (by omega) λap cap' z9 ho9 hk9 hap=>?_
  have hn08:=hn07.new hn8
  have hpn:∀ {k},k<w1.heap.size→¬ isB pa k:=λhk e=>by have:=hpf _ e;omega
  have y1:=hk9.blk (New.blk hn8 y1) (hpn hb1l)
  have y2:=hk9.blk (New.blk hn8 y2) (hpn hb2l)
  have hn9:New w z9:=(hnz.new hn08).trans hk9 λk hlt e=>by have:=hpf k e;omega
  refine vB (b:=b2) y2 (i:=1) rfl λz10 y2 hk10=>?_
  rw [w64 (x:=(i:Int)+1) (by omega) (by omega)]
  have hs08:=hn08.size
  have hs9:=hk9.size
  have hapf:∀ k,isB ap k→w1.heap.size≤k:=λk hk=>by
   rcases hap k hk with e | e
   ·exact hpf k e
   ·have:=hn8.size;have:=hnz.size;omega
  refine bF ⟨raw.length - (i+1),by omega,i+1,ap,cap',_,rfl,by omega,rfl,hn9.trans hk10 λk hlt e=>by omega,hk10.blk y1 hb12,y2,?_,by have:=hk10.size;have:=hn8.size;omega,hapf⟩
  rw [uI hgl hgd]
  exact Owns.keep hk10 ho9 λk hk e=>by have:=hapf k hk;omega
 ·have hie:i=raw.length:=by omega
  subst hie
  refine ph (j8 (bF ?_))
  rw [sq]
  rintro z1 hw1
  have hn1:New z z1:=by rw [hw1];exact aT _
  clear hw1
  have y2:=New.blk hn1 hz2
  refine ⟨λy=>New z1 y,Keep.refl _ _,aI.mk_ex ⟨0,pa,raw.length,pc⟩ ⟨λy hy=>aH (New.blk hy y2) rfl,oG y2 rfl (aI.single _) λz2 y2 hk2=>aI.mk_ex ⟨0,pa,raw.length,pc⟩ ⟨aH y2 rfl,rfl,hR z2 _ ((hnz.new hn1).trans hk2 λk hlt e=>by omega) ⟨rfl,?_,?_⟩⟩⟩⟩
  ·show raw.length=(gR j.lines ds).length
   unfold gR
   rw [List.length_map,List.length_zip]
   omega
  ·have ho2:=Owns.keep hk2 (Owns.new hn1 hown) λk hk e=>by have:=hpf k hk;omega
   have hp:=ho2.rd
   rw [List.take_of_length_le (by omega),List.take_of_length_le (by omega)] at hp
   exact hp
end Go.Proofs.YtafopfaomkklpaaGreat
