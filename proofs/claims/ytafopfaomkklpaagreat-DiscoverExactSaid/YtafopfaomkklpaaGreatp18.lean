/- A part of the proof. -/
import Derived.Test.YtafopfaomkklpaaGreatp17
import Derived.Test.YtafopfaomkklpaaGreatProg
import Derived.Test.YtafopfaomkklpaaGreatp03
import Derived.Test.YtafopfaomkklpaaGreatp06
set_option linter.unusedVariables false
namespace Go.Proofs.YtafopfaomkklpaaGreat
open Go.Proofs.Tryz
open Go.Eng
theorem F7:Go.Mx.vT prog 8 TMb=some [false,false,true]:=by kernel_rfl
theorem Hi:isAgg? prog TMb=true:=by kernel_rfl
theorem El:Program.eqGuardType prog (Program.depth prog) TMb=false:=by kernel_rfl
theorem C1 (r:aC) {K:Bool→Prop} (hk:K true):D0 prog TMb r.val r.val K:=by
 refine ⟨true,λw=>?_,hk⟩
 have hc:Go.Mx.sS [false,false,true] r.cells r.cells:=⟨rfl,rfl,trivial,trivial⟩
 have he:Go.Mx.eqvL r.cells r.cells=true:=by simp [aC.cells,Go.Mx.eqvL,Go.Mx.eqv1]
 have hq:=Go.Mx.zK 8 TMb _ F7 10000 (by omega) r.cells r.cells hc w
 unfold Go.Mx.vU at hq
 rw [if_pos Hi,he] at hq
 have hq':(Op.equalIn 10000 TMb (.agg r.cells.toArray) (.agg r.cells.toArray)).run prog w=.ok true w:=hq
 exact ⟨λop x y=>run_eqGuard_agg w op TMb x y _ _ El,by rw [aC.val,run_eql_struct,hq'];rfl,by rw [aC.val,run_neq_struct,hq'];rfl⟩
theorem wU {w:World} {a b:Option Addr} {c d:Nat} {l:List Int} (h1:Rd w a (is l)) (h2:Rd w b (is l)) (hl:l.length≤1000000):Does 42 [.slice a l.length c,.slice b l.length d] w λx w'=>x=.bool true∧New w w':=by
 refine does Tryz.func42 ?_
 rw [qQ]
 refine bE (λh=>absurd rfl h) (λ_=>?_)
 refine aS mix (λm env u=>∃ (i:Nat) (jj:List Value),m=l.length - i∧i≤l.length∧env=eS a l.length c b l.length d i jj∧New w u) l.length
  ⟨0,_,by omega,by omega,rfl,Keep.refl _ _⟩ ?_
 rintro m env u ⟨i,jj,rfl,hi,rfl,hn⟩
 rw [lE]
 refine aE (λhp=>?_) (λhp=>?_)
 ·have hg:l[i]?=some l[i]:=List.getElem?_eq_getElem (by omega)
  rintro u1 hu1
  have hn1:New u u1:=by rw [hu1];exact aW _
  clear hu1
  refine ⟨λy=>New u1 y,Keep.refl _ _,?_⟩
  refine rd_i (h1.new (hn.new hn1)) hg rfl rfl λb o hc=>⟨_,λy hy=>hc y hy,?_⟩
  refine rd_i (h2.new (hn.new hn1)) hg rfl rfl λb o hc=>⟨_,λy hy=>hc y hy,bE (λe=>absurd rfl e) (λ_=>?_)⟩
  rw [w64 (by omega) (by omega)]
  exact ⟨l.length - (i+1),by omega,i+1,_,rfl,by omega,rfl,hn.new hn1⟩
 ·rw [m5]
  exact ⟨rfl,hn⟩
set_option maxHeartbeats 1000000 in
theorem BN {M M':Nat→Prop} {w:World} {r r':aF} {v:Vw} (h:eX M w r v) (h':eX M' w r' v):Does 41 [r.val,r'.val] w λx w'=>x=.bool true∧New w w':=by
 refine does Tryz.func41 ?_
 rw [qP]
 rintro b1 w1 hb1 hw1
 obtain ⟨hz1,hn1⟩:=aR hb1 hw1
 have hz1:Blk w1 b1 r.cells TVw:=hz1
 clear hw1
 rintro b2 w2 hb2 hw2
 obtain ⟨hz2,hn2⟩:=aR hb2 hw2
 have hz2:Blk w2 b2 r'.cells TVw:=hz2
 clear hw2
 have hz12:=New.blk hn2 hz1
 have hn:=hn1.new hn2
 have e1:=h.num
 have e2:=h'.num
 have e3:=h.len
 have e4:=h'.len
 have hsm:=h.small
 refine ⟨_,hz12.cell (i:=0) rfl,_,hz2.cell (i:=0) rfl,bE (λe=>absurd (by omega) e) (λ_=>⟨_,_,_,hz12.cell (i:=1) rfl,_,_,_,hz2.cell (i:=1) rfl,bE (λe=>absurd (by omega) e) (λ_=>?_)⟩)⟩
 refine aS mix (λm env u=>∃ (i:Nat) (jj:List Value),m=v.mem.length - i∧i≤v.mem.length∧env=eR ⟨b1,0,none⟩ ⟨b2,0,none⟩ i jj∧New w2 u) v.mem.length
  ⟨0,_,by omega,by omega,rfl,Keep.refl _ _⟩ ?_
 rintro m env u ⟨i,jj,rfl,hi,rfl,hnu⟩
 rw [lD]
 have hz1u:=New.blk hnu hz12
 have hz2u:=New.blk hnu hz2
 refine ⟨_,_,_,hz1u.cell (i:=1) rfl,aE (λhp=>?_) (λhp=>?_)⟩
 ·have hlt:i<v.mem.length:=by omega
  have hg:v.mem[i]?=some v.mem[i]:=List.getElem?_eq_getElem hlt
  rintro u1 hu1
  have hn1':New u u1:=by rw [hu1];exact aW _
  clear hu1
  have hnu1:=hnu.new hn1'
  have hz11:=New.blk hn1' hz1u
  have hz21:=New.blk hn1' hz2u
  refine ⟨λy=>New u1 y,Keep.refl _ _,_,_,_,λy hy=>(New.blk hy hz11).cell (i:=1) rfl,?_⟩
  have hrd:=h.rd.new (hn.new hnu1)
  have hrd':=h'.rd.new (hn.new hnu1)
  refine iN (cells:=aC.cells) aC.len (by omega) hrd hg rfl e3 λb o hc=>aC.mk_ex v.mem[i] ⟨λy hy=>fM (hc y hy),_,_,_,λy hy=>(New.blk hy hz21).cell (i:=1) rfl,?_⟩
  refine iN (cells:=aC.cells) aC.len (by omega) hrd' hg rfl e4 λb' o' hc'=>aC.mk_ex v.mem[i] ⟨λy hy=>fM (hc' y hy),C1 _ (dM rfl ?_)⟩
  rw [w64 (by omega) (by omega)]
  exact ⟨v.mem.length - (i+1),by omega,i+1,_,rfl,by omega,rfl,hnu1⟩
 ·rw [m4]
  exact ⟨rfl,hn.new hnu⟩
theorem lN.new {w w':World} {r:aB} {f:Fnd} (h:lN w r f) (hn:New w w'):lN w' r f:=
 ⟨h.code,h.number,h.view.imp λ_ h=>h.new hn,h.status,h.opened,h.hint,⟨h.boots.1.new hn,h.boots.2⟩,⟨h.keys.1.new hn,h.keys.2⟩,⟨h.doors.1.new hn,h.doors.2⟩⟩
set_option maxHeartbeats 1000000 in
theorem Hj {w:World} {p:aB} {q:FoR} {f:Fnd} (h:lN w p f) (h':lN w (BL q) f) (hb:f.boots.length≤1000000) (hk:f.keys.length≤1000000) (hd:f.doors.length≤1000000):Does 14 [p.val,q.val] w λx w'=>x=.bool true∧New w w':=by
 refine does Tryz.func14 ?_
 rw [sQ]
 rintro b1 w1 hb1 hw1
 obtain ⟨hz1,hn1⟩:=aR hb1 hw1
 have hz1:Blk w1 b1 p.cells TOut:=hz1
 clear hw1
 rintro b2 w2 hb2 hw2
 obtain ⟨hz2,hn2⟩:=aR hb2 hw2
 have hz2:Blk w2 b2 q.cells TFo:=hz2
 clear hw2
 have hz12:=New.blk hn2 hz1
 have hn:=hn1.new hn2
 have hh:=h.new hn
 have hh':=h'.new hn
 obtain ⟨M,hv⟩:=hh.view
 obtain ⟨M',hv'⟩:=hh'.view
 have ec:p.Code=q.Code:=h.code.trans h'.code.symm
 have en:p.Number=q.Number:=h.number.trans h'.number.symm
 have es:p.Status=q.Status:=h.status.trans h'.status.symm
 have eo:p.Opened=q.Opened:=h.opened.trans h'.opened.symm
 have ei:p.Hint=q.Hint:=h.hint.trans h'.hint.symm
 have ek1:p.Keys_l=f.keys.length:=h.keys.2
 have ek2:q.Keys_l=f.keys.length:=h'.keys.2
 refine ⟨_,hz12.cell (i:=0) rfl,_,hz2.cell (i:=0) rfl,bE (λe=>absurd ec e) (λ_=>⟨_,hz12.cell (i:=1) rfl,_,hz2.cell (i:=1) rfl,bE (λe=>absurd en e) (λ_=>?_)⟩)⟩
 refine aF.mk_ex p.View ⟨aK hz12 rfl,aF.mk_ex q.View ⟨aK hz2 rfl,?_⟩⟩
 refine aG (BN hv hv') ?_
 rintro x w3 ⟨rfl,hn3⟩
 have hz13:=New.blk hn3 hz12
 have hz23:=New.blk hn3 hz2
 have hn03:=hn.new hn3
 refine ⟨_,rfl,dM rfl ⟨_,hz13.cell (i:=4) rfl,_,hz23.cell (i:=4) rfl,bE (λe=>absurd es e) (λ_=>⟨_,hz13.cell (i:=5) rfl,_,hz23.cell (i:=5) rfl,dM (by rw [eo];simp) ⟨_,hz13.cell (i:=6) rfl,_,hz23.cell (i:=6) rfl,bE (λe=>absurd ei e) (λ_=>⟨_,_,_,hz13.cell (i:=8) rfl,_,_,_,hz23.cell (i:=8) rfl,bE (λe=>absurd (by omega) e) (λ_=>?_)⟩)⟩⟩)⟩⟩
 refine aS mix (λm env u=>∃ (i:Nat) (jj:List Value),m=f.keys.length - i∧i≤f.keys.length∧env=gC ⟨b1,0,none⟩ ⟨b2,0,none⟩ i jj∧New w3 u) f.keys.length
  ⟨0,_,by omega,by omega,rfl,Keep.refl _ _⟩ ?_
 rintro m env u ⟨i,jj,rfl,hi,rfl,hnu⟩
 rw [mW]
 have hz1u:=New.blk hnu hz13
 have hz2u:=New.blk hnu hz23
 have hn0u:=hn03.new hnu
 refine ⟨_,_,_,hz1u.cell (i:=8) rfl,aE (λhp=>?_) (λhp=>?_)⟩
 ·have hlt:i<f.keys.length:=by omega
  have hg:f.keys[i]?=some f.keys[i]:=List.getElem?_eq_getElem hlt
  rintro u1 hu1
  have hn1':New u u1:=by rw [hu1];exact aW _
  clear hu1
  have hz11:=New.blk hn1' hz1u
  have hz21:=New.blk hn1' hz2u
  refine ⟨λy=>New u1 y,Keep.refl _ _,_,_,_,λy hy=>(New.blk hy hz11).cell (i:=8) rfl,?_⟩
  refine rd_w (h.keys.1.new (hn0u.new hn1')) hg rfl ek1 λb o hc=>⟨_,hc,_,_,_,λy hy=>(New.blk hy hz21).cell (i:=8) rfl,?_⟩
  refine rd_w (h'.keys.1.new (hn0u.new hn1')) hg rfl ek2 λb o hc=>⟨_,hc,bE (λe=>absurd rfl e) (λ_=>?_)⟩
  rw [w64 (by omega) (by omega)]
  exact ⟨f.keys.length - (i+1),by omega,i+1,_,rfl,by omega,rfl,hnu.new hn1'⟩
 ·rw [pL]
  refine ⟨_,_,_,hz1u.cell (i:=7) rfl,_,_,_,hz2u.cell (i:=7) rfl,?_⟩
  have eb1:p.Boots_l=f.boots.length:=h.boots.2
  have eb2:q.Boots_l=f.boots.length:=h'.boots.2
  have ed1:p.Doors_l=f.doors.length:=h.doors.2
  have ed2:q.Doors_l=f.doors.length:=h'.doors.2
  rw [eb1,eb2]
  refine aG (wU (h.boots.1.new hn0u) (h'.boots.1.new hn0u) hb) ?_
  rintro x u1 ⟨rfl,hn1'⟩
  refine ⟨_,rfl,cG rfl ⟨_,_,_,(New.blk hn1' hz1u).cell (i:=9) rfl,_,_,_,(New.blk hn1' hz2u).cell (i:=9) rfl,?_⟩⟩
  rw [ed1,ed2]
  refine aG (wU (h.doors.1.new (hn0u.new hn1')) (h'.doors.1.new (hn0u.new hn1')) hd) ?_
  rintro x u2 ⟨rfl,hn2'⟩
  exact ⟨_,rfl,rfl,(hn0u.new hn1').new hn2'⟩
end Go.Proofs.YtafopfaomkklpaaGreat
namespace Go.Proofs.YtafopfaomkklpaaGreat
open Go.Proofs.Tryz
open Go.Eng IntKind
variable (w:World) (R:Value→World→Prop)
theorem ss (p0:Int):fnW prog f66 [(.int .i64 p0)] R w=((bif (decide ((p0:Int)<96)) then (R (.int .i64 (-1)) w) else ((bif (decide ((p0:Int)≥256)) then (R (.int .i64 (-1)) w) else (R (.int .i64 (i64.wrap (p0 * 8))) w))))):=by kernel_rfl
def eG (s1:Int) (s5:Option Addr) (a b:Nat) (s8:Int) (j:LV):LV:=jq j 0 1 (.int .i64 s1::jq j 1 3 (.slice s5 a b::jq j 4 2 (.int .i64 s8::jq j 6 36 [])))
def jk (s1:Int) (s5:Option Addr) (a b:Nat) (j:LV):LV:=jq j 0 1 (.int .i64 s1::jq j 1 3 (.slice s5 a b::jq j 4 39 []))
def eH (s1:Int) (s5:Option Addr) (a b:Nat) (s9:Int) (j:LV):LV:=jq j 0 1 (.int .i64 s1::jq j 1 3 (.slice s5 a b::jq j 4 3 (.int .i64 s9::jq j 7 35 [])))
def jl (s5:Option Addr) (a b:Nat) (j:LV):LV:=jq j 0 5 (.slice s5 a b::jq j 5 39 [])
theorem qi (p0 p1:Int):fnW prog f72 [.int .i64 p0,.int .i64 p1] R w=(mk3 (i64.wrap (p1 * 8)) (i64.wrap (p1 * 8)) 8 (.cells (reps (Int.toNat (i64.wrap (p1 * 8))) [.int .u64 0]).toArray 32) w λb1 w1=>idxS (some ⟨b1,0,none⟩) (Int.toNat (i64.wrap (p1 * 8))) 0 1 λad=>(∃ u,w1.cell? ad=some u)∧w1.frozen? ad=false∧∀ w2,w2=w1.setCell ad (.int .u64 1)→idxS (some ⟨b1,0,none⟩) (Int.toNat (i64.wrap (p1 * 8))) 1 1 λd=>(∃ u,w2.cell? d=some u)∧w2.frozen? d=false∧∀ w3,w3=w2.setCell d (.int .u64 1)→Calls prog 112 #[.int .i64 p0] w3 λe w4=>∃ a b,e=.returned (.tuple #[.int .u64 a,.int .i64 b])∧Calls prog 52 #[.int .i64 0] w4 λe w5=>∃ c,e=.returned (.int .i64 c)∧idxS (some ⟨b1,0,none⟩) (Int.toNat (i64.wrap (p1 * 8))) c 1 λf=>(∃ u,w5.cell? f=some u)∧w5.frozen? f=false∧∀ w6,w6=w5.setCell f (.int .u64 (bor .u64 4504699138998272 a))→bT prog (.loop (sub (aA f72) [1,1,1,1,1,0,1,0,0])) (eG p1 (some ⟨b1,0,none⟩) (Int.toNat (i64.wrap (p1 * 8))) (Int.toNat (i64.wrap (p1 * 8))) 0 (ji p0::uq 2 (jz::ju a::ji b::undef::ji p1::ji (i64.wrap (p1 * 8))::js (some ⟨b1,0,none⟩) (Int.toNat (i64.wrap (p1 * 8))) (Int.toNat (i64.wrap (p1 * 8)))::js (some ⟨b1,0,none⟩) (Int.toNat (i64.wrap (p1 * 8))) (Int.toNat (i64.wrap (p1 * 8)))::js (some ⟨b1,0,none⟩) (Int.toNat (i64.wrap (p1 * 8))) (Int.toNat (i64.wrap (p1 * 8)))::jp ad::jp d::.tuple #[.int .u64 a,.int .i64 b]::ji p0::.tuple #[.int .u64 a,.int .i64 b]::ju a::ji b::js (some ⟨b1,0,none⟩) (Int.toNat (i64.wrap (p1 * 8))) (Int.toNat (i64.wrap (p1 * 8)))::ji c::ju a::ju (bor .u64 4504699138998272 a)::jp f::uq 18 []))) (aI 0 (nx f72 [1,1,1,1,1,1] R)) w6):=by kernel_rfl
theorem kX (s1:Int) (s5:Option Addr) (a b:Nat) (s8:Int) (j:LV) (N1:LV→World→Prop):W prog (sub (aA f72) [1,1,1,1,1,0,1,0,0]) (eG s1 s5 a b s8 j) (seqQ N1 (aI 0 (nx f72 [1,1,1,1,1,1] R))) w=((bif (decide ((s8:Int)<6)) then (Calls prog 75 #[.int .i64 s8] w λe w1=>∃ c,e=.returned (.int .i64 c)∧idxS s5 a c 1 λad=>(∃ u,w1.cell? ad=some u)∧w1.frozen? ad=false∧∀ w2,w2=w1.setCell ad (.int .u64 1)→N1 (eG s1 s5 a b (i64.wrap (s8+1)) (jq j 0 24 (ji s8::jb (decide ((s8:Int)<6))::ji s8::ji (i64.wrap (s8+1))::js s5 a b::ji s8::ji c::jp ad::jq j 32 10 []))) w2) else (W prog (sub (aA f72) [1,1,1,1,1,1]) (jk s1 s5 a b (jq j 0 6 (ji s8::jq j 6 18 (ji s8::jb (decide ((s8:Int)<6))::jq j 26 16 [])))) (retQ prog f72 R) w))):=by kernel_rfl
theorem my (s1:Int) (s5:Option Addr) (a b:Nat) (j:LV):W prog (sub (aA f72) [1,1,1,1,1,1]) (jk s1 s5 a b j) (retQ prog f72 R) w=(bT prog (.loop (sub (aA f72) [1,1,1,1,1,1,0,1,0,0])) (eH s1 s5 a b 96 (jq j 0 7 (jq j 8 35 []))) (aI 2 (nx f72 [1,1,1,1,1,1,1] R)) w):=by kernel_rfl
theorem kY (s1:Int) (s5:Option Addr) (a b:Nat) (s9:Int) (j:LV) (N2:LV→World→Prop):W prog (sub (aA f72) [1,1,1,1,1,1,0,1,0,0]) (eH s1 s5 a b s9 j) (seqQ N2 (aI 2 (nx f72 [1,1,1,1,1,1,1] R))) w=((bif (decide ((s9:Int)<s1)) then (idxS s5 a (i64.wrap (s9 * 8)) 1 λad=>(∃ u,w.cell? ad=some u)∧w.frozen? ad=false∧∀ w1,w1=w.setCell ad (.int .u64 256)→N2 (eH s1 s5 a b (i64.wrap (s9+1)) (jq j 0 32 [ji s9,ji s1,jb (decide ((s9:Int)<s1)),ji s9,ji (i64.wrap (s9+1)),js s5 a b,ji s9,ji (i64.wrap (s9 * 8)),jp ad,jg j 41])) w1) else (W prog (sub (aA f72) [1,1,1,1,1,1,1]) (jl s5 a b (jg j 0::ji s1::jq j 1 6 (ji s9::jq j 7 25 (ji s9::ji s1::jb (decide ((s9:Int)<s1))::jq j 35 7 [])))) (retQ prog f72 R) w))):=by kernel_rfl
theorem mz (s5:Option Addr) (a b:Nat) (j:LV):W prog (sub (aA f72) [1,1,1,1,1,1,1]) (jl s5 a b j) (retQ prog f72 R) w=(R (.slice s5 a b) w):=by kernel_rfl
theorem uw (p0 p1:Int):fnW prog f76 [.int .i64 p0,.int .i64 p1] R w=(Calls prog 120 #[.int .i64 p0] w λe w1=>∃ a,e=.returned (.bool a)∧(bif (!a) then (R (.tuple #[.int .u64 0,.int .i64 2]) w1) else (Calls prog 119 #[.int .i64 p1] w1 λe w2=>∃ b,e=.returned (.bool b)∧(bif (!b) then (R (.tuple #[.int .u64 0,.int .i64 1]) w2) else (R (.tuple #[.int .u64 (bor .u64 (bshl .u64 (u64.wrap p0) 8) (u64.wrap (i64.wrap (p1+1)))),.int .i64 0]) w2))))):=by kernel_rfl
theorem sT (p0:Int):fnW prog f77 [.int .i64 p0] R w=(Calls prog 119 #[.int .i64 p0] w λe w1=>∃ a,e=.returned (.bool a)∧(bif (!a) then (R (.int .i64 (-1)) w1) else (Calls prog 117 #[.int .i64 p0] w1 λe w2=>∃ b,e=.returned (.int .i64 b)∧R (.int .i64 (i64.wrap (b+1))) w2))):=by kernel_rfl
theorem sU (p0:Int):fnW prog f78 [.int .i64 p0] R w=(Calls prog 119 #[.int .i64 p0] w λe w1=>∃ a,e=.returned (.bool a)∧(bif (!a) then (R (.int .i64 (-1)) w1) else (R (.int .i64 (i64.wrap (32+p0))) w1))):=by kernel_rfl
theorem sV (p0 p1:Int):fnW prog f80 [.int .i64 p0,.int .i64 p1] R w=(Calls prog 120 #[.int .i64 p0] w λe w1=>∃ a,e=.returned (.bool a)∧(bif (!a) then (R (.tuple #[.int .u64 0,.int .i64 2]) w1) else ((bif (decide ((p1:Int)<0)) then (R (.tuple #[.int .u64 0,.int .i64 1]) w1) else ((bif (decide ((p1:Int)>4294967295)) then (R (.tuple #[.int .u64 0,.int .i64 1]) w1) else (R (.tuple #[.int .u64 (bor .u64 (bshl .u64 (u64.wrap p0) 32) (u64.wrap p1)),.int .i64 0]) w1))))))):=by kernel_rfl
theorem rH (p0:Int):fnW prog f81 [.int .i64 p0] R w=(Calls prog 119 #[.int .i64 p0] w λe w1=>∃ a,e=.returned (.bool a)∧(bif (!a) then (R (.int .i64 (-1)) w1) else (R (.int .i64 (i64.wrap (40+p0))) w1))):=by kernel_rfl
def dZ (s0 s4 s5:Int) (j:LV):LV:=.int .i64 s0::jq j 0 3 (.int .u64 s4::.int .i64 s5::jq j 3 18 [])
def iI (s4:Int) (j:LV):LV:=jq j 0 4 (.int .u64 s4::jq j 4 19 [])
theorem nO (p0:Int):fnW prog f112 [.int .i64 p0] R w=((bif (decide ((p0:Int)<1)) then (R (.tuple #[.int .u64 0,.int .i64 2]) w) else ((bif (decide ((p0:Int)>5)) then (R (.tuple #[.int .u64 0,.int .i64 2]) w) else (bT prog (.loop (sub (aA f112) [1,1,1,0,1,0,0])) (dZ p0 549755813888 0 (undef::ju 0::ji 0::ji p0::jb (decide ((p0:Int)<1))::jb false::ji p0::jb (decide ((p0:Int)>5))::jb (decide ((p0:Int)>5))::uq 12 [])) (aI 0 (nx f112 [1,1,1,1] R)) w))))):=by kernel_rfl
theorem jP (s0 s4 s5:Int) (j:LV) (N1:LV→World→Prop):W prog (sub (aA f112) [1,1,1,0,1,0,0]) (dZ s0 s4 s5 j) (seqQ N1 (aI 0 (nx f112 [1,1,1,1] R))) w=((bif (decide ((s5:Int)<s0)) then (0≤(u64.wrap (i64.wrap (7 * s5)))∧N1 (dZ s0 (bor .u64 s4 (bshl .u64 7 (u64.wrap (i64.wrap (7 * s5))))) (i64.wrap (s5+1)) (jq j 0 9 [ji s5,ji s0,jb (decide ((s5:Int)<s0)),ji s5,ji (i64.wrap (s5+1)),ju s4,ji s5,ji (i64.wrap (7 * s5)),ju (u64.wrap (i64.wrap (7 * s5))),ju (bshl .u64 7 (u64.wrap (i64.wrap (7 * s5)))),ju (bor .u64 s4 (bshl .u64 7 (u64.wrap (i64.wrap (7 * s5))))),jg j 20])) w) else (W prog (sub (aA f112) [1,1,1,1]) (iI s4 (ji s0::jg j 0::jg j 1::jg j 2::ji s5::jq j 3 6 (ji s5::ji s0::jb (decide ((s5:Int)<s0))::jq j 12 9 []))) (retQ prog f112 R) w))):=by kernel_rfl
theorem kZ (s4:Int) (j:LV):W prog (sub (aA f112) [1,1,1,1]) (iI s4 j) (retQ prog f112 R) w=(R (.tuple #[.int .u64 s4,.int .i64 0]) w):=by kernel_rfl
def gK (s1:Addr) (s3:Option Addr) (a b:Nat) (s4:Int) (j:LV):LV:=jq j 0 1 (.pointer (some s1)::jq j 1 1 (.slice s3 a b::.int .i64 s4::jq j 2 55 []))
def me (s3:Option Addr) (a b:Nat) (j:LV):LV:=jq j 0 3 (.slice s3 a b::jq j 3 56 [])
def gL (s1:Addr) (s3:Option Addr) (a b:Nat) (s4 s5:Int) (j:LV):LV:=jq j 0 1 (.pointer (some s1)::jq j 1 1 (.slice s3 a b::.int .i64 s4::.int .i64 s5::jq j 2 54 []))
def mf (a:Addr) (s3:Option Addr) (b c:Nat) (s4:Int) (j:LV):LV:=jq j 0 1 (.pointer (some a)::jq j 1 1 (.slice s3 b c::.int .i64 s4::jq j 2 55 []))
theorem tN (p0:aO):fnW prog f114 [p0.val] R w=(∀ b1 w1,b1=w.heap.size→w1=w.alloc (.cells p0.cells.toArray 210)→aO.ex λr=>aH w1 ⟨b1,0,none⟩ 0 r.cells∧Calls prog 146 #[r.val,.int .i64 256] w1 λe w2=>∃ a,e=.returned (.int .i64 a)∧(bif ((a:Int) != 0) then (R (.slice none 0 0) w2) else (∃ b,w2.cell? ⟨b1,0,none⟩=some (.int .i64 b)∧∃ c d f,w2.cell? ⟨b1,1,none⟩=some (.slice c d f)∧∀ b2 w3,b2=w2.heap.size→w3=w2.alloc (.cells #[.int .u64 (u64.wrap b),.int .u64 (u64.wrap (d:Nat))] 32)→bT prog (.loop (sub (aA f114) [1,1,1,0,1,0,0])) (gK ⟨b1,0,none⟩ (some ⟨b2,0,none⟩) 2 2 0 (p0.val::jz::undef::r.val::ji a::jb ((a:Int) != 0)::jp ⟨b1,0,none⟩::ji b::ju (u64.wrap b)::jp ⟨b1,1,none⟩::js c d f::jn d::ju (u64.wrap (d:Nat))::js (some ⟨b2,0,none⟩) 2 2::uq 43 [])) (aI 0 (nx f114 [1,1,1,1] R)) w3))):=by kernel_rfl
theorem nP (s1:Addr) (s3:Option Addr) (a b:Nat) (s4:Int) (j:LV) (N1:LV→World→Prop):W prog (sub (aA f114) [1,1,1,0,1,0,0]) (gK s1 s3 a b s4 j) (seqQ N1 (aI 0 (nx f114 [1,1,1,1] R))) w=(∃ c d f,w.cell? ⟨s1.block,s1.off+1,none⟩=some (.slice c d f)∧(bif (decide ((s4:Int)<(d:Nat))) then (∀ w1,w1=w.drew→∃ Sx:World→Prop,Sx w1∧∃ g h i,(∀ u,Sx u→u.cell? ⟨s1.block,s1.off+1,none⟩=some (.slice g h i))∧idxS g h s4 9 λad=>∃ k,(∀ u,Sx u→u.cell? ad=some (.int .i64 k))∧∃ l m n,(∀ u,Sx u→u.cell? ⟨s1.block,s1.off+1,none⟩=some (.slice l m n))∧idxS l m s4 9 λr=>∃ o,(∀ u,Sx u→u.cell? ⟨r.block,r.off+1,none⟩=some (.int .u64 o))∧∀ b1 w2,b1=w1.heap.size→w2=w1.alloc (.cells #[.int .u64 (u64.wrap k),.int .u64 o] 32)→Sx w2∧∃ (ap:Option Addr) (p q:Nat),∃ w3,(Builtin.append_ #[34,34] 34 #[.slice s3 a b,.slice (some ⟨b1,0,none⟩) 2 2]).run prog w2=.ok (.slice ap p q) w3∧Sx w3∧bT prog (.loop (sub (aA f114) [1,1,1,0,1,0,0,1,0,0,1,1,0,0])) (gL s1 ap p q s4 0 (jg j 0::jg j 1::jq j 3 11 (ji s4::jf s1 1::js c d f::jn d::jb (decide ((s4:Int)<(d:Nat)))::jg j 19::jg j 20::js s3 a b::jf s1 1::js g h i::ji s4::jp ad::jp ad::ji k::ju (u64.wrap k)::jf s1 1::js l m n::ji s4::jp r::jf r 1::ju o::js (some ⟨b1,0,none⟩) 2 2::js ap p q::jq j 37 20 []))) (aI 2 (aI 1 (seqQ (λenv w=>W prog (sub (aA f114) [1,1,1,0,1,0,0,1,1]) env (seqQ N1 (aI 0 (nx f114 [1,1,1,1] R))) w) (seqQ N1 (aI 0 (nx f114 [1,1,1,1] R)))))) w3) else (W prog (sub (aA f114) [1,1,1,1]) (me s3 a b (jg j 0::jp s1::jg j 1::ji s4::jq j 2 12 (ji s4::jf s1 1::js c d f::jn d::jb (decide ((s4:Int)<(d:Nat)))::jq j 19 38 []))) (retQ prog f114 R) w))):=by kernel_rfl
theorem qj (s3:Option Addr) (a b:Nat) (j:LV):W prog (sub (aA f114) [1,1,1,1]) (me s3 a b j) (retQ prog f114 R) w=(Calls prog 147 #[.slice s3 a b] w λe w1=>∃ c,e=.returned (.int .u64 c)∧∀ b1 w2,b1=w1.heap.size→w2=w1.alloc (.cells #[.int .u64 c] 32)→∃ ap d f,∃ w3,(Builtin.append_ #[34,34] 34 #[.slice s3 a b,.slice (some ⟨b1,0,none⟩) 1 1]).run prog w2=.ok (.slice ap d f) w3∧R (.slice ap d f) w3):=by kernel_rfl
theorem nQ (s1:Addr) (s3:Option Addr) (a b:Nat) (s4 s5:Int) (j:LV) (N1:LV→World→Prop) (N2:LV→World→Prop):W prog (sub (aA f114) [1,1,1,0,1,0,0,1,0,0,1,1,0,0]) (gL s1 s3 a b s4 s5 j) (seqQ N2 (aI 2 (aI 1 (seqQ (λenv w=>W prog (sub (aA f114) [1,1,1,0,1,0,0,1,1]) env (seqQ N1 (aI 0 (nx f114 [1,1,1,1] R))) w) (seqQ N1 (aI 0 (nx f114 [1,1,1,1] R))))))) w=((bif (decide ((s5:Int)<7)) then (∃ c d f,w.cell? ⟨s1.block,s1.off+1,none⟩=some (.slice c d f)∧idxS c d s4 9 λad=>idxA ⟨ad.block,ad.off+2,none⟩ 7 s5 1 λi=>∃ x,w.cell? i=some (.int .u64 x)∧∀ b1 w1,b1=w.heap.size→w1=w.alloc (.cells #[.int .u64 x] 32)→∃ ap g h,∃ w2,(Builtin.append_ #[34,34] 34 #[.slice s3 a b,.slice (some ⟨b1,0,none⟩) 1 1]).run prog w1=.ok (.slice ap g h) w2∧N2 (gL s1 ap g h s4 (i64.wrap (s5+1)) (jq j 0 36 (ji s5::jb (decide ((s5:Int)<7))::ji s5::ji (i64.wrap (s5+1))::js s3 a b::jf s1 1::js c d f::ji s4::ji s5::jp ad::jf ad 2::jp i::ju x::js (some ⟨b1,0,none⟩) 1 1::js ap g h::jq j 51 5 []))) w2) else (W prog (sub (aA f114) [1,1,1,0,1,0,0,1,1]) (mf s1 s3 a b s4 (jg j 0::jg j 1::ji s5::jq j 2 34 (ji s5::jb (decide ((s5:Int)<7))::jq j 38 18 []))) (seqQ N1 (aI 0 (nx f114 [1,1,1,1] R))) w))):=by kernel_rfl
theorem qk (a:Addr) (s3:Option Addr) (b c:Nat) (s4:Int) (j:LV) (N1:LV→World→Prop):W prog (sub (aA f114) [1,1,1,0,1,0,0,1,1]) (mf a s3 b c s4 j) (seqQ N1 (aI 0 (nx f114 [1,1,1,1] R))) w=(N1 (gK a s3 b c (i64.wrap (s4+1)) (jq j 0 19 (ji s4::ji (i64.wrap (s4+1))::jq j 21 36 []))) w):=by kernel_rfl
theorem sv (p0:Int):fnW prog f115 [.int .i64 p0] R w=(Calls prog 119 #[.int .i64 p0] w λe w1=>∃ a,e=.returned (.bool a)∧(bif (!a) then (R (.int .i64 (-1)) w1) else (Calls prog 117 #[.int .i64 p0] w1 λe w2=>∃ b,e=.returned (.int .i64 b)∧R (.int .i64 (i64.wrap (b+8))) w2))):=by kernel_rfl
theorem tO (p0:Int):fnW prog f116 [.int .i64 p0] R w=((bif (decide ((p0:Int)<1)) then (R (.tuple #[.int .u64 0,.int .i64 2]) w) else ((bif (decide ((p0:Int)≥1073741824)) then (R (.tuple #[.int .u64 0,.int .i64 2]) w) else (R (.tuple #[.int .u64 (bor .u64 (bshl .u64 (u64.wrap p0) 2) 2),.int .i64 0]) w))))):=by kernel_rfl
theorem sw (p0:Int):fnW prog f117 [.int .i64 p0] R w=(Calls prog 119 #[.int .i64 p0] w λe w1=>∃ a,e=.returned (.bool a)∧(bif (!a) then (R (.int .i64 (-1)) w1) else (R (.int .i64 (i64.wrap ((i64.wrap (6+(i64.wrap (p0 * 15)))) * 8))) w1))):=by kernel_rfl
theorem sx (p0:aP) (p1:Int):fnW prog f118 [p0.val,.int .i64 p1] R w=(∀ b1 w1,b1=w.heap.size→w1=w.alloc (.cells p0.cells.toArray 140)→∃ a,w1.cell? ⟨b1,1,none⟩=some (.int .u64 a)∧Calls prog 148 #[.int .u64 a,.int .i64 p1] w1 λe w2=>∃ b c,e=.returned (.tuple #[.int .u64 b,.int .i64 c])∧R (.tuple #[.int .u64 b,.int .i64 c]) w2):=by kernel_rfl
theorem ux (p0:Int):fnW prog f120 [.int .i64 p0] R w=((bif (decide ((p0:Int)≥1)) then ((bif (decide ((p0:Int)≤59)) then (R (.bool (((Int.tmod p0 2):Int) == 1)) w) else (R (.bool false) w))) else (R (.bool false) w))):=by kernel_rfl
theorem ql (p0 p1 p2:Int):fnW prog f121 [.int .u64 p0,.int .u64 p1,.int .u64 p2] R w=((bif (decide ((p0:Int)≥4096)) then (R (.tuple #[.int .u64 0,.int .i64 2]) w) else ((bif (decide ((p1:Int)≥4096)) then (R (.tuple #[.int .u64 0,.int .i64 2]) w) else ((bif (decide ((p2:Int)≥1099511627776)) then (R (.tuple #[.int .u64 0,.int .i64 2]) w) else (R (.tuple #[.int .u64 (bor .u64 (bor .u64 (bshl .u64 p0 52) (bshl .u64 p1 40)) p2),.int .i64 0]) w))))))):=by kernel_rfl
def gD (s0:Option Addr) (a b:Nat) (s3 s4:Int) (j:LV):LV:=.slice s0 a b::jq j 0 2 (.int .u64 s3::.int .i64 s4::jq j 2 14 [])
def lG (s3:Int) (j:LV):LV:=jq j 0 3 (.int .u64 s3::jq j 3 15 [])
theorem sW (p0:Option Addr) (a b:Nat):fnW prog f147 [.slice p0 a b] R w=(bT prog (.loop (sub (aA f147) [1,1,0,1,0,0])) (gD p0 a b 0 0 (undef::ju 0::uq 14 [])) (aI 0 (nx f147 [1,1,1] R)) w):=by kernel_rfl
theorem m7 (s0:Option Addr) (a b:Nat) (s3 s4:Int) (j:LV) (N1:LV→World→Prop):W prog (sub (aA f147) [1,1,0,1,0,0]) (gD s0 a b s3 s4 j) (seqQ N1 (aI 0 (nx f147 [1,1,1] R))) w=((bif (decide ((s4:Int)<(a:Nat))) then (idxS s0 a s4 1 λad=>∃ x,w.cell? ad=some (.int .u64 x)∧Calls prog 177 #[.int .u64 x] w λe w1=>∃ c d f,e=.returned (.slice c d f)∧Calls prog 176 #[.int .u64 s3,.slice c d f] w1 λe w2=>∃ g,e=.returned (.int .u64 g)∧N1 (gD s0 a b g (i64.wrap (s4+1)) [jg j 0,jg j 1,ji s4,js s0 a b,jn a,jb (decide ((s4:Int)<(a:Nat))),ji s4,ji (i64.wrap (s4+1)),ju s3,js s0 a b,ji s4,jp ad,ju x,js c d f,ju g,jg j 15]) w2) else (W prog (sub (aA f147) [1,1,1]) (lG s3 (js s0 a b::jg j 0::jg j 1::ji s4::ji s4::js s0 a b::jn a::jb (decide ((s4:Int)<(a:Nat)))::jq j 6 10 [])) (retQ prog f147 R) w))):=by kernel_rfl
theorem pQ (s3:Int) (j:LV):W prog (sub (aA f147) [1,1,1]) (lG s3 j) (retQ prog f147 R) w=(R (.int .u64 s3) w):=by kernel_rfl
theorem tP (p0 p1:Int):fnW prog f148 [.int .u64 p0,.int .i64 p1] R w=(Calls prog 119 #[.int .i64 p1] w λe w1=>∃ a,e=.returned (.bool a)∧(bif (!a) then (R (.tuple #[.int .u64 0,.int .i64 1]) w1) else (Calls prog 175 #[.int .u64 p0] w1 λe w2=>∃ b,e=.returned (.bool b)∧(bif (!b) then (R (.tuple #[.int .u64 0,.int .i64 3]) w2) else (R (.tuple #[.int .u64 (bor .u64 p0 (u64.wrap (i64.wrap (p1+1)))),.int .i64 0]) w2))))):=by kernel_rfl
def fP (s1:Option Addr) (a b:Nat) (s5 s6:Int) (j:LV):LV:=jq j 0 1 (.slice s1 a b::jq j 1 3 (.int .u64 s5::.int .i64 s6::jq j 4 31 []))
def kL (s5:Int) (j:LV):LV:=jq j 0 5 (.int .u64 s5::jq j 5 32 [])
def eu (s1:Option Addr) (a b:Nat) (s5 s6 s7:Int) (j:LV):LV:=jq j 0 1 (.slice s1 a b::jq j 1 3 (.int .u64 s5::.int .i64 s6::.int .i64 s7::jq j 4 30 []))
def kM (s1:Option Addr) (a b:Nat) (s5 s6:Int) (j:LV):LV:=jq j 0 1 (.slice s1 a b::jq j 1 3 (.int .u64 s5::.int .i64 s6::jq j 4 31 []))
theorem sy (p0:Int) (p1:Option Addr) (a b:Nat):fnW prog f176 [.int .u64 p0,.slice p1 a b] R w=(bT prog (.loop (sub (aA f176) [1,1,0,1,0,0])) (fP p1 a b (bxor .u64 18446744073709551615 p0) 0 (ju p0::uq 2 (ju 0::uq 2 (ju p0::ju (bxor .u64 18446744073709551615 p0)::uq 27 [])))) (aI 0 (nx f176 [1,1,1] R)) w):=by kernel_rfl
theorem mA (s1:Option Addr) (a b:Nat) (s5 s6:Int) (j:LV) (N1:LV→World→Prop):W prog (sub (aA f176) [1,1,0,1,0,0]) (fP s1 a b s5 s6 j) (seqQ N1 (aI 0 (nx f176 [1,1,1] R))) w=((bif (decide ((s6:Int)<(a:Nat))) then (idxS s1 a s6 1 λad=>∃ x,w.cell? ad=some (.int .u8 x)∧bT prog (.loop (sub (aA f176) [1,1,0,1,0,0,1,0,0,1,1,0,0])) (eu s1 a b (bxor .u64 s5 (u64.wrap x)) s6 0 (jq j 0 4 (jg j 5::jg j 6::jg j 7::ji s6::js s1 a b::jn a::jb (decide ((s6:Int)<(a:Nat)))::jg j 12::jg j 13::ju s5::js s1 a b::ji s6::jp ad::.int .u8 x::ju (u64.wrap x)::ju (bxor .u64 s5 (u64.wrap x))::jq j 21 14 []))) (aI 2 (aI 1 (seqQ (λenv w=>W prog (sub (aA f176) [1,1,0,1,0,0,1,1]) env (seqQ N1 (aI 0 (nx f176 [1,1,1] R))) w) (seqQ N1 (aI 0 (nx f176 [1,1,1] R)))))) w) else (W prog (sub (aA f176) [1,1,1]) (kL s5 (jg j 0::js s1 a b::jg j 1::jg j 2::jg j 3::ji s6::jq j 4 4 (ji s6::js s1 a b::jn a::jb (decide ((s6:Int)<(a:Nat)))::jq j 12 23 []))) (retQ prog f176 R) w))):=by kernel_rfl
theorem oU (s5:Int) (j:LV):W prog (sub (aA f176) [1,1,1]) (kL s5 j) (retQ prog f176 R) w=(R (.int .u64 (bxor .u64 18446744073709551615 s5)) w):=by kernel_rfl
theorem mB (s1:Option Addr) (a b:Nat) (s5 s6 s7:Int) (j:LV) (N1:LV→World→Prop) (N2:LV→World→Prop):W prog (sub (aA f176) [1,1,0,1,0,0,1,0,0,1,1,0,0]) (eu s1 a b s5 s6 s7 j) (seqQ N2 (aI 2 (aI 1 (seqQ (λenv w=>W prog (sub (aA f176) [1,1,0,1,0,0,1,1]) env (seqQ N1 (aI 0 (nx f176 [1,1,1] R))) w) (seqQ N1 (aI 0 (nx f176 [1,1,1] R))))))) w=((bif (decide ((s7:Int)<8)) then ((bif (((band .u64 s5 1):Int) == 1) then (N2 (eu s1 a b (bxor .u64 (bshr .u64 s5 1) 14514072000185962306) s6 (i64.wrap (s7+1)) (jq j 0 4 (ju (band .u64 s5 1)::jq j 5 15 [ji s7,jb (decide ((s7:Int)<8)),ji s7,ji (i64.wrap (s7+1)),ju s5,ju (band .u64 s5 1),ju s5,ju (bshr .u64 s5 1),ju (band .u64 s5 1),jb (((band .u64 s5 1):Int) == 1),ju (bshr .u64 s5 1),ju (bxor .u64 (bshr .u64 s5 1) 14514072000185962306),jg j 32,jg j 33]))) w) else (N2 (eu s1 a b (bshr .u64 s5 1) s6 (i64.wrap (s7+1)) (jq j 0 4 (ju (band .u64 s5 1)::jq j 5 15 (ji s7::jb (decide ((s7:Int)<8))::ji s7::ji (i64.wrap (s7+1))::ju s5::ju (band .u64 s5 1)::ju s5::ju (bshr .u64 s5 1)::ju (band .u64 s5 1)::jb (((band .u64 s5 1):Int) == 1)::jq j 30 4 [])))) w))) else (W prog (sub (aA f176) [1,1,0,1,0,0,1,1]) (kM s1 a b s5 s6 (jq j 0 4 (ji s7::jq j 4 16 (ji s7::jb (decide ((s7:Int)<8))::jq j 22 12 [])))) (seqQ N1 (aI 0 (nx f176 [1,1,1] R))) w))):=by kernel_rfl
theorem oV (s1:Option Addr) (a b:Nat) (s5 s6:Int) (j:LV) (N1:LV→World→Prop):W prog (sub (aA f176) [1,1,0,1,0,0,1,1]) (kM s1 a b s5 s6 j) (seqQ N1 (aI 0 (nx f176 [1,1,1] R))) w=(N1 (fP s1 a b s5 (i64.wrap (s6+1)) (jq j 0 12 (ji s6::ji (i64.wrap (s6+1))::jq j 14 21 []))) w):=by kernel_rfl
def fQ (s0:Int) (s3:Option Addr) (a b:Nat) (s4:Int) (j:LV):LV:=.int .u64 s0::jq j 0 2 (.slice s3 a b::.int .i64 s4::jq j 2 15 [])
def kN (s3:Option Addr) (a b:Nat) (j:LV):LV:=jq j 0 3 (.slice s3 a b::jq j 3 16 [])
theorem sA (p0:Int):fnW prog f177 [.int .u64 p0] R w=(mk3 8 8 1 (.cells (reps (Int.toNat 8) [.int .u8 0]).toArray 5) w λb1 w1=>bT prog (.loop (sub (aA f177) [1,1,0,1,0,0])) (fQ p0 (some ⟨b1,0,none⟩) (Int.toNat 8) (Int.toNat 8) 0 (undef::jz::js (some ⟨b1,0,none⟩) (Int.toNat 8) (Int.toNat 8)::uq 14 [])) (aI 0 (nx f177 [1,1,1] R)) w1):=by kernel_rfl
theorem mC (s0:Int) (s3:Option Addr) (a b:Nat) (s4:Int) (j:LV) (N1:LV→World→Prop):W prog (sub (aA f177) [1,1,0,1,0,0]) (fQ s0 s3 a b s4 j) (seqQ N1 (aI 0 (nx f177 [1,1,1] R))) w=((bif (decide ((s4:Int)<8)) then (0≤(u64.wrap (i64.wrap (8 * s4)))∧idxS s3 a s4 1 λad=>(∃ u,w.cell? ad=some u)∧w.frozen? ad=false∧∀ w1,w1=w.setCell ad (.int .u8 (IntKind.u8.wrap (bshr .u64 s0 (u64.wrap (i64.wrap (8 * s4))))))→N1 (fQ s0 s3 a b (i64.wrap (s4+1)) [jg j 0,jg j 1,jg j 2,ji s4,jb (decide ((s4:Int)<8)),ji s4,ji (i64.wrap (s4+1)),js s3 a b,ji s4,ju s0,ji s4,ji (i64.wrap (8 * s4)),ju (u64.wrap (i64.wrap (8 * s4))),ju (bshr .u64 s0 (u64.wrap (i64.wrap (8 * s4)))),.int .u8 (IntKind.u8.wrap (bshr .u64 s0 (u64.wrap (i64.wrap (8 * s4))))),jp ad,jg j 16]) w1) else (W prog (sub (aA f177) [1,1,1]) (kN s3 a b (ju s0::jg j 0::jg j 1::ji s4::jg j 2::ji s4::jb (decide ((s4:Int)<8))::jq j 5 12 [])) (retQ prog f177 R) w))):=by kernel_rfl
theorem oW (s3:Option Addr) (a b:Nat) (j:LV):W prog (sub (aA f177) [1,1,1]) (kN s3 a b j) (retQ prog f177 R) w=(R (.slice s3 a b) w):=by kernel_rfl
end Go.Proofs.YtafopfaomkklpaaGreat
namespace Go.Proofs.YtafopfaomkklpaaGreat
open Go.Eng
def WE (w:World) (v:Value) (w':World):Prop:=∃ x e:Int,v=.tuple #[.int .u64 x,.int .i64 e]∧U64 x∧New w w'
theorem we {w w':World} {x e:Int} (hx:U64 x) (hn:New w w'):WE w (.tuple #[.int .u64 x,.int .i64 e]) w':=⟨x,e,rfl,hx,hn⟩
theorem u0:U64 0:=⟨by omega,by omega⟩
theorem oX (x y:Int):U64 (bor .u64 x y):=mq _
theorem Em (x y:Int):U64 (bxor .u64 x y):=mq _
theorem yH (w:World) {l:Int} (h1:96≤l) (h2:l<256):Does 66 [.int .i64 l] w λv w'=>v=.int .i64 (l * 8)∧w'=w:=by
 refine does Tryz.func66 ?_
 rw [ss]
 refine aE (λh=>absurd h (by omega)) (λ_=>aE (λh=>absurd h (by omega)) (λ_=>⟨?_,rfl⟩))
 rw [w64 (by omega) (by omega)]
theorem En (w:World) {i:Int} (h0:0≤i) (h1:i<6):Does 78 [.int .i64 i] w λv w'=>v=.int .i64 (32+i)∧w'=w:=by
 refine does Tryz.func78 ?_
 rw [sU]
 refine aG (jY w i) ?_
 rintro v w1 ⟨rfl,rfl⟩
 refine ⟨_,rfl,dM (by simp;omega) ⟨?_,rfl⟩⟩
 rw [w64 (by omega) (by omega)]
theorem BO (w:World) {i:Int} (h0:0≤i) (h1:i<6):Does 81 [.int .i64 i] w λv w'=>v=.int .i64 (40+i)∧w'=w:=by
 refine does Tryz.func81 ?_
 rw [rH]
 refine aG (jY w i) ?_
 rintro v w1 ⟨rfl,rfl⟩
 refine ⟨_,rfl,dM (by simp;omega) ⟨?_,rfl⟩⟩
 rw [w64 (by omega) (by omega)]
theorem vW (w:World) {i:Int} (h0:0≤i) (h1:i<6):Does 117 [.int .i64 i] w λv w'=>v=.int .i64 ((6+i * 15) * 8)∧w'=w:=by
 refine does Tryz.func117 ?_
 rw [sw]
 refine aG (jY w i) ?_
 rintro v w1 ⟨rfl,rfl⟩
 refine ⟨_,rfl,dM (by simp;omega) ⟨?_,rfl⟩⟩
 rw [w64 (x:=i * 15) (by omega) (by omega),w64 (x:=6+i * 15) (by omega) (by omega),w64 (by omega) (by omega)]
theorem Eo (w:World) {i:Int} (h0:0≤i) (h1:i<6):Does 77 [.int .i64 i] w λv w'=>v=.int .i64 ((6+i * 15) * 8+1)∧w'=w:=by
 refine does Tryz.func77 ?_
 rw [sT]
 refine aG (jY w i) ?_
 rintro v w1 ⟨rfl,rfl⟩
 refine ⟨_,rfl,dM (by simp;omega) ?_⟩
 refine aG (vW w1 h0 h1) ?_
 rintro v w2 ⟨rfl,rfl⟩
 refine ⟨_,rfl,?_,rfl⟩
 rw [w64 (by omega) (by omega)]
theorem C2 (w:World) {i:Int} (h0:0≤i) (h1:i<6):Does 115 [.int .i64 i] w λv w'=>v=.int .i64 ((6+i * 15) * 8+8)∧w'=w:=by
 refine does Tryz.func115 ?_
 rw [sv]
 refine aG (jY w i) ?_
 rintro v w1 ⟨rfl,rfl⟩
 refine ⟨_,rfl,dM (by simp;omega) ?_⟩
 refine aG (vW w1 h0 h1) ?_
 rintro v w2 ⟨rfl,rfl⟩
 refine ⟨_,rfl,?_,rfl⟩
 rw [w64 (by omega) (by omega)]
theorem Fv (w:World) (i:Int):Does 120 [.int .i64 i] w λv w'=>(∃ b,v=.bool b)∧w'=w:=by
 refine does Tryz.func120 ?_
 rw [ux]
 exact aE (λ_=>aE (λ_=>⟨⟨_,rfl⟩,rfl⟩) (λ_=>⟨⟨_,rfl⟩,rfl⟩)) (λ_=>⟨⟨_,rfl⟩,rfl⟩)
theorem Hk (w:World) (i c:Int):Does 76 [.int .i64 i,.int .i64 c] w (WE w):=by
 refine does Tryz.func76 ?_
 rw [uw]
 refine aG (Fv w i) ?_
 rintro v w1 ⟨⟨b,rfl⟩,rfl⟩
 refine ⟨_,rfl,iL (λ_=>we u0 (Keep.refl _ _)) (λ_=>?_)⟩
 refine aG (jY w1 c) ?_
 rintro v w2 ⟨rfl,rfl⟩
 exact ⟨_,rfl,iL (λ_=>we u0 (Keep.refl _ _)) (λ_=>we (oX _ _) (Keep.refl _ _))⟩
theorem Ep (w:World) (i c:Int):Does 80 [.int .i64 i,.int .i64 c] w (WE w):=by
 refine does Tryz.func80 ?_
 rw [sV]
 refine aG (Fv w i) ?_
 rintro v w1 ⟨⟨b,rfl⟩,rfl⟩
 exact ⟨_,rfl,iL (λ_=>we u0 (Keep.refl _ _)) (λ_=>aE (λ_=>we u0 (Keep.refl _ _)) (λ_=>aE (λ_=>we u0 (Keep.refl _ _)) (λ_=>we (oX _ _) (Keep.refl _ _))))⟩
theorem F8 (w:World) (i:Int):Does 116 [.int .i64 i] w (WE w):=by
 refine does Tryz.func116 ?_
 rw [tO]
 exact aE (λ_=>we u0 (Keep.refl _ _)) (λ_=>aE (λ_=>we u0 (Keep.refl _ _)) (λ_=>we (oX _ _) (Keep.refl _ _)))
theorem yI (w:World) (a b c:Int):Does 121 [.int .u64 a,.int .u64 b,.int .u64 c] w (WE w):=by
 refine does Tryz.func121 ?_
 rw [ql]
 exact aE (λ_=>we u0 (Keep.refl _ _)) (λ_=>aE (λ_=>we u0 (Keep.refl _ _)) (λ_=>aE (λ_=>we u0 (Keep.refl _ _)) (λ_=>we (oX _ _) (Keep.refl _ _))))
theorem F9 (w:World) (h c:Int):Does 148 [.int .u64 h,.int .i64 c] w (WE w):=by
 refine does Tryz.func148 ?_
 rw [tP]
 refine aG (jY w c) ?_
 rintro v w1 ⟨rfl,rfl⟩
 refine ⟨_,rfl,iL (λ_=>we u0 (Keep.refl _ _)) (λ_=>?_)⟩
 refine aG (CE w1 h) ?_
 rintro v w2 ⟨rfl,rfl⟩
 exact ⟨_,rfl,iL (λ_=>we u0 (Keep.refl _ _)) (λ_=>we (oX _ _) (Keep.refl _ _))⟩
theorem C3 (w:World) (p:aP) (c:Int):Does 118 [p.val,.int .i64 c] w (WE w):=by
 refine does Tryz.func118 ?_
 rw [sx]
 rintro b1 w1 hb1 hw1
 obtain ⟨hz,hn⟩:=aR hb1 hw1
 have hz:Blk w1 b1 p.cells TPg:=hz
 clear hw1
 refine ⟨_,hz.cell (i:=1) rfl,?_⟩
 refine aG (F9 w1 p.Head c) ?_
 rintro v w2 ⟨x,e,rfl,hx,hn2⟩
 exact ⟨_,_,rfl,we hx (hn.new hn2)⟩
theorem vX (w:World) (n:Int):Does 112 [.int .i64 n] w (WE w):=by
 refine does Tryz.func112 ?_
 rw [nO]
 refine aE (λ_=>we u0 (Keep.refl _ _)) (λ_=>aE (λ_=>we u0 (Keep.refl _ _)) (λh5=>?_))
 refine aS mix (λm env u=>∃ (i:Nat) (x:Int) (jj:List Value),m=10 - i∧i≤5∧env=dZ n x i jj∧u=w∧U64 x) 10
  ⟨0,_,_,by omega,by omega,rfl,rfl,⟨by omega,by omega⟩⟩ ?_
 rintro m env u ⟨i,x,jj,rfl,hi,rfl,rfl,hx⟩
 rw [jP]
 refine aE (λhp=>⟨fC _,?_⟩) (λhp=>?_)
 ·rw [w64 (x:=(i:Int)+1) (by omega) (by omega)]
  exact ⟨10 - (i+1),by omega,i+1,_,_,rfl,by omega,rfl,rfl,oX _ _⟩
 ·rw [kZ]
  exact we hx (Keep.refl _ _)
theorem wV {w:World} {b n i:Nat} (hb:U64B w b n) {x:Int} (hx:U64 x) {z:Int} (hz:z=i) (hi:i<n) {K:Addr→World→Prop} (hk:∀ ad w',U64B w' b n→Keep (λk=>k=b) w w'→(∀ c m,U64B w c m→U64B w' c m)→K ad w') :
  idxS (some ⟨b,0,none⟩) n z 1 λad=>(∃ v,w.cell? ad=some v)∧w.frozen? ad=false∧∀ w',w'=w.setCell ad (.int .u64 x)→K ad w':=by
 subst hz
 have e:0+(i:Int).toNat * 1=i:=by omega
 refine bG (by omega) (by omega) ⟨?_,?_,?_⟩
 ·rw [e];obtain ⟨y,hy,_⟩:=hb.get hi;exact ⟨_,hy⟩
 ·rw [e];exact hb.frozen
 ·rintro w' rfl
  rw [e]
  exact hk _ _ (hb.set b i hx) (aN _ _ _ _) λc m h=>h.set b i hx
set_option maxHeartbeats 1000000 in
theorem yJ (w:World) (n:Int) {lines:Nat} (h1:98≤lines) (h2:lines≤256):Does 72 [.int .i64 n,.int .i64 lines] w λv w'=>∃ b,v=.slice (some ⟨b,0,none⟩) (lines * 8) (lines * 8)∧U64B w' b (lines * 8)∧w.heap.size≤b∧New w w':=by
 refine does Tryz.func72 ?_
 rw [qi]
 have hL:IntKind.i64.wrap ((lines:Int) * 8)=((lines * 8:Nat):Int):=by rw [w64 (by omega) (by omega)];omega
 rw [hL,show ((lines * 8:Nat):Int).toNat=lines * 8 from Int.toNat_natCast _]
 refine ⟨by omega,by omega,by omega,by omega,?_⟩
 rintro b w1 hb hw1
 obtain ⟨hz,hn⟩:=aR hb hw1
 have hz:U64B w1 b (lines * 8):=⟨List.replicate (lines * 8) 0,by rw [←zJ];exact hz,by simp,λx hx=>by rw [List.eq_of_mem_replicate hx];exact u0⟩
 clear hw1
 have hb0:w.heap.size≤b:=by omega
 have stp:∀ {u u':World},New w u→Keep (λk=>k=b) u u'→New w u':=λh1 h2=>h1.trans h2 λk hlt e=>by omega
 refine wV hz (x:=1) ⟨by omega,by omega⟩ (z:=0) (i:=0) (by omega) (by omega) λ_ w2 hz2 hk2 _=>?_
 refine wV hz2 (x:=1) ⟨by omega,by omega⟩ (i:=1) (by omega) (by omega) λ_ w3 hz3 hk3 _=>?_
 have hn3:=stp (stp hn hk2) hk3
 refine aG (vX w3 n) ?_
 rintro v w4 ⟨x,e,rfl,hx,hn4⟩
 refine ⟨_,_,rfl,?_⟩
 refine aG (oT w4 (i:=0) (by omega) (by omega)) ?_
 rintro v w5 ⟨rfl,rfl⟩
 refine ⟨_,rfl,?_⟩
 refine wV (hz3.new hn4) (oX _ _) (i:=8) (by omega) (by omega) λ_ w6 hz6 hk6 _=>?_
 have hn6:=stp (hn3.new hn4) hk6
 refine aS mix (λm env u=>∃ (i:Nat) (jj:List Value),m=6 - i∧i≤6∧env=eG lines (some ⟨b,0,none⟩) (lines * 8) (lines * 8) i jj∧New w u∧U64B u b (lines * 8)) 6
  ⟨0,_,by omega,by omega,rfl,hn6,hz6⟩ ?_
 rintro m env u ⟨i,jj,rfl,hi,rfl,hnu,hzu⟩
 rw [kX]
 refine aE (λhp=>?_) (λhp=>?_)
 ·refine aG (zF u (i:=i) (by omega) (by omega)) ?_
  rintro v u1 ⟨rfl,rfl⟩
  refine ⟨_,rfl,wV hzu (x:=1) ⟨by omega,by omega⟩ (i:=24+i) (by omega) (by omega) λ_ u2 hz2 hk2 _=>?_⟩
  rw [w64 (x:=(i:Int)+1) (by omega) (by omega)]
  exact ⟨6 - (i+1),by omega,i+1,_,rfl,by omega,rfl,stp hnu hk2,hz2⟩
 ·rw [my]
  refine aS mix (λm env u=>∃ (i:Nat) (jj:List Value),m=lines - i∧96≤i∧i≤lines∧env=eH lines (some ⟨b,0,none⟩) (lines * 8) (lines * 8) i jj∧New w u∧U64B u b (lines * 8)) (lines - 96)
   ⟨96,_,by omega,by omega,by omega,rfl,hnu,hzu⟩ ?_
  clear hnu hzu hp hi
  rintro m env u ⟨i,jj,rfl,hi1,hi,rfl,hnu,hzu⟩
  rw [kY]
  refine aE (λhp=>?_) (λhp=>?_)
  ·have hlt:i<lines:=by omega
   refine wV hzu (x:=256) ⟨by omega,by omega⟩ (i:=i * 8) (by rw [w64 (by omega) (by omega)];omega) (by omega) λ_ u2 hz2 hk2 _=>?_
   rw [w64 (x:=(i:Int)+1) (by omega) (by omega)]
   exact ⟨lines - (i+1),by omega,i+1,_,rfl,by omega,by omega,rfl,stp hnu hk2,hz2⟩
  ·rw [mz]
   exact ⟨b,rfl,hzu,hb0,hnu⟩
end Go.Proofs.YtafopfaomkklpaaGreat
