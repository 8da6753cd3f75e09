/- A part of the proof. -/
import Derived.Test.YtafopfaomkklpaaGreatp08
import Derived.Test.YtafopfaomkklpaaGreatp09
import Derived.Test.YtafopfaomkklpaaGreatProg
import Derived.Test.YtafopfaomkklpaaGreatp03
set_option linter.unusedVariables false
namespace Go.Proofs.YtafopfaomkklpaaGreat
open Go.Eng
def WE (w:World) (v:Value) (w':World):Prop:=∃ x e:Int,v=.tuple #[.int .u64 x,.int .i64 e]∧U64 x∧New w w'
theorem we {w w':World} {x e:Int} (hx:U64 x) (hn:New w w'):WE w (.tuple #[.int .u64 x,.int .i64 e]) w':=⟨x,e,rfl,hx,hn⟩
theorem u0:U64 0:=⟨by omega,by omega⟩
theorem nw (x y:Int):U64 (bor .u64 x y):=lr _
theorem B0 (x y:Int):U64 (bxor .u64 x y):=lr _
theorem tR (w:World) {l:Int} (h1:96≤l) (h2:l<256):Does 66 [.int .i64 l] w λv w'=>v=.int .i64 (l * 8)∧w'=w:=by
 refine does Tryz.func66 ?_
 rw [qI]
 refine aD (λh=>absurd h (by omega)) (λ_=>aD (λh=>absurd h (by omega)) (λ_=>⟨?_,rfl⟩))
 rw [w64 (by omega) (by omega)]
theorem B9 (w:World) {i:Int} (h0:0≤i) (h1:i<6):Does 78 [.int .i64 i] w λv w'=>v=.int .i64 (32+i)∧w'=w:=by
 refine does Tryz.func78 ?_
 rw [rg]
 refine aC (i2 w i) ?_
 rintro v w1 ⟨rfl,rfl⟩
 refine ⟨_,rfl,eE (by simp;omega) ⟨?_,rfl⟩⟩
 rw [w64 (by omega) (by omega)]
theorem zx (w:World) {i:Int} (h0:0≤i) (h1:i<6):Does 81 [.int .i64 i] w λv w'=>v=.int .i64 (40+i)∧w'=w:=by
 refine does Tryz.func81 ?_
 rw [pV]
 refine aC (i2 w i) ?_
 rintro v w1 ⟨rfl,rfl⟩
 refine ⟨_,rfl,eE (by simp;omega) ⟨?_,rfl⟩⟩
 rw [w64 (by omega) (by omega)]
theorem tS (w:World) {i:Int} (h0:0≤i) (h1:i<6):Does 117 [.int .i64 i] w λv w'=>v=.int .i64 ((6+i * 15) * 8)∧w'=w:=by
 refine does Tryz.func117 ?_
 rw [qK]
 refine aC (i2 w i) ?_
 rintro v w1 ⟨rfl,rfl⟩
 refine ⟨_,rfl,eE (by simp;omega) ⟨?_,rfl⟩⟩
 rw [w64 (x:=i * 15) (by omega) (by omega),w64 (x:=6+i * 15) (by omega) (by omega),w64 (by omega) (by omega)]
theorem Ca (w:World) {i:Int} (h0:0≤i) (h1:i<6):Does 77 [.int .i64 i] w λv w'=>v=.int .i64 ((6+i * 15) * 8+1)∧w'=w:=by
 refine does Tryz.func77 ?_
 rw [rf]
 refine aC (i2 w i) ?_
 rintro v w1 ⟨rfl,rfl⟩
 refine ⟨_,rfl,eE (by simp;omega) ?_⟩
 refine aC (tS w1 h0 h1) ?_
 rintro v w2 ⟨rfl,rfl⟩
 refine ⟨_,rfl,?_,rfl⟩
 rw [w64 (by omega) (by omega)]
theorem AA (w:World) {i:Int} (h0:0≤i) (h1:i<6):Does 115 [.int .i64 i] w λv w'=>v=.int .i64 ((6+i * 15) * 8+8)∧w'=w:=by
 refine does Tryz.func115 ?_
 rw [qJ]
 refine aC (i2 w i) ?_
 rintro v w1 ⟨rfl,rfl⟩
 refine ⟨_,rfl,eE (by simp;omega) ?_⟩
 refine aC (tS w1 h0 h1) ?_
 rintro v w2 ⟨rfl,rfl⟩
 refine ⟨_,rfl,?_,rfl⟩
 rw [w64 (by omega) (by omega)]
theorem Df (w:World) (i:Int):Does 120 [.int .i64 i] w λv w'=>(∃ b,v=.bool b)∧w'=w:=by
 refine does Tryz.func120 ?_
 rw [sO]
 exact aD (λ_=>aD (λ_=>⟨⟨_,rfl⟩,rfl⟩) (λ_=>⟨⟨_,rfl⟩,rfl⟩)) (λ_=>⟨⟨_,rfl⟩,rfl⟩)
theorem Ez (w:World) (i c:Int):Does 76 [.int .i64 i,.int .i64 c] w (WE w):=by
 refine does Tryz.func76 ?_
 rw [sN]
 refine aC (Df w i) ?_
 rintro v w1 ⟨⟨b,rfl⟩,rfl⟩
 refine ⟨_,rfl,lm (λ_=>we u0 (Keep.refl _ _)) (λ_=>?_)⟩
 refine aC (i2 w1 c) ?_
 rintro v w2 ⟨rfl,rfl⟩
 exact ⟨_,rfl,lm (λ_=>we u0 (Keep.refl _ _)) (λ_=>we (nw _ _) (Keep.refl _ _))⟩
theorem Cb (w:World) (i c:Int):Does 80 [.int .i64 i,.int .i64 c] w (WE w):=by
 refine does Tryz.func80 ?_
 rw [rh]
 refine aC (Df w i) ?_
 rintro v w1 ⟨⟨b,rfl⟩,rfl⟩
 exact ⟨_,rfl,lm (λ_=>we u0 (Keep.refl _ _)) (λ_=>aD (λ_=>we u0 (Keep.refl _ _)) (λ_=>aD (λ_=>we u0 (Keep.refl _ _)) (λ_=>we (nw _ _) (Keep.refl _ _))))⟩
theorem DH (w:World) (i:Int):Does 116 [.int .i64 i] w (WE w):=by
 refine does Tryz.func116 ?_
 rw [rX]
 exact aD (λ_=>we u0 (Keep.refl _ _)) (λ_=>aD (λ_=>we u0 (Keep.refl _ _)) (λ_=>we (nw _ _) (Keep.refl _ _)))
theorem wz (w:World) (a b c:Int):Does 121 [.int .u64 a,.int .u64 b,.int .u64 c] w (WE w):=by
 refine does Tryz.func121 ?_
 rw [oP]
 exact aD (λ_=>we u0 (Keep.refl _ _)) (λ_=>aD (λ_=>we u0 (Keep.refl _ _)) (λ_=>aD (λ_=>we u0 (Keep.refl _ _)) (λ_=>we (nw _ _) (Keep.refl _ _))))
theorem DI (w:World) (h c:Int):Does 148 [.int .u64 h,.int .i64 c] w (WE w):=by
 refine does Tryz.func148 ?_
 rw [rY]
 refine aC (i2 w c) ?_
 rintro v w1 ⟨rfl,rfl⟩
 refine ⟨_,rfl,lm (λ_=>we u0 (Keep.refl _ _)) (λ_=>?_)⟩
 refine aC (Ap w1 h) ?_
 rintro v w2 ⟨rfl,rfl⟩
 exact ⟨_,rfl,lm (λ_=>we u0 (Keep.refl _ _)) (λ_=>we (nw _ _) (Keep.refl _ _))⟩
theorem AB (w:World) (p:aG) (c:Int):Does 118 [p.val,.int .i64 c] w (WE w):=by
 refine does Tryz.func118 ?_
 rw [qL]
 rintro b1 w1 hb1 hw1
 obtain ⟨hz,hn⟩:=aR hb1 hw1
 have hz:Blk w1 b1 p.cells TPg:=hz
 clear hw1
 refine ⟨_,hz.cell (i:=1) rfl,?_⟩
 refine aC (DI w1 p.Head c) ?_
 rintro v w2 ⟨x,e,rfl,hx,hn2⟩
 exact ⟨_,_,rfl,we hx (hn.new hn2)⟩
theorem tT (w:World) (n:Int):Does 112 [.int .i64 n] w (WE w):=by
 refine does Tryz.func112 ?_
 rw [mz]
 refine aD (λ_=>we u0 (Keep.refl _ _)) (λ_=>aD (λ_=>we u0 (Keep.refl _ _)) (λh5=>?_))
 refine aW mix (λm env u=>∃ (i:Nat) (x:Int) (jj:List Value),m=10 - i∧i≤5∧env=dI n x i jj∧u=w∧U64 x) 10
  ⟨0,_,_,by omega,by omega,rfl,rfl,⟨by omega,by omega⟩⟩ ?_
 rintro m env u ⟨i,x,jj,rfl,hi,rfl,rfl,hx⟩
 rw [iS]
 refine aD (λhp=>⟨oL _,?_⟩) (λhp=>?_)
 ·rw [w64 (x:=(i:Int)+1) (by omega) (by omega)]
  exact ⟨10 - (i+1),by omega,i+1,_,_,rfl,by omega,rfl,rfl,nw _ _⟩
 ·rw [jW]
  exact we hx (Keep.refl _ _)
theorem uF {w:World} {b n i:Nat} (hb:U64B w b n) {x:Int} (hx:U64 x) {z:Int} (hz:z=i) (hi:i<n) {K:Addr→World→Prop} (hk:∀ ad w',U64B w' b n→Keep (λk=>k=b) w w'→(∀ c m,U64B w c m→U64B w' c m)→K ad w') :
  idxS (some ⟨b,0,none⟩) n z 1 λad=>(∃ v,w.cell? ad=some v)∧w.frozen? ad=false∧∀ w',w'=w.setCell ad (.int .u64 x)→K ad w':=by
 subst hz
 have e:0+(i:Int).toNat * 1=i:=by omega
 refine bI (by omega) (by omega) ⟨?_,?_,?_⟩
 ·rw [e];obtain ⟨y,hy,_⟩:=hb.get hi;exact ⟨_,hy⟩
 ·rw [e];exact hb.frozen
 ·rintro w' rfl
  rw [e]
  exact hk _ _ (hb.set b i hx) (aZ _ _ _ _) λc m h=>h.set b i hx
set_option maxHeartbeats 1000000 in
theorem wA (w:World) (n:Int) {lines:Nat} (h1:98≤lines) (h2:lines≤256):Does 72 [.int .i64 n,.int .i64 lines] w λv w'=>∃ b,v=.slice (some ⟨b,0,none⟩) (lines * 8) (lines * 8)∧U64B w' b (lines * 8)∧w.heap.size≤b∧New w w':=by
 refine does Tryz.func72 ?_
 rw [oM]
 have hL:IntKind.i64.wrap ((lines:Int) * 8)=((lines * 8:Nat):Int):=by rw [w64 (by omega) (by omega)];omega
 rw [hL,show ((lines * 8:Nat):Int).toNat=lines * 8 from Int.toNat_natCast _]
 refine ⟨by omega,by omega,by omega,by omega,?_⟩
 rintro b w1 hb hw1
 obtain ⟨hz,hn⟩:=aR hb hw1
 have hz:U64B w1 b (lines * 8):=⟨List.replicate (lines * 8) 0,by rw [←Ax];exact hz,by simp,λx hx=>by rw [List.eq_of_mem_replicate hx];exact u0⟩
 clear hw1
 have hb0:w.heap.size≤b:=by omega
 have stp:∀ {u u':World},New w u→Keep (λk=>k=b) u u'→New w u':=λh1 h2=>h1.trans h2 λk hlt e=>by omega
 refine uF hz (x:=1) ⟨by omega,by omega⟩ (z:=0) (i:=0) (by omega) (by omega) λ_ w2 hz2 hk2 _=>?_
 refine uF hz2 (x:=1) ⟨by omega,by omega⟩ (i:=1) (by omega) (by omega) λ_ w3 hz3 hk3 _=>?_
 have hn3:=stp (stp hn hk2) hk3
 refine aC (tT w3 n) ?_
 rintro v w4 ⟨x,e,rfl,hx,hn4⟩
 refine ⟨_,_,rfl,?_⟩
 refine aC (qT w4 (i:=0) (by omega) (by omega)) ?_
 rintro v w5 ⟨rfl,rfl⟩
 refine ⟨_,rfl,?_⟩
 refine uF (hz3.new hn4) (nw _ _) (i:=8) (by omega) (by omega) λ_ w6 hz6 hk6 _=>?_
 have hn6:=stp (hn3.new hn4) hk6
 refine aW mix (λm env u=>∃ (i:Nat) (jj:List Value),m=6 - i∧i≤6∧env=eg lines (some ⟨b,0,none⟩) (lines * 8) (lines * 8) i jj∧New w u∧U64B u b (lines * 8)) 6
  ⟨0,_,by omega,by omega,rfl,hn6,hz6⟩ ?_
 rintro m env u ⟨i,jj,rfl,hi,rfl,hnu,hzu⟩
 rw [jU]
 refine aD (λhp=>?_) (λhp=>?_)
 ·refine aC (Aw u (i:=i) (by omega) (by omega)) ?_
  rintro v u1 ⟨rfl,rfl⟩
  refine ⟨_,rfl,uF hzu (x:=1) ⟨by omega,by omega⟩ (i:=24+i) (by omega) (by omega) λ_ u2 hz2 hk2 _=>?_⟩
  rw [w64 (x:=(i:Int)+1) (by omega) (by omega)]
  exact ⟨6 - (i+1),by omega,i+1,_,rfl,by omega,rfl,stp hnu hk2,hz2⟩
 ·rw [lu]
  refine aW mix (λm env u=>∃ (i:Nat) (jj:List Value),m=lines - i∧96≤i∧i≤lines∧env=eh lines (some ⟨b,0,none⟩) (lines * 8) (lines * 8) i jj∧New w u∧U64B u b (lines * 8)) (lines - 96)
   ⟨96,_,by omega,by omega,by omega,rfl,hnu,hzu⟩ ?_
  clear hnu hzu hp hi
  rintro m env u ⟨i,jj,rfl,hi1,hi,rfl,hnu,hzu⟩
  rw [jV]
  refine aD (λhp=>?_) (λhp=>?_)
  ·have hlt:i<lines:=by omega
   refine uF hzu (x:=256) ⟨by omega,by omega⟩ (i:=i * 8) (by rw [w64 (by omega) (by omega)];omega) (by omega) λ_ u2 hz2 hk2 _=>?_
   rw [w64 (x:=(i:Int)+1) (by omega) (by omega)]
   exact ⟨lines - (i+1),by omega,i+1,_,rfl,by omega,by omega,rfl,stp hnu hk2,hz2⟩
  ·rw [lv]
   exact ⟨b,rfl,hzu,hb0,hnu⟩
end Go.Proofs.YtafopfaomkklpaaGreat
namespace Go.Proofs.YtafopfaomkklpaaGreat
open Go.Proofs.Tryz
open Go.Eng IntKind
variable (w:World) (R:Value→World→Prop)
def gA (s0 s1 s2:Int) (s7:Addr) (s8:Int) (j:LV):LV:=[(.int .i64 s0),(.int .i64 s1),(.int .i64 s2),jg j 0,jg j 1,jg j 2,jg j 3,(.pointer (some s7)),(.int .i64 s8),jg j 4,jg j 5,jg j 6,jg j 7,jg j 8,jg j 9,jg j 10,jg j 11,jg j 12,jg j 13,jg j 14,jg j 15,jg j 16,jg j 17,jg j 18,jg j 19,jg j 20,jg j 21,jg j 22,jg j 23,jg j 24,jg j 25,jg j 26,jg j 27,jg j 28,jg j 29,jg j 30,jg j 31,jg j 32,jg j 33,jg j 34,jg j 35,jg j 36,jg j 37,jg j 38,jg j 39,jg j 40,jg j 41,jg j 42,jg j 43,jg j 44,jg j 45,jg j 46,jg j 47,jg j 48,jg j 49,jg j 50,jg j 51]
def lU (s1:Int) (a:Addr) (j:LV):LV:=jq j 0 1 (.int .i64 s1::jq j 1 5 (.pointer (some a)::jq j 6 49 []))
def gB (s1:Int) (s7:Addr) (s9:Int) (j:LV):LV:=jq j 0 1 (.int .i64 s1::jq j 1 5 (.pointer (some s7)::jq j 6 1 (.int .i64 s9::jq j 7 47 [])))
def lV (a:Addr) (j:LV):LV:=jq j 0 7 (.pointer (some a)::jq j 7 49 [])
theorem sP (p0 p1 p2:Int):fnW prog f23 [.int .i64 p0,.int .i64 p1,.int .i64 p2] R w=(∀ b1 w1,b1=w.heap.size→w1=w.alloc (.cells #[.int .i64 p2,.slice none 0 0,.slice none 0 0,.slice none 0 0,.slice none 0 0] 160)→bW prog (.loop (sub (aA f23) [1,1,0,1,0,0])) (gA p0 p1 p2 ⟨b1,0,none⟩ 0 (uq 3 (.pointer none::undef::ji p2::.agg #[.int .i64 p2,.slice none 0 0,.slice none 0 0,.slice none 0 0,.slice none 0 0]::jp ⟨b1,0,none⟩::uq 44 []))) (aK 0 (nx f23 [1,1,1] R)) w1):=by kernel_rfl
theorem ny (s0 s1 s2:Int) (s7:Addr) (s8:Int) (j:LV) (N1:LV→World→Prop):W prog (sub (aA f23) [1,1,0,1,0,0]) (gA s0 s1 s2 s7 s8 j) (seqQ N1 (aK 0 (nx f23 [1,1,1] R))) w=((bif (decide ((s8:Int)<s0)) then (∀ w1,w1=w.drew→∃ Sx:World→Prop,Sx w1∧∃ a b c,(∀ u,Sx u→u.cell? ⟨s7.block,s7.off+1,none⟩=some (.slice a b c))∧Calls prog 70 #[.int .i64 s2] w1 λe w2=>aO.ex λg=>e=.returned g.val∧Sx w2∧∀ b1 w3,b1=w2.heap.size→w3=w2.alloc (.cells g.cells.toArray 162)→Sx w3∧∃ ap d f,∃ w4,(Builtin.append_ #[155,155] 155 #[.slice a b c,.slice (some ⟨b1,0,none⟩) 1 1]).run prog w3=.ok (.slice ap d f) w4∧(∃ u,w4.cell? ⟨s7.block,s7.off+1,none⟩=some u)∧w4.frozen? ⟨s7.block,s7.off+1,none⟩=false∧∀ w5,w5=w4.setCell ⟨s7.block,s7.off+1,none⟩ (.slice ap d f)→N1 (gA s0 s1 s2 s7 (i64.wrap (s8+1)) (jq j 0 8 (ji s8::ji s0::jb (decide ((s8:Int)<s0))::ji s8::ji (i64.wrap (s8+1))::jp s7::jp s7::jp s7::jf s7 1::js a b c::ji s2::g.val::js (some ⟨b1,0,none⟩) 1 1::js ap d f::jp s7::jf s7 1::jq j 24 28 []))) w5) else (W prog (sub (aA f23) [1,1,1]) (lU s1 s7 (ji s0::ji s2::jq j 0 4 (ji s8::jq j 4 4 (ji s8::ji s0::jb (decide ((s8:Int)<s0))::jq j 11 41 [])))) (retQ prog f23 R) w))):=by kernel_rfl
theorem px (s1:Int) (a:Addr) (j:LV):W prog (sub (aA f23) [1,1,1]) (lU s1 a j) (retQ prog f23 R) w=(bW prog (.loop (sub (aA f23) [1,1,1,0,1,0,0])) (gB s1 a 0 (jq j 0 7 (jq j 8 47 []))) (aK 2 (nx f23 [1,1,1,1] R)) w):=by kernel_rfl
theorem nz (s1:Int) (s7:Addr) (s9:Int) (j:LV) (N2:LV→World→Prop):W prog (sub (aA f23) [1,1,1,0,1,0,0]) (gB s1 s7 s9 j) (seqQ N2 (aK 2 (nx f23 [1,1,1,1] R))) w=((bif (decide ((s9:Int)<s1)) then (∃ a b c,w.cell? ⟨s7.block,s7.off+2,none⟩=some (.slice a b c)∧∀ b1 w1,b1=w.heap.size→w1=w.alloc (.cells #[.bool true,.int .i64 1,.bool false,.slice none 0 0,.slice none 0 0,.int .i64 0,.int .i64 0] 166)→∃ (ap:Option Addr) (d f:Nat),∃ w2,(Builtin.append_ #[156,156] 156 #[.slice a b c,.slice (some ⟨b1,0,none⟩) 1 1]).run prog w1=.ok (.slice ap d f) w2∧(∃ u,w2.cell? ⟨s7.block,s7.off+2,none⟩=some u)∧w2.frozen? ⟨s7.block,s7.off+2,none⟩=false∧∀ w3,w3=w2.setCell ⟨s7.block,s7.off+2,none⟩ (.slice ap d f)→∃ g h i,w3.cell? ⟨s7.block,s7.off+3,none⟩=some (.slice g h i)∧∀ b2 w4,b2=w3.heap.size→w4=w3.alloc (.cells #[.slice none 0 0] 158)→∃ (k:Option Addr) (l m:Nat),∃ w5,(Builtin.append_ #[157,157] 157 #[.slice g h i,.slice (some ⟨b2,0,none⟩) 1 1]).run prog w4=.ok (.slice k l m) w5∧(∃ u,w5.cell? ⟨s7.block,s7.off+3,none⟩=some u)∧w5.frozen? ⟨s7.block,s7.off+3,none⟩=false∧∀ w6,w6=w5.setCell ⟨s7.block,s7.off+3,none⟩ (.slice k l m)→Calls prog 71 #[.pointer (some s7),.int .i64 s9] w6 λe w7=>e=.returned (.tuple #[])∧N2 (gB s1 s7 (i64.wrap (s9+1)) (jq j 0 26 [ji s9,ji s1,jb (decide ((s9:Int)<s1)),ji s9,ji (i64.wrap (s9+1)),jp s7,jp s7,jp s7,jf s7 2,js a b c,.agg #[.bool true,.int .i64 1,.bool false,.slice none 0 0,.slice none 0 0,.int .i64 0,.int .i64 0],js (some ⟨b1,0,none⟩) 1 1,js ap d f,jp s7,jf s7 2,jp s7,jp s7,jp s7,jf s7 3,js g h i,js (some ⟨b2,0,none⟩) 1 1,js k l m,jp s7,jf s7 3,jp s7,ji s9,.tuple #[],jg j 53])) w7) else (W prog (sub (aA f23) [1,1,1,1]) (lV s7 (jg j 0::ji s1::jq j 1 6 (ji s9::jq j 7 19 (ji s9::ji s1::jb (decide ((s9:Int)<s1))::jq j 29 25 [])))) (retQ prog f23 R) w))):=by kernel_rfl
theorem py (a:Addr) (j:LV):W prog (sub (aA f23) [1,1,1,1]) (lV a j) (retQ prog f23 R) w=(R (.pointer (some a)) w):=by kernel_rfl
def dD (s0:Addr) (s2:Int) (j:LV):LV:=.pointer (some s0)::jq j 0 1 (.int .i64 s2::jq j 1 26 [])
theorem lW (p0:Nat):fnW prog f24 [.pointer (some ⟨p0,0,none⟩)] R w=(bW prog (.loop (sub (aA f24) [1,0,0])) (dD ⟨p0,0,none⟩ 0 (uq 27 [])) (aK 0 (retQ prog f24 R)) w):=by kernel_rfl
theorem iM (s0:Addr) (s2:Int) (j:LV) (N1:LV→World→Prop):W prog (sub (aA f24) [1,0,0]) (dD s0 s2 j) (seqQ N1 (aK 0 (retQ prog f24 R))) w=(∃ a b c,w.cell? ⟨s0.block,s0.off+1,none⟩=some (.slice a b c)∧(bif (decide ((s2:Int)<(b:Nat))) then (∀ w1,w1=w.drew→∃ Sx:World→Prop,Sx w1∧∃ d f g,(∀ u,Sx u→u.cell? ⟨s0.block,s0.off+1,none⟩=some (.slice d f g))∧∃ h i k,(∀ u,Sx u→u.cell? ⟨s0.block,s0.off+1,none⟩=some (.slice h i k))∧∃ l,(∀ u,Sx u→u.cell? s0=some (.int .i64 l))∧Calls prog 72 #[.int .i64 (i:Nat),.int .i64 l] w1 λe w2=>∃ m n o,e=.returned (.slice m n o)∧Sx w2∧idxS d f s2 2 λad=>(∃ u,w2.cell? ad=some u)∧w2.frozen? ad=false∧∀ w3,w3=w2.setCell ad (.slice m n o)→N1 (dD s0 (i64.wrap (s2+1)) [jg j 0,ji s2,jp s0,jp s0,jf s0 1,js a b c,jn b,jb (decide ((s2:Int)<(b:Nat))),ji s2,ji (i64.wrap (s2+1)),jp s0,jp s0,jf s0 1,js d f g,ji s2,jp s0,jp s0,jf s0 1,js h i k,jn i,jp s0,jp s0,jp s0,ji l,js m n o,jp ad,jp ad]) w3) else (R (.tuple #[]) w))):=by kernel_rfl
theorem pW (p0:Int):fnW prog f70 [.int .i64 p0] R w=(∀ b1 w1,b1=w.heap.size→w1=w.alloc (.cells #[.slice none 0 0,.bool false] 162)→mk3 (i64.wrap (p0 * 8)) (i64.wrap (p0 * 8)) 8 (.cells (reps (Int.toNat (i64.wrap (p0 * 8))) [.int .u64 0]).toArray 32) w1 λb2 w2=>wrAt w2 ⟨b1,0,none⟩ 0 [.slice (some ⟨b2,0,none⟩) (Int.toNat (i64.wrap (p0 * 8))) (Int.toNat (i64.wrap (p0 * 8))),.bool true]∧∀ w3,w3=puts w2 ⟨b1,0,none⟩ 0 [.slice (some ⟨b2,0,none⟩) (Int.toNat (i64.wrap (p0 * 8))) (Int.toNat (i64.wrap (p0 * 8))),.bool true]→aO.ex λa=>aE w3 ⟨b1,0,none⟩ 0 a.cells∧w3=w3∧R a.val w3):=by kernel_rfl
def dJ (s0:Addr) (s1:Int) (s4:Option Addr) (a b:Nat) (s5:Int) (j:LV):LV:=.pointer (some s0)::.int .i64 s1::jq j 0 2 (.slice s4 a b::.int .i64 s5::jq j 2 30 [])
def gQ (a:Addr) (s1:Int) (s4:Option Addr) (b c:Nat) (j:LV):LV:=.pointer (some a)::.int .i64 s1::jq j 0 2 (.slice s4 b c::jq j 2 31 [])
theorem mC (p0:Nat) (p1:Int):fnW prog f71 [.pointer (some ⟨p0,0,none⟩),.int .i64 p1] R w=(bW prog (.loop (sub (aA f71) [1,0,1,0,0])) (dJ ⟨p0,0,none⟩ p1 none 0 0 0 (uq 32 [])) (aK 0 (nx f71 [1,1] R)) w):=by kernel_rfl
theorem iT (s0:Addr) (s1:Int) (s4:Option Addr) (a b:Nat) (s5:Int) (j:LV) (N1:LV→World→Prop):W prog (sub (aA f71) [1,0,1,0,0]) (dJ s0 s1 s4 a b s5 j) (seqQ N1 (aK 0 (nx f71 [1,1] R))) w=(∃ c d f,w.cell? ⟨s0.block,s0.off+1,none⟩=some (.slice c d f)∧(bif (decide ((s5:Int)<(d:Nat))) then (∃ g h i,w.cell? ⟨s0.block,s0.off+2,none⟩=some (.slice g h i)∧idxS g h s1 7 λad=>∃ k,w.cell? ⟨ad.block,ad.off+1,none⟩=some (.int .i64 k)∧∀ b1 w1,b1=w.heap.size→w1=w.alloc (.cells #[.int .i64 s1,.int .i64 k,.int .i64 s5,.slice none 0 0] 189)→∃ ap l m,∃ w2,(Builtin.append_ #[158,158] 158 #[.slice s4 a b,.slice (some ⟨b1,0,none⟩) 1 1]).run prog w1=.ok (.slice ap l m) w2∧N1 (dJ s0 s1 ap l m (i64.wrap (s5+1)) (jg j 0::jg j 1::ji s5::jp s0::jp s0::jf s0 1::js c d f::jn d::jb (decide ((s5:Int)<(d:Nat)))::ji s5::ji (i64.wrap (s5+1))::js s4 a b::ji s1::jp s0::jp s0::jf s0 2::js g h i::ji s1::jp ad::jf ad 1::ji k::ji s5::.agg #[.int .i64 s1,.int .i64 k,.int .i64 s5,.slice none 0 0]::js (some ⟨b1,0,none⟩) 1 1::js ap l m::jq j 25 7 [])) w2) else (W prog (sub (aA f71) [1,1]) (gQ s0 s1 s4 a b (jg j 0::jg j 1::ji s5::ji s5::jp s0::jp s0::jf s0 1::js c d f::jn d::jb (decide ((s5:Int)<(d:Nat)))::jq j 9 23 [])) (retQ prog f71 R) w))):=by kernel_rfl
theorem jX (a:Addr) (s1:Int) (s4:Option Addr) (b c:Nat) (j:LV):W prog (sub (aA f71) [1,1]) (gQ a s1 s4 b c j) (retQ prog f71 R) w=(∃ d f g,w.cell? ⟨a.block,a.off+3,none⟩=some (.slice d f g)∧idxS d f s1 1 λad=>(∃ u,w.cell? ad=some u)∧w.frozen? ad=false∧∀ w1,w1=w.setCell ad (.slice s4 b c)→R (.tuple #[]) w1):=by kernel_rfl
end Go.Proofs.YtafopfaomkklpaaGreat
