import Derived.Test.YtegepanmkjemjaaGreatProg
import Derived.Test.YtegepanmkjemjaaGreatu03
set_option linter.unusedVariables false
namespace Go.Proofs.YtegepanmkjemjaaGreat
open Go.Proofs.Tryz
open Go.Eng IntKind
variable (w:World) (R:Value→World→Prop)
theorem rW (p0:aM):fnW prog f107 [p0.val] R w=(∀ b1 w1,b1=w.heap.size→w1=w.alloc (.cells p0.cells.toArray 30)→∀ b2 w2,b2=w1.heap.size→w2=w1.alloc (.cells #[(.int .i64 0),(.int .i64 0),(.bool false)] 103)→∃ a b c,w2.cell? ⟨b1,1,none⟩=some (.slice a b c)∧(bif (((b:Nat):Int) == 0) then (wrAt w2 ⟨b2,0,none⟩ 0 [(.int .i64 0),(.int .i64 0),(.bool false)]∧∀ w3,w3=puts w2 ⟨b2,0,none⟩ 0 [(.int .i64 0),(.int .i64 0),(.bool false)]→aC.ex λh=>aE w3 ⟨b2,0,none⟩ 0 h.cells∧w3=w3∧R (.tuple #[h.val,(.bool false)]) w3) else (∃ d f g,w2.cell? ⟨b1,1,none⟩=some (.slice d f g)∧idxS d f 0 3 λad=>aC.ex λr=>aE w2 ad 0 r.cells∧wrAt w2 ⟨b2,0,none⟩ 0 r.cells∧∀ w4,w4=puts w2 ⟨b2,0,none⟩ 0 r.cells→aC.ex λi=>aE w4 ⟨b2,0,none⟩ 0 i.cells∧w4=w4∧R (.tuple #[i.val,(.bool true)]) w4))):=by kernel_rfl
def fT (s1:Int) (s2:Addr) (a:Option Addr) (b c:Nat) (d f:Int) (j:LV):LV:=jq j 0 1 (.int .i64 s1::.pointer (some s2)::jq j 1 25 (.slice a b c::.int .i64 d::.int .i64 f::jq j 26 50 []))
def m8 (a:Addr) (j:LV):LV:=jq j 0 2 (.pointer (some a)::jq j 2 78 [])
def ij (s2:Addr) (a:Option Addr) (b c:Nat) (d f:Int) (j:LV):LV:=jq j 0 2 (.pointer (some s2)::jq j 2 59 (.slice a b c::.int .i64 d::.int .i64 f::jq j 61 16 []))
def m9 (a:Addr) (j:LV):LV:=jq j 0 2 (.pointer (some a)::jq j 2 78 [])
theorem uh (p0:aM) (p1:Int):fnW prog f141 [p0.val,.int .i64 p1] R w=(∀ b1 w1,b1=w.heap.size→w1=w.alloc (.cells p0.cells.toArray 30)→Calls prog 171 #[.int .i64 p1] w1 λe w2=>∃ a,e=.returned (.bool a)∧(bif (!a) then (R (.int .i64 1) w2) else (∃ b,w2.cell? ⟨b1,0,none⟩=some (.int .i64 b)∧(bif (decide ((b:Int)<0)) then (R (.int .i64 2) w2) else (∃ c,w2.cell? ⟨b1,0,none⟩=some (.int .i64 c)∧(bif (decide ((c:Int)≥16)) then (R (.int .i64 2) w2) else (∃ d f g,w2.cell? ⟨b1,1,none⟩=some (.slice d f g)∧(bif (((f:Nat):Int) == 0) then (R (.int .i64 1) w2) else (∃ h i k,w2.cell? ⟨b1,1,none⟩=some (.slice h i k)∧cD prog (.loop (sub (aD f141) [1,1,0,1,0,0])) (fT p1 ⟨b1,0,none⟩ h i k (i:Nat) 0 (p0.val::undef::ji 0::uq 4 (jb (!a)::ji p1::jb a::jb (!a)::jb (decide ((c:Int)≥16))::jp ⟨b1,0,none⟩::ji b::jb (decide ((b:Int)<0))::jb false::jp ⟨b1,0,none⟩::ji c::jb (decide ((c:Int)≥16))::jb (decide ((c:Int)≥16))::jb (((f:Nat):Int) == 0)::jp ⟨b1,1,none⟩::js d f g::jn f::jb (((f:Nat):Int) == 0)::jp ⟨b1,1,none⟩::uq 50 []))) (aI 1 (nx f141 [1,1,1] R)) w2))))))))):=by kernel_rfl
theorem nf (s1:Int) (s2:Addr) (a:Option Addr) (b c:Nat) (d f:Int) (j:LV) (N1:LV→World→Prop):W prog (sub (aD f141) [1,1,0,1,0,0]) (fT s1 s2 a b c d f j) (seqQ N1 (aI 1 (nx f141 [1,1,1] R))) w=((bif (decide ((f:Int)<d)) then (idxS a b f 3 λad=>aC.ex λr=>aE w ad 0 r.cells∧∀ b1 w1,b1=w.heap.size→w1=w.alloc (.cells #[.int .i64 0,.int .i64 0,.bool false] 103)→wrAt w1 ⟨b1,0,none⟩ 0 r.cells∧∀ w2,w2=puts w1 ⟨b1,0,none⟩ 0 r.cells→∀ w3,w3=w2.drew→∃ Sx:World→Prop,Sx w3∧∃ g,(∀ u,Sx u→u.cell? ⟨b1,0,none⟩=some (.int .i64 g))∧(bif (decide ((g:Int)<0)) then (R (.int .i64 1) w3) else (∃ h,(∀ u,Sx u→u.cell? ⟨b1,0,none⟩=some (.int .i64 h))∧(bif (decide ((h:Int)≥s1)) then (R (.int .i64 1) w3) else ((bif (decide ((f:Int)>0)) then (∃ i,(∀ u,Sx u→u.cell? ⟨b1,0,none⟩=some (.int .i64 i))∧∃ k l m,(∀ u,Sx u→u.cell? ⟨s2.block,s2.off+1,none⟩=some (.slice k l m))∧idxS k l (i64.wrap (f - 1)) 3 λo=>∃ n,(∀ u,Sx u→u.cell? o=some (.int .i64 n))∧(bif (decide ((i:Int)≤n)) then (R (.int .i64 1) w3) else (N1 (fT s1 s2 a b c d (i64.wrap (f+1)) (jg j 0::jg j 1::jg j 2::ji f::jp ⟨b1,0,none⟩::jq j 5 21 (jb (decide ((f:Int)<d))::ji f::jp ad::r.val::jp ⟨b1,0,none⟩::ji g::jb (decide ((g:Int)<0))::jb false::jp ⟨b1,0,none⟩::ji h::ji s1::jb (decide ((h:Int)≥s1))::jb (decide ((h:Int)≥s1))::jb false::ji f::jb (decide ((f:Int)>0))::jb true::jp ⟨b1,0,none⟩::ji i::jf s2 1::js k l m::ji f::ji (i64.wrap (f - 1))::jp o::jp o::ji n::jb (decide ((i:Int)≤n))::jb (decide ((i:Int)≤n))::jb (decide ((i:Int)≤n))::ji (i64.wrap (f+1))::jq j 56 20 []))) w3))) else (N1 (fT s1 s2 a b c d (i64.wrap (f+1)) (jg j 0::jg j 1::jg j 2::ji f::jp ⟨b1,0,none⟩::jq j 5 21 (jb (decide ((f:Int)<d))::ji f::jp ad::r.val::jp ⟨b1,0,none⟩::ji g::jb (decide ((g:Int)<0))::jb false::jp ⟨b1,0,none⟩::ji h::ji s1::jb (decide ((h:Int)≥s1))::jb (decide ((h:Int)≥s1))::jb false::ji f::jb (decide ((f:Int)>0))::jb false::uq 10 (jb false::jb false::ji (i64.wrap (f+1))::jq j 56 20 [])))) w3))))))) else (W prog (sub (aD f141) [1,1,1]) (m8 s2 (jg j 0::ji s1::jq j 1 25 (js a b c::ji d::ji f::jb (decide ((f:Int)<d))::jq j 27 49 []))) (retQ prog f141 R) w))):=by kernel_rfl
theorem pG (a:Addr) (j:LV):W prog (sub (aD f141) [1,1,1]) (m8 a j) (retQ prog f141 R) w=(∃ b c d,w.cell? ⟨a.block,a.off+1,none⟩=some (.slice b c d)∧cD prog (.loop (sub (aD f141) [1,1,1,0,1,0,0])) (ij a b c d (c:Nat) 0 (jq j 0 60 (jf a 1::jq j 64 16 []))) (aI 3 (nx f141 [1,1,1,1] R)) w):=by kernel_rfl
theorem ng (s2:Addr) (a:Option Addr) (b c:Nat) (d f:Int) (j:LV) (N2:LV→World→Prop):W prog (sub (aD f141) [1,1,1,0,1,0,0]) (ij s2 a b c d f j) (seqQ N2 (aI 3 (nx f141 [1,1,1,1] R))) w=((bif (decide ((f:Int)<d)) then (idxS a b f 3 λad=>aC.ex λr=>aE w ad 0 r.cells∧∀ b1 w1,b1=w.heap.size→w1=w.alloc (.cells #[.int .i64 0,.int .i64 0,.bool false] 103)→wrAt w1 ⟨b1,0,none⟩ 0 r.cells∧∀ w2,w2=puts w1 ⟨b1,0,none⟩ 0 r.cells→∃ g,w2.cell? ⟨b1,1,none⟩=some (.int .i64 g)∧(bif (decide ((g:Int)<1)) then (R (.int .i64 2) w2) else (∃ h,w2.cell? ⟨b1,1,none⟩=some (.int .i64 h)∧(bif (decide ((h:Int)>31)) then (R (.int .i64 2) w2) else (N2 (ij s2 a b c d (i64.wrap (f+1)) (jq j 0 7 (jp ⟨b1,0,none⟩::jq j 8 53 (jb (decide ((f:Int)<d))::jp ad::r.val::jp ⟨b1,1,none⟩::ji g::jb (decide ((g:Int)<1))::jb false::jp ⟨b1,1,none⟩::ji h::jb (decide ((h:Int)>31))::jb (decide ((h:Int)>31))::ji (i64.wrap (f+1))::jq j 73 4 [])))) w2))))) else (W prog (sub (aD f141) [1,1,1,1]) (m9 s2 (jq j 0 61 (js a b c::ji d::ji f::jb (decide ((f:Int)<d))::jq j 62 15 []))) (retQ prog f141 R) w))):=by kernel_rfl
theorem pH (a:Addr) (j:LV):W prog (sub (aD f141) [1,1,1,1]) (m9 a j) (retQ prog f141 R) w=(∃ b c d,w.cell? ⟨a.block,a.off+1,none⟩=some (.slice b c d)∧Calls prog 172 #[.slice b c d,.func (.func 173) #[] #[]] w λe w1=>∃ f,e=.returned (.bool f)∧(bif (!f) then (R (.int .i64 13) w1) else (R (.int .i64 0) w1))):=by kernel_rfl
theorem rX (p0:Int):fnW prog f171 [.int .i64 p0] R w=((bif (decide ((p0:Int)≥1)) then (R (.bool (decide ((p0:Int)≤5))) w) else (R (.bool false) w))):=by kernel_rfl
theorem eL (p0:Option Addr) (a b:Nat) (p1:Value):fnW prog f172 [.slice p0 a b,p1] R w=(Calls prog 195 #[.slice p0 a b,p1] w λe w1=>∃ c,e=.returned (.int .i64 c)∧R (.bool (decide ((c:Int)≥0))) w1):=by kernel_rfl
theorem tc (p0:aC):fnW prog f173 [p0.val] R w=(∀ b1 w1,b1=w.heap.size→w1=w.alloc (.cells p0.cells.toArray 103)→∃ a,w1.cell? ⟨b1,2,none⟩=some (.bool a)∧R (.bool a) w1):=by kernel_rfl
theorem rY (p0:aM):fnW prog f187 [p0.val] R w=(∀ b1 w1,b1=w.heap.size→w1=w.alloc (.cells p0.cells.toArray 30)→∃ a b c,w1.cell? ⟨b1,1,none⟩=some (.slice a b c)∧(bif (((b:Nat):Int) == 0) then (R (.slice none 0 0) w1) else (∃ d f g,w1.cell? ⟨b1,1,none⟩=some (.slice d f g)∧sl3 d f g 1 (f:Nat) (g:Nat) 3 λxa xl xc=>Calls prog 204 #[.slice xa xl xc] w1 λe w2=>∃ h i k,e=.returned (.slice h i k)∧R (.slice h i k) w2))):=by kernel_rfl
def aZ (s0:Option Addr) (a b:Nat) (s1:Value) (s7 s8:Int) (j:LV):LV:=.slice s0 a b::s1::jq j 0 5 (.int .i64 s7::.int .i64 s8::jq j 5 10 [])
def cP  (j:LV):LV:=jq j 0 19 []
theorem fC (p0:Option Addr) (a b:Nat) (p1:Value):fnW prog f195 [.slice p0 a b,p1] R w=(cD prog (.loop (sub (aD f195) [1,0,1,0,0])) (aZ p0 a b p1 (a:Nat) 0 (uq 2 (ji 0::undef::js p0 a b::uq 10 []))) (aI 0 (nx f195 [1,1] R)) w):=by kernel_rfl
theorem el (s0:Option Addr) (a b:Nat) (s1:Value) (s7 s8:Int) (j:LV) (N1:LV→World→Prop):W prog (sub (aD f195) [1,0,1,0,0]) (aZ s0 a b s1 s7 s8 j) (seqQ N1 (aI 0 (nx f195 [1,1] R))) w=((bif (decide ((s8:Int)<s7)) then (idxS s0 a s8 3 λad=>aC.ex λr=>aE w ad 0 r.cells∧n0 prog s1 #[r.val] w λe w1=>∃ c,e=.returned (.bool c)∧(bif c then (R (.int .i64 s8) w1) else (N1 (aZ s0 a b s1 s7 (i64.wrap (s8+1)) [jg j 0,jg j 1,jg j 2,ji s8,jg j 4,jb (decide ((s8:Int)<s7)),ji s8,s1,js s0 a b,ji s8,jp ad,r.val,jb c,jg j 13,ji (i64.wrap (s8+1))]) w1))) else (W prog (sub (aD f195) [1,1]) (cP  (js s0 a b::s1::jq j 0 5 (ji s7::ji s8::jb (decide ((s8:Int)<s7))::jq j 6 9 []))) (retQ prog f195 R) w))):=by kernel_rfl
theorem eF  (j:LV):W prog (sub (aD f195) [1,1]) (cP  j) (retQ prog f195 R) w=(R (.int .i64 (-1)) w):=by kernel_rfl
theorem rZ (p0:aM) (p1:aC) (p2:Bool) (p3:aK):fnW prog f202 [p0.val,p1.val,.bool p2,p3.val] R w=(∀ b1 w1,b1=w.heap.size→w1=w.alloc (.cells p0.cells.toArray 30)→∀ b2 w2,b2=w1.heap.size→w2=w1.alloc (.cells p1.cells.toArray 103)→∀ b3 w3,b3=w2.heap.size→w3=w2.alloc (.cells p3.cells.toArray 166)→∀ b4 w4,b4=w3.heap.size→w4=w3.alloc (.cells #[.int .i64 0,.int .i64 0,.int .i64 0,.int .i64 0,.int .u64 0,.int .u64 0,.slice none 0 0,.int .u64 0,.int .i64 0] 166)→∀ w5,w5=w4.drew→∃ Sx:World→Prop,Sx w5∧∃ a,(∀ u,Sx u→u.cell? ⟨b2,0,none⟩=some (.int .i64 a))∧∃ b,(∀ u,Sx u→u.cell? ⟨b2,1,none⟩=some (.int .i64 b))∧(∃ u,w5.cell? ⟨b3,1,none⟩=some u)∧w5.frozen? ⟨b3,1,none⟩=false∧∀ w6,w6=w5.setCell ⟨b3,1,none⟩ (.int .i64 a)→Sx w6∧(∃ u,w6.cell? ⟨b3,8,none⟩=some u)∧w6.frozen? ⟨b3,8,none⟩=false∧∀ w7,w7=w6.setCell ⟨b3,8,none⟩ (.int .i64 b)→∃ c,w7.cell? ⟨b1,0,none⟩=some (.int .i64 c)∧Calls prog 90 #[.int .i64 c,.bool p2] w7 λe w8=>∃ d f,e=.returned (.tuple #[.int .u64 d,.int .i64 f])∧(∃ u,w8.cell? ⟨b3,7,none⟩=some u)∧w8.frozen? ⟨b3,7,none⟩=false∧∀ w9,w9=w8.setCell ⟨b3,7,none⟩ (.int .u64 d)→∃ g h i,w9.cell? ⟨b3,6,none⟩=some (.slice g h i)∧Calls prog 53 #[.slice g h i] w9 λe n=>∃ k l m,e=.returned (.slice k l m)∧(∃ u,n.cell? ⟨b3,6,none⟩=some u)∧n.frozen? ⟨b3,6,none⟩=false∧∀ o,o=n.setCell ⟨b3,6,none⟩ (.slice k l m)→aK.ex λr=>aE o ⟨b3,0,none⟩ 0 r.cells∧wrAt o ⟨b4,0,none⟩ 0 r.cells∧∀ p,p=puts o ⟨b4,0,none⟩ 0 r.cells→aK.ex λq=>aE p ⟨b4,0,none⟩ 0 q.cells∧p=p∧R q.val p):=by kernel_rfl
end Go.Proofs.YtegepanmkjemjaaGreat
namespace Go.Proofs.YtegepanmkjemjaaGreat
open Go.Proofs.Tryz
open Go.Eng
abbrev TMb:TypeId:=103
abbrev TVw:TypeId:=30
abbrev TSM:TypeId:=28
def ik (l:List aC):List (List Value):=l.map aC.cells
theorem yA (l:List aC) (m:aC):(ik (l++[m])).flatten=(ik l).flatten++m.cells:=by simp [ik]
structure Vw where
 number:Int
 mem:List aC
def noM:aC:=⟨0,0,false⟩
def pI (n:Int) (l:List aC) (i:Nat):Bool:=
 decide (0≤(l.getD i noM).Node∧(l.getD i noM).Node<n) && (decide (i=0) || decide ((l.getD (i - 1) noM).Node<(l.getD i noM).Node))
def pJ (m:aC):Bool:=decide (1≤m.Boot∧m.Boot≤31)
def Vw.valid (v:Vw) (n:Int):Int:=
 if ¬ (1≤n∧n≤5) then 1 else if v.number<0∨16≤v.number then 2 else if v.mem.length=0 then 1
 else if (List.range v.mem.length).all (pI n v.mem)=false then 1 else if v.mem.all pJ=false then 2 else if v.mem.any aC.Full=false then 13 else 0
structure ViewAt (M:Nat→Prop) (w:World) (r:aM) (v:Vw):Prop where
 num:r.Number=v.number
 len:r.Members_l=v.mem.length
 cap:r.Members_l≤r.Members_c
 rd:Rd w r.Members (ik v.mem).flatten
 off:(ik v.mem).flatten=[]∨Off M r.Members
 small:v.mem.length≤1000000
theorem ViewAt.new {M:Nat→Prop} {w w':World} {r:aM} {v:Vw} (h:ViewAt M w r v) (hn:New w w'):ViewAt M w' r v:=⟨h.num,h.len,h.cap,h.rd.new hn,h.off,h.small⟩
theorem zB (w:World) (n:Int):Does 171 [.int .i64 n] w λv w'=>v=.bool (decide (1≤n∧n≤5))∧w'=w:=by
 refine does Tryz.func171 ?_
 rw [rX]
 refine aH (λh=>⟨?_,rfl⟩) (λh=>⟨?_,rfl⟩)
 ·congr 1;simp;omega
 ·congr 1;simp;omega
theorem BK (w:World) (m:aC):Does 173 [m.val] w λv w'=>v=.bool m.Full∧New w w':=by
 refine does Tryz.func173 ?_
 rw [tc]
 rintro b1 w1 hb1 hw1
 obtain ⟨hz,hn⟩:=aN hb1 hw1
 exact ⟨_,hz.cell rfl,rfl,hn⟩
theorem EU:mh prog 173=true:=by kernel_rfl
section
attribute [local irreducible] mh n0 ta
theorem wN {w:World} {a:Option Addr} {c:Nat} {l:List aC} (h:Rd w a (ik l).flatten) (hl:l.length≤1000000) :
  Does 195 [.slice a l.length c,.func (.func 173) #[] #[]] w λv w'=>∃ z:Int,v=.int .i64 z∧(decide (z≥0)=l.any aC.Full)∧New w w':=by
 refine does Tryz.func195 ?_
 rw [fC]
 refine aR mix (λm env u=>∃ (i:Nat) (jj:List Value),m=l.length - i∧i≤l.length∧env=aZ a l.length c (.func (.func 173) #[] #[]) l.length i jj∧New w u∧(l.take i).any aC.Full=false) l.length
  ⟨0,_,by omega,by omega,rfl,Keep.refl _ _,rfl⟩ ?_
 rintro m env u ⟨i,jj,rfl,hi,rfl,hn,hno⟩
 rw [el]
 refine aH (λhp=>?_) (λhp=>?_)
 ·have hlt:i<l.length:=by omega
  have hg:l[i]?=some l[i]:=List.getElem?_eq_getElem hlt
  refine gz (cells:=aC.cells) aC.len (by omega) (h.new hn) hg rfl rfl λb o hc _=>aC.mk_ex l[i] ⟨hc,?_⟩
  refine nV EU (xs:=#[l[i].val]) (by simp) ?_
  refine aF (BK _ l[i]) ?_
  rintro v u1 ⟨rfl,hn1⟩
  refine ⟨_,rfl,rm (λhf=>⟨i,rfl,?_,hn.new hn1⟩) (λhf=>?_)⟩
  ·have h1:l.any aC.Full=true:=List.any_eq_true.2 ⟨l[i],List.getElem_mem hlt,hf⟩
   rw [h1]
   simp
  ·rw [w64 (by omega) (by omega)]
   refine ⟨l.length - (i+1),by omega,i+1,_,rfl,by omega,rfl,hn.new hn1,?_⟩
   rw [List.take_add_one,hg,List.any_append,hno]
   simpa using hf
 ·rw [eF]
  have:l.take i=l:=List.take_of_length_le (by omega)
  rw [this] at hno
  exact ⟨-1,rfl,by rw [hno];decide,hn⟩
end
theorem td {w:World} {a:Option Addr} {c:Nat} {l:List aC} (h:Rd w a (ik l).flatten) (hl:l.length≤1000000) :
  Does 172 [.slice a l.length c,.func (.func 173) #[] #[]] w λv w'=>v=.bool (l.any aC.Full)∧New w w':=by
 refine does Tryz.func172 ?_
 rw [eL]
 refine aF (wN h hl) ?_
 rintro v w1 ⟨z,rfl,hz,hn⟩
 exact ⟨_,rfl,by rw [hz],hn⟩
theorem lf {p:Nat→Bool} {n i:Nat} (hi:i<n) (h:p i=false):(List.range n).all p=false:=by
 rw [List.all_eq_false]
 exact ⟨i,List.mem_range.2 hi,by simp [h]⟩
theorem nh {α:Type} {l:List α} {i:Nat} {x d:α} (h:l[i]?=some x):l.getD i d=x:=by rw [List.getD_eq_getElem?_getD,h];rfl
set_option maxHeartbeats 1000000 in
theorem BL {M:Nat→Prop} {w:World} {r:aM} {v:Vw} (h:ViewAt M w r v) (n:Int):Does 141 [r.val,.int .i64 n] w λx w'=>x=.int .i64 (v.valid n)∧New w w':=by
 refine does Tryz.func141 ?_
 rw [uh]
 rintro b1 w1 hb1 hw1
 obtain ⟨hz,hn⟩:=aN hb1 hw1
 have hz:Blk w1 b1 r.cells TVw:=hz
 clear hw1
 have hsm:=h.small
 have hlen:=h.len
 have hnum:=h.num
 unfold Vw.valid
 refine aF (zB _ n) ?_
 rintro x w2 ⟨rfl,rfl⟩
 refine ⟨_,rfl,dQ (λhb=>?_) (λhb=>?_)⟩
 ·rw [if_pos (by simpa using hb)];exact ⟨rfl,hn⟩
 have hn15:1≤n∧n≤5:=by simpa using hb
 rw [if_neg (λe=>e hn15)]
 refine ⟨_,hz.cell rfl,aH (λhp=>?_) (λhp=>⟨_,hz.cell rfl,aH (λhp2=>?_) (λhp2=>?_)⟩)⟩
 ·rw [if_pos (by omega)];exact ⟨rfl,hn⟩
 ·rw [if_pos (by omega)];exact ⟨rfl,hn⟩
 rw [if_neg (by omega)]
 refine ⟨_,_,_,hz.cell rfl,bI (λh0=>?_) (λh0=>⟨_,_,_,hz.cell rfl,?_⟩)⟩
 ·rw [if_pos (by omega)];exact ⟨rfl,hn⟩
 rw [if_neg (by omega)]
 refine aR mix (λm env u=>∃ (i:Nat) (jj:List Value),m=v.mem.length - i∧i≤v.mem.length∧env=fT n ⟨b1,0,none⟩ r.Members r.Members_l r.Members_c r.Members_l i jj∧New w2 u∧∀ k,k<i→pI n v.mem k=true) v.mem.length
  ⟨0,_,by omega,by omega,rfl,Keep.refl _ _,λk hk=>by omega⟩ ?_
 rintro m env u ⟨i,jj,rfl,hi,rfl,hnu,hok⟩
 rw [nf]
 refine aH (λhq=>?_) (λhq=>?_)
 ·have hlt:i<v.mem.length:=by omega
  have hg:v.mem[i]?=some v.mem[i]:=List.getElem?_eq_getElem hlt
  have hgd:=nh (d:=noM) hg
  have hno:pI n v.mem i=false→(List.range v.mem.length).all (pI n v.mem)=false:=lf hlt
  refine gz (cells:=aC.cells) aC.len (by omega) ((h.rd.new hn).new hnu) hg rfl hlen λb o hc _=>aC.mk_ex v.mem[i] ⟨hc,?_⟩
  refine ii (vs:=v.mem[i].cells) rfl (aC.single _) λb2 u2 hb2 hz2 hn2=>?_
  rintro u3 hu3
  have hn3:New u2 u3:=by rw [hu3];exact aT _
  clear hu3
  have hz3:=New.blk hn3 hz2
  have hnu3:=(hnu.new hn2).new hn3
  refine ⟨λy=>New u3 y,Keep.refl _ _,_,λy hy=>(New.blk hy hz3).cell (i:=0) rfl,aH (λhp3=>?_) (λhp3=>⟨_,λy hy=>(New.blk hy hz3).cell (i:=0) rfl,aH (λhp4=>?_) (λhp4=>aH (λhp5=>?_) (λhp5=>?_))⟩)⟩
  ·rw [if_pos (hno (by unfold pI;rw [hgd];simp;omega))];exact ⟨rfl,hn.new hnu3⟩
  ·rw [if_pos (hno (by unfold pI;rw [hgd];simp;omega))];exact ⟨rfl,hn.new hnu3⟩
  ·have hg1:v.mem[i - 1]?=some v.mem[i - 1]:=List.getElem?_eq_getElem (by omega)
   have hgd1:=nh (d:=noM) hg1
   refine ⟨_,λy hy=>(New.blk hy hz3).cell (i:=0) rfl,_,_,_,λy hy=>(New.blk (hnu3.new hy) hz).cell (i:=1) rfl,?_⟩
   refine lq (cells:=aC.cells) aC.len (by omega) ((h.rd.new hn).new hnu3) hg1 (by rw [w64 (by omega) (by omega)];omega) hlen λb' o' hc'=>⟨_,λy hy=>hc' y hy 0 _ rfl,aH (λhp6=>?_) (λhp6=>?_)⟩
   ·rw [if_pos (hno (by unfold pI;rw [hgd,hgd1];simp;omega))];exact ⟨rfl,hn.new hnu3⟩
   ·rw [w64 (by omega) (by omega)]
    refine ⟨v.mem.length - (i+1),by omega,i+1,_,rfl,by omega,rfl,hnu3,λk hk=>?_⟩
    rcases Nat.lt_succ_iff_lt_or_eq.1 hk with hk | rfl
    ·exact hok k hk
    ·unfold pI;rw [hgd,hgd1];simp;omega
  ·rw [w64 (by omega) (by omega)]
   refine ⟨v.mem.length - (i+1),by omega,i+1,_,rfl,by omega,rfl,hnu3,λk hk=>?_⟩
   rcases Nat.lt_succ_iff_lt_or_eq.1 hk with hk | rfl
   ·exact hok k hk
   ·unfold pI;rw [hgd];simp;omega
 have hall:(List.range v.mem.length).all (pI n v.mem)=true:=by
  rw [List.all_eq_true]
  intro k hk
  exact hok k (by have:=List.mem_range.1 hk;omega)
 rw [if_neg (by rw [hall];simp)]
 rw [pG]
 have hzu:=New.blk hnu hz
 refine ⟨_,_,_,hzu.cell (i:=1) rfl,?_⟩
 refine aR mix (λm env z=>∃ (i:Nat) (jj:List Value),m=v.mem.length - i∧i≤v.mem.length∧env=ij ⟨b1,0,none⟩ r.Members r.Members_l r.Members_c r.Members_l i jj∧New w2 z∧(v.mem.take i).all pJ=true) v.mem.length
  ⟨0,_,by omega,by omega,rfl,hnu,rfl⟩ ?_
 clear hzu hnu hok hi hq
 rintro m env u ⟨i,jj,rfl,hi,rfl,hnu,hok⟩
 rw [ng]
 refine aH (λhq=>?_) (λhq=>?_)
 ·have hlt:i<v.mem.length:=by omega
  have hg:v.mem[i]?=some v.mem[i]:=List.getElem?_eq_getElem hlt
  have hno:pJ v.mem[i]=false→v.mem.all pJ=false:=λe=>by
   rw [List.all_eq_false]
   exact ⟨v.mem[i],List.getElem_mem hlt,by simp [e]⟩
  refine gz (cells:=aC.cells) aC.len (by omega) ((h.rd.new hn).new hnu) hg rfl hlen λb o hc _=>aC.mk_ex v.mem[i] ⟨hc,?_⟩
  refine ii (vs:=v.mem[i].cells) rfl (aC.single _) λb2 u2 hb2 hz2 hn2=>?_
  have hnu2:=hnu.new hn2
  refine ⟨_,hz2.cell (i:=1) rfl,aH (λhp3=>?_) (λhp3=>⟨_,hz2.cell (i:=1) rfl,aH (λhp4=>?_) (λhp4=>?_)⟩)⟩
  ·rw [if_pos (hno (by unfold pJ;simp;omega))];exact ⟨rfl,hn.new hnu2⟩
  ·rw [if_pos (hno (by unfold pJ;simp;omega))];exact ⟨rfl,hn.new hnu2⟩
  ·rw [w64 (by omega) (by omega)]
   refine ⟨v.mem.length - (i+1),by omega,i+1,_,rfl,by omega,rfl,hnu2,?_⟩
   rw [List.take_add_one,hg,List.all_append,hok]
   simp [pJ];omega
 have htake:v.mem.take i=v.mem:=List.take_of_length_le (by omega)
 rw [htake] at hok
 rw [if_neg (by rw [hok];simp)]
 rw [pH]
 have hzu:=New.blk hnu hz
 refine ⟨_,_,_,hzu.cell (i:=1) rfl,?_⟩
 rw [hlen]
 refine aF (td ((h.rd.new hn).new hnu) hsm) ?_
 rintro x u3 ⟨rfl,hn3⟩
 refine ⟨_,rfl,dQ (λhf=>?_) (λhf=>?_)⟩
 ·rw [if_pos hf];exact ⟨rfl,hn.new (hnu.new hn3)⟩
 ·rw [if_neg (by rw [hf];simp)];exact ⟨rfl,hn.new (hnu.new hn3)⟩
end Go.Proofs.YtegepanmkjemjaaGreat
namespace Go.Proofs.YtegepanmkjemjaaGreat
open Go.Proofs.Tryz
open Go.Eng
theorem DA {u:World} {a:Option Addr} {n cap:Nat} {L:List aC} (ho:Owns u TMb 3 a n cap (ik L).flatten) (hn:n=L.length) {m:aC} (hb1:n≤1000000) {K:Nat→Option Addr→Nat→Nat→World→Prop}
  (hk:∀ b ap cap' w3,b=u.heap.size→Owns w3 TMb 3 ap (n+1) cap' (ik (L++[m])).flatten→Keep (isB a) u w3→(∀ k,isB ap k→isB a k∨u.heap.size≤k)→K b ap (n+1) cap' w3) :
  ∀ b1 w2,b1=u.heap.size→w2=u.alloc (.cells m.cells.toArray TMb)→∃ (ap:Option Addr) (ap_len ap_cap:Nat),∃ w3,(Builtin.append_ #[TSM,TSM] TSM #[(.slice a n cap),(.slice (some ⟨b1,0,none⟩) 1 1)]).run prog w2=.ok (.slice ap ap_len ap_cap) w3∧K b1 ap ap_len ap_cap w3:=by
 obtain ⟨inf,hi,hz,hsz,hby⟩:=jM (T:=TMb) (z:=.agg #[.int .i64 0,.int .i64 0,.bool false]) (n:=3) (m:=24) (by kernel_rfl)
 rw [←hsz] at ho
 refine push_k Tryz.underlying28 hi hz (by rw [hsz];rfl) (by omega) ho (by rw [hsz];rfl) (aC.single m) (by omega) (by omega) ?_
 intro b ap cap' w3 h1 h2
 rw [hsz,←yA] at h2
 exact hk b ap cap' w3 h1 h2
end Go.Proofs.YtegepanmkjemjaaGreat
namespace Go.Proofs.YtegepanmkjemjaaGreat
open Go.Proofs.Tryz
open Go.Eng IntKind
variable (w:World) (R:Value→World→Prop)
theorem oW (p0:Int):fnW prog f32 [(.int .i64 p0)] R w=(Calls prog 11 #[(.int .i64 p0),(.int .i64 7)] w λe w1=>∃ a,e=.returned (.int .i64 a)∧R (.int .i64 (i64.wrap (98+a))) w1):=by kernel_rfl
theorem oX (p0:Int):fnW prog f33 [.int .i64 p0] R w=(∀ b1 w1,b1=w.heap.size→w1=w.alloc (.cells #[.int .i64 0,.slice none 0 0] 30)→Calls prog 50 #[.int .i64 p0] w1 λe w2=>aM.ex λb=>∃ a,e=.returned (.tuple #[b.val,.int .i64 a])∧∀ b2 w3,b2=w2.heap.size→w3=w2.alloc (.cells #[.int .i64 0,.slice none 0 0] 30)→wrAt w3 ⟨b2,0,none⟩ 0 b.cells∧∀ w4,w4=puts w3 ⟨b2,0,none⟩ 0 b.cells→aM.ex λr=>aE w4 ⟨b2,0,none⟩ 0 r.cells∧wrAt w4 ⟨b1,0,none⟩ 0 r.cells∧∀ w5,w5=puts w4 ⟨b1,0,none⟩ 0 r.cells→aM.ex λc=>aE w5 ⟨b1,0,none⟩ 0 c.cells∧w5=w5∧R c.val w5):=by kernel_rfl
def dT (s0:Int) (s2 s4:Addr) (s5:Int) (j:LV):LV:=.int .i64 s0::jq j 0 1 (.pointer (some s2)::jq j 1 1 (.pointer (some s4)::.int .i64 s5::jq j 2 21 []))
def il (a b:Addr) (j:LV):LV:=jq j 0 2 (.pointer (some a)::jq j 2 1 (.pointer (some b)::jq j 3 22 []))
theorem ni (p0:Int):fnW prog f50 [.int .i64 p0] R w=(∀ b1 w1,b1=w.heap.size→w1=w.alloc (.cells #[.int .i64 0,.slice none 0 0] 30)→(bif (decide ((p0:Int)<1)) then (wrAt w1 ⟨b1,0,none⟩ 0 [.int .i64 0,.slice none 0 0]∧∀ w2,w2=puts w1 ⟨b1,0,none⟩ 0 [.int .i64 0,.slice none 0 0]→aM.ex λa=>aE w2 ⟨b1,0,none⟩ 0 a.cells∧w2=w2∧R (.tuple #[a.val,.int .i64 1]) w2) else ((bif (decide ((p0:Int)>5)) then (wrAt w1 ⟨b1,0,none⟩ 0 [.int .i64 0,.slice none 0 0]∧∀ w3,w3=puts w1 ⟨b1,0,none⟩ 0 [.int .i64 0,.slice none 0 0]→aM.ex λb=>aE w3 ⟨b1,0,none⟩ 0 b.cells∧w3=w3∧R (.tuple #[b.val,.int .i64 1]) w3) else (∀ b2 w4,b2=w1.heap.size→w4=w1.alloc (.cells #[.int .i64 0,.slice none 0 0] 30)→wrAt w4 ⟨b2,0,none⟩ 0 [.int .i64 0,.slice none 0 0]∧∀ w5,w5=puts w4 ⟨b2,0,none⟩ 0 [.int .i64 0,.slice none 0 0]→cD prog (.loop (sub (aD f50) [1,1,1,0,1,0,0])) (dT p0 ⟨b1,0,none⟩ ⟨b2,0,none⟩ 0 (undef::ji 0::ji p0::jb (decide ((p0:Int)<1))::jb false::ji p0::jb (decide ((p0:Int)>5))::jb (decide ((p0:Int)>5))::undef::.agg #[.int .i64 0,.slice none 0 0]::uq 13 [])) (aI 0 (nx f50 [1,1,1,1] R)) w5))))):=by kernel_rfl
theorem jW (s0:Int) (s2 s4:Addr) (s5:Int) (j:LV) (N1:LV→World→Prop):W prog (sub (aD f50) [1,1,1,0,1,0,0]) (dT s0 s2 s4 s5 j) (seqQ N1 (aI 0 (nx f50 [1,1,1,1] R))) w=((bif (decide ((s5:Int)<s0)) then (∃ a b c,w.cell? ⟨s4.block,s4.off+1,none⟩=some (.slice a b c)∧∀ b1 w1,b1=w.heap.size→w1=w.alloc (.cells #[.int .i64 s5,.int .i64 1,.bool true] 103)→∃ ap d f,∃ w2,(Builtin.append_ #[28,28] 28 #[.slice a b c,.slice (some ⟨b1,0,none⟩) 1 1]).run prog w1=.ok (.slice ap d f) w2∧(∃ u,w2.cell? ⟨s4.block,s4.off+1,none⟩=some u)∧w2.frozen? ⟨s4.block,s4.off+1,none⟩=false∧∀ w3,w3=w2.setCell ⟨s4.block,s4.off+1,none⟩ (.slice ap d f)→N1 (dT s0 s2 s4 (i64.wrap (s5+1)) (jq j 0 10 [ji s5,ji s0,jb (decide ((s5:Int)<s0)),ji s5,ji (i64.wrap (s5+1)),jf s4 1,js a b c,ji s5,.agg #[.int .i64 s5,.int .i64 1,.bool true],js (some ⟨b1,0,none⟩) 1 1,js ap d f,jf s4 1,jg j 22])) w3) else (W prog (sub (aD f50) [1,1,1,1]) (il s2 s4 (ji s0::jg j 0::jg j 1::ji s5::jq j 2 8 (ji s5::ji s0::jb (decide ((s5:Int)<s0))::jq j 13 10 []))) (retQ prog f50 R) w))):=by kernel_rfl
theorem kP (a b:Addr) (j:LV):W prog (sub (aD f50) [1,1,1,1]) (il a b j) (retQ prog f50 R) w=(aM.ex λr=>aE w b 0 r.cells∧wrAt w a 0 r.cells∧∀ w1,w1=puts w a 0 r.cells→aM.ex λc=>aE w1 a 0 c.cells∧w1=w1∧R (.tuple #[c.val,.int .i64 0]) w1):=by kernel_rfl
end Go.Proofs.YtegepanmkjemjaaGreat
namespace Go.Proofs.YtegepanmkjemjaaGreat
open Go.Eng
theorem DB {x n:Int} (hn:1≤n):0≤(if n<1 then 0 else x % n)∧(if n<1 then 0 else x % n)<n:=by
 rw [if_neg (by omega)]
 exact ⟨Int.emod_nonneg x (by omega),Int.emod_lt_of_pos x (by omega)⟩
theorem zC (w:World) {x:Int} (hx:I64 x):Does 32 [.int .i64 x] w λv w'=>v=.int .i64 (98+x % 7)∧w'=w:=by
 refine does Tryz.func32 ?_
 rw [oW]
 refine aF (oM w x 7 hx (by omega)) ?_
 rintro v w1 ⟨rfl,rfl⟩
 have:=DB (x:=x) (n:=7) (by omega)
 rw [if_neg (by omega)] at this
 refine ⟨_,rfl,?_,rfl⟩
 rw [if_neg (by omega),w64 (by omega) (by omega)]
structure FV (v:Vw):Prop where
 num:0≤v.number∧v.number<16
 boot:∀ m ∈ v.mem,1≤m.Boot
 ne:v.mem≠[]
 few:v.mem.length≤5
abbrev EV (A:Nat):Nat→Prop:=λk=>k<A
theorem FW {w:World} {n:Int} {a:Option Addr} {c A:Nat} {L:List aC} (ho:Owns w TMb 3 a L.length c (ik L).flatten) (hl:L.length≤1000000) (hf:∀ k,isB a k→A≤k):ViewAt (EV A) w ⟨n,a,L.length,c⟩ ⟨n,L⟩:=
 ⟨rfl,rfl,ho.le,ho.rd,q7 ho.rd λk hk h=>Nat.lt_irrefl _ (Nat.lt_of_lt_of_le h (hf k hk)),hl⟩
theorem ViewAt.mono {M M':Nat→Prop} {w:World} {r:aM} {v:Vw} (h:ViewAt M w r v) (hm:∀ k,k<w.heap.size→M' k→M k):ViewAt M' w r v:=by
 refine ⟨h.num,h.len,h.cap,h.rd,?_,h.small⟩
 rcases h.off with e | e
 ·exact .inl e
 ·rcases h.rd with e2 | ⟨b,o,e2,hc⟩
  ·exact .inl e2
  ·by_cases he:(ik v.mem).flatten=[]
   ·exact .inl he
   ·rw [e2] at e ⊢
    refine .inr λhM=>e (hm _ ?_ hM)
    cases hl:(ik v.mem).flatten with
    |nil=>exact absurd hl he
    |cons x xs=>exact wL (hc 0 x (by rw [hl];rfl))
def stM (n:Nat):List aC:=(List.range n).map λ(i:Nat)=>⟨(i:Int),1,true⟩
theorem ml (n:Nat):(stM n).length=n:=by simp [stM]
theorem BM (n:Nat):stM (n+1)=stM n++[⟨(n:Int),1,true⟩]:=by simp [stM,List.range_succ]
theorem BN {n:Nat} {m:aC} (h:m ∈ stM n):1≤m.Boot:=by
 simp only [stM,List.mem_map] at h
 obtain ⟨i,_,rfl⟩:=h
 exact Int.le_refl _
theorem yB (w:World) {n:Int} (h1:1≤n) (h5:n≤5):Does 50 [.int .i64 n] w λx w'=>∃ (a:Option Addr) (c:Nat) (L:List aC),x=.tuple #[aM.val ⟨0,a,L.length,c⟩,.int .i64 0]∧Owns w' TMb 3 a L.length c (ik L).flatten∧New w w'∧L=stM n.toNat∧(∀ k,isB a k→w.heap.size≤k):=by
 refine does Tryz.func50 ?_
 rw [ni]
 rintro b1 w1 hb1 hw1
 obtain ⟨hz1,hn1⟩:=aN hb1 hw1
 have hz1:Blk w1 b1 (aM.cells ⟨0,none,0,0⟩) TVw:=hz1
 clear hw1
 refine aH (λhp=>absurd hp (by omega)) (λ_=>aH (λhp=>absurd hp (by omega)) (λ_=>?_))
 refine ii (vs:=aM.cells ⟨0,none,0,0⟩) rfl (aM.single _) λb2 w3 hb2 hz3 hn3=>?_
 have hz13:=New.blk hn3 hz1
 have hn03:=hn1.new hn3
 have hs1:=hn1.size
 have hs1':=hz1.lt
 refine aR mix (λm env u=>∃ (i:Nat) (a:Option Addr) (c:Nat) (L:List aC) (jj:List Value),m=n.toNat - i∧i≤n.toNat∧env=dT n ⟨b1,0,none⟩ ⟨b2,0,none⟩ i jj∧New w u∧Blk u b1 (aM.cells ⟨0,none,0,0⟩) TVw∧Blk u b2 (aM.cells ⟨0,a,L.length,c⟩) TVw∧Owns u TMb 3 a L.length c (ik L).flatten∧(∀ k,isB a k→b2<k)∧L=stM i) n.toNat
  ⟨0,none,0,[],_,by omega,by omega,rfl,hn03,hz13,hz3,Owns.nil _ _ _,(λk hk=>by obtain ⟨o,ho⟩:=hk;cases ho),rfl⟩ ?_
 rintro m env u ⟨i,a,c,L,jj,rfl,hi,rfl,hnu,hu1,hu2,hown,hfr,hLs⟩
 have hLi:L.length=i:=by rw [hLs,ml]
 rw [jW]
 refine aH (λhq=>?_) (λhq=>?_)
 ·refine ⟨_,_,_,hu2.cell (i:=1) rfl,?_⟩
  refine DA hown rfl (m:=⟨i,1,true⟩) (by omega) ?_
  intro b3 ap cap u3 hb3 ho3 hk3 hap
  have hu13:=hk3.blk hu1 λe=>by have:=hfr b1 e;omega
  have hu23:=hk3.blk hu2 λe=>by have:=hfr b2 e;omega
  have hus:=hu2.lt
  have hfr3:∀ k,isB ap k→b2<k:=λk hk=>by
   rcases hap k hk with h1 | h1
   ·exact hfr k h1
   ·omega
  refine mI (b:=b2) hu23 (o:=0+1) (by simp [aM.cells]) λu4 hu24 hk4=>?_
  rw [w64 (by omega) (by omega)]
  refine ⟨n.toNat - (i+1),by omega,i+1,ap,cap,L++[⟨i,1,true⟩],_,rfl,by omega,rfl,?_,hk4.blk hu13 (by omega),?_,?_,hfr3,by rw [hLs,BM]⟩
  ·have h1:New w u3:=jN hnu hk3 λk hk=>by have:=hfr k hk;omega
   exact h1.trans hk4 λk hlt e=>by omega
  ·rw [List.length_append];exact hu24
  ·rw [List.length_append];exact Owns.keep hk4 ho3 λk hk e=>by have:=hfr3 k hk;omega
 ·have hin:i=n.toNat:=by omega
  rw [kP]
  refine aM.mk_ex ⟨0,a,L.length,c⟩ ⟨aJ hu2 rfl,?_⟩
  refine ⟨cH hu1 (by simp [aM.cells]) (aM.single _),λu2 hu=>?_⟩
  have hk:Keep (λk=>k=b1) u u2:=by rw [hu];exact dL _ _ _ _ _
  have hz:Blk u2 b1 (aM.cells ⟨0,a,L.length,c⟩) TVw:=by rw [hu];exact hu1.puts
  refine aM.mk_ex ⟨0,a,L.length,c⟩ ⟨aJ hz rfl,rfl,a,c,L,rfl,?_,?_,by rw [hLs,hin],?_⟩
  ·exact Owns.keep hk hown λk hk' e=>by have:=hfr k hk';omega
  ·exact hnu.trans hk λk hlt e=>by omega
  ·intro k hk';have:=hfr k hk';omega
theorem zD (w:World) {n:Int} (h1:1≤n) (h5:n≤5):Does 33 [.int .i64 n] w λx w'=>∃ r v,x=aM.val r∧ViewAt (EV w.heap.size) w' r v∧New w w'∧FV v∧v=⟨0,stM n.toNat⟩:=by
 refine does Tryz.func33 ?_
 rw [oX]
 rintro b1 w1 hb1 hw1
 obtain ⟨hz1,hn1⟩:=aN hb1 hw1
 have hz1:Blk w1 b1 (aM.cells ⟨0,none,0,0⟩) TVw:=hz1
 clear hw1
 refine aF (yB w1 h1 h5) ?_
 rintro v w2 ⟨a,c,L,rfl,hown,hn2,hLs,hfr⟩
 have hLn:(L.length:Int)=n:=by rw [hLs,ml];omega
 have hbt:∀ m ∈ L,1≤m.Boot:=λm hm=>BN (hLs▸hm)
 refine aM.mk_ex ⟨0,a,L.length,c⟩ ⟨_,rfl,?_⟩
 refine ii (vs:=aM.cells ⟨0,a,L.length,c⟩) rfl (aM.single _) λb2 w3 hb2 hz3 hn3=>?_
 refine aM.mk_ex ⟨0,a,L.length,c⟩ ⟨aJ hz3 rfl,?_⟩
 have hz13:=New.blk (hn2.new hn3) hz1
 have hown3:=Owns.new hn3 hown
 refine ⟨cH hz13 (by simp [aM.cells]) (aM.single _),λu2 hu=>?_⟩
 have hk:Keep (λk=>k=b1) w3 u2:=by rw [hu];exact dL _ _ _ _ _
 have hz:Blk u2 b1 (aM.cells ⟨0,a,L.length,c⟩) TVw:=by rw [hu];exact hz13.puts
 have hne:∀ k,isB a k→k≠b1:=λk hk' e=>by
  subst e
  obtain ⟨o,ho⟩:=hk'
  rcases hown3.2 with ⟨h,_⟩ | ⟨g,cur,he,hg,_⟩
  ·rw [h] at ho;cases ho
  ·rw [he] at ho
   simp at ho
   exact absurd (hg.uniq (ho.1▸hz13)).2 (by decide)
 refine aM.mk_ex ⟨0,a,L.length,c⟩ ⟨aJ hz rfl,rfl,_,⟨0,L⟩,rfl,FW (Owns.keep hk hown3 hne) (by omega) (λk hk'=>by have:=hfr k hk';have:=hn1.size;omega),?_,⟨⟨by simp,by simp⟩,hbt,λe=>?_,?_⟩,by rw [hLs]⟩
 ·exact (hn1.new (hn2.new hn3)).trans hk λk hlt e=>by omega
 ·have e:L=[]:=e
  rw [e] at hLn
  simp at hLn <;> omega
 ·show L.length≤5
  omega
end Go.Proofs.YtegepanmkjemjaaGreat
