/- A part of the proof. -/
import Derived.Test.YtafopfaomkklpaaGreatp03
import Derived.Test.YtafopfaomkklpaaGreatp05
import Derived.Test.YtafopfaomkklpaaGreatProg
set_option linter.unusedVariables false
namespace Go.Proofs.YtafopfaomkklpaaGreat
open Go.Proofs.Tryz
open Go.ChangeShapes Go.WideShapes Go.ChangeAt Go.RowKit Go.Eng
section
variable {H:Type} {enc:TypeId×Value→H} {W:World} {held:Bool}
theorem BW {P:Program} {t:TypeId} {fs:Array Field} {r:Reach} {base:Nat} {v:Value} {d:DataW H} {p:List MemPlace} (ht:P.underlying t=some (.struct fs)) (hv:Value.okWide P W r base t v) (h:DataW.Trod enc P W 0 (λ_=>true) held t v d p):∃ cs:List Value,v=.agg cs.toArray∧∃ fuel x,DataW.trod enc P W 0 (λ_=>true) held fuel t cs=some x:=by
 obtain ⟨cs,rfl,_⟩:=okWide_struct ht hv
 obtain ⟨fuel,hf⟩:=h
 exact ⟨cs.toList,by simp,fuel,_,hf⟩
theorem len5 {cs:List Value} (h:cs.length=5):∃ a b c d e,cs=[a,b,c,d,e]:=by
 match cs,h with
 | [a,b,c,d,e],_=>exact ⟨a,b,c,d,e,rfl⟩
theorem fld {P:Program} {fs:Array Field} {xs:List (DataW H×List MemPlace)} {cs:List Value} {n:Nat} (hfs:∀ (i:Nat) (f:Field),fs[i]?=some f→DataW.trod enc P W 0 (λ_=>true) held n f.type ((cs.drop f.offset).take (P.cellsOf f.type))=xs[i]?) (hlen:xs.length=fs.size) (i T off k:Nat) (h:(fs[i]?.map λf=>(f.type,f.offset))=some (T,off)) (hk:P.cellsOf T=k) :
  ∃ x,DataW.trod enc P W 0 (λ_=>true) held n T ((cs.drop off).take k)=some x:=by
 cases hf:fs[i]? with
 |none=>rw [hf] at h;cases h
 |some f=>
  rw [hf] at h
  simp at h
  obtain ⟨rfl,rfl⟩:=h
  subst hk
  have hi:i<xs.length:=by rw [hlen];exact (Array.getElem?_eq_some_iff.1 hf).1
  have:=hfs i f hf
  rw [List.getElem?_eq_getElem hi] at this
  exact ⟨_,this⟩
abbrev TIo:TypeId:=3
theorem cI:prog.cellsOf TIo=1:=by kernel_rfl
end
end Go.Proofs.YtafopfaomkklpaaGreat
namespace Go.Proofs.YtafopfaomkklpaaGreat
open Go.Proofs.Tryz
open Go.Eng IntKind
variable (w:World) (R:Value→World→Prop)
theorem tn (p0 p1:Int):fnW prog f107 [.int .i64 p0,.int .i64 p1] R w=(Calls prog 144 #[.int .i64 p1] w λe w1=>∃ a,e=.returned (.bool a)∧(bif a then ((bif (decide ((p0:Int)≥96)) then (R (.bool (decide ((p0:Int)<p1))) w1) else (R (.bool false) w1))) else (R (.bool false) w1))):=by kernel_rfl
theorem qG (p0 p1:Int):fnW prog f109 [.int .i64 p0,.int .i64 p1] R w=((bif (decide ((p1:Int)≥98)) then ((bif (decide ((p1:Int)≤256)) then ((bif (decide ((p0:Int)≥96)) then (R (.bool (decide ((p0:Int)<p1))) w) else (R (.bool false) w))) else (R (.bool false) w))) else (R (.bool false) w))):=by kernel_rfl
theorem sL (p0:Int):fnW prog f144 [.int .i64 p0] R w=((bif (decide ((p0:Int)≥98)) then (R (.bool (decide ((p0:Int)≤256))) w) else (R (.bool false) w))):=by kernel_rfl
end Go.Proofs.YtafopfaomkklpaaGreat
namespace Go.Proofs.YtafopfaomkklpaaGreat
open Go.Proofs.Tryz
open Go.Eng
theorem rd_i {u:World} {a:Option Addr} {l:List Int} (h:Rd u a (is l)) {i:Nat} {x:Int} (hx:l[i]?=some x) {z:Int} (hz:z=i) {n:Nat} (hn:n=l.length) {K:Addr→Prop}
  (hk:∀ b o,(∀ y,New u y→y.cell? ⟨b,o,none⟩=some (.int .i64 x))→K ⟨b,o,none⟩):idxS a n z 1 K:=by
 subst hz hn
 have hlt:=cN hx
 have hxx:(is l)[i]?=some (.int .i64 x):=by simp [is,hx]
 rcases h with he | ⟨b,o,rfl,hc⟩
 ·rw [he] at hxx;cases hxx
 ·refine bI (by omega) (by omega) ?_
  have:=hk b (o+i) λy hy=>(Rd.new hy (.inr ⟨b,o,rfl,hc⟩)).cell hxx
  simpa using this
def pT (line lines:Int):Bool:=decide (98≤lines∧lines≤256∧96≤line∧line<lines)
theorem BX (w:World) (line lines:Int):Does 107 [.int .i64 line,.int .i64 lines] w λv w'=>v=.bool (pT line lines)∧w'=w:=by
 refine does Tryz.func107 ?_
 rw [tn]
 have h1:Does 144 [.int .i64 lines] w λv w'=>v=.bool (decide (98≤lines∧lines≤256))∧w'=w:=by
  refine does Tryz.func144 ?_
  rw [sL]
  refine aD (λh=>⟨?_,rfl⟩) (λh=>⟨?_,rfl⟩)
  ·have h:98≤lines:=h;congr 1;simp [h]
  ·have h:¬ 98≤lines:=h;congr 1;simp [h]
 refine aC h1 ?_
 rintro v w1 ⟨rfl,rfl⟩
 unfold pT
 refine ⟨_,rfl,aD (λh=>aD (λh2=>⟨?_,rfl⟩) (λh2=>⟨?_,rfl⟩)) (λh=>⟨?_,rfl⟩)⟩
 ·have h2:96≤line:=h2;congr 1;simp [h.1,h.2,h2]
 ·have h2:¬ 96≤line:=h2;congr 1;simp [h2]
 ·congr 1;simp;intro a b;exact absurd ⟨a,b⟩ h
theorem wt (w:World) (line lines:Int):Does 109 [.int .i64 line,.int .i64 lines] w λv w'=>v=.bool (pT line lines)∧w'=w:=by
 refine does Tryz.func109 ?_
 rw [qG]
 unfold pT
 refine aD (λh=>aD (λh1=>aD (λh2=>⟨?_,rfl⟩) (λh2=>⟨?_,rfl⟩)) (λh1=>⟨?_,rfl⟩)) (λh=>⟨?_,rfl⟩)
 ·have h:98≤lines:=h;have h2:96≤line:=h2;congr 1;simp [h,h1,h2]
 ·have h2:¬ 96≤line:=h2;congr 1;simp [h2]
 ·congr 1;simp [h1]
 ·have h:¬ 98≤lines:=h;congr 1;simp [h]
theorem Ff {ρ:Type} {cells:ρ→List Value} {ex:(ρ→Prop)→Prop} (mk:∀ (K:ρ→Prop) r,K r→ex K) (hs:∀ r,∀ u ∈ cells r,single u=true) {u:World} {b1 b2:Nat} {r:ρ} {zs:List Value} {T:TypeId} (h1:Blk u b1 zs T) (hl:zs.length=(cells r).length) (h2:Blk u b2 (cells r) T) {K:ρ→World→Prop} (hk:∀ w',Keep (λk=>k=b1) u w'→K r w') :
  ex λr=>aE u ⟨b2,0,none⟩ 0 (cells r)∧wrAt u ⟨b1,0,none⟩ 0 (cells r)∧∀ w4,w4=puts u ⟨b1,0,none⟩ 0 (cells r)→ex λres=>aE w4 ⟨b1,0,none⟩ 0 (cells res)∧w4=w4∧K res w4:=by
 refine mk _ r ⟨aH h2 (by simp),fF h1 (by rw [hl];omega) (hs r),λw4 hw=>?_⟩
 have hk4:Keep (λk=>k=b1) u w4:=by rw [hw];exact ej _ _ _ _ _
 have hz:Blk w4 b1 (cells r) T:=by
  rw [hw]
  have:=h1.puts (o:=0) (i:=0) (vs:=cells r)
  rw [Nat.add_zero,nU hl.symm] at this
  exact this
 exact mk _ r ⟨aH hz (by simp),rfl,hk w4 hk4⟩
theorem DC {u:World} {a:Option Addr} {n cap:Nat} {L:List Int} (ho:Owns u 3 1 a n cap (is L)) {x:Int} (hb1:n≤1000000) {K:Nat→Option Addr→Nat→Nat→World→Prop}
  (hk:∀ b ap cap' w3,b=u.heap.size→Owns w3 3 1 ap (n+1) cap' (is (L++[x]))→Keep (isB a) u w3→(∀ k,isB ap k→isB a k∨u.heap.size≤k)→K b ap (n+1) cap' w3) :
  ∀ b1 w2,b1=u.heap.size→w2=u.alloc (.cells #[.int .i64 x] 3)→∃ (ap:Option Addr) (ap_len ap_cap:Nat),∃ w3,(Builtin.append_ #[33,33] 33 #[(.slice a n cap),(.slice (some ⟨b1,0,none⟩) 1 1)]).run prog w2=.ok (.slice ap ap_len ap_cap) w3∧K b1 ap ap_len ap_cap w3:=by
 obtain ⟨inf,hi,hz,hsz,hby⟩:=nV (T:=3) (z:=.int .i64 0) (n:=1) (m:=8) (by kernel_rfl)
 rw [←hsz] at ho
 refine C7 (vs:=[.int .i64 x]) Tryz.underlying33 hi hz (by rw [hsz];rfl) (by omega) ho (by rw [hsz];rfl) (by intro v hv;simp at hv;subst hv;rfl) (by omega) (by omega) ?_
 intro b ap cap' w3 h1 h2
 have e:is L++[Value.int .i64 x]=is (L++[x]):=by simp [is]
 rw [hsz,e] at h2
 exact hk b ap cap' w3 h1 h2
theorem nW {w:World} {e sz n cap:Nat} {a:Option Addr} {xs:List Value} (h:Owns w e sz a n cap xs) (hn:0<n):∃ g cur,a=some ⟨g,0,none⟩∧Blk w g cur e∧n * sz≤cur.length:=by
 rcases h.2 with ⟨_,e,_⟩ | ⟨g,cur,rfl,hg,hnc,_,hcl,_⟩
 ·omega
 ·exact ⟨g,cur,rfl,hg,by rw [hcl];exact Nat.mul_le_mul_right _ hnc⟩
def bs (l:List Bool):List Value:=l.map .bool
theorem iZ (x:Int):I64 (IntKind.i64.wrap x):=by
 unfold I64
 simp only [IntKind.wrap,IntKind.bits,IntKind.signed]
 simp
 omega
theorem Da (B:List Bool) (i:Nat) (x:Bool):(bs B).set i (.bool x)=bs (B.set i x):=by simp [bs]
end Go.Proofs.YtafopfaomkklpaaGreat
namespace Go.Proofs.YtafopfaomkklpaaGreat
open Go.Proofs.Tryz
open Go.Eng IntKind
variable (w:World) (R:Value→World→Prop)
def fG (s0:Int) (s4 s5:Addr) (s6:Int) (j:LV):LV:=[(.int .i64 s0),jg j 0,jg j 1,jg j 2,(.pointer (some s4)),(.pointer (some s5)),(.int .i64 s6),jg j 3,jg j 4,jg j 5,jg j 6,jg j 7,jg j 8,jg j 9,jg j 10,jg j 11,jg j 12,jg j 13,jg j 14,jg j 15,jg j 16,jg j 17,jg j 18,jg j 19,jg j 20,jg j 21,jg j 22,jg j 23,jg j 24,jg j 25,jg j 26,jg j 27,jg j 28,jg j 29]
def ld (a b:Addr) (j:LV):LV:=jq j 0 4 (.pointer (some a)::.pointer (some b)::jq j 4 28 [])
theorem rS (p0 p1:Int):fnW prog f73 [.int .i64 p0,.int .i64 p1] R w=(∀ b1 w1,b1=w.heap.size→w1=w.alloc (.cells #[.int .i64 0,.int .u64 0,.int .u64 0,.int .u64 0,.int .u64 0,.int .u64 0,.int .u64 0,.int .u64 0,.int .u64 0] 140)→Calls prog 6 #[.int .i64 p0,.int .i64 (i64.wrap (p1 - 96))] w1 λe w2=>∃ a,e=.returned (.int .i64 a)∧Calls prog 6 #[.int .i64 (i64.wrap (Int.tdiv p0 64)),.int .i64 4] w2 λe w3=>∃ b,e=.returned (.int .i64 b)∧∀ b2 w4,b2=w3.heap.size→w4=w3.alloc (.cells #[.int .i64 0,.int .u64 0,.int .u64 0,.int .u64 0,.int .u64 0,.int .u64 0,.int .u64 0,.int .u64 0,.int .u64 0] 140)→wrAt w4 ⟨b2,0,none⟩ 0 [.int .i64 (i64.wrap (96+a)),.int .u64 (bshl .u64 (u64.wrap (i64.wrap (b+1))) 8),.int .u64 0,.int .u64 0,.int .u64 0,.int .u64 0,.int .u64 0,.int .u64 0,.int .u64 0]∧∀ w5,w5=puts w4 ⟨b2,0,none⟩ 0 [.int .i64 (i64.wrap (96+a)),.int .u64 (bshl .u64 (u64.wrap (i64.wrap (b+1))) 8),.int .u64 0,.int .u64 0,.int .u64 0,.int .u64 0,.int .u64 0,.int .u64 0,.int .u64 0]→bW prog (.loop (sub (aA f73) [1,1,0,1,0,0])) (fG p0 ⟨b1,0,none⟩ ⟨b2,0,none⟩ 0 (ji p1::uq 2 (ji p0::ji p1::ji (i64.wrap (p1 - 96))::ji a::ji (i64.wrap (96+a))::ji p0::ji (i64.wrap (Int.tdiv p0 64))::ji b::ji (i64.wrap (b+1))::ju (u64.wrap (i64.wrap (b+1)))::ju (bshl .u64 (u64.wrap (i64.wrap (b+1))) 8)::.agg #[.int .i64 (i64.wrap (96+a)),.int .u64 (bshl .u64 (u64.wrap (i64.wrap (b+1))) 8),.int .u64 0,.int .u64 0,.int .u64 0,.int .u64 0,.int .u64 0,.int .u64 0,.int .u64 0]::uq 15 []))) (aK 0 (nx f73 [1,1,1] R)) w5):=by kernel_rfl
theorem my (s0:Int) (s4 s5:Addr) (s6:Int) (j:LV) (N1:LV→World→Prop):W prog (sub (aA f73) [1,1,0,1,0,0]) (fG s0 s4 s5 s6 j) (seqQ N1 (aK 0 (nx f73 [1,1,1] R))) w=((bif (decide ((s6:Int)<7)) then (Calls prog 6 #[.int .i64 s0,.int .i64 1048576] w λe w1=>∃ a,e=.returned (.int .i64 a)∧idxA ⟨s5.block,s5.off+2,none⟩ 7 s6 1 λad=>(∃ u,w1.cell? ad=some u)∧w1.frozen? ad=false∧∀ w2,w2=w1.setCell ad (.int .u64 (u64.wrap ((u64.wrap a) * (u64.wrap (i64.wrap (s6+3))))))→N1 (fG s0 s4 s5 (i64.wrap (s6+1)) (jq j 0 15 [ji s6,jb (decide ((s6:Int)<7)),ji s6,ji (i64.wrap (s6+1)),ji s6,ji s0,ji a,ju (u64.wrap a),ji s6,ji (i64.wrap (s6+3)),ju (u64.wrap (i64.wrap (s6+3))),ju (u64.wrap ((u64.wrap a) * (u64.wrap (i64.wrap (s6+3))))),jf s5 2,jp ad,jg j 29])) w2) else (W prog (sub (aA f73) [1,1,1]) (ld s4 s5 (ji s0::jg j 0::jg j 1::jg j 2::ji s6::jq j 3 12 (ji s6::jb (decide ((s6:Int)<7))::jq j 17 13 []))) (retQ prog f73 R) w))):=by kernel_rfl
theorem oK (a b:Addr) (j:LV):W prog (sub (aA f73) [1,1,1]) (ld a b j) (retQ prog f73 R) w=(aG.ex λr=>aE w b 0 r.cells∧wrAt w a 0 r.cells∧∀ w1,w1=puts w a 0 r.cells→aG.ex λc=>aE w1 a 0 c.cells∧w1=w1∧R c.val w1):=by kernel_rfl
def dG (s0:Option Addr) (a b:Nat) (s1 s2:Int) (s7:Option Addr) (c d:Nat) (s8:Int) (j:LV):LV:=.slice s0 a b::.int .i64 s1::.int .i64 s2::jq j 0 4 (.slice s7 c d::.int .i64 s8::jq j 4 62 [])
def kg (s7:Option Addr) (a b:Nat) (j:LV):LV:=jq j 0 7 (.slice s7 a b::jq j 7 63 [])
def eS (s0:Option Addr) (a b:Nat) (s1 s2:Int) (s7:Option Addr) (c d:Nat) (s8:Int) (s9:Addr) (f:Int) (j:LV):LV:=.slice s0 a b::.int .i64 s1::.int .i64 s2::jq j 0 4 (.slice s7 c d::.int .i64 s8::.pointer (some s9)::.int .i64 f::jq j 4 60 [])
def gW (s0:Option Addr) (a b:Nat) (s1 s2:Int) (s7:Option Addr) (c d:Nat) (s8:Int) (f:Addr) (g:Int) (h:Bool) (j:LV):LV:=.slice s0 a b::.int .i64 s1::.int .i64 s2::jq j 0 4 (.slice s7 c d::.int .i64 s8::.pointer (some f)::.int .i64 g::jq j 4 25 (.bool h::jq j 29 34 []))
def ki (s0:Option Addr) (a b:Nat) (s1 s2:Int) (s7:Option Addr) (c d:Nat) (s8:Int) (f:Addr) (g:Int) (j:LV):LV:=.slice s0 a b::.int .i64 s1::.int .i64 s2::jq j 0 4 (.slice s7 c d::.int .i64 s8::.pointer (some f)::.int .i64 g::jq j 4 60 [])
def kj (s0:Option Addr) (a b:Nat) (s1 s2:Int) (s7:Option Addr) (c d:Nat) (s8:Int) (f:Addr) (g:Int) (j:LV):LV:=.slice s0 a b::.int .i64 s1::.int .i64 s2::jq j 0 4 (.slice s7 c d::.int .i64 s8::.pointer (some f)::.int .i64 g::jq j 4 60 [])
def eT (s0:Option Addr) (a b:Nat) (s1 s2:Int) (s7:Option Addr) (c d:Nat) (s8:Int) (f:Addr) (g:Int) (h:Bool) (j:LV):LV:=.slice s0 a b::.int .i64 s1::.int .i64 s2::jq j 0 4 (.slice s7 c d::.int .i64 s8::.pointer (some f)::.int .i64 g::jq j 4 47 (.bool h::jq j 51 12 []))
def eU (s0:Option Addr) (a b:Nat) (s1 s2:Int) (s7:Option Addr) (c d:Nat) (s8:Int) (j:LV):LV:=.slice s0 a b::.int .i64 s1::.int .i64 s2::jq j 0 4 (.slice s7 c d::.int .i64 s8::jq j 4 62 [])
def kn (s0:Option Addr) (a b:Nat) (s1 s2:Int) (s7:Option Addr) (c d:Nat) (s8:Int) (f:Addr) (g:Int) (j:LV):LV:=.slice s0 a b::.int .i64 s1::.int .i64 s2::jq j 0 4 (.slice s7 c d::.int .i64 s8::.pointer (some f)::.int .i64 g::jq j 4 60 [])
theorem qY (p0:Option Addr) (a b:Nat) (p1 p2:Int):fnW prog f113 [.slice p0 a b,.int .i64 p1,.int .i64 p2] R w=(bW prog (.loop (sub (aA f113) [1,1,0,1,0,0])) (dG p0 a b p1 p2 none 0 0 0 (uq 3 (jz::uq 62 []))) (aK 0 (nx f113 [1,1,1] R)) w):=by kernel_rfl
theorem lO (s0:Option Addr) (a b:Nat) (s1 s2:Int) (s7:Option Addr) (c d:Nat) (s8:Int) (j:LV) (QX:Exit→LV→World→Prop):W prog (sub (aA f113) [1,1,0,1,0,0]) (dG s0 a b s1 s2 s7 c d s8 j) (Qr prog f113 R QX) w=((bif (decide ((s8:Int)<(a:Nat))) then (idxS s0 a s8 1 λad=>∃ x,w.cell? ad=some (.int .i64 x)∧Calls prog 73 #[.int .i64 x,.int .i64 s1] w λe w1=>aG.ex λf=>e=.returned f.val∧∀ b1 w2,b1=w1.heap.size→w2=w1.alloc (.cells #[.int .i64 0,.int .u64 0,.int .u64 0,.int .u64 0,.int .u64 0,.int .u64 0,.int .u64 0,.int .u64 0,.int .u64 0] 140)→wrAt w2 ⟨b1,0,none⟩ 0 f.cells∧∀ w3,w3=puts w2 ⟨b1,0,none⟩ 0 f.cells→bW prog (.loop (sub (aA f113) [1,1,0,1,0,0,1,0,0,1,1,0,0,0])) (eS s0 a b s1 s2 s7 c d s8 ⟨b1,0,none⟩ 0 (jq j 0 4 (ji s8::js s0 a b::jn a::jb (decide ((s8:Int)<(a:Nat)))::jg j 10::jg j 11::js s0 a b::ji s8::jp ad::ji x::ji s1::f.val::jq j 18 48 []))) (aK 2 (seqQ (λenv w=>W prog (sub (aA f113) [1,1,0,1,0,0,1,0,0,1,1,1]) env (aK 1 (seqQ (λenv w=>W prog (sub (aA f113) [1,1,0,1,0,0,1,1]) env (Qr prog f113 R QX) w) (Qr prog f113 R QX))) w) (aK 1 (seqQ (λenv w=>W prog (sub (aA f113) [1,1,0,1,0,0,1,1]) env (Qr prog f113 R QX) w) (Qr prog f113 R QX))))) w3) else (QX (.exit 0) (kg s7 c d (js s0 a b::ji s1::ji s2::jq j 0 4 (ji s8::jg j 4::jg j 5::ji s8::js s0 a b::jn a::jb (decide ((s8:Int)<(a:Nat)))::jq j 10 56 []))) w))):=by kernel_rfl
theorem nX (s7:Option Addr) (a b:Nat) (j:LV) (QX:Exit→LV→World→Prop):W prog (sub (aA f113) [1,1,1]) (kg s7 a b j) (Qr prog f113 R QX) w=(R (.slice s7 a b) w):=by kernel_rfl
theorem lP (s0:Option Addr) (a b:Nat) (s1 s2:Int) (s7:Option Addr) (c d:Nat) (s8:Int) (s9:Addr) (f:Int) (j:LV) (QX:Exit→LV→World→Prop):W prog (sub (aA f113) [1,1,0,1,0,0,1,0,0,1,1,0,0,0]) (eS s0 a b s1 s2 s7 c d s8 s9 f j) (Qr prog f113 R QX) w=(∀ w1,w1=w.drew→∃ Sx:World→Prop,Sx w1∧(bif (decide ((f:Int)<(c:Nat))) then (idxS s7 c f 9 λad=>∃ g,(∀ u,Sx u→u.cell? ad=some (.int .i64 g))∧∃ h,(∀ u,Sx u→u.cell? s9=some (.int .i64 h))∧W prog (sub (aA f113) [1,1,0,1,0,0,1,0,0,1,1,0,0,0,0,1]) (gW s0 a b s1 s2 s7 c d s8 s9 f (decide ((g:Int)<h)) (jq j 0 16 (ji f::js s7 c d::jn c::jb (decide ((f:Int)<(c:Nat)))::jb true::js s7 c d::ji f::jp ad::jp ad::ji g::jp s9::ji h::jb (decide ((g:Int)<h))::jq j 30 34 []))) (seqQ (λenv w=>W prog (sub (aA f113) [1,1,0,1,0,0,1,0,0,1,1,0,0,0,1]) env (Qr prog f113 R QX) w) (Qr prog f113 R QX)) w1) else (W prog (sub (aA f113) [1,1,0,1,0,0,1,0,0,1,1,0,0,0,0,1]) (gW s0 a b s1 s2 s7 c d s8 s9 f false (jq j 0 16 (ji f::js s7 c d::jn c::jb (decide ((f:Int)<(c:Nat)))::jb false::uq 8 (jq j 30 34 [])))) (seqQ (λenv w=>W prog (sub (aA f113) [1,1,0,1,0,0,1,0,0,1,1,0,0,0,1]) env (Qr prog f113 R QX) w) (Qr prog f113 R QX)) w1))):=by kernel_rfl
theorem nY (s0:Option Addr) (a b:Nat) (s1 s2:Int) (s7:Option Addr) (c d:Nat) (s8:Int) (f:Addr) (g:Int) (h:Bool) (j:LV) (QX:Exit→LV→World→Prop):W prog (sub (aA f113) [1,1,0,1,0,0,1,0,0,1,1,0,0,0,0,1]) (gW s0 a b s1 s2 s7 c d s8 f g h j) (Qr prog f113 R QX) w=((bif h then (QX .normal (ki s0 a b s1 s2 s7 c d s8 f g (jq j 0 29 (jb h::jq j 29 34 []))) w) else (QX (.exit 2) (kj s0 a b s1 s2 s7 c d s8 f g (jq j 0 29 (jb h::jq j 29 34 []))) w))):=by kernel_rfl
theorem nZ (s0:Option Addr) (a b:Nat) (s1 s2:Int) (s7:Option Addr) (c d:Nat) (s8:Int) (f:Addr) (g:Int) (j:LV) (QX:Exit→LV→World→Prop):W prog (sub (aA f113) [1,1,0,1,0,0,1,0,0,1,1,0,0,0,1]) (ki s0 a b s1 s2 s7 c d s8 f g j) (Qr prog f113 R QX) w=(QX .normal (eS s0 a b s1 s2 s7 c d s8 f (i64.wrap (g+1)) (jq j 0 30 (ji g::ji (i64.wrap (g+1))::jq j 32 32 []))) w):=by kernel_rfl
theorem lQ (env:LV) (w:World) (Q:Exit→LV→World→Prop):W prog (sub (aA f113) [1,1,0,1,0,0,1,0,0,1,1,1]) env Q w=W prog (sub (aA f113) [1,1,0,1,0,0,1,0,0,1,1,1,0]) env (seqQ (λenv w=>W prog (sub (aA f113) [1,1,0,1,0,0,1,0,0,1,1,1,1]) env Q w) Q) w:=by
 rw [show sub (aA f113) [1,1,0,1,0,0,1,0,0,1,1,1]=.seq (sub (aA f113) [1,1,0,1,0,0,1,0,0,1,1,1,0]) (sub (aA f113) [1,1,0,1,0,0,1,0,0,1,1,1,1]) by kernel_rfl]
 generalize sub (aA f113) [1,1,0,1,0,0,1,0,0,1,1,1,0]=a
 generalize sub (aA f113) [1,1,0,1,0,0,1,0,0,1,1,1,1]=b
 kernel_rfl
theorem n8 (s0:Option Addr) (a b:Nat) (s1 s2:Int) (s7:Option Addr) (c d:Nat) (s8:Int) (f:Addr) (g:Int) (j:LV) (QX:Exit→LV→World→Prop):W prog (sub (aA f113) [1,1,0,1,0,0,1,0,0,1,1,1,0]) (kj s0 a b s1 s2 s7 c d s8 f g j) (Qr prog f113 R QX) w=(∀ w1,w1=w.drew→∃ Sx:World→Prop,Sx w1∧(bif (decide ((g:Int)<(c:Nat))) then (idxS s7 c g 9 λad=>∃ h,(∀ u,Sx u→u.cell? ad=some (.int .i64 h))∧∃ i,(∀ u,Sx u→u.cell? f=some (.int .i64 i))∧(bif ((h:Int) == i) then (W prog (sub (aA f113) [1,1,0,1,0,0,1,0,0,1,1,1,0,1]) (eT s0 a b s1 s2 s7 c d s8 f g true (jq j 0 32 (ji g::js s7 c d::jn c::jb (decide ((g:Int)<(c:Nat)))::jb true::js s7 c d::ji g::jp ad::jp ad::ji h::jp f::ji i::jb ((h:Int) == i)::jb ((h:Int) == i)::jb true::uq 4 (jq j 52 12 [])))) (Qr prog f113 R QX) w1) else (W prog (sub (aA f113) [1,1,0,1,0,0,1,0,0,1,1,1,0,1]) (eT s0 a b s1 s2 s7 c d s8 f g (decide (((c:Nat):Int)≥s2)) (jq j 0 32 (ji g::js s7 c d::jn c::jb (decide ((g:Int)<(c:Nat)))::jb true::js s7 c d::ji g::jp ad::jp ad::ji h::jp f::ji i::jb ((h:Int) == i)::jb ((h:Int) == i)::jb false::js s7 c d::jn c::ji s2::jb (decide (((c:Nat):Int)≥s2))::jq j 52 12 []))) (Qr prog f113 R QX) w1))) else (W prog (sub (aA f113) [1,1,0,1,0,0,1,0,0,1,1,1,0,1]) (eT s0 a b s1 s2 s7 c d s8 f g (decide (((c:Nat):Int)≥s2)) (jq j 0 32 (ji g::js s7 c d::jn c::jb (decide ((g:Int)<(c:Nat)))::jb false::uq 8 (jb false::jb false::js s7 c d::jn c::ji s2::jb (decide (((c:Nat):Int)≥s2))::jq j 52 12 [])))) (Qr prog f113 R QX) w1))):=by kernel_rfl
theorem n9 (s0:Option Addr) (a b:Nat) (s1 s2:Int) (s7:Option Addr) (c d:Nat) (s8:Int) (f:Addr) (g:Int) (h:Bool) (j:LV) (QX:Exit→LV→World→Prop):W prog (sub (aA f113) [1,1,0,1,0,0,1,0,0,1,1,1,0,1]) (eT s0 a b s1 s2 s7 c d s8 f g h j) (Qr prog f113 R QX) w=((bif h then (QX (.exit 1) (eU s0 a b s1 s2 s7 c d s8 (jq j 0 4 (jp f::ji g::jq j 4 47 (jb h::jq j 51 12 [])))) w) else (QX .normal (kn s0 a b s1 s2 s7 c d s8 f g (jq j 0 51 (jb h::jq j 51 12 []))) w))):=by kernel_rfl
theorem fP (s0:Option Addr) (a b:Nat) (s1 s2:Int) (s7:Option Addr) (c d:Nat) (s8:Int) (j:LV) (QX:Exit→LV→World→Prop):W prog (sub (aA f113) [1,1,0,1,0,0,1,1]) (eU s0 a b s1 s2 s7 c d s8 j) (Qr prog f113 R QX) w=(QX .normal (dG s0 a b s1 s2 s7 c d (i64.wrap (s8+1)) (jq j 0 10 (ji s8::ji (i64.wrap (s8+1))::jq j 12 54 []))) w):=by kernel_rfl
theorem oc (s0:Option Addr) (a b:Nat) (s1 s2:Int) (s7:Option Addr) (c d:Nat) (s8:Int) (f:Addr) (g:Int) (j:LV) (QX:Exit→LV→World→Prop):W prog (sub (aA f113) [1,1,0,1,0,0,1,0,0,1,1,1,1]) (kn s0 a b s1 s2 s7 c d s8 f g j) (Qr prog f113 R QX) w=(∀ w1,w1=w.drew→∃ Sx:World→Prop,Sx w1∧sl3 s7 c d 0 g (d:Nat) 9 λxa xl xc=>aG.ex λr=>(∀ u,Sx u→aE u f 0 r.cells)∧sl3 s7 c d g (c:Nat) (d:Nat) 9 λac ad ae=>(∃ (ap:Option Addr) (h i:Nat),∃ w2,(Builtin.append_ #[62,62] 62 #[.slice none 0 0,.slice xa xl xc]).run prog w1=.ok (.slice ap h i) w2∧Sx w2∧∀ b1 w3,b1=w2.heap.size→w3=w2.alloc (.cells r.cells.toArray 140)→Sx w3∧∃ (k:Option Addr) (l m:Nat),∃ w4,(Builtin.append_ #[62,62] 62 #[.slice ap h i,.slice (some ⟨b1,0,none⟩) 1 1]).run prog w3=.ok (.slice k l m) w4∧Sx w4∧∃ (n:Option Addr) (o p:Nat),∃ w5,(Builtin.append_ #[62,62] 62 #[.slice k l m,.slice ac ad ae]).run prog w4=.ok (.slice n o p) w5∧Sx w5∧QX .normal (eU s0 a b s1 s2 n o p s8 (jq j 0 4 (jp f::ji g::jq j 4 48 [js s7 c d,ji g,js xa xl xc,js ap h i,r.val,js (some ⟨b1,0,none⟩) 1 1,js k l m,js s7 c d,ji g,js ac ad ae,js n o p,jg j 63]))) w5)∧(∀ b2 w6,b2=w1.heap.size→w6=w1.alloc (.cells r.cells.toArray 140)→Sx w6∧∃ (q:Option Addr) (s t:Nat),∃ w7,(Builtin.append_ #[62,62] 62 #[.slice none 0 0,.slice xa xl xc]).run prog w6=.ok (.slice q s t) w7∧Sx w7∧∃ (v:Option Addr) (x y:Nat),∃ w8,(Builtin.append_ #[62,62] 62 #[.slice q s t,.slice (some ⟨b2,0,none⟩) 1 1]).run prog w7=.ok (.slice v x y) w8∧Sx w8∧∃ (z:Option Addr) (aa ab:Nat),∃ w9,(Builtin.append_ #[62,62] 62 #[.slice v x y,.slice ac ad ae]).run prog w8=.ok (.slice z aa ab) w9∧Sx w9∧QX .normal (eU s0 a b s1 s2 z aa ab s8 (jq j 0 4 (jp f::ji g::jq j 4 48 [js s7 c d,ji g,js xa xl xc,js q s t,r.val,js (some ⟨b2,0,none⟩) 1 1,js v x y,js s7 c d,ji g,js ac ad ae,js z aa ab,jg j 63]))) w9)):=by kernel_rfl
theorem qH (p0:Int):fnW prog f119 [.int .i64 p0] R w=((bif (decide ((p0:Int)≥0)) then (R (.bool (decide ((p0:Int)<6))) w) else (R (.bool false) w))):=by kernel_rfl
def dM (s1:Int) (s2:Addr) (s5:Int) (j:LV):LV:=jq j 0 1 (.int .i64 s1::.pointer (some s2)::jq j 1 2 (.int .i64 s5::jq j 3 94 []))
def gX (a:Addr) (j:LV):LV:=jq j 0 2 (.pointer (some a)::jq j 2 97 [])
def cO (s2:Addr) (s6:Int) (j:LV):LV:=jq j 0 2 (.pointer (some s2)::jq j 2 3 (.int .i64 s6::jq j 5 93 []))
def gY  (j:LV):LV:=jq j 0 100 []
theorem nm (p0:aM) (p1:Int):fnW prog f146 [p0.val,.int .i64 p1] R w=(∀ b1 w1,b1=w.heap.size→w1=w.alloc (.cells p0.cells.toArray 210)→(bif (decide ((p1:Int)<98)) then (R (.int .i64 18) w1) else ((bif (decide ((p1:Int)>256)) then (R (.int .i64 18) w1) else (∃ a,w1.cell? ⟨b1,0,none⟩=some (.int .i64 a)∧(bif (decide ((a:Int)<1)) then (R (.int .i64 1) w1) else (∃ b,w1.cell? ⟨b1,0,none⟩=some (.int .i64 b)∧(bif (decide ((b:Int)≥1073741824)) then (R (.int .i64 1) w1) else (∃ c d f,w1.cell? ⟨b1,1,none⟩=some (.slice c d f)∧(bif (decide (((d:Nat):Int)<1)) then (R (.int .i64 1) w1) else (∃ g h i,w1.cell? ⟨b1,1,none⟩=some (.slice g h i)∧(bif (decide (((h:Nat):Int)>12)) then (R (.int .i64 1) w1) else (bW prog (.loop (sub (aA f146) [1,1,1,0,1,0,0])) (dM p1 ⟨b1,0,none⟩ 0 (p0.val::undef::ji 0::uq 3 (ji p1::jb (decide ((p1:Int)<98))::jb false::ji p1::jb (decide ((p1:Int)>256))::jb (decide ((p1:Int)>256))::jp ⟨b1,0,none⟩::ji a::jb (decide ((a:Int)<1))::jb false::jp ⟨b1,0,none⟩::ji b::jb (decide ((b:Int)≥1073741824))::jb (decide ((b:Int)≥1073741824))::jb false::jp ⟨b1,1,none⟩::js c d f::jn d::jb (decide (((d:Nat):Int)<1))::jb (decide (((d:Nat):Int)<1))::jb false::jp ⟨b1,1,none⟩::js g h i::jn h::jb (decide (((h:Nat):Int)>12))::jb (decide (((h:Nat):Int)>12))::uq 65 []))) (aK 0 (nx f146 [1,1,1,1] R)) w1))))))))))))):=by kernel_rfl
theorem i0 (s1:Int) (s2:Addr) (s5:Int) (j:LV) (N1:LV→World→Prop):W prog (sub (aA f146) [1,1,1,0,1,0,0]) (dM s1 s2 s5 j) (seqQ N1 (aK 0 (nx f146 [1,1,1,1] R))) w=(∃ a b c,w.cell? ⟨s2.block,s2.off+1,none⟩=some (.slice a b c)∧(bif (decide ((s5:Int)<(b:Nat))) then (∃ d f g,w.cell? ⟨s2.block,s2.off+1,none⟩=some (.slice d f g)∧idxS d f s5 9 λad=>∃ h,w.cell? ad=some (.int .i64 h)∧Calls prog 109 #[.int .i64 h,.int .i64 s1] w λe w1=>∃ i,e=.returned (.bool i)∧(bif (!i) then (R (.int .i64 2) w1) else (N1 (dM s1 s2 (i64.wrap (s5+1)) (jq j 0 32 (ji s5::jf s2 1::js a b c::jn b::jb (decide ((s5:Int)<(b:Nat)))::ji s5::ji (i64.wrap (s5+1))::jf s2 1::js d f g::ji s5::jp ad::jp ad::ji h::ji s1::jb i::jb (!i)::jq j 48 49 []))) w1))) else (W prog (sub (aA f146) [1,1,1,1]) (gX s2 (jg j 0::ji s1::jg j 1::jg j 2::ji s5::jq j 3 29 (ji s5::jf s2 1::js a b c::jn b::jb (decide ((s5:Int)<(b:Nat)))::jq j 37 60 []))) (retQ prog f146 R) w))):=by kernel_rfl
theorem ko (a:Addr) (j:LV):W prog (sub (aA f146) [1,1,1,1]) (gX a j) (retQ prog f146 R) w=(bW prog (.loop (sub (aA f146) [1,1,1,1,0,1,0,0])) (cO a 0 (jq j 0 5 (jq j 6 93 []))) (aK 2 (nx f146 [1,1,1,1,1] R)) w):=by kernel_rfl
set_option maxHeartbeats 4000000 in
theorem i1 (s2:Addr) (s6:Int) (j:LV) (N2:LV→World→Prop):W prog (sub (aA f146) [1,1,1,1,0,1,0,0]) (cO s2 s6 j) (seqQ N2 (aK 2 (nx f146 [1,1,1,1,1] R))) w=(∃ a b c,w.cell? ⟨s2.block,s2.off+1,none⟩=some (.slice a b c)∧(bif (decide ((s6:Int)<(b:Nat))) then (∃ d f g,w.cell? ⟨s2.block,s2.off+1,none⟩=some (.slice d f g)∧idxS d f s6 9 λad=>∃ h,w.cell? ⟨ad.block,ad.off+1,none⟩=some (.int .u64 h)∧Calls prog 174 #[.int .u64 h] w λe w1=>∃ (i k:Int),e=.returned (.tuple #[.int .u64 i,.int .i64 k])∧∀ w2,w2=w1.drew→∃ Sx:World→Prop,Sx w2∧(bif (decide ((s6:Int)>0)) then (∃ l m n,(∀ u,Sx u→u.cell? ⟨s2.block,s2.off+1,none⟩=some (.slice l m n))∧idxS l m (i64.wrap (s6 - 1)) 9 λag=>∃ o,(∀ u,Sx u→u.cell? ag=some (.int .i64 o))∧∃ p q r,(∀ u,Sx u→u.cell? ⟨s2.block,s2.off+1,none⟩=some (.slice p q r))∧idxS p q s6 9 λah=>∃ s,(∀ u,Sx u→u.cell? ah=some (.int .i64 s))∧(bif (decide ((o:Int)≥s)) then (R (.int .i64 1) w2) else (∃ t v x,(∀ u,Sx u→u.cell? ⟨s2.block,s2.off+1,none⟩=some (.slice t v x))∧idxS t v s6 9 λai=>∃ y,(∀ u,Sx u→u.cell? ⟨ai.block,ai.off+1,none⟩=some (.int .u64 y))∧Calls prog 175 #[.int .u64 y] w2 λe w3=>∃ (z:Bool),e=.returned (.bool z)∧Sx w3∧(bif (!z) then (R (.int .i64 1) w3) else ((bif ((k:Int) != 0) then (R (.int .i64 1) w3) else (N2 (cO s2 (i64.wrap (s6+1)) (jq j 0 5 (ju i::ji k::jq j 7 42 [ji s6,jf s2 1,js a b c,jn b,jb (decide ((s6:Int)<(b:Nat))),ji s6,ji (i64.wrap (s6+1)),.tuple #[.int .u64 i,.int .i64 k],jf s2 1,js d f g,ji s6,jp ad,jf ad 1,ju h,.tuple #[.int .u64 i,.int .i64 k],ju i,ji k,ji s6,jb (decide ((s6:Int)>0)),jb true,jf s2 1,js l m n,ji s6,ji (i64.wrap (s6 - 1)),jp ag,jp ag,ji o,jf s2 1,js p q r,ji s6,jp ah,jp ah,ji s,jb (decide ((o:Int)≥s)),jb (decide ((o:Int)≥s)),jb false,jf s2 1,js t v x,ji s6,jp ai,jf ai 1,ju y,jb z,jb (!z),jb (!z),jb false,ji k,jb ((k:Int) != 0),jb ((k:Int) != 0)]))) w3))))))) else (∃ aa ab ac,(∀ u,Sx u→u.cell? ⟨s2.block,s2.off+1,none⟩=some (.slice aa ab ac))∧idxS aa ab s6 9 λaj=>∃ ae,(∀ u,Sx u→u.cell? ⟨aj.block,aj.off+1,none⟩=some (.int .u64 ae))∧Calls prog 175 #[.int .u64 ae] w2 λe w4=>∃ (af:Bool),e=.returned (.bool af)∧Sx w4∧(bif (!af) then (R (.int .i64 1) w4) else ((bif ((k:Int) != 0) then (R (.int .i64 1) w4) else (N2 (cO s2 (i64.wrap (s6+1)) (jq j 0 5 (ju i::ji k::jq j 7 42 (ji s6::jf s2 1::js a b c::jn b::jb (decide ((s6:Int)<(b:Nat)))::ji s6::ji (i64.wrap (s6+1))::.tuple #[.int .u64 i,.int .i64 k]::jf s2 1::js d f g::ji s6::jp ad::jf ad 1::ju h::.tuple #[.int .u64 i,.int .i64 k]::ju i::ji k::ji s6::jb (decide ((s6:Int)>0))::jb false::uq 14 [jb false,jb false,jf s2 1,js aa ab ac,ji s6,jp aj,jf aj 1,ju ae,jb af,jb (!af),jb (!af),jb false,ji k,jb ((k:Int) != 0),jb ((k:Int) != 0)])))) w4))))))) else (W prog (sub (aA f146) [1,1,1,1,1]) (gY  (jg j 0::jg j 1::jp s2::jg j 2::jg j 3::jg j 4::ji s6::jq j 5 44 (ji s6::jf s2 1::js a b c::jn b::jb (decide ((s6:Int)<(b:Nat)))::jq j 54 44 []))) (retQ prog f146 R) w))):=by kernel_rfl
theorem kq  (j:LV):W prog (sub (aA f146) [1,1,1,1,1]) (gY  j) (retQ prog f146 R) w=(R (.int .i64 0) w):=by kernel_rfl
theorem rT (p0:Int):fnW prog f174 [.int .u64 p0] R w=((bif (decide (((bshr .u64 p0 8):Int)<1)) then (R (.tuple #[.int .u64 0,.int .i64 2]) w) else ((bif (decide (((u64.wrap ((bshr .u64 p0 8)+1)):Int)≥281474976710656)) then (R (.tuple #[.int .u64 0,.int .i64 2]) w) else (R (.tuple #[.int .u64 (bshl .u64 (u64.wrap ((bshr .u64 p0 8)+1)) 8),.int .i64 0]) w))))):=by kernel_rfl
theorem pw (p0:Int):fnW prog f175 [.int .u64 p0] R w=(R (.bool (((band .u64 p0 255):Int) == 0)) w):=by kernel_rfl
end Go.Proofs.YtafopfaomkklpaaGreat
