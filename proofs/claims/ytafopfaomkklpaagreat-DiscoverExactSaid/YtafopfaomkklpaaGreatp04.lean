/- A part of the proof. -/
import Derived.Test.YtafopfaomkklpaaGreatProg
import Derived.Test.YtafopfaomkklpaaGreatp03
set_option linter.unusedVariables false
namespace Go.Proofs.YtafopfaomkklpaaGreat
open Go.Proofs.Tryz
open Go.Eng IntKind
variable (w:World) (R:Value→World→Prop)
def dN (s1:Int) (s2:Addr) (s5:Int) (j:LV):LV:=[jg j 0,(.int .i64 s1),(.pointer (some s2)),jg j 1,jg j 2,(.int .i64 s5),jg j 3,jg j 4,jg j 5,jg j 6,jg j 7,jg j 8,jg j 9,jg j 10,jg j 11,jg j 12,jg j 13,jg j 14,jg j 15,jg j 16,jg j 17,jg j 18,jg j 19,jg j 20,jg j 21,jg j 22,jg j 23,jg j 24,jg j 25,jg j 26,jg j 27,jg j 28,jg j 29,jg j 30,jg j 31,jg j 32,jg j 33,jg j 34,jg j 35,jg j 36,jg j 37,jg j 38,jg j 39,jg j 40,jg j 41,jg j 42,jg j 43,jg j 44,jg j 45,jg j 46,jg j 47,jg j 48,jg j 49,jg j 50,jg j 51,jg j 52,jg j 53,jg j 54,jg j 55,jg j 56,jg j 57,jg j 58,jg j 59,jg j 60,jg j 61,jg j 62,jg j 63,jg j 64,jg j 65,jg j 66,jg j 67,jg j 68,jg j 69,jg j 70,jg j 71,jg j 72,jg j 73,jg j 74,jg j 75,jg j 76,jg j 77,jg j 78,jg j 79,jg j 80,jg j 81]
def jd (a:Addr) (j:LV):LV:=jq j 0 2 (.pointer (some a)::jq j 2 82 [])
def eE (s2:Addr) (s7:Int) (j:LV):LV:=jq j 0 2 (.pointer (some s2)::jq j 2 4 (.int .i64 s7::jq j 6 77 []))
def je (a:Addr) (j:LV):LV:=jq j 0 2 (.pointer (some a)::jq j 2 82 [])
theorem p8 (p0:aF) (p1:Int):fnW prog f103 [p0.val,.int .i64 p1] R w=(∀ b1 w1,b1=w.heap.size→w1=w.alloc (.cells p0.cells.toArray 31)→(bif (decide ((p1:Int)<1)) then (R (.int .i64 1) w1) else ((bif (decide ((p1:Int)>5)) then (R (.int .i64 1) w1) else (∃ a,w1.cell? ⟨b1,0,none⟩=some (.int .i64 a)∧(bif (decide ((a:Int)<0)) then (R (.int .i64 2) w1) else (∃ b,w1.cell? ⟨b1,0,none⟩=some (.int .i64 b)∧(bif (decide ((b:Int)≥16)) then (R (.int .i64 2) w1) else (bT prog (.loop (sub (aA f103) [1,1,1,0,1,0,0])) (dN p1 ⟨b1,0,none⟩ 0 (p0.val::undef::ji 0::uq 3 (ji p1::jb (decide ((p1:Int)<1))::jb false::ji p1::jb (decide ((p1:Int)>5))::jb (decide ((p1:Int)>5))::jp ⟨b1,0,none⟩::ji a::jb (decide ((a:Int)<0))::jb false::jp ⟨b1,0,none⟩::ji b::jb (decide ((b:Int)≥16))::jb (decide ((b:Int)≥16))::uq 62 []))) (aI 0 (nx f103 [1,1,1,1] R)) w1))))))))):=by kernel_rfl
theorem kT (s1:Int) (s2:Addr) (s5:Int) (j:LV) (N1:LV→World→Prop):W prog (sub (aA f103) [1,1,1,0,1,0,0]) (dN s1 s2 s5 j) (seqQ N1 (aI 0 (nx f103 [1,1,1,1] R))) w=(∃ a b c,w.cell? ⟨s2.block,s2.off+1,none⟩=some (.slice a b c)∧(bif (decide ((s5:Int)<(b:Nat))) then (∃ d f g,w.cell? ⟨s2.block,s2.off+1,none⟩=some (.slice d f g)∧idxS d f s5 3 λad=>∃ h,w.cell? ad=some (.int .i64 h)∧(bif (decide ((h:Int)<0)) then (R (.int .i64 1) w) else ((bif (decide ((h:Int)≥s1)) then (R (.int .i64 1) w) else ((bif (decide ((s5:Int)>0)) then (∃ i k l,w.cell? ⟨s2.block,s2.off+1,none⟩=some (.slice i k l)∧idxS i k (i64.wrap (s5 - 1)) 3 λn=>∃ m,w.cell? n=some (.int .i64 m)∧(bif (decide ((m:Int)≥h)) then (R (.int .i64 1) w) else (N1 (dN s1 s2 (i64.wrap (s5+1)) (jg j 0::jg j 1::jg j 2::ji h::jq j 4 16 (ji s5::jf s2 1::js a b c::jn b::jb (decide ((s5:Int)<(b:Nat)))::ji s5::ji (i64.wrap (s5+1))::jf s2 1::js d f g::ji s5::jp ad::jp ad::ji h::ji h::jb (decide ((h:Int)<0))::jb false::ji h::ji s1::jb (decide ((h:Int)≥s1))::jb (decide ((h:Int)≥s1))::jb false::ji s5::jb (decide ((s5:Int)>0))::jb true::jf s2 1::js i k l::ji s5::ji (i64.wrap (s5 - 1))::jp n::jp n::ji m::ji h::jb (decide ((m:Int)≥h))::jb (decide ((m:Int)≥h))::jb (decide ((m:Int)≥h))::jq j 55 27 []))) w))) else (N1 (dN s1 s2 (i64.wrap (s5+1)) (jg j 0::jg j 1::jg j 2::ji h::jq j 4 16 (ji s5::jf s2 1::js a b c::jn b::jb (decide ((s5:Int)<(b:Nat)))::ji s5::ji (i64.wrap (s5+1))::jf s2 1::js d f g::ji s5::jp ad::jp ad::ji h::ji h::jb (decide ((h:Int)<0))::jb false::ji h::ji s1::jb (decide ((h:Int)≥s1))::jb (decide ((h:Int)≥s1))::jb false::ji s5::jb (decide ((s5:Int)>0))::jb false::uq 9 (jb false::jb false::jq j 55 27 [])))) w))))))) else (W prog (sub (aA f103) [1,1,1,1]) (jd s2 (jg j 0::ji s1::jg j 1::jg j 2::ji s5::jq j 3 17 (ji s5::jf s2 1::js a b c::jn b::jb (decide ((s5:Int)<(b:Nat)))::jq j 25 57 []))) (retQ prog f103 R) w))):=by kernel_rfl
theorem mn (a:Addr) (j:LV):W prog (sub (aA f103) [1,1,1,1]) (jd a j) (retQ prog f103 R) w=(∃ b c d,w.cell? ⟨a.block,a.off+1,none⟩=some (.slice b c d)∧(bif (((c:Nat):Int) == 0) then (R (.int .i64 1) w) else (bT prog (.loop (sub (aA f103) [1,1,1,1,1,0,1,0,0])) (eE a 0 (jq j 0 6 (jq j 7 50 (jf a 1::js b c d::jn c::jb (((c:Nat):Int) == 0)::jq j 61 23 [])))) (aI 2 (nx f103 [1,1,1,1,1,1] R)) w))):=by kernel_rfl
theorem kU (s2:Addr) (s7:Int) (j:LV) (N2:LV→World→Prop):W prog (sub (aA f103) [1,1,1,1,1,0,1,0,0]) (eE s2 s7 j) (seqQ N2 (aI 2 (nx f103 [1,1,1,1,1,1] R))) w=(∃ a b c,w.cell? ⟨s2.block,s2.off+1,none⟩=some (.slice a b c)∧(bif (decide ((s7:Int)<(b:Nat))) then (∃ d f g,w.cell? ⟨s2.block,s2.off+1,none⟩=some (.slice d f g)∧idxS d f s7 3 λad=>∃ h,w.cell? ⟨ad.block,ad.off+1,none⟩=some (.int .i64 h)∧(bif (decide ((h:Int)<1)) then (R (.int .i64 2) w) else ((bif (decide ((h:Int)>31)) then (R (.int .i64 2) w) else (N2 (eE s2 (i64.wrap (s7+1)) (jq j 0 6 (ji h::jq j 7 53 (ji s7::jf s2 1::js a b c::jn b::jb (decide ((s7:Int)<(b:Nat)))::ji s7::ji (i64.wrap (s7+1))::jf s2 1::js d f g::ji s7::jp ad::jf ad 1::ji h::ji h::jb (decide ((h:Int)<1))::jb false::ji h::jb (decide ((h:Int)>31))::jb (decide ((h:Int)>31))::jq j 79 4 [])))) w))))) else (W prog (sub (aA f103) [1,1,1,1,1,1]) (je s2 (jq j 0 6 (ji s7::jq j 6 54 (ji s7::jf s2 1::js a b c::jn b::jb (decide ((s7:Int)<(b:Nat)))::jq j 65 18 [])))) (retQ prog f103 R) w))):=by kernel_rfl
theorem mo (a:Addr) (j:LV):W prog (sub (aA f103) [1,1,1,1,1,1]) (je a j) (retQ prog f103 R) w=(aF.ex λr=>aH w a 0 r.cells∧Calls prog 143 #[r.val] w λe w1=>∃ b c d,e=.returned (.slice b c d)∧(bif (((c:Nat):Int) == 0) then (R (.int .i64 13) w1) else (R (.int .i64 0) w1))):=by kernel_rfl
def eY (s1:Addr) (s3:Option Addr) (a b:Nat) (s4:Int) (j:LV):LV:=jq j 0 1 (.pointer (some s1)::jq j 1 1 (.slice s3 a b::.int .i64 s4::jq j 2 22 []))
def l6 (s3:Option Addr) (a b:Nat) (j:LV):LV:=jq j 0 3 (.slice s3 a b::jq j 3 23 [])
theorem tz (p0:aF):fnW prog f143 [p0.val] R w=(∀ b1 w1,b1=w.heap.size→w1=w.alloc (.cells p0.cells.toArray 31)→bT prog (.loop (sub (aA f143) [1,1,0,1,0,0])) (eY ⟨b1,0,none⟩ none 0 0 0 (p0.val::jz::uq 22 [])) (aI 0 (nx f143 [1,1,1] R)) w1):=by kernel_rfl
theorem nE (s1:Addr) (s3:Option Addr) (a b:Nat) (s4:Int) (j:LV) (N1:LV→World→Prop):W prog (sub (aA f143) [1,1,0,1,0,0]) (eY s1 s3 a b s4 j) (seqQ N1 (aI 0 (nx f143 [1,1,1] R))) w=(∃ c d f,w.cell? ⟨s1.block,s1.off+1,none⟩=some (.slice c d f)∧(bif (decide ((s4:Int)<(d:Nat))) then (∃ g h i,w.cell? ⟨s1.block,s1.off+1,none⟩=some (.slice g h i)∧idxS g h s4 3 λad=>∃ k,w.cell? ⟨ad.block,ad.off+2,none⟩=some (.bool k)∧(bif k then (∃ l m n,w.cell? ⟨s1.block,s1.off+1,none⟩=some (.slice l m n)∧idxS l m s4 3 λq=>aC.ex λr=>aH w q 0 r.cells∧∀ b1 w1,b1=w.heap.size→w1=w.alloc (.cells r.cells.toArray 133)→∃ (ap:Option Addr) (o p:Nat),∃ w2,(Builtin.append_ #[29,29] 29 #[.slice s3 a b,.slice (some ⟨b1,0,none⟩) 1 1]).run prog w1=.ok (.slice ap o p) w2∧N1 (eY s1 ap o p (i64.wrap (s4+1)) [jg j 0,jg j 1,ji s4,jf s1 1,js c d f,jn d,jb (decide ((s4:Int)<(d:Nat))),ji s4,ji (i64.wrap (s4+1)),jf s1 1,js g h i,ji s4,jp ad,jf ad 2,jb k,js s3 a b,jf s1 1,js l m n,ji s4,jp q,r.val,js (some ⟨b1,0,none⟩) 1 1,js ap o p,jg j 23]) w2) else (N1 (eY s1 s3 a b (i64.wrap (s4+1)) (jg j 0::jg j 1::ji s4::jf s1 1::js c d f::jn d::jb (decide ((s4:Int)<(d:Nat)))::ji s4::ji (i64.wrap (s4+1))::jf s1 1::js g h i::ji s4::jp ad::jf ad 2::jb k::jq j 15 9 [])) w))) else (W prog (sub (aA f143) [1,1,1]) (l6 s3 a b (jg j 0::jp s1::jg j 1::ji s4::ji s4::jf s1 1::js c d f::jn d::jb (decide ((s4:Int)<(d:Nat)))::jq j 7 17 [])) (retQ prog f143 R) w))):=by kernel_rfl
theorem p9 (s3:Option Addr) (a b:Nat) (j:LV):W prog (sub (aA f143) [1,1,1]) (l6 s3 a b j) (retQ prog f143 R) w=(R (.slice s3 a b) w):=by kernel_rfl
end Go.Proofs.YtafopfaomkklpaaGreat
namespace Go.Proofs.YtafopfaomkklpaaGreat
open Go.Proofs.Tryz
open Go.Eng
theorem CC {u:World} {a:Option Addr} {n cap:Nat} {L:List aC} (ho:Owns u TMb 3 a n cap (jV L).flatten) (hn:n=L.length) {m:aC} (hb1:n≤1000000) {K:Nat→Option Addr→Nat→Nat→World→Prop}
  (hk:∀ b ap cap' w3,b=u.heap.size→Owns w3 TMb 3 ap (n+1) cap' (jV (L++[m])).flatten→Keep (isB a) u w3→(∀ k,isB ap k→isB a k∨u.heap.size≤k)→K b ap (n+1) cap' w3) :
  ∀ b1 w2,b1=u.heap.size→w2=u.alloc (.cells m.cells.toArray TMb)→∃ (ap:Option Addr) (ap_len ap_cap:Nat),∃ w3,(Builtin.append_ #[TSM,TSM] TSM #[(.slice a n cap),(.slice (some ⟨b1,0,none⟩) 1 1)]).run prog w2=.ok (.slice ap ap_len ap_cap) w3∧K b1 ap ap_len ap_cap w3:=by
 obtain ⟨inf,hi,hz,hsz,hby⟩:=p7 (T:=TMb) (z:=.agg #[.int .i64 0,.int .i64 0,.bool false]) (n:=3) (m:=24) (by kernel_rfl)
 rw [←hsz] at ho
 refine Cz Tryz.underlying29 hi hz (by rw [hsz];rfl) (by omega) ho (by rw [hsz];rfl) (aC.single m) (by omega) (by omega) ?_
 intro b ap cap' w3 h1 h2
 rw [hsz,←um] at h2
 exact hk b ap cap' w3 h1 h2
theorem FN {M:Nat→Prop} {w:World} {r:aF} {v:Vw} (h:eX M w r v):Does 143 [r.val] w λx w'=>∃ a c,x=.slice a (v.mem.filter aC.Full).length c∧New w w':=by
 refine does Tryz.func143 ?_
 rw [tz]
 rintro b1 w1 hb1 hw1
 obtain ⟨hz,hn⟩:=aR hb1 hw1
 have hz:Blk w1 b1 r.cells TVw:=hz
 clear hw1
 have hsm:=h.small
 have hlen:=h.len
 refine aS mix (λm env u=>∃ (i:Nat) (a:Option Addr) (n c:Nat) (jj:List Value),m=v.mem.length - i∧i≤v.mem.length∧env=eY ⟨b1,0,none⟩ a n c i jj∧n=((v.mem.take i).filter aC.Full).length∧New w1 u∧Owns u TMb 3 a n c (jV ((v.mem.take i).filter aC.Full)).flatten∧(∀ k,isB a k→w1.heap.size≤k)) v.mem.length
  ⟨0,none,0,0,_,by omega,by omega,rfl,rfl,Keep.refl _ _,Owns.nil _ _ _,λk hk=>by obtain ⟨o,ho⟩:=hk;cases ho⟩ ?_
 rintro m env u ⟨i,a,n,c,jj,rfl,hi,rfl,hn',hnu,hown,hfr⟩
 have hzu:=New.blk hnu hz
 rw [nE]
 refine ⟨_,_,_,hzu.cell (i:=1) rfl,aE (λhq=>?_) (λhq=>?_)⟩
 ·have hlt:i<v.mem.length:=by omega
  have hg:v.mem[i]?=some v.mem[i]:=List.getElem?_eq_getElem hlt
  have hrd:=(h.rd.new hn).new hnu
  have hlf:=List.length_filter_le aC.Full (v.mem.take i)
  have hlt2:(v.mem.take i).length≤i:=by rw [List.length_take];omega
  refine ⟨_,_,_,hzu.cell (i:=1) rfl,fY (cells:=aC.cells) aC.len (by omega) hrd hg rfl hlen λb o hc hcc=>⟨_,hcc 2 _ rfl,iL (λhf=>?_) (λhf=>?_)⟩⟩
  ·have hfl:(v.mem.take (i+1)).filter aC.Full=(v.mem.take i).filter aC.Full++[v.mem[i]]:=by
    rw [List.take_add_one,hg,List.filter_append]
    congr 1
    simp [hf]
   refine ⟨_,_,_,hzu.cell (i:=1) rfl,fY (cells:=aC.cells) aC.len (by omega) hrd hg rfl hlen λb o hc hcc=>aC.mk_ex v.mem[i] ⟨hc,?_⟩⟩
   refine CC hown hn' (by omega) ?_
   intro b3 ap cap u3 hb3 ho3 hk3 hap
   rw [w64 (by omega) (by omega)]
   refine ⟨v.mem.length - (i+1),by omega,i+1,ap,n+1,cap,_,rfl,by omega,rfl,by rw [hfl,List.length_append,hn'];rfl,vF hnu hk3 hfr,by rw [hfl];exact ho3,λk hk=>?_⟩
   rcases hap k hk with h1 | h1
   ·exact hfr k h1
   ·have:=hnu.size;omega
  ·have hfl:(v.mem.take (i+1)).filter aC.Full=(v.mem.take i).filter aC.Full:=by
    rw [List.take_add_one,hg,List.filter_append]
    simp [hf]
   rw [w64 (by omega) (by omega)]
   exact ⟨v.mem.length - (i+1),by omega,i+1,a,n,c,_,rfl,by omega,rfl,by rw [hfl,hn'],hnu,by rw [hfl];exact hown,hfr⟩
 ·rw [p9,hn',List.take_of_length_le (by omega)]
  exact ⟨a,c,rfl,hn.new hnu⟩
theorem AK (l:List aC):(l.filter aC.Full).length=0↔l.any aC.Full=false:=by
 rw [List.length_eq_zero_iff,List.filter_eq_nil_iff,List.any_eq_false]
set_option maxHeartbeats 1000000 in
theorem xF {M:Nat→Prop} {w:World} {r:aF} {v:Vw} (h:eX M w r v) (n:Int):Does 103 [r.val,.int .i64 n] w λx w'=>x=.int .i64 (v.valid n)∧New w w':=by
 refine does Tryz.func103 ?_
 rw [p8]
 rintro b1 w1 hb1 hw1
 obtain ⟨hz,hn⟩:=aR hb1 hw1
 have hz:Blk w1 b1 r.cells TVw:=hz
 clear hw1
 have hsm:=h.small
 have hlen:=h.len
 have hnum:=h.num
 unfold Vw.valid
 refine aE (λhp=>?_) (λhp1=>aE (λhp=>?_) (λhp2=>?_))
 ·rw [if_pos (by omega)];exact ⟨rfl,hn⟩
 ·rw [if_pos (by omega)];exact ⟨rfl,hn⟩
 rw [if_neg (by omega)]
 refine ⟨_,hz.cell rfl,aE (λhp=>?_) (λhp=>⟨_,hz.cell rfl,aE (λhp2=>?_) (λhp2=>?_)⟩)⟩
 ·rw [if_pos (by omega)];exact ⟨rfl,hn⟩
 ·rw [if_pos (by omega)];exact ⟨rfl,hn⟩
 rw [if_neg (by omega)]
 refine aS mix (λm env u=>∃ (i:Nat) (jj:List Value),m=v.mem.length - i∧i≤v.mem.length∧env=dN n ⟨b1,0,none⟩ i jj∧u=w1∧∀ k,k<i→ml n v.mem k=true) v.mem.length
  ⟨0,_,by omega,by omega,rfl,rfl,λk hk=>by omega⟩ ?_
 rintro m env u ⟨i,jj,rfl,hi,rfl,rfl,hok⟩
 rw [kT]
 have hrd:=h.rd.new hn
 refine ⟨_,_,_,hz.cell (i:=1) rfl,aE (λhq=>?_) (λhq=>?_)⟩
 ·have hlt:i<v.mem.length:=by omega
  have hg:v.mem[i]?=some v.mem[i]:=List.getElem?_eq_getElem hlt
  have hgd:=oJ (d:=noM) hg
  have hno:ml n v.mem i=false→(if v.mem.length=0 then 1 else if (List.range v.mem.length).all (ml n v.mem)=false then 1 else if v.mem.all l5=false then 2 else if v.mem.any aC.Full=false then 13 else (0:Int))=1:=λe=>by
   rw [if_neg (by omega),if_pos (rp hlt e)]
  refine ⟨_,_,_,hz.cell (i:=1) rfl,fY (cells:=aC.cells) aC.len (by omega) hrd hg rfl hlen λb o hc hcc=>⟨_,hcc 0 _ rfl,aE (λhp3=>?_) (λhp3=>aE (λhp4=>?_) (λhp4=>aE (λhp5=>?_) (λhp5=>?_)))⟩⟩
  ·exact ⟨by rw [hno (by unfold ml;rw [hgd];simp;omega)],hn⟩
  ·exact ⟨by rw [hno (by unfold ml;rw [hgd];simp;omega)],hn⟩
  ·have hg1:v.mem[i - 1]?=some v.mem[i - 1]:=List.getElem?_eq_getElem (by omega)
   have hgd1:=oJ (d:=noM) hg1
   refine ⟨_,_,_,hz.cell (i:=1) rfl,?_⟩
   refine fY (cells:=aC.cells) aC.len (by omega) hrd hg1 (by rw [w64 (by omega) (by omega)];omega) hlen λb' o' _ hc'=>⟨_,hc' 0 _ rfl,aE (λhp6=>?_) (λhp6=>?_)⟩
   ·exact ⟨by rw [hno (by unfold ml;rw [hgd,hgd1];simp;omega)],hn⟩
   ·rw [w64 (by omega) (by omega)]
    refine ⟨v.mem.length - (i+1),by omega,i+1,_,rfl,by omega,rfl,rfl,λk hk=>?_⟩
    rcases Nat.lt_succ_iff_lt_or_eq.1 hk with hk | rfl
    ·exact hok k hk
    ·unfold ml;rw [hgd,hgd1];simp;omega
  ·rw [w64 (by omega) (by omega)]
   refine ⟨v.mem.length - (i+1),by omega,i+1,_,rfl,by omega,rfl,rfl,λk hk=>?_⟩
   rcases Nat.lt_succ_iff_lt_or_eq.1 hk with hk | rfl
   ·exact hok k hk
   ·unfold ml;rw [hgd];simp;omega
 have hall:(List.range v.mem.length).all (ml n v.mem)=true:=by
  rw [List.all_eq_true]
  intro k hk
  exact hok k (by have:=List.mem_range.1 hk;omega)
 rw [mn]
 refine ⟨_,_,_,hz.cell (i:=1) rfl,bC (λh0=>?_) (λh0=>?_)⟩
 ·rw [if_pos (by omega)];exact ⟨rfl,hn⟩
 rw [if_neg (by omega),if_neg (by rw [hall];simp)]
 refine aS mix (λm env z=>∃ (i:Nat) (jj:List Value),m=v.mem.length - i∧i≤v.mem.length∧env=eE ⟨b1,0,none⟩ i jj∧z=u∧(v.mem.take i).all l5=true) v.mem.length
  ⟨0,_,by omega,by omega,rfl,rfl,rfl⟩ ?_
 clear hok hi hq
 rintro m env z ⟨i,jj,rfl,hi,rfl,rfl,hok⟩
 rw [kU]
 refine ⟨_,_,_,hz.cell (i:=1) rfl,aE (λhq=>?_) (λhq=>?_)⟩
 ·have hlt:i<v.mem.length:=by omega
  have hg:v.mem[i]?=some v.mem[i]:=List.getElem?_eq_getElem hlt
  have hno:l5 v.mem[i]=false→v.mem.all l5=false:=λe=>by
   rw [List.all_eq_false]
   exact ⟨v.mem[i],List.getElem_mem hlt,by simp [e]⟩
  refine ⟨_,_,_,hz.cell (i:=1) rfl,fY (cells:=aC.cells) aC.len (by omega) hrd hg rfl hlen λb o hc hcc=>⟨_,hcc 1 _ rfl,aE (λhp3=>?_) (λhp3=>aE (λhp4=>?_) (λhp4=>?_))⟩⟩
  ·rw [if_pos (hno (by unfold l5;simp;omega))];exact ⟨rfl,hn⟩
  ·rw [if_pos (hno (by unfold l5;simp;omega))];exact ⟨rfl,hn⟩
  ·rw [w64 (by omega) (by omega)]
   refine ⟨v.mem.length - (i+1),by omega,i+1,_,rfl,by omega,rfl,rfl,?_⟩
   rw [List.take_add_one,hg,List.all_append,hok]
   simp [l5];omega
 have htake:v.mem.take i=v.mem:=List.take_of_length_le (by omega)
 rw [htake] at hok
 rw [if_neg (by rw [hok];simp)]
 rw [mo]
 refine aF.mk_ex r ⟨aK hz rfl,?_⟩
 refine aG (FN (h.new hn)) ?_
 rintro x u3 ⟨a,c,rfl,hn3⟩
 refine ⟨_,_,_,rfl,bC (λhf=>?_) (λhf=>?_)⟩
 ·rw [if_pos ((AK _).1 (by omega))];exact ⟨rfl,hn.new hn3⟩
 ·rw [if_neg (λe=>by have:=(AK v.mem).2 e;omega)];exact ⟨rfl,hn.new hn3⟩
end Go.Proofs.YtafopfaomkklpaaGreat
namespace Go.Proofs.YtafopfaomkklpaaGreat
open Go.Proofs.Tryz
open Go.Eng IntKind
variable (w:World) (R:Value→World→Prop)
def cA (s1 s2:Int) (s3:Option Addr) (a b:Nat) (s4:Int) (c d:Addr) (f:Bool) (g:Int) (j:LV):LV:=[jg j 0,(.int .i64 s1),(.int .i64 s2),(.slice s3 a b),(.int .i64 s4),jg j 1,jg j 2,jg j 3,jg j 4,jg j 5,(.pointer (some c)),(.pointer (some d)),(.bool f),(.int .i64 g),jg j 6,jg j 7,jg j 8,jg j 9,jg j 10,jg j 11,jg j 12,jg j 13,jg j 14,jg j 15,jg j 16,jg j 17,jg j 18,jg j 19,jg j 20,jg j 21,jg j 22,jg j 23,jg j 24,jg j 25,jg j 26,jg j 27,jg j 28,jg j 29,jg j 30,jg j 31,jg j 32,jg j 33,jg j 34,jg j 35,jg j 36,jg j 37,jg j 38,jg j 39,jg j 40,jg j 41,jg j 42,jg j 43,jg j 44,jg j 45,jg j 46,jg j 47,jg j 48,jg j 49,jg j 50,jg j 51,jg j 52,jg j 53,jg j 54,jg j 55,jg j 56,jg j 57,jg j 58,jg j 59,jg j 60,jg j 61,jg j 62,jg j 63,jg j 64,jg j 65,jg j 66]
def l7 (a b:Addr) (c:Bool) (j:LV):LV:=jq j 0 10 (.pointer (some a)::.pointer (some b)::.bool c::jq j 10 62 [])
theorem tA (p0 p1 p2:Int) (p3:Option Addr) (a b:Nat) (p4:Int):fnW prog f58 [.int .i64 p0,.int .i64 p1,.int .i64 p2,.slice p3 a b,.int .i64 p4] R w=(∀ b1 w1,b1=w.heap.size→w1=w.alloc (.cells #[.int .i64 0,.slice none 0 0] 31)→Calls prog 6 #[.int .i64 p0,.int .i64 16] w1 λe w2=>∃ c,e=.returned (.int .i64 c)∧∀ b2 w3,b2=w2.heap.size→w3=w2.alloc (.cells #[.int .i64 0,.slice none 0 0] 31)→wrAt w3 ⟨b2,0,none⟩ 0 [.int .i64 c,.slice none 0 0]∧∀ w4,w4=puts w3 ⟨b2,0,none⟩ 0 [.int .i64 c,.slice none 0 0]→bT prog (.loop (sub (aA f58) [1,1,1,0,1,0,0])) (cA p1 p2 p3 a b p4 ⟨b1,0,none⟩ ⟨b2,0,none⟩ false 0 (ji p0::uq 6 (ji p0::ji c::.agg #[.int .i64 c,.slice none 0 0]::uq 57 []))) (aI 0 (nx f58 [1,1,1,1] R)) w4):=by kernel_rfl
set_option maxHeartbeats 4000000 in
theorem nF (s1 s2:Int) (s3:Option Addr) (a b:Nat) (s4:Int) (c d:Addr) (f:Bool) (g:Int) (j:LV) (N1:LV→World→Prop):W prog (sub (aA f58) [1,1,1,0,1,0,0]) (cA s1 s2 s3 a b s4 c d f g j) (seqQ N1 (aI 0 (nx f58 [1,1,1,1] R))) w=((bif (decide ((g:Int)<s4)) then (Calls prog 6 #[.int .i64 s1,.int .i64 32] w λe w1=>∃ (h:Int),e=.returned (.int .i64 h)∧0≤(u64.wrap g)∧(bif (((band .i64 (bshr .i64 h (u64.wrap g)) 1):Int) == 0) then (N1 (cA s1 s2 s3 a b s4 c d f (i64.wrap (g+1)) (jq j 0 10 (ji g::ji s4::jb (decide ((g:Int)<s4))::ji g::ji (i64.wrap (g+1))::ji s1::ji h::ji g::ju (u64.wrap g)::ji (bshr .i64 h (u64.wrap g))::ji (band .i64 (bshr .i64 h (u64.wrap g)) 1)::jb (((band .i64 (bshr .i64 h (u64.wrap g)) 1):Int) == 0)::jq j 22 45 []))) w1) else (Calls prog 6 #[.int .i64 s2,.int .i64 32] w1 λe w2=>∃ (i:Int),e=.returned (.int .i64 i)∧0≤(u64.wrap g)∧∀ b1 w3,b1=w2.heap.size→w3=w2.alloc (.cells #[.int .i64 0,.int .i64 0,.bool false] 133)→wrAt w3 ⟨b1,0,none⟩ 0 [.int .i64 g,.int .i64 1,.bool (((band .i64 (bshr .i64 i (u64.wrap g)) 1):Int) == 1)]∧∀ w4,w4=puts w3 ⟨b1,0,none⟩ 0 [.int .i64 g,.int .i64 1,.bool (((band .i64 (bshr .i64 i (u64.wrap g)) 1):Int) == 1)]→(bif (decide ((g:Int)<(a:Nat))) then (idxS s3 a g 1 λad=>∃ x,w4.cell? ad=some (.int .i64 x)∧Calls prog 6 #[.int .i64 x,.int .i64 31] w4 λe w5=>∃ (k:Int),e=.returned (.int .i64 k)∧(∃ u,w5.cell? ⟨b1,1,none⟩=some u)∧w5.frozen? ⟨b1,1,none⟩=false∧∀ w6,w6=w5.setCell ⟨b1,1,none⟩ (.int .i64 (i64.wrap (k+1)))→(bif f then (∃ l m n,w6.cell? ⟨d.block,d.off+1,none⟩=some (.slice l m n)∧aC.ex λr=>aH w6 ⟨b1,0,none⟩ 0 r.cells∧∀ b2 w7,b2=w6.heap.size→w7=w6.alloc (.cells r.cells.toArray 133)→∃ (ap:Option Addr) (o p:Nat),∃ w8,(Builtin.append_ #[29,29] 29 #[.slice l m n,.slice (some ⟨b2,0,none⟩) 1 1]).run prog w7=.ok (.slice ap o p) w8∧(∃ u,w8.cell? ⟨d.block,d.off+1,none⟩=some u)∧w8.frozen? ⟨d.block,d.off+1,none⟩=false∧∀ w9,w9=w8.setCell ⟨d.block,d.off+1,none⟩ (.slice ap o p)→N1 (cA s1 s2 s3 a b s4 c d true (i64.wrap (g+1)) (jq j 0 6 (jp ⟨b1,0,none⟩::jg j 7::jg j 8::jg j 9::ji g::ji s4::jb (decide ((g:Int)<s4))::ji g::ji (i64.wrap (g+1))::ji s1::ji h::ji g::ju (u64.wrap g)::ji (bshr .i64 h (u64.wrap g))::ji (band .i64 (bshr .i64 h (u64.wrap g)) 1)::jb (((band .i64 (bshr .i64 h (u64.wrap g)) 1):Int) == 0)::ji g::ji s2::ji i::ji g::ju (u64.wrap g)::ji (bshr .i64 i (u64.wrap g))::ji (band .i64 (bshr .i64 i (u64.wrap g)) 1)::jb (((band .i64 (bshr .i64 i (u64.wrap g)) 1):Int) == 1)::.agg #[.int .i64 g,.int .i64 1,.bool (((band .i64 (bshr .i64 i (u64.wrap g)) 1):Int) == 1)]::ji g::js s3 a b::jn a::jb (decide ((g:Int)<(a:Nat)))::js s3 a b::ji g::jp ad::ji x::ji k::ji (i64.wrap (k+1))::jp ⟨b1,1,none⟩::jb f::jb true::uq 2 (jb true::jf d 1::js l m n::r.val::js (some ⟨b2,0,none⟩) 1 1::js ap o p::jf d 1::jq j 53 14 [])))) w9) else (∃ q,w6.cell? ⟨b1,2,none⟩=some (.bool q)∧∃ s t v,w6.cell? ⟨d.block,d.off+1,none⟩=some (.slice s t v)∧aC.ex λr1=>aH w6 ⟨b1,0,none⟩ 0 r1.cells∧∀ b3 aq,b3=w6.heap.size→aq=w6.alloc (.cells r1.cells.toArray 133)→∃ (y:Option Addr) (z aa:Nat),∃ ar,(Builtin.append_ #[29,29] 29 #[.slice s t v,.slice (some ⟨b3,0,none⟩) 1 1]).run prog aq=.ok (.slice y z aa) ar∧(∃ u,ar.cell? ⟨d.block,d.off+1,none⟩=some u)∧ar.frozen? ⟨d.block,d.off+1,none⟩=false∧∀ au,au=ar.setCell ⟨d.block,d.off+1,none⟩ (.slice y z aa)→N1 (cA s1 s2 s3 a b s4 c d q (i64.wrap (g+1)) (jq j 0 6 (jp ⟨b1,0,none⟩::jg j 7::jg j 8::jg j 9::ji g::ji s4::jb (decide ((g:Int)<s4))::ji g::ji (i64.wrap (g+1))::ji s1::ji h::ji g::ju (u64.wrap g)::ji (bshr .i64 h (u64.wrap g))::ji (band .i64 (bshr .i64 h (u64.wrap g)) 1)::jb (((band .i64 (bshr .i64 h (u64.wrap g)) 1):Int) == 0)::ji g::ji s2::ji i::ji g::ju (u64.wrap g)::ji (bshr .i64 i (u64.wrap g))::ji (band .i64 (bshr .i64 i (u64.wrap g)) 1)::jb (((band .i64 (bshr .i64 i (u64.wrap g)) 1):Int) == 1)::.agg #[.int .i64 g,.int .i64 1,.bool (((band .i64 (bshr .i64 i (u64.wrap g)) 1):Int) == 1)]::ji g::js s3 a b::jn a::jb (decide ((g:Int)<(a:Nat)))::js s3 a b::ji g::jp ad::ji x::ji k::ji (i64.wrap (k+1))::jp ⟨b1,1,none⟩::jb f::jb false::jp ⟨b1,2,none⟩::jb q::jb q::jf d 1::js s t v::r1.val::js (some ⟨b3,0,none⟩) 1 1::js y z aa::jf d 1::jq j 53 14 []))) au))) else ((bif f then (∃ ab ac ae,w4.cell? ⟨d.block,d.off+1,none⟩=some (.slice ab ac ae)∧aC.ex λr2=>aH w4 ⟨b1,0,none⟩ 0 r2.cells∧∀ b4 av,b4=w4.heap.size→av=w4.alloc (.cells r2.cells.toArray 133)→∃ (af:Option Addr) (ag ah:Nat),∃ aw,(Builtin.append_ #[29,29] 29 #[.slice ab ac ae,.slice (some ⟨b4,0,none⟩) 1 1]).run prog av=.ok (.slice af ag ah) aw∧(∃ u,aw.cell? ⟨d.block,d.off+1,none⟩=some u)∧aw.frozen? ⟨d.block,d.off+1,none⟩=false∧∀ ax,ax=aw.setCell ⟨d.block,d.off+1,none⟩ (.slice af ag ah)→N1 (cA s1 s2 s3 a b s4 c d true (i64.wrap (g+1)) (jq j 0 6 (jp ⟨b1,0,none⟩::jg j 7::jg j 8::jg j 9::ji g::ji s4::jb (decide ((g:Int)<s4))::ji g::ji (i64.wrap (g+1))::ji s1::ji h::ji g::ju (u64.wrap g)::ji (bshr .i64 h (u64.wrap g))::ji (band .i64 (bshr .i64 h (u64.wrap g)) 1)::jb (((band .i64 (bshr .i64 h (u64.wrap g)) 1):Int) == 0)::ji g::ji s2::ji i::ji g::ju (u64.wrap g)::ji (bshr .i64 i (u64.wrap g))::ji (band .i64 (bshr .i64 i (u64.wrap g)) 1)::jb (((band .i64 (bshr .i64 i (u64.wrap g)) 1):Int) == 1)::.agg #[.int .i64 g,.int .i64 1,.bool (((band .i64 (bshr .i64 i (u64.wrap g)) 1):Int) == 1)]::ji g::js s3 a b::jn a::jb (decide ((g:Int)<(a:Nat)))::jq j 35 7 (jb f::jb true::uq 2 (jb true::jf d 1::js ab ac ae::r2.val::js (some ⟨b4,0,none⟩) 1 1::js af ag ah::jf d 1::jq j 53 14 []))))) ax) else (∃ ai,w4.cell? ⟨b1,2,none⟩=some (.bool ai)∧∃ aj ak al,w4.cell? ⟨d.block,d.off+1,none⟩=some (.slice aj ak al)∧aC.ex λr3=>aH w4 ⟨b1,0,none⟩ 0 r3.cells∧∀ b5 ay,b5=w4.heap.size→ay=w4.alloc (.cells r3.cells.toArray 133)→∃ (am:Option Addr) (an ao:Nat),∃ az,(Builtin.append_ #[29,29] 29 #[.slice aj ak al,.slice (some ⟨b5,0,none⟩) 1 1]).run prog ay=.ok (.slice am an ao) az∧(∃ u,az.cell? ⟨d.block,d.off+1,none⟩=some u)∧az.frozen? ⟨d.block,d.off+1,none⟩=false∧∀ a0,a0=az.setCell ⟨d.block,d.off+1,none⟩ (.slice am an ao)→N1 (cA s1 s2 s3 a b s4 c d ai (i64.wrap (g+1)) (jq j 0 6 (jp ⟨b1,0,none⟩::jg j 7::jg j 8::jg j 9::ji g::ji s4::jb (decide ((g:Int)<s4))::ji g::ji (i64.wrap (g+1))::ji s1::ji h::ji g::ju (u64.wrap g)::ji (bshr .i64 h (u64.wrap g))::ji (band .i64 (bshr .i64 h (u64.wrap g)) 1)::jb (((band .i64 (bshr .i64 h (u64.wrap g)) 1):Int) == 0)::ji g::ji s2::ji i::ji g::ju (u64.wrap g)::ji (bshr .i64 i (u64.wrap g))::ji (band .i64 (bshr .i64 i (u64.wrap g)) 1)::jb (((band .i64 (bshr .i64 i (u64.wrap g)) 1):Int) == 1)::.agg #[.int .i64 g,.int .i64 1,.bool (((band .i64 (bshr .i64 i (u64.wrap g)) 1):Int) == 1)]::ji g::js s3 a b::jn a::jb (decide ((g:Int)<(a:Nat)))::jq j 35 7 (jb f::jb false::jp ⟨b1,2,none⟩::jb ai::jb ai::jf d 1::js aj ak al::r3.val::js (some ⟨b5,0,none⟩) 1 1::js am an ao::jf d 1::jq j 53 14 [])))) a0))))))) else (W prog (sub (aA f58) [1,1,1,1]) (l7 c d f (jg j 0::ji s1::ji s2::js s3 a b::ji s4::jq j 1 5 (ji g::jq j 6 4 (ji g::ji s4::jb (decide ((g:Int)<s4))::jq j 13 54 [])))) (retQ prog f58 R) w))):=by kernel_rfl
theorem qb (a b:Addr) (c:Bool) (j:LV):W prog (sub (aA f58) [1,1,1,1]) (l7 a b c j) (retQ prog f58 R) w=(∃ d f g,w.cell? ⟨b.block,b.off+1,none⟩=some (.slice d f g)∧(bif (((f:Nat):Int) == 0) then (∀ b1 w1,b1=w.heap.size→w1=w.alloc (.cells #[.int .i64 0,.int .i64 1,.bool false] 133)→(∃ u,w1.cell? ⟨b.block,b.off+1,none⟩=some u)∧w1.frozen? ⟨b.block,b.off+1,none⟩=false∧∀ w2,w2=w1.setCell ⟨b.block,b.off+1,none⟩ (.slice (some ⟨b1,0,none⟩) 1 1)→(bif (!c) then (∃ h i k,w2.cell? ⟨b.block,b.off+1,none⟩=some (.slice h i k)∧idxS h i 0 3 λad=>(∃ u,w2.cell? ⟨ad.block,ad.off+2,none⟩=some u)∧w2.frozen? ⟨ad.block,ad.off+2,none⟩=false∧∀ w3,w3=w2.setCell ⟨ad.block,ad.off+2,none⟩ (.bool true)→aF.ex λr=>aH w3 b 0 r.cells∧wrAt w3 a 0 r.cells∧∀ w4,w4=puts w3 a 0 r.cells→aF.ex λo=>aH w4 a 0 o.cells∧w4=w4∧R o.val w4) else (aF.ex λr1=>aH w2 b 0 r1.cells∧wrAt w2 a 0 r1.cells∧∀ w5,w5=puts w2 a 0 r1.cells→aF.ex λp=>aH w5 a 0 p.cells∧w5=w5∧R p.val w5))) else ((bif (!c) then (∃ l m n,w.cell? ⟨b.block,b.off+1,none⟩=some (.slice l m n)∧idxS l m 0 3 λq=>(∃ u,w.cell? ⟨q.block,q.off+2,none⟩=some u)∧w.frozen? ⟨q.block,q.off+2,none⟩=false∧∀ w6,w6=w.setCell ⟨q.block,q.off+2,none⟩ (.bool true)→aF.ex λr2=>aH w6 b 0 r2.cells∧wrAt w6 a 0 r2.cells∧∀ w7,w7=puts w6 a 0 r2.cells→aF.ex λs=>aH w7 a 0 s.cells∧w7=w7∧R s.val w7) else (aF.ex λr3=>aH w b 0 r3.cells∧wrAt w a 0 r3.cells∧∀ w8,w8=puts w a 0 r3.cells→aF.ex λt=>aH w8 a 0 t.cells∧w8=w8∧R t.val w8))))):=by kernel_rfl
end Go.Proofs.YtafopfaomkklpaaGreat
