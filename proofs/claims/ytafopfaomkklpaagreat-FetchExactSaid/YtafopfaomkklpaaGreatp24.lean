/- A part of the proof. -/
import Derived.Test.YtafopfaomkklpaaGreatProg
import Derived.Test.YtafopfaomkklpaaGreatp03
import Derived.Test.YtafopfaomkklpaaGreatp23
import Derived.Test.YtafopfaomkklpaaGreatp08
set_option linter.unusedVariables false
namespace Go.Proofs.YtafopfaomkklpaaGreat
open Go.Proofs.Tryz
open Go.Eng IntKind
variable (w:World) (R:Value→World→Prop)
theorem xT (p0:Option Addr) (a b:Nat):fnW prog f26 [(.slice p0 a b)] R w=(∀ b1 w1,b1=w.heap.size→w1=w.alloc (.cells #[(.slice p0 a b),(.slice none 0 0),(.bool false)] 176)→R (.pointer (some ⟨b1,0,none⟩)) w1):=by kernel_rfl
theorem m8 (p0:Nat) (p1:Option Addr) (a b:Nat):fnW prog f27 [.pointer (some ⟨p0,0,none⟩),.slice p1 a b] R w=((bif (((a:Nat):Int) == 0) then (R (.tuple #[.slice none 0 0,.bool true]) w) else (∃ c d f,w.cell? ⟨p0,0,none⟩=some (.slice c d f)∧(bif (((d:Nat):Int) == 0) then ((∃ u,w.cell? ⟨p0,1,none⟩=some u)∧w.frozen? ⟨p0,1,none⟩=false∧∀ w1,w1=w.setCell ⟨p0,1,none⟩ (.slice p1 a b)→R (.tuple #[.slice none 0 0,.bool false]) w1) else (∃ g h i,w.cell? ⟨p0,0,none⟩=some (.slice g h i)∧idxS g h 0 1 λad=>∃ x k l,w.cell? ad=some (.slice x k l)∧Calls prog 82 #[.slice p1 a b,.slice x k l] w λe w2=>∃ m,e=.returned (.bool m)∧(bif (!m) then ((∃ u,w2.cell? ⟨p0,2,none⟩=some u)∧w2.frozen? ⟨p0,2,none⟩=false∧∀ w3,w3=w2.setCell ⟨p0,2,none⟩ (.bool true)→R (.tuple #[.slice none 0 0,.bool false]) w3) else (∀ w4,w4=w2.drew→∃ Sx:World→Prop,Sx w4∧∃ n o p,(∀ u,Sx u→u.cell? ⟨p0,0,none⟩=some (.slice n o p))∧idxS n o 0 1 λy=>∃ x1 q r,(∀ u,Sx u→u.cell? y=some (.slice x1 q r))∧∃ s t v,(∀ u,Sx u→u.cell? ⟨p0,0,none⟩=some (.slice s t v))∧sl3 s t v 1 (t:Nat) (v:Nat) 1 λxa xl xc=>(∃ u,w4.cell? ⟨p0,0,none⟩=some u)∧w4.frozen? ⟨p0,0,none⟩=false∧∀ w5,w5=w4.setCell ⟨p0,0,none⟩ (.slice xa xl xc)→R (.tuple #[.slice x1 q r,.bool true]) w5))))))):=by kernel_rfl
theorem ro (p0:Nat):fnW prog f29 [.pointer (some ⟨p0,0,none⟩)] R w=(∀ w1,w1=w.drew→∃ Sx:World→Prop,Sx w1∧∃ a b c,(∀ u,Sx u→u.cell? ⟨p0,1,none⟩=some (.slice a b c))∧∃ d f g,(∀ u,Sx u→u.cell? ⟨p0,1,none⟩=some (.slice d f g))∧R (.tuple #[.slice a b c,.bool (decide (((f:Nat):Int)>0))]) w1):=by kernel_rfl
theorem qd (p0:Nat):fnW prog f30 [.pointer (some ⟨p0,0,none⟩)] R w=(∃ a,w.cell? ⟨p0,2,none⟩=some (.bool a)∧(bif a then (R (.bool true) w) else (∃ b c d,w.cell? ⟨p0,0,none⟩=some (.slice b c d)∧R (.bool (decide (((c:Nat):Int)>0))) w))):=by kernel_rfl
def lG (s1:Option Addr) (a b:Nat) (c:Option Addr) (d f:Nat) (g h:Int) (j:LV):LV:=jq j 0 1 (.slice s1 a b::jq j 1 10 (.slice c d f::.int .i64 g::.int .i64 h::jq j 11 12 []))
def si  (j:LV):LV:=jq j 0 27 []
theorem xU (p0:Option Addr) (a b:Nat) (p1:Option Addr) (c d:Nat):fnW prog f82 [.slice p0 a b,.slice p1 c d] R w=((bif (((a:Nat):Int) != (c:Nat)) then (R (.bool false) w) else (bW prog (.loop (sub (aA f82) [1,1,0,1,0,0])) (lG p1 c d p0 a b (a:Nat) 0 (js p0 a b::uq 2 (jb false::uq 2 (js p0 a b::jn a::js p1 c d::jn c::jb (((a:Nat):Int) != (c:Nat))::uq 12 [])))) (aK 0 (nx f82 [1,1,1] R)) w))):=by kernel_rfl
theorem rp (s1:Option Addr) (a b:Nat) (c:Option Addr) (d f:Nat) (g h:Int) (j:LV) (N1:LV→World→Prop):W prog (sub (aA f82) [1,1,0,1,0,0]) (lG s1 a b c d f g h j) (seqQ N1 (aK 0 (nx f82 [1,1,1] R))) w=((bif (decide ((h:Int)<g)) then (idxS c d h 9 λad=>aU.ex λr=>aE w ad 0 r.cells∧∀ b1 w1,b1=w.heap.size→w1=w.alloc (.cells #[.int .i64 0,.int .i64 0,.int .i64 0,.int .i64 0,.int .u64 0,.int .u64 0,.slice none 0 0,.int .u64 0,.int .i64 0] 91)→wrAt w1 ⟨b1,0,none⟩ 0 r.cells∧∀ w2,w2=puts w1 ⟨b1,0,none⟩ 0 r.cells→∀ w3,w3=w2.drew→∃ Sx:World→Prop,Sx w3∧aU.ex λr1=>(∀ u,Sx u→aE u ⟨b1,0,none⟩ 0 r1.cells)∧idxS s1 a h 2 λk=>aV.ex λr2=>(∀ u,Sx u→aE u k 0 r2.cells)∧Calls prog 122 #[r1.val,r2.val] w3 λe w4=>∃ i,e=.returned (.bool i)∧(bif (!i) then (R (.bool false) w4) else (N1 (lG s1 a b c d f g (i64.wrap (h+1)) (jq j 0 4 (ji h::jp ⟨b1,0,none⟩::jq j 6 5 [jb (decide ((h:Int)<g)),ji h,jp ad,r.val,r1.val,js s1 a b,ji h,jp k,r2.val,jb i,jb (!i),ji (i64.wrap (h+1))]))) w4))) else (W prog (sub (aA f82) [1,1,1]) (si  (jg j 0::js s1 a b::jq j 1 10 (js c d f::ji g::ji h::jb (decide ((h:Int)<g))::jq j 12 11 []))) (retQ prog f82 R) w))):=by kernel_rfl
theorem tt  (j:LV):W prog (sub (aA f82) [1,1,1]) (si  j) (retQ prog f82 R) w=(R (.bool true) w):=by kernel_rfl
theorem wH (p0:aU) (p1:aV):fnW prog f122 [p0.val,p1.val] R w=(∀ b1 w1,b1=w.heap.size→w1=w.alloc (.cells p0.cells.toArray 91)→∀ b2 w2,b2=w1.heap.size→w2=w1.alloc (.cells p1.cells.toArray 53)→∃ a,w2.cell? ⟨b2,0,none⟩=some (.int .i64 a)∧(bif ((a:Int) == 0) then (∀ w3,w3=w2.drew→∃ Sx:World→Prop,Sx w3∧∃ b c d,(∀ u,Sx u→u.cell? ⟨b2,1,none⟩=some (.slice b c d))∧aU.ex λr=>(∀ u,Sx u→aE u ⟨b1,0,none⟩ 0 r.cells)∧Calls prog 149 #[r.val] w3 λe w4=>∃ f,e=.returned (.int .i64 f)∧Sx w4∧R (.bool (((c:Nat):Int) == f)) w4) else ((bif ((a:Int) == 4) then ((bif ((a:Int) == 4) then (∃ g h i,w2.cell? ⟨b2,1,none⟩=some (.slice g h i)∧R (.bool (((h:Nat):Int) == 0)) w2) else (R (.bool false) w2))) else ((bif ((a:Int) == 5) then (∃ k l m,w2.cell? ⟨b2,1,none⟩=some (.slice k l m)∧R (.bool (((l:Nat):Int) == 0)) w2) else (R (.bool false) w2))))))):=by kernel_rfl
theorem tV (p0:aU):fnW prog f149 [p0.val] R w=(∀ b1 w1,b1=w.heap.size→w1=w.alloc (.cells p0.cells.toArray 91)→∃ a,w1.cell? ⟨b1,0,none⟩=some (.int .i64 a)∧(bif ((a:Int) == 1) then (∃ N_,w1.cell? ⟨b1,3,none⟩=some (.int .i64 N_)∧R (.int .i64 N_) w1) else ((bif ((a:Int) == 3) then ((bif ((a:Int) == 3) then (R (.int .i64 1) w1) else (R (.int .i64 0) w1))) else ((bif ((a:Int) == 4) then (R (.int .i64 1) w1) else (R (.int .i64 0) w1))))))):=by kernel_rfl
end Go.Proofs.YtafopfaomkklpaaGreat
namespace Go.Proofs.YtafopfaomkklpaaGreat
open Go.Eng
theorem zA (w:World) {v:aU} (hk:v.Kind=1):Does 149 [v.val] w λx w'=>x=.int .i64 v.N∧New w w':=by
 refine does Tryz.func149 ?_
 rw [tV]
 rintro b1 w1 hb1 hw1
 obtain ⟨hz1,hn1⟩:=aR hb1 hw1
 have hz1:Blk w1 b1 v.cells TVb:=hz1
 clear hw1
 exact ⟨_,hz1.cell (i:=0) rfl,bB (λe=>⟨_,hz1.cell (i:=3) rfl,rfl,hn1⟩) (λe=>absurd hk e)⟩
theorem AJ {v:aU} (hk:v.Kind=1):retV v=v.N:=by unfold retV;rw [if_pos hk]
theorem DX {w:World} {v:aU} (hk:v.Kind=1) {d:aV} {x:Done} (hd:ww w d x):Does 122 [v.val,d.val] w λy w'=>∃ b:Bool,y=.bool b∧(b=true↔fit1 (retV v) x)∧New w w':=by
 refine does Tryz.func122 ?_
 rw [wH]
 rintro b1 w1 hb1 hw1
 obtain ⟨hz1,hn1⟩:=aR hb1 hw1
 have hz1:Blk w1 b1 v.cells TVb:=hz1
 clear hw1
 rintro b2 w2 hb2 hw2
 obtain ⟨hz2,hn2⟩:=aR hb2 hw2
 have hz2:Blk w2 b2 d.cells 53:=hz2
 clear hw2
 have hz12:=New.blk hn2 hz1
 have hn02:=hn1.new hn2
 have hcode:=hd.code
 have hwl:=hd.len
 rw [AJ hk]
 unfold fit1
 refine ⟨_,hz2.cell (i:=0) rfl,bB (λh0=>?_) (λh0=>bB (λh4=>bB (λ_=>⟨_,_,_,hz2.cell (i:=1) rfl,_,rfl,?_,hn02⟩) (λe=>absurd h4 e)) (λh4=>bB (λh5=>⟨_,_,_,hz2.cell (i:=1) rfl,_,rfl,?_,hn02⟩) (λh5=>⟨_,rfl,?_,hn02⟩)))⟩
 ·rintro w3 hw3
  have hn3:New w2 w3:=by rw [hw3];exact aT _
  clear hw3
  refine ⟨λy=>New w3 y,Keep.refl _ _,_,_,_,λy hy=>(New.blk hy (New.blk hn3 hz2)).cell (i:=1) rfl,aU.mk_ex v ⟨λy hy=>aH (New.blk hy (New.blk hn3 hz12)) rfl,?_⟩⟩
  refine aC (zA w3 hk) ?_
  rintro xv w4 ⟨rfl,hn4⟩
  refine ⟨_,rfl,hn4,_,rfl,?_,(hn02.new hn3).new hn4⟩
  rw [beq_iff_eq]
  omega
 ·rw [beq_iff_eq];omega
 ·rw [beq_iff_eq];omega
 ·refine ⟨λe=>(nomatch e),λe=>?_⟩
  omega
set_option maxHeartbeats 1000000 in
theorem EL {w:World} {a:Option Addr} {n cap:Nat} {l:List aU} (hn:n=l.length) (hl:Rd w a (je l).flatten) (hk:∀ v ∈ l,v.Kind=1) {a2:Option Addr} {n2 cap2:Nat} {raw:List aV} {ds:List Done} (hn2:n2=raw.length) (hr:Rd w a2 (gI raw).flatten) (hd:Ds w raw ds) (hfew:raw.length≤1000000) :
  Does 82 [.slice a n cap,.slice a2 n2 cap2] w (FitR w (l.map retV) ds):=by
 subst hn hn2
 refine does Tryz.func82 ?_
 rw [xU]
 refine bQ (λe=>⟨false,rfl,?_,Keep.refl _ _⟩) (λe=>?_)
 ·refine ⟨λh=>(nomatch h),λh=>?_⟩
  have:=h.1
  rw [List.length_map,←hd.1] at this
  omega
 have hll:l.length=raw.length:=by omega
 refine aW mix (λm env u=>∃ (i:Nat) (jj:List Value),m=raw.length - i∧i≤raw.length∧env=lG a2 raw.length cap2 a l.length cap l.length i jj∧New w u∧∀ (k:Nat) (r:Int) (d:Done),k<i→(l.map retV)[k]?=some r→ds[k]?=some d→fit1 r d) raw.length
  ⟨0,_,by omega,by omega,rfl,Keep.refl _ _,λk r d h=>by omega⟩ ?_
 rintro m env u ⟨i,jj,rfl,hi,rfl,hnu,hok⟩
 rw [rp]
 refine aD (λhq=>?_) (λhq=>?_)
 ·have hlt:i<raw.length:=by omega
  have hg:raw[i]?=some raw[i]:=List.getElem?_eq_getElem hlt
  have hgl:l[i]?=some l[i]:=List.getElem?_eq_getElem (by omega)
  have hkv:l[i].Kind=1:=hk _ (List.getElem_mem (by omega))
  obtain ⟨x,hgd⟩:∃ x,ds[i]?=some x:=⟨_,List.getElem?_eq_getElem (by rw [←hd.1];exact hlt)⟩
  have hda:=hd.2 i _ _ hg hgd
  generalize raw[i]=d at hg hda
  generalize l[i]=v at hgl hkv
  have hrv:(l.map retV)[i]?=some (retV v):=by rw [List.getElem?_map,hgl];rfl
  refine gN (cells:=aU.cells) aU.len (by omega) (hl.new hnu) hgl rfl rfl λb o hcc _=>aU.mk_ex v ⟨hcc,?_⟩
  refine mr (vs:=v.cells) rfl (aU.single _) λb1 w2 hb1 hz2 hn2=>?_
  have hz2:Blk w2 b1 v.cells TVb:=hz2
  rintro w3 hw3
  have hn3:New w2 w3:=by rw [hw3];exact aT _
  clear hw3
  have hn03:=(hnu.new hn2).new hn3
  refine ⟨λy=>New w3 y,Keep.refl _ _,aU.mk_ex v ⟨λy hy=>aH (New.blk hy (New.blk hn3 hz2)) rfl,?_⟩⟩
  refine sR (cells:=aV.cells) aV.len (by omega) (S:=λy=>New w3 y) (λy hy=>hr.new (hn03.new hy)) (Keep.refl _ _) hg rfl rfl ?_
  rintro b o hcc
  refine aV.mk_ex d ⟨λy hy=>eb (hcc y hy),?_⟩
  refine aC (DX hkv (hda.new hn03)) ?_
  rintro y w4 ⟨fb,rfl,hfb,hn4⟩
  refine ⟨_,rfl,?_⟩
  cases fb
  ·exact cM rfl ⟨false,rfl,⟨λe=>(nomatch e),λe=>by have:=hfb.2 (e.2 i _ _ hrv hgd);cases this⟩,hn03.new hn4⟩
  ·refine eE rfl ?_
   rw [w64 (x:=(i:Int)+1) (by omega) (by omega)]
   refine ⟨raw.length - (i+1),by omega,i+1,_,rfl,by omega,rfl,hn03.new hn4,λk r d hk h1 h2=>?_⟩
   by_cases e:k=i
   ·subst e
    rw [hrv] at h1
    rw [hgd] at h2
    cases h1;cases h2
    exact hfb.1 rfl
   ·exact hok k r d (by omega) h1 h2
 ·rw [tt]
  refine ⟨true,rfl,⟨λ_=>⟨by rw [List.length_map,←hd.1];exact hll,λk r d h1 h2=>hok k r d ?_ h1 h2⟩,λ_=>rfl⟩,hnu⟩
  have:=cN h2
  have:=hd.1
  omega
abbrev TTt:TypeId:=176
def ttC (ga:Option Addr) (gn gc:Nat) (aa:Option Addr) (an ac:Nat) (wrong:Bool):List Value:=[.slice ga gn gc,.slice aa an ac,.bool wrong]
def Fo (w:World) (b:Nat) (ga:Option Addr) (gn gc:Nat) (a:Option Addr) (n cap:Nat) (rs:List Int) (xa:Option Addr) (xl xc:Nat) (ds:List Done) (x:Value) (w':World):Prop:=
 Keep (λk=>k=b) w w'∧
  ((gn=0∧x=.tuple #[.slice none 0 0,.bool false]∧Blk w' b (ttC ga gn gc a n cap false) TTt)∨
   (gn≠0∧fitM rs ds∧x=.tuple #[.slice xa xl xc,.bool true]∧∃ ga' gc',Blk w' b (ttC ga' (gn - 1) gc' none 0 0 false) TTt)∨
   (gn≠0∧¬ fitM rs ds∧x=.tuple #[.slice none 0 0,.bool false]∧Blk w' b (ttC ga gn gc none 0 0 true) TTt))
theorem Ck {w0 w:World} {b:Nat} (h0w:New w0 w) (hb:w0.heap.size≤b) {ga:Option Addr} {gn gc:Nat} (hgc:gn≤gc) (hz:Blk w b (ttC ga gn gc none 0 0 false) TTt) {a:Option Addr} {n cap:Nat} {l:List aU} (hn:n=l.length) (hl:Rd w a (je l).flatten) (hkd:∀ v ∈ l,v.Kind=1) (h0:0<n) {xa:Option Addr} {xl xc:Nat} {raw:List aV} {ds:List Done} (hg:gn≠0→Got w0 ga gn xa xl xc raw ds) :
  Does 27 [.pointer (some ⟨b,0,none⟩),.slice a n cap] w (Fo w b ga gn gc a n cap (l.map retV) xa xl xc ds):=by
 refine does Tryz.func27 ?_
 rw [m8]
 refine bB (λe=>by omega) (λ_=>⟨_,_,_,hz.cell (i:=0) rfl,bB (λe=>?_) (λe=>?_)⟩)
 ·refine ⟨⟨_,hz.cell (i:=1) rfl⟩,hz.frozen,?_⟩
  rintro w2 hw2
  have hk2:Keep (λk=>k=b) w w2:=by rw [hw2];exact aZ _ _ _ _
  have hz2:=hz.setCell (i:=1) (.slice a n cap)
  have hw2':w2=w.setCell ⟨b,1,none⟩ (.slice a n cap):=hw2
  rw [←hw2'] at hz2
  exact ⟨hk2,.inl ⟨by omega,rfl,hz2⟩⟩
 ·have hgn:gn≠0:=by omega
  have hg:=hg hgn
  have hgw:=hg.new h0w
  obtain ⟨gb,go,rfl,hgc'⟩:=hg.one
  have hgp:=hg.pos
  refine ⟨_,_,_,hz.cell (i:=0) rfl,bI (by omega) (by omega) ⟨xa,xl,xc,nT h0w hgc' id,?_⟩⟩
  refine aC (EL hn hl hkd hgw.len hgw.rd hgw.ds hgw.few) ?_
  rintro x w5 ⟨fb,rfl,hfit,hn5⟩
  have hz5:=New.blk hn5 hz
  refine ⟨_,rfl,?_⟩
  cases fb
  ·refine cM rfl ⟨⟨_,hz5.cell (i:=2) rfl⟩,hz5.frozen,?_⟩
   rintro w6 hw6
   have hk6:Keep (λk=>k=b) w5 w6:=by rw [hw6];exact aZ _ _ _ _
   have hz6:=hz5.setCell (i:=2) (.bool true)
   have hw6':w6=w5.setCell ⟨b,2,none⟩ (.bool true):=hw6
   rw [←hw6'] at hz6
   exact ⟨(Keep.of_new hn5).trans hk6 λ_ _ e=>e,.inr (.inr ⟨hgn,λe=>(by have:=hfit.2 e;cases this),rfl,hz6⟩)⟩
  ·refine eE rfl ?_
   rintro w6 hw6
   have hn6:New w5 w6:=by rw [hw6];exact aT _
   clear hw6
   have hz6:=New.blk hn6 hz5
   refine ⟨λy=>y=w6,rfl,_,_,_,λy hy=>by rw [hy];exact hz6.cell (i:=0) rfl,bI (by omega) (by omega) ⟨xa,xl,xc,λy hy=>by rw [hy];exact nT ((h0w.new hn5).new hn6) hgc' id,_,_,_,λy hy=>by rw [hy];exact hz6.cell (i:=0) rfl,?_⟩⟩
   refine C5 (by omega) (by omega) (by omega) (by omega) hgc λga' hga'=>?_
   refine ⟨⟨_,hz6.cell (i:=0) rfl⟩,hz6.frozen,?_⟩
   rintro w7 hw7
   have hk7:Keep (λk=>k=b) w6 w7:=by rw [hw7];exact aZ _ _ _ _
   have hz7:=hz6.setCell (i:=0) (.slice ga' (gn - 1) (gc - 1))
   have hw7':w7=w6.setCell ⟨b,0,none⟩ (.slice ga' (gn - 1) (gc - 1)):=hw7
   rw [←hw7'] at hz7
   exact ⟨(Keep.of_new (hn5.new hn6)).trans hk7 λ_ _ e=>e,.inr (.inl ⟨hgn,hfit.1 rfl,rfl,ga',_,hz7⟩)⟩
theorem EM (w:World) (ga:Option Addr) (gn gc:Nat):Does 26 [.slice ga gn gc] w λx w'=>∃ b,x=.pointer (some ⟨b,0,none⟩)∧b=w.heap.size∧Blk w' b (ttC ga gn gc none 0 0 false) TTt∧New w w':=by
 refine does Tryz.func26 ?_
 rw [xT]
 rintro b1 w1 hb1 hw1
 obtain ⟨hz1,hn1⟩:=aR hb1 hw1
 exact ⟨b1,rfl,hb1,hz1,hn1⟩
theorem sj {w:World} {b:Nat} {ga:Option Addr} {gn gc:Nat} {aa:Option Addr} {an ac:Nat} {bad:Bool} (hz:Blk w b (ttC ga gn gc aa an ac bad) TTt):Does 29 [.pointer (some ⟨b,0,none⟩)] w λx w'=>x=.tuple #[.slice aa an ac,.bool (decide ((an:Int)>0))]∧New w w':=by
 refine does Tryz.func29 ?_
 rw [ro]
 rintro w1 hw1
 have hn1:New w w1:=by rw [hw1];exact aT _
 have hz1:=New.blk hn1 hz
 exact ⟨λy=>y=w1,rfl,_,_,_,λy hy=>by rw [hy];exact hz1.cell (i:=1) rfl,_,_,_,λy hy=>by rw [hy];exact hz1.cell (i:=1) rfl,rfl,hn1⟩
theorem xV {w:World} {b:Nat} {ga:Option Addr} {gn gc:Nat} {aa:Option Addr} {an ac:Nat} {bad:Bool} (hz:Blk w b (ttC ga gn gc aa an ac bad) TTt):Does 30 [.pointer (some ⟨b,0,none⟩)] w λx w'=>x=.bool (bad || decide ((gn:Int)>0))∧New w w':=by
 refine does Tryz.func30 ?_
 rw [qd]
 refine ⟨bad,hz.cell (i:=2) rfl,?_⟩
 cases bad
 ·exact eE rfl ⟨_,_,_,hz.cell (i:=0) rfl,rfl,Keep.refl _ _⟩
 ·exact cM rfl ⟨rfl,Keep.refl _ _⟩
end Go.Proofs.YtafopfaomkklpaaGreat
namespace Go.Proofs.YtafopfaomkklpaaGreat
open Go.Eng
theorem DY (w:World) {v:aU} (hk:v.Kind=1):Does 33 [v.val,v.val] w λx w'=>x=.bool true∧New w w':=by
 refine does Tryz.func33 ?_
 rw [sh]
 rintro b1 w1 hb1 hw1
 obtain ⟨hz1,hn1⟩:=aR hb1 hw1
 have hz1:Blk w1 b1 v.cells TVb:=hz1
 clear hw1
 rintro b2 w2 hb2 hw2
 obtain ⟨hz2,hn2⟩:=aR hb2 hw2
 have hz2:Blk w2 b2 v.cells TVb:=hz2
 clear hw2
 have hz12:=New.blk hn2 hz1
 exact ⟨_,hz12.cell (i:=0) rfl,_,hz2.cell (i:=0) rfl,bQ (λe=>absurd rfl e) (λ_=>⟨_,hz12.cell (i:=1) rfl,_,hz2.cell (i:=1) rfl,bQ (λe=>absurd rfl e) (λ_=>⟨_,hz12.cell (i:=2) rfl,_,hz2.cell (i:=2) rfl,bQ (λe=>absurd rfl e) (λ_=>⟨_,hz12.cell (i:=7) rfl,_,hz2.cell (i:=7) rfl,bQ (λe=>absurd rfl e) (λ_=>⟨_,hz12.cell (i:=8) rfl,_,hz2.cell (i:=8) rfl,bQ (λe=>absurd rfl e) (λ_=>⟨_,hz12.cell (i:=0) rfl,bB (λ_=>⟨_,hz12.cell (i:=3) rfl,_,hz2.cell (i:=3) rfl,by simp,hn1.new hn2⟩) (λe=>absurd hk e)⟩)⟩)⟩)⟩)⟩)⟩
theorem zB {w:World} {a a2:Option Addr} {n cap cap2:Nat} {l:List aU} (hn:n=l.length) (hfew:n≤1000000) (hl:Rd w a (je l).flatten) (hl2:Rd w a2 (je l).flatten) (hk:∀ v ∈ l,v.Kind=1) :
  Does 10 [.slice a n cap,.slice a2 n cap2] w λx w'=>x=.bool true∧New w w':=by
 subst hn
 refine does Tryz.func10 ?_
 rw [p9]
 refine bQ (λe=>absurd rfl e) (λ_=>?_)
 refine aW mix (λm env u=>∃ (i:Nat) (jj:List Value),m=l.length - i∧i≤l.length∧env=eB a l.length cap a2 l.length cap2 i jj∧New w u) l.length
  ⟨0,_,by omega,by omega,rfl,Keep.refl _ _⟩ ?_
 rintro m env u ⟨i,jj,rfl,hi,rfl,hnu⟩
 rw [kW]
 refine aD (λhq=>?_) (λhq=>?_)
 ·have hgl:l[i]?=some l[i]:=List.getElem?_eq_getElem (by omega)
  have hkv:l[i].Kind=1:=hk _ (List.getElem_mem (by omega))
  generalize l[i]=v at hgl hkv
  rintro w1 hw1
  have hn1:New u w1:=by rw [hw1];exact aT _
  clear hw1
  have hn01:=hnu.new hn1
  refine ⟨λy=>New w1 y,Keep.refl _ _,?_⟩
  refine sR (cells:=aU.cells) aU.len (by omega) (S:=λy=>New w1 y) (λy hy=>hl.new (hn01.new hy)) (Keep.refl _ _) hgl rfl rfl ?_
  rintro b o hcc
  refine aU.mk_ex v ⟨λy hy=>eb (hcc y hy),?_⟩
  refine sR (cells:=aU.cells) aU.len (by omega) (S:=λy=>New w1 y) (λy hy=>hl2.new (hn01.new hy)) (Keep.refl _ _) hgl rfl rfl ?_
  rintro b' o' hcc'
  refine aU.mk_ex v ⟨λy hy=>eb (hcc' y hy),?_⟩
  refine aC (DY w1 hkv) ?_
  rintro x w2 ⟨rfl,hn2⟩
  refine ⟨_,rfl,eE rfl ?_⟩
  rw [w64 (x:=(i:Int)+1) (by omega) (by omega)]
  exact ⟨l.length - (i+1),by omega,i+1,_,rfl,by omega,rfl,hn01.new hn2⟩
 ·rw [mZ]
  exact ⟨rfl,hnu⟩
end Go.Proofs.YtafopfaomkklpaaGreat
