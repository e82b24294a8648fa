/- Contracts of Go functions and lemmas for them: each theorem states what one function returns and what it leaves of memory; its conditions stand in its statement. -/
import Derived.Test.YthimaecnpkcmeaaA3
set_option linter.unusedVariables false
set_option linter.unusedSimpArgs false
namespace Go.Proofs.Ythimaecnpkcmeaa.K
open Go.RowKit Go.Proofs.YthimaecnpkcmeaaW.PrintWords Go.Proofs.YthimaecnpkcmeaaW.PrintLast Go.Proofs.YthimaecnpkcmeaaW.PrintMore
attribute [local go_sem] max2_int min2_int max_two min_two max_three min_three max_four min_four   -- for this text's walks alone
set_option linter.unusedVariables false
set_option linter.unusedSimpArgs false
mutual
def orders_Check.j0:Nat→Bool→List (S50)→Int→Int→Option (Int)
 | 0,_,_,_,_=>none
 | k+1,x17,x111000,x111001,x111002=>if x17=true then (some 80) else (orders_Check.l0 k x111000 (x111000.length:Int) 0 x111000 x111001 x111002)
def orders_Check.l0:Nat→List (S50)→Int→Int→List (S50)→Int→Int→Option (Int)
 | 0,_,_,_,_,_,_=>none
 | k+1,x19,x20,x21,x111000,x111001,x111002=>if x21 < x20 then (if 0≤x21 then (if x21 < (x19.length:Int) then ((orders_span.f ((rd_T50 x19 x21).f0.f0) ((rd_T50 x19 x21).f0.f1) 1073741824).bind fun t115=>(if t115=true then ((orders_within.f ((rd_T50 x19 x21).f1) 0 10000).bind fun t116=>(if t116=true then ((orders_within.f ((rd_T50 x19 x21).f2) 0 1048576).bind fun t117=>(if t117=true then (orders_Check.l0 k x19 x20 (wrap64 (x21+1)) x111000 x111001 x111002) else (some 80))) else (some 80))) else (some 80))) else (none)) else (none)) else ((orders_all.f k x111000 x111001 x111002).bind fun bt118=>((orders_common.f bt118.1 bt118.2 x111001 x111002).bind fun bt120=>(if bt120.2.2=true then (some 0) else (some 80))))
end
def orders_Check.f (k:Nat) (l0_0:List (S50)) (a0_1:Int) (a0_2:Int):Option (Int):=(orders_within.f (l0_0.length:Int) 1 12).bind fun t111=>(if t111=true then ((orders_span.f a0_1 a0_2 17179869184).bind fun t112=>(orders_Check.j0 k (!t112) l0_0 a0_1 a0_2)) else (orders_Check.j0 k true l0_0 a0_1 a0_2))
def orders_Check.T9:Bool × List (List Nat × List Nat):=(true,[([],[]),([0],[0]),([],[]),([2],[2]),([1,3,1],[1,3]),([4],[4]),([5],[5]),([5],[5]),([],[]),([8,6,4,0,1,2,3,4,5,6,8],[6,8]),([7,9,0,1,2,3,4,5,6,7,8,9],[7])])
def orders_Check.B9:List Nat:=[0,1,0,4,15,31,63,63,0,383,1023]
theorem orders_Check.tab9:rtab .any (opsOf Try.f45 9)=orders_Check.T9:=by kernel_rfl
theorem orders_Check.bits9:waitsOk orders_Check.T9.2 orders_Check.B9=true:=by kernel_rfl
set_option maxHeartbeats 8000000 in
set_option maxRecDepth 100000 in
theorem orders_Check.calls (k:Nat) (A0_0:Option Addr) (c0_0:Nat) (l0_0:List (S50)) (a0_1:Int) (a0_2:Int) (r:Int) (w:World) (hr0_0:Kd.C k50 w A0_0 l0_0.length l0_0) (hc0_0:l0_0.length≤c0_0) (h:orders_Check.f k l0_0 a0_1 a0_2=some r) :
 Calls Try.prog 45 #[.agg #[.slice A0_0 l0_0.length c0_0,.int .i64 a0_1,.int .i64 a0_2]] w fun e w'=>e= .returned (.int .i64 r)∧Below w.heap.size w w':=by
 have hu26:=Try.underlying26
 have hu24:=Try.underlying24
 have hu50:=Try.underlying50
 have HR0_0:=Aside0.mk hr0_0
 have HC0_0:=Aside0.mk hc0_0
 clear hr0_0 hc0_0
 have HB:=Aside0.mk (Below.refl w.heap.size w)
 have H:((orders_within.f (l0_0.length:Int) 1 12).bind fun t111=>(if t111=true then ((orders_span.f a0_1 a0_2 17179869184).bind fun t112=>(orders_Check.j0 k (!t112) l0_0 a0_1 a0_2)) else (orders_Check.j0 k true l0_0 a0_1 a0_2)))=some r:=h
 clear h
 have HC2:=Aside0.mk H
 clear H
 go_enter Try.func45,Try.ntmps45
 go_upto_region 1 with (first|((with_reducible refine gate_dst (N:=1) rfl ?_);refine bE #[.slice A0_0 l0_0.length c0_0,.int .i64 a0_1,.int .i64 a0_2] 26 ?_;intro gb110 hg w3 hbox hb;have BK110:=qK (hbox);have GW110:=qK ((gS hg:w.heap.size≤gb110));have GE110:=qK ((gS hg:w.heap.size≤gb110));replace HB:=qK (bS hb);clear hb hbox hg))
 (try simp only [Act.put,List.setIfInBounds_toArray,List.set_cons_zero,List.set_cons_succ])
 go_cut [17] (fun v17 wc=>∃ (kq:Nat) (x17_1:Bool),v17= .bool x17_1∧Aside0 (orders_Check.j0 kq x17_1 l0_0 a0_1 a0_2=some r)∧Aside0 (kq≤k)∧Aside0 (wc.heap[gb110]? = some (.cells #[(.slice A0_0 l0_0.length c0_0),.int .i64 a0_1,.int .i64 a0_2] 26 (0,0)))∧Aside0 (Below w.heap.size w wc))
 case first =>
  have H:=HC2.out
  clear HC2
  replace H:=Option.bind_eq_some_iff.mp H
  obtain ⟨t111,A40,H⟩:=H
  replace H:(if t111=true then ((orders_span.f a0_1 a0_2 17179869184).bind fun t112=>(orders_Check.j0 k (!t112) l0_0 a0_1 a0_2)) else (orders_Check.j0 k true l0_0 a0_1 a0_2))=some r:=H
  have A4:=Aside0.mk A40
  clear A40
  by_cases c5:t111=true
  rotate_left
  ·replace c5:=Bool.eq_false_iff.mpr c5
   subst c5
   have H1:(orders_Check.j0 k true l0_0 a0_1 a0_2)=some r:=by rw [if_neg (show ¬ (false=true) by decide)] at H;exact H
   clear H
   have H:=H1
   clear H1
   have H':=Aside0.mk H
   clear H
   obtain ⟨hcz9_0,hcz9_1,hcz9_2,hfz9_0,hfz9_1,hfz9_2⟩:=xC3 BK110.out
   go_wp2_with (first|((with_reducible refine gate_callee (f:=52) rfl ?_);refine gL (some 10) Try.func52 #[.int .i64 (l0_0.length:Int),.int .i64 1,.int .i64 12] ?_;(with_reducible refine (orders_within.calls (l0_0.length:Int) 1 12 false _ A4.out).mono ?_);rintro e w' ⟨rfl,⟨nd,rfl⟩⟩;refine ⟨_,rfl,?_⟩))
   go_meet
   case rel=>exact ⟨_,(true),sA,H',⟨by first|omega|exact Nat.le_refl _⟩,⟨by (with_reducible repeat (first|refine blk_drewN ?_ _|refine blk_drew ?_|refine blk_alloc ?_ _));exact BK110.out⟩,⟨bA⟩⟩
  subst c5
  have H1:((orders_span.f a0_1 a0_2 17179869184).bind fun t112=>(orders_Check.j0 k (!t112) l0_0 a0_1 a0_2))=some r:=by rw [if_pos rfl] at H;exact H
  clear H
  have H:=H1
  clear H1
  replace H:=Option.bind_eq_some_iff.mp H
  obtain ⟨t112,A60,H⟩:=H
  replace H:(orders_Check.j0 k (!t112) l0_0 a0_1 a0_2)=some r:=H
  have A6:=Aside0.mk A60
  clear A60
  have H':=Aside0.mk H
  clear H
  obtain ⟨hcz7_0,hcz7_1,hcz7_2,hfz7_0,hfz7_1,hfz7_2⟩:=xC3 BK110.out
  go_wp2_with (first|((with_reducible refine gate_callee (f:=52) rfl ?_);refine gL (some 10) Try.func52 #[.int .i64 (l0_0.length:Int),.int .i64 1,.int .i64 12] ?_;(with_reducible refine (orders_within.calls (l0_0.length:Int) 1 12 true _ A4.out).mono ?_);rintro e w' ⟨rfl,⟨nd,rfl⟩⟩;refine ⟨_,rfl,?_⟩)|(go_at_call 77;(with_reducible refine (orders_span.calls a0_1 a0_2 17179869184 t112 _ A6.out).mono ?_);rintro e w8 ⟨rfl,hb⟩;replace BK110:=qK (bB BK110.out hb);replace HB:=qK (bS hb)))
  go_meet
  case rel=>exact ⟨_,(!t112),sA,H',⟨by first|omega|exact Nat.le_refl _⟩,⟨by (with_reducible repeat (first|refine blk_drewN ?_ _|refine blk_drew ?_|refine blk_alloc ?_ _));exact BK110.out⟩,⟨bA⟩⟩
 case rest =>
  clear HC2
  try clear p2
  try clear c4
  try clear c5
  try clear hcz7_0
  try clear hcz7_1
  try clear hcz7_2
  try clear hcz9_0
  try clear hcz9_1
  try clear hcz9_2
  try clear hfz7_0
  try clear hfz7_1
  try clear hfz7_2
  try clear hfz9_0
  try clear hfz9_1
  try clear hfz9_2
  obtain ⟨kq,x17_1,rfl,HA,HJ1,BK110,HB⟩:=hcut
  cases kq with
  | zero=>exact absurd HA.out (by simp [orders_Check.j0])
  | succ kj1 =>
   have H:=HA.out
   clear HA
   simp only [orders_Check.j0] at H
   by_cases c10:x17_1=true
   ·subst c10
    have H1:(some 80)=some r:=by rw [if_pos rfl] at H;exact H
    clear H
    have H:=H1
    clear H1
    obtain rfl:=Option.some.inj H
    go_wp2
    go_ret
    exact ⟨by first|rfl|(simp [errW_none,errW_some] <;> rfl)|(simp [*,errW_none,errW_some] <;> rfl),bA⟩
   replace c10:=Bool.eq_false_iff.mpr c10
   subst c10
   have H1:(orders_Check.l0 kj1 l0_0 (l0_0.length:Int) 0 l0_0 a0_1 a0_2)=some r:=by rw [if_neg (show ¬ (false=true) by decide)] at H;exact H
   clear H
   have H:=H1
   clear H1
   have H':=Aside0.mk H
   clear H
   obtain ⟨hcz11_0,hcz11_1,hcz11_2,hfz11_0,hfz11_1,hfz11_2⟩:=xC3 BK110.out
   go_wp2
   go_loopg [21] kj1 (fun kq v21 w'=>∃ (x21_2:Int),v21= .int .i64 x21_2∧Aside0 (orders_Check.l0 kq l0_0 (l0_0.length:Int) x21_2 l0_0 a0_1 a0_2=some r)∧Aside0 (kq≤kj1)∧Aside0 (w'.heap[gb110]? = some (.cells #[(.slice A0_0 l0_0.length c0_0),.int .i64 a0_1,.int .i64 a0_2] 26 (0,0)))∧Aside0 (Below w.heap.size w w'))
   case atStart=>exact ⟨(0),sA,H',⟨Nat.le_refl _⟩,⟨by (with_reducible repeat (first|refine blk_drewN ?_ _|refine blk_drew ?_|refine blk_alloc ?_ _));exact BK110.out⟩,⟨bA⟩⟩
   case round =>
    clear H'
    try clear c1
    try clear p2
    try clear c4
    try clear c5
    try clear c10
    try clear hcz11_0
    try clear hcz11_1
    try clear hcz11_2
    try clear hcz7_0
    try clear hcz7_1
    try clear hcz7_2
    try clear hcz9_0
    try clear hcz9_1
    try clear hcz9_2
    try clear hfz11_0
    try clear hfz11_1
    try clear hfz11_2
    try clear hfz7_0
    try clear hfz7_1
    try clear hfz7_2
    try clear hfz9_0
    try clear hfz9_1
    try clear hfz9_2
    try clear p2
    obtain ⟨x21_2,rfl,HA,HK2,BK110,HB⟩:=hrel
    cases gk with
    | zero=>exact absurd HA.out (by simp [orders_Check.l0])
    | succ k2 =>
     have H:=HA.out
     clear HA
     simp only [orders_Check.l0] at H
     by_cases c12:x21_2 < (l0_0.length:Int)
     ·rw [if_pos c12] at H
      have c12b0:decide (x21_2 < (l0_0.length:Int))=true:=decide_eq_true c12
      clear c12
      by_cases c13:0≤x21_2
      rotate_left
      ·rw [if_neg c13] at H
       exact absurd H (by simp)
      rw [if_pos c13] at H
      have c13b0:decide (0≤x21_2)=true:=decide_eq_true c13
      clear c13
      by_cases c14:x21_2 < (l0_0.length:Int)
      rotate_left
      ·rw [if_neg c14] at H
       exact absurd H (by simp)
      rw [if_pos c14] at H
      have c14b0:decide (x21_2 < (l0_0.length:Int))=true:=decide_eq_true c14
      clear c14
      replace H:=Option.bind_eq_some_iff.mp H
      obtain ⟨t115,A150,H⟩:=H
      replace H:(if t115=true then ((orders_within.f ((rd_T50 l0_0 x21_2).f1) 0 10000).bind fun t116=>(if t116=true then ((orders_within.f ((rd_T50 l0_0 x21_2).f2) 0 1048576).bind fun t117=>(if t117=true then (orders_Check.l0 k2 l0_0 (l0_0.length:Int) (wrap64 (x21_2+1)) l0_0 a0_1 a0_2) else (some 80))) else (some 80))) else (some 80))=some r:=H
      have A15:=Aside0.mk A150
      clear A150
      by_cases c16:t115=true
      rotate_left
      ·replace c16:=Bool.eq_false_iff.mpr c16
       subst c16
       have H1:(some 80)=some r:=by rw [if_neg (show ¬ (false=true) by decide)] at H;exact H
       clear H
       have H:=H1
       clear H1
       obtain rfl:=Option.some.inj H
       have p113:0≤(x21_2:Int):=dA
       have q113:x21_2 < (l0_0.length:Int):=dA
       obtain ⟨ad113,e113,hx113_0,hx113_1,hx113_2,hx113_3⟩:=at_T50 HR0_0.out x21_2 p113 q113
       cases e113
       replace hx113_0:=hC HB.out hx113_0
       replace hx113_1:=hC HB.out hx113_1
       replace hx113_2:=hC HB.out hx113_2
       replace hx113_3:=hC HB.out hx113_3
       replace p113:=eq_true p113
       replace q113:=eq_true q113
       go_wp2_with (first|((with_reducible refine gate_dst (N:=4) rfl ?_);refine bE #[.int .i64 0,.int .i64 0,.int .i64 0,.int .i64 0] 50 ?_;intro gb114 hg w36 hbox hb;have BK114:=qK (hbox);have GW114:=qK ((gS hg:w.heap.size≤gb114));have GE114:=qK ((gS hg:w.heap.size≤gb114));replace HB:=qK (bS hb);have NB110_114:=qK ((nL hg BK110.out:gb110≠gb114));have NB114_110:=qK ((nG hg BK110.out:gb114≠gb110));replace BK110:=qK (bB BK110.out hb);clear hb hbox hg;have hnb37:=NB114_110.out;have hnc37:=NB110_114.out;obtain ⟨_,_,_,_,_,_,_,_⟩:=xC4 BK114.out)|((with_reducible refine gate_callee (f:=77) rfl ?_);refine gL (some 27) Try.func77 #[.agg #[.int .i64 ((rd_T50 l0_0 x21_2).f0.f0),.int .i64 ((rd_T50 l0_0 x21_2).f0.f1)],.int .i64 1073741824] ?_;(with_reducible refine (orders_span.calls ((rd_T50 l0_0 x21_2).f0.f0) ((rd_T50 l0_0 x21_2).f0.f1) 1073741824 false _ A15.out).mono ?_);rintro e w39 ⟨rfl,hb⟩;refine ⟨_,rfl,?_⟩;replace BK110:=qK (blk_below (g:=gb110) (o:=.cells #[.slice (some ad113) l0_0.length c0_0,.int .i64 a0_1,.int .i64 a0_2] 26 (0,0)) (by (with_reducible repeat (first|refine blk_drewN ?_ _|refine blk_drew ?_|refine blk_alloc ?_ _));refine blk_far ?_ NB110_114.out _;(with_reducible repeat (first|refine blk_drewN ?_ _|refine blk_drew ?_|refine blk_alloc ?_ _));refine blk_far ?_ NB110_114.out _;(with_reducible repeat (first|refine blk_drewN ?_ _|refine blk_drew ?_|refine blk_alloc ?_ _));refine blk_far ?_ NB110_114.out _;(with_reducible repeat (first|refine blk_drewN ?_ _|refine blk_drew ?_|refine blk_alloc ?_ _));refine blk_far ?_ NB110_114.out _;(with_reducible repeat (first|refine blk_drewN ?_ _|refine blk_drew ?_|refine blk_alloc ?_ _));exact BK110.out) hb);replace BK114:=qK (blk_below (g:=gb114) (o:=.cells #[.int .i64 ((rd_T50 l0_0 x21_2).f0.f0),.int .i64 ((rd_T50 l0_0 x21_2).f0.f1),.int .i64 ((rd_T50 l0_0 x21_2).f1),.int .i64 ((rd_T50 l0_0 x21_2).f2)] 50 (0,0)) (by (with_reducible repeat (first|refine blk_drewN ?_ _|refine blk_drew ?_|refine blk_alloc ?_ _));refine blk_put (cs:=#[.int .i64 ((rd_T50 l0_0 x21_2).f0.f0),.int .i64 ((rd_T50 l0_0 x21_2).f0.f1),.int .i64 ((rd_T50 l0_0 x21_2).f1),.int .i64 0]) ?_ 3 _ rfl;(with_reducible repeat (first|refine blk_drewN ?_ _|refine blk_drew ?_|refine blk_alloc ?_ _));refine blk_put (cs:=#[.int .i64 ((rd_T50 l0_0 x21_2).f0.f0),.int .i64 ((rd_T50 l0_0 x21_2).f0.f1),.int .i64 0,.int .i64 0]) ?_ 2 _ rfl;(with_reducible repeat (first|refine blk_drewN ?_ _|refine blk_drew ?_|refine blk_alloc ?_ _));refine blk_put (cs:=#[.int .i64 ((rd_T50 l0_0 x21_2).f0.f0),.int .i64 0,.int .i64 0,.int .i64 0]) ?_ 1 _ rfl;(with_reducible repeat (first|refine blk_drewN ?_ _|refine blk_drew ?_|refine blk_alloc ?_ _));refine blk_put (cs:=#[.int .i64 0,.int .i64 0,.int .i64 0,.int .i64 0]) ?_ 0 _ rfl;(with_reducible repeat (first|refine blk_drewN ?_ _|refine blk_drew ?_|refine blk_alloc ?_ _));exact BK114.out) hb);replace HB:=qK (bS hb)))
       go_ret
       exact ⟨by first|rfl|(simp [errW_none,errW_some] <;> rfl)|(simp [*,errW_none,errW_some] <;> rfl),bA⟩
      subst c16
      have H1:((orders_within.f ((rd_T50 l0_0 x21_2).f1) 0 10000).bind fun t116=>(if t116=true then ((orders_within.f ((rd_T50 l0_0 x21_2).f2) 0 1048576).bind fun t117=>(if t117=true then (orders_Check.l0 k2 l0_0 (l0_0.length:Int) (wrap64 (x21_2+1)) l0_0 a0_1 a0_2) else (some 80))) else (some 80)))=some r:=by rw [if_pos rfl] at H;exact H
      clear H
      have H:=H1
      clear H1
      replace H:=Option.bind_eq_some_iff.mp H
      obtain ⟨t116,A170,H⟩:=H
      replace H:(if t116=true then ((orders_within.f ((rd_T50 l0_0 x21_2).f2) 0 1048576).bind fun t117=>(if t117=true then (orders_Check.l0 k2 l0_0 (l0_0.length:Int) (wrap64 (x21_2+1)) l0_0 a0_1 a0_2) else (some 80))) else (some 80))=some r:=H
      have A17:=Aside0.mk A170
      clear A170
      by_cases c18:t116=true
      rotate_left
      ·replace c18:=Bool.eq_false_iff.mpr c18
       subst c18
       have H1:(some 80)=some r:=by rw [if_neg (show ¬ (false=true) by decide)] at H;exact H
       clear H
       have H:=H1
       clear H1
       obtain rfl:=Option.some.inj H
       have p113:0≤(x21_2:Int):=dA
       have q113:x21_2 < (l0_0.length:Int):=dA
       obtain ⟨ad113,e113,hx113_0,hx113_1,hx113_2,hx113_3⟩:=at_T50 HR0_0.out x21_2 p113 q113
       cases e113
       replace hx113_0:=hC HB.out hx113_0
       replace hx113_1:=hC HB.out hx113_1
       replace hx113_2:=hC HB.out hx113_2
       replace hx113_3:=hC HB.out hx113_3
       replace p113:=eq_true p113
       replace q113:=eq_true q113
       go_wp2_with (first|((with_reducible refine gate_dst (N:=4) rfl ?_);refine bE #[.int .i64 0,.int .i64 0,.int .i64 0,.int .i64 0] 50 ?_;intro gb114 hg w31 hbox hb;have BK114:=qK (hbox);have GW114:=qK ((gS hg:w.heap.size≤gb114));have GE114:=qK ((gS hg:w.heap.size≤gb114));replace HB:=qK (bS hb);have NB110_114:=qK ((nL hg BK110.out:gb110≠gb114));have NB114_110:=qK ((nG hg BK110.out:gb114≠gb110));replace BK110:=qK (bB BK110.out hb);clear hb hbox hg;have hnb32:=NB114_110.out;have hnc32:=NB110_114.out;obtain ⟨_,_,_,_,_,_,_,_⟩:=xC4 BK114.out)|((with_reducible refine gate_callee (f:=77) rfl ?_);refine gL (some 27) Try.func77 #[.agg #[.int .i64 ((rd_T50 l0_0 x21_2).f0.f0),.int .i64 ((rd_T50 l0_0 x21_2).f0.f1)],.int .i64 1073741824] ?_;(with_reducible refine (orders_span.calls ((rd_T50 l0_0 x21_2).f0.f0) ((rd_T50 l0_0 x21_2).f0.f1) 1073741824 true _ A15.out).mono ?_);rintro e w34 ⟨rfl,hb⟩;refine ⟨_,rfl,?_⟩;replace BK110:=qK (blk_below (g:=gb110) (o:=.cells #[.slice (some ad113) l0_0.length c0_0,.int .i64 a0_1,.int .i64 a0_2] 26 (0,0)) (by (with_reducible repeat (first|refine blk_drewN ?_ _|refine blk_drew ?_|refine blk_alloc ?_ _));refine blk_far ?_ NB110_114.out _;(with_reducible repeat (first|refine blk_drewN ?_ _|refine blk_drew ?_|refine blk_alloc ?_ _));refine blk_far ?_ NB110_114.out _;(with_reducible repeat (first|refine blk_drewN ?_ _|refine blk_drew ?_|refine blk_alloc ?_ _));refine blk_far ?_ NB110_114.out _;(with_reducible repeat (first|refine blk_drewN ?_ _|refine blk_drew ?_|refine blk_alloc ?_ _));refine blk_far ?_ NB110_114.out _;(with_reducible repeat (first|refine blk_drewN ?_ _|refine blk_drew ?_|refine blk_alloc ?_ _));exact BK110.out) hb);replace BK114:=qK (blk_below (g:=gb114) (o:=.cells #[.int .i64 ((rd_T50 l0_0 x21_2).f0.f0),.int .i64 ((rd_T50 l0_0 x21_2).f0.f1),.int .i64 ((rd_T50 l0_0 x21_2).f1),.int .i64 ((rd_T50 l0_0 x21_2).f2)] 50 (0,0)) (by (with_reducible repeat (first|refine blk_drewN ?_ _|refine blk_drew ?_|refine blk_alloc ?_ _));refine blk_put (cs:=#[.int .i64 ((rd_T50 l0_0 x21_2).f0.f0),.int .i64 ((rd_T50 l0_0 x21_2).f0.f1),.int .i64 ((rd_T50 l0_0 x21_2).f1),.int .i64 0]) ?_ 3 _ rfl;(with_reducible repeat (first|refine blk_drewN ?_ _|refine blk_drew ?_|refine blk_alloc ?_ _));refine blk_put (cs:=#[.int .i64 ((rd_T50 l0_0 x21_2).f0.f0),.int .i64 ((rd_T50 l0_0 x21_2).f0.f1),.int .i64 0,.int .i64 0]) ?_ 2 _ rfl;(with_reducible repeat (first|refine blk_drewN ?_ _|refine blk_drew ?_|refine blk_alloc ?_ _));refine blk_put (cs:=#[.int .i64 ((rd_T50 l0_0 x21_2).f0.f0),.int .i64 0,.int .i64 0,.int .i64 0]) ?_ 1 _ rfl;(with_reducible repeat (first|refine blk_drewN ?_ _|refine blk_drew ?_|refine blk_alloc ?_ _));refine blk_put (cs:=#[.int .i64 0,.int .i64 0,.int .i64 0,.int .i64 0]) ?_ 0 _ rfl;(with_reducible repeat (first|refine blk_drewN ?_ _|refine blk_drew ?_|refine blk_alloc ?_ _));exact BK114.out) hb);replace HB:=qK (bS hb);obtain ⟨_,_,_,_,_,_,_,_⟩:=xC4 BK114.out)|(go_at_call 52;(with_reducible refine (orders_within.calls ((rd_T50 l0_0 x21_2).f1) 0 10000 false _ A17.out).mono ?_);rintro e w' ⟨rfl,⟨nd,rfl⟩⟩))
       go_ret
       exact ⟨by first|rfl|(simp [errW_none,errW_some] <;> rfl)|(simp [*,errW_none,errW_some] <;> rfl),bA⟩
      subst c18
      have H1:((orders_within.f ((rd_T50 l0_0 x21_2).f2) 0 1048576).bind fun t117=>(if t117=true then (orders_Check.l0 k2 l0_0 (l0_0.length:Int) (wrap64 (x21_2+1)) l0_0 a0_1 a0_2) else (some 80)))=some r:=by rw [if_pos rfl] at H;exact H
      clear H
      have H:=H1
      clear H1
      replace H:=Option.bind_eq_some_iff.mp H
      obtain ⟨t117,A190,H⟩:=H
      replace H:(if t117=true then (orders_Check.l0 k2 l0_0 (l0_0.length:Int) (wrap64 (x21_2+1)) l0_0 a0_1 a0_2) else (some 80))=some r:=H
      have A19:=Aside0.mk A190
      clear A190
      by_cases c20:t117=true
      rotate_left
      ·replace c20:=Bool.eq_false_iff.mpr c20
       subst c20
       have H1:(some 80)=some r:=by rw [if_neg (show ¬ (false=true) by decide)] at H;exact H
       clear H
       have H:=H1
       clear H1
       obtain rfl:=Option.some.inj H
       have p113:0≤(x21_2:Int):=dA
       have q113:x21_2 < (l0_0.length:Int):=dA
       obtain ⟨ad113,e113,hx113_0,hx113_1,hx113_2,hx113_3⟩:=at_T50 HR0_0.out x21_2 p113 q113
       cases e113
       replace hx113_0:=hC HB.out hx113_0
       replace hx113_1:=hC HB.out hx113_1
       replace hx113_2:=hC HB.out hx113_2
       replace hx113_3:=hC HB.out hx113_3
       replace p113:=eq_true p113
       replace q113:=eq_true q113
       go_wp2_with (first|((with_reducible refine gate_dst (N:=4) rfl ?_);refine bE #[.int .i64 0,.int .i64 0,.int .i64 0,.int .i64 0] 50 ?_;intro gb114 hg w26 hbox hb;have BK114:=qK (hbox);have GW114:=qK ((gS hg:w.heap.size≤gb114));have GE114:=qK ((gS hg:w.heap.size≤gb114));replace HB:=qK (bS hb);have NB110_114:=qK ((nL hg BK110.out:gb110≠gb114));have NB114_110:=qK ((nG hg BK110.out:gb114≠gb110));replace BK110:=qK (bB BK110.out hb);clear hb hbox hg;have hnb27:=NB114_110.out;have hnc27:=NB110_114.out;obtain ⟨_,_,_,_,_,_,_,_⟩:=xC4 BK114.out)|((with_reducible refine gate_callee (f:=77) rfl ?_);refine gL (some 27) Try.func77 #[.agg #[.int .i64 ((rd_T50 l0_0 x21_2).f0.f0),.int .i64 ((rd_T50 l0_0 x21_2).f0.f1)],.int .i64 1073741824] ?_;(with_reducible refine (orders_span.calls ((rd_T50 l0_0 x21_2).f0.f0) ((rd_T50 l0_0 x21_2).f0.f1) 1073741824 true _ A15.out).mono ?_);rintro e w29 ⟨rfl,hb⟩;refine ⟨_,rfl,?_⟩;replace BK110:=qK (blk_below (g:=gb110) (o:=.cells #[.slice (some ad113) l0_0.length c0_0,.int .i64 a0_1,.int .i64 a0_2] 26 (0,0)) (by (with_reducible repeat (first|refine blk_drewN ?_ _|refine blk_drew ?_|refine blk_alloc ?_ _));refine blk_far ?_ NB110_114.out _;(with_reducible repeat (first|refine blk_drewN ?_ _|refine blk_drew ?_|refine blk_alloc ?_ _));refine blk_far ?_ NB110_114.out _;(with_reducible repeat (first|refine blk_drewN ?_ _|refine blk_drew ?_|refine blk_alloc ?_ _));refine blk_far ?_ NB110_114.out _;(with_reducible repeat (first|refine blk_drewN ?_ _|refine blk_drew ?_|refine blk_alloc ?_ _));refine blk_far ?_ NB110_114.out _;(with_reducible repeat (first|refine blk_drewN ?_ _|refine blk_drew ?_|refine blk_alloc ?_ _));exact BK110.out) hb);replace BK114:=qK (blk_below (g:=gb114) (o:=.cells #[.int .i64 ((rd_T50 l0_0 x21_2).f0.f0),.int .i64 ((rd_T50 l0_0 x21_2).f0.f1),.int .i64 ((rd_T50 l0_0 x21_2).f1),.int .i64 ((rd_T50 l0_0 x21_2).f2)] 50 (0,0)) (by (with_reducible repeat (first|refine blk_drewN ?_ _|refine blk_drew ?_|refine blk_alloc ?_ _));refine blk_put (cs:=#[.int .i64 ((rd_T50 l0_0 x21_2).f0.f0),.int .i64 ((rd_T50 l0_0 x21_2).f0.f1),.int .i64 ((rd_T50 l0_0 x21_2).f1),.int .i64 0]) ?_ 3 _ rfl;(with_reducible repeat (first|refine blk_drewN ?_ _|refine blk_drew ?_|refine blk_alloc ?_ _));refine blk_put (cs:=#[.int .i64 ((rd_T50 l0_0 x21_2).f0.f0),.int .i64 ((rd_T50 l0_0 x21_2).f0.f1),.int .i64 0,.int .i64 0]) ?_ 2 _ rfl;(with_reducible repeat (first|refine blk_drewN ?_ _|refine blk_drew ?_|refine blk_alloc ?_ _));refine blk_put (cs:=#[.int .i64 ((rd_T50 l0_0 x21_2).f0.f0),.int .i64 0,.int .i64 0,.int .i64 0]) ?_ 1 _ rfl;(with_reducible repeat (first|refine blk_drewN ?_ _|refine blk_drew ?_|refine blk_alloc ?_ _));refine blk_put (cs:=#[.int .i64 0,.int .i64 0,.int .i64 0,.int .i64 0]) ?_ 0 _ rfl;(with_reducible repeat (first|refine blk_drewN ?_ _|refine blk_drew ?_|refine blk_alloc ?_ _));exact BK114.out) hb);replace HB:=qK (bS hb);obtain ⟨_,_,_,_,_,_,_,_⟩:=xC4 BK114.out)|(go_at_call 52;(with_reducible refine (orders_within.calls ((rd_T50 l0_0 x21_2).f1) 0 10000 true _ A17.out).mono ?_);rintro e w' ⟨rfl,⟨nd,rfl⟩⟩)|(go_at_call 52;(with_reducible refine (orders_within.calls ((rd_T50 l0_0 x21_2).f2) 0 1048576 false _ A19.out).mono ?_);rintro e w' ⟨rfl,⟨nd,rfl⟩⟩))
       go_ret
       exact ⟨by first|rfl|(simp [errW_none,errW_some] <;> rfl)|(simp [*,errW_none,errW_some] <;> rfl),bA⟩
      subst c20
      have H1:(orders_Check.l0 k2 l0_0 (l0_0.length:Int) (wrap64 (x21_2+1)) l0_0 a0_1 a0_2)=some r:=by rw [if_pos rfl] at H;exact H
      clear H
      have H:=H1
      clear H1
      have H':=Aside0.mk H
      clear H
      have p113:0≤(x21_2:Int):=dA
      have q113:x21_2 < (l0_0.length:Int):=dA
      obtain ⟨ad113,e113,hx113_0,hx113_1,hx113_2,hx113_3⟩:=at_T50 HR0_0.out x21_2 p113 q113
      cases e113
      replace hx113_0:=hC HB.out hx113_0
      replace hx113_1:=hC HB.out hx113_1
      replace hx113_2:=hC HB.out hx113_2
      replace hx113_3:=hC HB.out hx113_3
      replace p113:=eq_true p113
      replace q113:=eq_true q113
      go_wp2_with (first|((with_reducible refine gate_dst (N:=4) rfl ?_);refine bE #[.int .i64 0,.int .i64 0,.int .i64 0,.int .i64 0] 50 ?_;intro gb114 hg w21 hbox hb;have BK114:=qK (hbox);have GW114:=qK ((gS hg:w.heap.size≤gb114));have GE114:=qK ((gS hg:w.heap.size≤gb114));replace HB:=qK (bS hb);have NB110_114:=qK ((nL hg BK110.out:gb110≠gb114));have NB114_110:=qK ((nG hg BK110.out:gb114≠gb110));replace BK110:=qK (bB BK110.out hb);clear hb hbox hg;have hnb22:=NB114_110.out;have hnc22:=NB110_114.out;obtain ⟨_,_,_,_,_,_,_,_⟩:=xC4 BK114.out)|((with_reducible refine gate_callee (f:=77) rfl ?_);refine gL (some 27) Try.func77 #[.agg #[.int .i64 ((rd_T50 l0_0 x21_2).f0.f0),.int .i64 ((rd_T50 l0_0 x21_2).f0.f1)],.int .i64 1073741824] ?_;(with_reducible refine (orders_span.calls ((rd_T50 l0_0 x21_2).f0.f0) ((rd_T50 l0_0 x21_2).f0.f1) 1073741824 true _ A15.out).mono ?_);rintro e w24 ⟨rfl,hb⟩;refine ⟨_,rfl,?_⟩;replace BK110:=qK (blk_below (g:=gb110) (o:=.cells #[.slice (some ad113) l0_0.length c0_0,.int .i64 a0_1,.int .i64 a0_2] 26 (0,0)) (by (with_reducible repeat (first|refine blk_drewN ?_ _|refine blk_drew ?_|refine blk_alloc ?_ _));refine blk_far ?_ NB110_114.out _;(with_reducible repeat (first|refine blk_drewN ?_ _|refine blk_drew ?_|refine blk_alloc ?_ _));refine blk_far ?_ NB110_114.out _;(with_reducible repeat (first|refine blk_drewN ?_ _|refine blk_drew ?_|refine blk_alloc ?_ _));refine blk_far ?_ NB110_114.out _;(with_reducible repeat (first|refine blk_drewN ?_ _|refine blk_drew ?_|refine blk_alloc ?_ _));refine blk_far ?_ NB110_114.out _;(with_reducible repeat (first|refine blk_drewN ?_ _|refine blk_drew ?_|refine blk_alloc ?_ _));exact BK110.out) hb);replace BK114:=qK (blk_below (g:=gb114) (o:=.cells #[.int .i64 ((rd_T50 l0_0 x21_2).f0.f0),.int .i64 ((rd_T50 l0_0 x21_2).f0.f1),.int .i64 ((rd_T50 l0_0 x21_2).f1),.int .i64 ((rd_T50 l0_0 x21_2).f2)] 50 (0,0)) (by (with_reducible repeat (first|refine blk_drewN ?_ _|refine blk_drew ?_|refine blk_alloc ?_ _));refine blk_put (cs:=#[.int .i64 ((rd_T50 l0_0 x21_2).f0.f0),.int .i64 ((rd_T50 l0_0 x21_2).f0.f1),.int .i64 ((rd_T50 l0_0 x21_2).f1),.int .i64 0]) ?_ 3 _ rfl;(with_reducible repeat (first|refine blk_drewN ?_ _|refine blk_drew ?_|refine blk_alloc ?_ _));refine blk_put (cs:=#[.int .i64 ((rd_T50 l0_0 x21_2).f0.f0),.int .i64 ((rd_T50 l0_0 x21_2).f0.f1),.int .i64 0,.int .i64 0]) ?_ 2 _ rfl;(with_reducible repeat (first|refine blk_drewN ?_ _|refine blk_drew ?_|refine blk_alloc ?_ _));refine blk_put (cs:=#[.int .i64 ((rd_T50 l0_0 x21_2).f0.f0),.int .i64 0,.int .i64 0,.int .i64 0]) ?_ 1 _ rfl;(with_reducible repeat (first|refine blk_drewN ?_ _|refine blk_drew ?_|refine blk_alloc ?_ _));refine blk_put (cs:=#[.int .i64 0,.int .i64 0,.int .i64 0,.int .i64 0]) ?_ 0 _ rfl;(with_reducible repeat (first|refine blk_drewN ?_ _|refine blk_drew ?_|refine blk_alloc ?_ _));exact BK114.out) hb);replace HB:=qK (bS hb);obtain ⟨_,_,_,_,_,_,_,_⟩:=xC4 BK114.out)|(go_at_call 52;(with_reducible refine (orders_within.calls ((rd_T50 l0_0 x21_2).f1) 0 10000 true _ A17.out).mono ?_);rintro e w' ⟨rfl,⟨nd,rfl⟩⟩)|(go_at_call 52;(with_reducible refine (orders_within.calls ((rd_T50 l0_0 x21_2).f2) 0 1048576 true _ A19.out).mono ?_);rintro e w' ⟨rfl,⟨nd,rfl⟩⟩))
      go_roundg k2
      case measure=>have:=HJ1.out;have:=HK2.out;omega
      case rel=>exact ⟨(wrap64 (x21_2+1)),sA,H',⟨by have:=HJ1.out;have:=HK2.out;omega⟩,⟨by (with_reducible repeat (first|refine blk_drewN ?_ _|refine blk_drew ?_|refine blk_alloc ?_ _));exact BK110.out⟩,⟨bA⟩⟩
     rw [if_neg c12] at H
     have c12b0:decide (x21_2 < (l0_0.length:Int))=false:=decide_eq_false c12
     clear c12
     replace H:=Option.bind_eq_some_iff.mp H
     obtain ⟨⟨t118,t119⟩,A400,H⟩:=H
     replace H:((orders_common.f t118 t119 a0_1 a0_2).bind fun bt120=>(if bt120.2.2=true then (some 0) else (some 80)))=some r:=H
     have A40:=Aside0.mk A400
     clear A400
     replace H:=Option.bind_eq_some_iff.mp H
     obtain ⟨⟨t120,t121,t122⟩,A410,H⟩:=H
     replace H:(if t122=true then (some 0) else (some 80))=some r:=H
     have A41:=Aside0.mk A410
     clear A410
     by_cases c42:t122=true
     ·subst c42
      have H1:(some 0)=some r:=by rw [if_pos rfl] at H;exact H
      clear H
      have H:=H1
      clear H1
      obtain rfl:=Option.some.inj H
      try go_wp2
      replace BK110:=qK (blk_drew BK110.out)
      replace HB:=qK (below_drew1 HB.out)
      refine start_ (n:=11) (S:=fun w'=>w'.cell? ⟨gb110,0,none⟩=some (.slice A0_0 l0_0.length c0_0)∧w'.cell? ⟨gb110,1,none⟩=some (.int .i64 a0_1)∧w'.cell? ⟨gb110,2,none⟩=some (.int .i64 a0_2)) (ds:=[]) #[false,false,false,false,false,false,false,false,false,false,false] (by kernel_rfl) rfl rfl ⟨(blk_cell BK110.out 0).trans rfl,(blk_cell BK110.out 1).trans rfl,(blk_cell BK110.out 2).trans rfl⟩ (fun hHeld=>?_);refine with_tabW orders_Check.tab9 orders_Check.bits9 (fun HT_ HW_=>?_)
      generalize wr.drew=w43 at BK110 HB hHeld ⊢
      refine pP 2 (some 45) HT_ ?_
      refine tP 0 (some 43) HT_ HW_ hHeld ?_
      refine tP 3 (some 46) HT_ HW_ hHeld ?_
      refine join_ (σ:=Nat) 2 #[true,true,true,true,true,true,true,true,true,false,false] (fun s_=>[(44,.agg #[.int .i64 t118,.int .i64 t119]),(47,.tuple #[.agg #[.int .i64 t120,.int .i64 t121],.bool true]),(5,.pointer (some ⟨s_,0,none⟩)),(42,.tuple #[.agg #[.int .i64 t120,.int .i64 t121],.bool true]),(48,.agg #[.int .i64 t120,.int .i64 t121]),(49,.bool true)]) (fun s_ w'=>(w'.cell? ⟨gb110,0,none⟩=some (.slice A0_0 l0_0.length c0_0)∧w'.cell? ⟨gb110,1,none⟩=some (.int .i64 a0_1)∧w'.cell? ⟨gb110,2,none⟩=some (.int .i64 a0_2))∧(w'.heap[gb110]? = some (.cells #[.slice A0_0 l0_0.length c0_0,.int .i64 a0_1,.int .i64 a0_2] 26 (0,0)))∧(w'.heap[s_]? = some (.cells #[.int .i64 0,.int .i64 0] 24 (0,0)))∧(w.heap.size≤s_)∧(w.heap.size≤s_)∧(gb110≠s_)∧(s_≠gb110)∧(Below w.heap.size w w')) ?_ ?_
      rotate_left
      ·intro hCont
       refine two_ (i:=1) (j:=8) (Ni:=some 44) (Nj:=some 5) #[true,true,true,true,false,false,false,false,false,false,false] #[true,false,true,true,false,false,false,false,true,false,false] rfl rfl rfl rfl (two_of HT_.out (by kernel_rfl)) (by decide) (by decide) (fun K hK=>?_) (fun K hK=>?_)
       ·skip
        refine gO Try.func54 #[.agg #[.slice A0_0 l0_0.length c0_0,.int .i64 a0_1,.int .i64 a0_2]] ?_
        with_reducible refine (orders_all.calls k2 _ _ l0_0 a0_1 a0_2 t118 t119 _ ?side1 ?side2 A40.out).mono ?_
        (case side1=>exact cS HR0_0.out)
        (case side2=>exact HC0_0.out)
        rintro e w44 ⟨rfl,hb⟩
        refine ⟨_,rfl,?_⟩
        replace BK110:=qK (bB BK110.out hb)
        replace HB:=qK (bS hb)
        (try clear hb)
        (try clear hb2)
        (try clear hk)
        (try clear hi)
        refine hK.out _ _ ⟨(blk_cell BK110.out 0).trans rfl,(blk_cell BK110.out 1).trans rfl,(blk_cell BK110.out 2).trans rfl⟩ (fun hHeld=>?_)
        clear hK K
        refine nP ?_
        refine two_ (i:=4) (j:=8) (Ni:=some 47) (Nj:=some 5) #[true,true,true,true,true,false,false,false,false,false,false] #[true,true,true,true,false,false,false,false,true,false,false] rfl rfl rfl rfl (two_of HT_.out (by kernel_rfl)) (by decide) (by decide) (fun K hK=>?_) (fun K hK=>?_)
        ·skip
         refine gO Try.func53 #[.agg #[.int .i64 t118,.int .i64 t119],.agg #[.int .i64 a0_1,.int .i64 a0_2]] ?_
         with_reducible refine (orders_common.calls t118 t119 a0_1 a0_2 t120 t121 true _ A41.out).mono ?_
         rintro e w45 ⟨rfl,hb⟩
         refine ⟨_,rfl,?_⟩
         replace BK110:=qK (bB BK110.out hb)
         replace HB:=qK (bS hb)
         (try clear hb)
         (try clear hb2)
         (try clear hk)
         (try clear hi)
         refine hK.out _ _ ⟨(blk_cell BK110.out 0).trans rfl,(blk_cell BK110.out 1).trans rfl,(blk_cell BK110.out 2).trans rfl⟩ (fun hHeld=>?_)
         clear hK K
         refine nP ?_
         refine pP 5 (some 42) HT_ ?_
         refine pP 6 (some 48) HT_ ?_
         refine pP 7 (some 49) HT_ ?_
         refine oP 8 (some 5) HT_ (fun K hK=>?_)
         refine box_step ?hg (N:=5) ?hd (cs:=#[.int .i64 0,.int .i64 0]) (t:=24) ?hr ?_;(case hd=>rfl);(case hg=>rfl);(case hr=>first|(go_simp;done)|(go_simp;rfl))
         intro gb123 hg w46 hbox hb
         have BK123:=qK (hbox)
         have GW123:=qK ((gS hg:w.heap.size≤gb123))
         have GE123:=qK ((gS hg:w.heap.size≤gb123))
         replace HB:=qK (bS hb)
         have NB110_123:=qK ((nL hg BK110.out:gb110≠gb123))
         have NB123_110:=qK ((nG hg BK110.out:gb123≠gb110))
         replace BK110:=qK (bB BK110.out hb)
         clear hb hbox hg
         refine hK.out _ _ ⟨(blk_cell BK110.out 0).trans rfl,(blk_cell BK110.out 1).trans rfl,(blk_cell BK110.out 2).trans rfl⟩ (fun hHeld=>?_)
         clear hK K
         refine nP ?_
         exact norm_ (by simp only [putAll,Act.put,List.setIfInBounds_toArray,List.set_cons_zero,List.set_cons_succ]) (hCont (gb123) _ ⟨hHeld,(bX BK110.out),(bX BK123.out),GW123.out,GE123.out,NB110_123.out,NB123_110.out,bA⟩)
        ·skip
         refine box_step ?hg (N:=5) ?hd (cs:=#[.int .i64 0,.int .i64 0]) (t:=24) ?hr ?_;(case hd=>rfl);(case hg=>rfl);(case hr=>first|(go_simp;done)|(go_simp;rfl))
         intro gb123 hg w45 hbox hb
         have BK123:=qK (hbox)
         have GW123:=qK ((gS hg:w.heap.size≤gb123))
         have GE123:=qK ((gS hg:w.heap.size≤gb123))
         replace HB:=qK (bS hb)
         have NB110_123:=qK ((nL hg BK110.out:gb110≠gb123))
         have NB123_110:=qK ((nG hg BK110.out:gb123≠gb110))
         replace BK110:=qK (bB BK110.out hb)
         clear hb hbox hg
         refine hK.out _ _ ⟨(blk_cell BK110.out 0).trans rfl,(blk_cell BK110.out 1).trans rfl,(blk_cell BK110.out 2).trans rfl⟩ (fun hHeld=>?_)
         clear hK K
         refine nP ?_
         refine oP 4 (some 47) HT_ (fun K hK=>?_)
         refine gO Try.func53 #[.agg #[.int .i64 t118,.int .i64 t119],.agg #[.int .i64 a0_1,.int .i64 a0_2]] ?_
         with_reducible refine (orders_common.calls t118 t119 a0_1 a0_2 t120 t121 true _ A41.out).mono ?_
         rintro e w46 ⟨rfl,hb⟩
         refine ⟨_,rfl,?_⟩
         replace BK110:=qK (bB BK110.out hb)
         replace BK123:=qK (bB BK123.out hb)
         replace HB:=qK (bS hb)
         (try clear hb)
         (try clear hb2)
         (try clear hk)
         (try clear hi)
         refine hK.out _ _ ⟨(blk_cell BK110.out 0).trans rfl,(blk_cell BK110.out 1).trans rfl,(blk_cell BK110.out 2).trans rfl⟩ (fun hHeld=>?_)
         clear hK K
         refine nP ?_
         refine pP 5 (some 42) HT_ ?_
         refine pP 6 (some 48) HT_ ?_
         refine pP 7 (some 49) HT_ ?_
         exact norm_ (by simp only [putAll,Act.put,List.setIfInBounds_toArray,List.set_cons_zero,List.set_cons_succ]) (hCont (gb123) _ ⟨hHeld,(bX BK110.out),(bX BK123.out),GW123.out,GE123.out,NB110_123.out,NB123_110.out,bA⟩)
       ·skip
        refine box_step ?hg (N:=5) ?hd (cs:=#[.int .i64 0,.int .i64 0]) (t:=24) ?hr ?_;(case hd=>rfl);(case hg=>rfl);(case hr=>first|(go_simp;done)|(go_simp;rfl))
        intro gb123 hg w44 hbox hb
        have BK123:=qK (hbox)
        have GW123:=qK ((gS hg:w.heap.size≤gb123))
        have GE123:=qK ((gS hg:w.heap.size≤gb123))
        replace HB:=qK (bS hb)
        have NB110_123:=qK ((nL hg BK110.out:gb110≠gb123))
        have NB123_110:=qK ((nG hg BK110.out:gb123≠gb110))
        replace BK110:=qK (bB BK110.out hb)
        clear hb hbox hg
        refine hK.out _ _ ⟨(blk_cell BK110.out 0).trans rfl,(blk_cell BK110.out 1).trans rfl,(blk_cell BK110.out 2).trans rfl⟩ (fun hHeld=>?_)
        clear hK K
        refine nP ?_
        refine oP 1 (some 44) HT_ (fun K hK=>?_)
        refine gO Try.func54 #[.agg #[.slice A0_0 l0_0.length c0_0,.int .i64 a0_1,.int .i64 a0_2]] ?_
        with_reducible refine (orders_all.calls k2 _ _ l0_0 a0_1 a0_2 t118 t119 _ ?side1 ?side2 A40.out).mono ?_
        (case side1=>exact cS HR0_0.out)
        (case side2=>exact HC0_0.out)
        rintro e w45 ⟨rfl,hb⟩
        refine ⟨_,rfl,?_⟩
        replace BK110:=qK (bB BK110.out hb)
        replace BK123:=qK (bB BK123.out hb)
        replace HB:=qK (bS hb)
        (try clear hb)
        (try clear hb2)
        (try clear hk)
        (try clear hi)
        refine hK.out _ _ ⟨(blk_cell BK110.out 0).trans rfl,(blk_cell BK110.out 1).trans rfl,(blk_cell BK110.out 2).trans rfl⟩ (fun hHeld=>?_)
        clear hK K
        refine nP ?_
        refine oP 4 (some 47) HT_ (fun K hK=>?_)
        refine gO Try.func53 #[.agg #[.int .i64 t118,.int .i64 t119],.agg #[.int .i64 a0_1,.int .i64 a0_2]] ?_
        with_reducible refine (orders_common.calls t118 t119 a0_1 a0_2 t120 t121 true _ A41.out).mono ?_
        rintro e w46 ⟨rfl,hb⟩
        refine ⟨_,rfl,?_⟩
        replace BK110:=qK (bB BK110.out hb)
        replace BK123:=qK (bB BK123.out hb)
        replace HB:=qK (bS hb)
        (try clear hb)
        (try clear hb2)
        (try clear hk)
        (try clear hi)
        refine hK.out _ _ ⟨(blk_cell BK110.out 0).trans rfl,(blk_cell BK110.out 1).trans rfl,(blk_cell BK110.out 2).trans rfl⟩ (fun hHeld=>?_)
        clear hK K
        refine nP ?_
        refine pP 5 (some 42) HT_ ?_
        refine pP 6 (some 48) HT_ ?_
        refine pP 7 (some 49) HT_ ?_
        exact norm_ (by simp only [putAll,Act.put,List.setIfInBounds_toArray,List.set_cons_zero,List.set_cons_succ]) (hCont (gb123) _ ⟨hHeld,(bX BK110.out),(bX BK123.out),GW123.out,GE123.out,NB110_123.out,NB123_110.out,bA⟩)
      rintro gb123 w47 ⟨hS_,h0_,h1_,h2_,h3_,h4_,h5_,h6_⟩
      have n0_:Aside0 (w47.heap[gb110]? = some (.cells #[.slice A0_0 l0_0.length c0_0,.int .i64 a0_1,.int .i64 a0_2] 26 (0,0))):=⟨h0_⟩
      have n1_:Aside0 (w47.heap[gb123]? = some (.cells #[.int .i64 0,.int .i64 0] 24 (0,0))):=⟨h1_⟩
      have n2_:Aside0 (w.heap.size≤gb123):=⟨h2_⟩
      have n3_:Aside0 (w.heap.size≤gb123):=⟨h3_⟩
      have n4_:Aside0 (gb110≠gb123):=⟨h4_⟩
      have n5_:Aside0 (gb123≠gb110):=⟨h5_⟩
      have n6_:Aside0 (Below w.heap.size w w47):=⟨h6_⟩
      clear BK110
      clear HB
      clear h0_ h1_ h2_ h3_ h4_ h5_ h6_
      have BK110:=n0_
      have BK123:=n1_
      have GW123:=n2_
      have GE123:=n3_
      have NB110_123:=n4_
      have NB123_110:=n5_
      have HB:=n6_
      clear n0_ n1_ n2_ n3_ n4_ n5_ n6_
      have hHeld:w47.cell? ⟨gb110,0,none⟩=some (.slice A0_0 l0_0.length c0_0)∧w47.cell? ⟨gb110,1,none⟩=some (.int .i64 a0_1)∧w47.cell? ⟨gb110,2,none⟩=some (.int .i64 a0_2):=hS_
      refine norm_ (a':=?_) ?_ ?_
      rotate_left
      ·simp only [putAll,Act.put,List.setIfInBounds_toArray,List.set_cons_zero,List.set_cons_succ]
       rfl
      refine oP 9 none HT_ (fun K hK=>?_)
      have hs48:w47.cell? ⟨gb123,0,none⟩=some (.int .i64 0):=(blk_cell BK123.out 0).trans rfl
      have hfs48:=blk_frozen BK123.out 0
      have hns48_0:=NB110_123.out
      have hms48_0:=NB123_110.out
      have hs49:w47.cell? ⟨gb123,1,none⟩=some (.int .i64 0):=(blk_cell BK123.out 1).trans rfl
      have hfs49:=blk_frozen BK123.out 1
      have hns49_0:=NB110_123.out
      have hms49_0:=NB123_110.out
      refine skip_ (w1:=?_) (by rfl) rfl ?_ ?_
      rotate_left
      ·go_simp
       rfl
      refine hK.out _ _ ⟨((cell_far (p:=⟨gb123,_,none⟩) NB110_123.out _).trans (((cell_far (p:=⟨gb123,_,none⟩) NB110_123.out _).trans (hHeld.1)))),((cell_far (p:=⟨gb123,_,none⟩) NB110_123.out _).trans (((cell_far (p:=⟨gb123,_,none⟩) NB110_123.out _).trans (hHeld.2.1)))),((cell_far (p:=⟨gb123,_,none⟩) NB110_123.out _).trans (((cell_far (p:=⟨gb123,_,none⟩) NB110_123.out _).trans (hHeld.2.2))))⟩ (fun hHeld=>?_)
      clear hK K
      refine pP 10 (some 6) HT_ ?_
      refine done_ (done_of HT_.out (by kernel_rfl)) ?_
      try go_wp2
      go_ret
      exact ⟨by first|rfl|(simp [errW_none,errW_some] <;> rfl)|(simp [*,errW_none,errW_some] <;> rfl),bA⟩
     replace c42:=Bool.eq_false_iff.mpr c42
     subst c42
     have H1:(some 80)=some r:=by rw [if_neg (show ¬ (false=true) by decide)] at H;exact H
     clear H
     have H:=H1
     clear H1
     obtain rfl:=Option.some.inj H
     try go_wp2
     replace BK110:=qK (blk_drew BK110.out)
     replace HB:=qK (below_drew1 HB.out)
     refine start_ (n:=11) (S:=fun w'=>w'.cell? ⟨gb110,0,none⟩=some (.slice A0_0 l0_0.length c0_0)∧w'.cell? ⟨gb110,1,none⟩=some (.int .i64 a0_1)∧w'.cell? ⟨gb110,2,none⟩=some (.int .i64 a0_2)) (ds:=[]) #[false,false,false,false,false,false,false,false,false,false,false] (by kernel_rfl) rfl rfl ⟨(blk_cell BK110.out 0).trans rfl,(blk_cell BK110.out 1).trans rfl,(blk_cell BK110.out 2).trans rfl⟩ (fun hHeld=>?_);refine with_tabW orders_Check.tab9 orders_Check.bits9 (fun HT_ HW_=>?_)
     generalize wr.drew=w50 at BK110 HB hHeld ⊢
     refine pP 2 (some 45) HT_ ?_
     refine tP 0 (some 43) HT_ HW_ hHeld ?_
     refine tP 3 (some 46) HT_ HW_ hHeld ?_
     refine join_ (σ:=Nat) 2 #[true,true,true,true,true,true,true,true,true,false,false] (fun s_=>[(44,.agg #[.int .i64 t118,.int .i64 t119]),(47,.tuple #[.agg #[.int .i64 t120,.int .i64 t121],.bool false]),(5,.pointer (some ⟨s_,0,none⟩)),(42,.tuple #[.agg #[.int .i64 t120,.int .i64 t121],.bool false]),(48,.agg #[.int .i64 t120,.int .i64 t121]),(49,.bool false)]) (fun s_ w'=>(w'.cell? ⟨gb110,0,none⟩=some (.slice A0_0 l0_0.length c0_0)∧w'.cell? ⟨gb110,1,none⟩=some (.int .i64 a0_1)∧w'.cell? ⟨gb110,2,none⟩=some (.int .i64 a0_2))∧(w'.heap[gb110]? = some (.cells #[.slice A0_0 l0_0.length c0_0,.int .i64 a0_1,.int .i64 a0_2] 26 (0,0)))∧(w'.heap[s_]? = some (.cells #[.int .i64 0,.int .i64 0] 24 (0,0)))∧(w.heap.size≤s_)∧(w.heap.size≤s_)∧(gb110≠s_)∧(s_≠gb110)∧(Below w.heap.size w w')) ?_ ?_
     rotate_left
     ·intro hCont
      refine two_ (i:=1) (j:=8) (Ni:=some 44) (Nj:=some 5) #[true,true,true,true,false,false,false,false,false,false,false] #[true,false,true,true,false,false,false,false,true,false,false] rfl rfl rfl rfl (two_of HT_.out (by kernel_rfl)) (by decide) (by decide) (fun K hK=>?_) (fun K hK=>?_)
      ·skip
       refine gO Try.func54 #[.agg #[.slice A0_0 l0_0.length c0_0,.int .i64 a0_1,.int .i64 a0_2]] ?_
       with_reducible refine (orders_all.calls k2 _ _ l0_0 a0_1 a0_2 t118 t119 _ ?side1 ?side2 A40.out).mono ?_
       (case side1=>exact cS HR0_0.out)
       (case side2=>exact HC0_0.out)
       rintro e w51 ⟨rfl,hb⟩
       refine ⟨_,rfl,?_⟩
       replace BK110:=qK (bB BK110.out hb)
       replace HB:=qK (bS hb)
       (try clear hb)
       (try clear hb2)
       (try clear hk)
       (try clear hi)
       refine hK.out _ _ ⟨(blk_cell BK110.out 0).trans rfl,(blk_cell BK110.out 1).trans rfl,(blk_cell BK110.out 2).trans rfl⟩ (fun hHeld=>?_)
       clear hK K
       refine nP ?_
       refine two_ (i:=4) (j:=8) (Ni:=some 47) (Nj:=some 5) #[true,true,true,true,true,false,false,false,false,false,false] #[true,true,true,true,false,false,false,false,true,false,false] rfl rfl rfl rfl (two_of HT_.out (by kernel_rfl)) (by decide) (by decide) (fun K hK=>?_) (fun K hK=>?_)
       ·skip
        refine gO Try.func53 #[.agg #[.int .i64 t118,.int .i64 t119],.agg #[.int .i64 a0_1,.int .i64 a0_2]] ?_
        with_reducible refine (orders_common.calls t118 t119 a0_1 a0_2 t120 t121 false _ A41.out).mono ?_
        rintro e w52 ⟨rfl,hb⟩
        refine ⟨_,rfl,?_⟩
        replace BK110:=qK (bB BK110.out hb)
        replace HB:=qK (bS hb)
        (try clear hb)
        (try clear hb2)
        (try clear hk)
        (try clear hi)
        refine hK.out _ _ ⟨(blk_cell BK110.out 0).trans rfl,(blk_cell BK110.out 1).trans rfl,(blk_cell BK110.out 2).trans rfl⟩ (fun hHeld=>?_)
        clear hK K
        refine nP ?_
        refine pP 5 (some 42) HT_ ?_
        refine pP 6 (some 48) HT_ ?_
        refine pP 7 (some 49) HT_ ?_
        refine oP 8 (some 5) HT_ (fun K hK=>?_)
        refine box_step ?hg (N:=5) ?hd (cs:=#[.int .i64 0,.int .i64 0]) (t:=24) ?hr ?_;(case hd=>rfl);(case hg=>rfl);(case hr=>first|(go_simp;done)|(go_simp;rfl))
        intro gb123 hg w53 hbox hb
        have BK123:=qK (hbox)
        have GW123:=qK ((gS hg:w.heap.size≤gb123))
        have GE123:=qK ((gS hg:w.heap.size≤gb123))
        replace HB:=qK (bS hb)
        have NB110_123:=qK ((nL hg BK110.out:gb110≠gb123))
        have NB123_110:=qK ((nG hg BK110.out:gb123≠gb110))
        replace BK110:=qK (bB BK110.out hb)
        clear hb hbox hg
        refine hK.out _ _ ⟨(blk_cell BK110.out 0).trans rfl,(blk_cell BK110.out 1).trans rfl,(blk_cell BK110.out 2).trans rfl⟩ (fun hHeld=>?_)
        clear hK K
        refine nP ?_
        exact norm_ (by simp only [putAll,Act.put,List.setIfInBounds_toArray,List.set_cons_zero,List.set_cons_succ]) (hCont (gb123) _ ⟨hHeld,(bX BK110.out),(bX BK123.out),GW123.out,GE123.out,NB110_123.out,NB123_110.out,bA⟩)
       ·skip
        refine box_step ?hg (N:=5) ?hd (cs:=#[.int .i64 0,.int .i64 0]) (t:=24) ?hr ?_;(case hd=>rfl);(case hg=>rfl);(case hr=>first|(go_simp;done)|(go_simp;rfl))
        intro gb123 hg w52 hbox hb
        have BK123:=qK (hbox)
        have GW123:=qK ((gS hg:w.heap.size≤gb123))
        have GE123:=qK ((gS hg:w.heap.size≤gb123))
        replace HB:=qK (bS hb)
        have NB110_123:=qK ((nL hg BK110.out:gb110≠gb123))
        have NB123_110:=qK ((nG hg BK110.out:gb123≠gb110))
        replace BK110:=qK (bB BK110.out hb)
        clear hb hbox hg
        refine hK.out _ _ ⟨(blk_cell BK110.out 0).trans rfl,(blk_cell BK110.out 1).trans rfl,(blk_cell BK110.out 2).trans rfl⟩ (fun hHeld=>?_)
        clear hK K
        refine nP ?_
        refine oP 4 (some 47) HT_ (fun K hK=>?_)
        refine gO Try.func53 #[.agg #[.int .i64 t118,.int .i64 t119],.agg #[.int .i64 a0_1,.int .i64 a0_2]] ?_
        with_reducible refine (orders_common.calls t118 t119 a0_1 a0_2 t120 t121 false _ A41.out).mono ?_
        rintro e w53 ⟨rfl,hb⟩
        refine ⟨_,rfl,?_⟩
        replace BK110:=qK (bB BK110.out hb)
        replace BK123:=qK (bB BK123.out hb)
        replace HB:=qK (bS hb)
        (try clear hb)
        (try clear hb2)
        (try clear hk)
        (try clear hi)
        refine hK.out _ _ ⟨(blk_cell BK110.out 0).trans rfl,(blk_cell BK110.out 1).trans rfl,(blk_cell BK110.out 2).trans rfl⟩ (fun hHeld=>?_)
        clear hK K
        refine nP ?_
        refine pP 5 (some 42) HT_ ?_
        refine pP 6 (some 48) HT_ ?_
        refine pP 7 (some 49) HT_ ?_
        exact norm_ (by simp only [putAll,Act.put,List.setIfInBounds_toArray,List.set_cons_zero,List.set_cons_succ]) (hCont (gb123) _ ⟨hHeld,(bX BK110.out),(bX BK123.out),GW123.out,GE123.out,NB110_123.out,NB123_110.out,bA⟩)
      ·skip
       refine box_step ?hg (N:=5) ?hd (cs:=#[.int .i64 0,.int .i64 0]) (t:=24) ?hr ?_;(case hd=>rfl);(case hg=>rfl);(case hr=>first|(go_simp;done)|(go_simp;rfl))
       intro gb123 hg w51 hbox hb
       have BK123:=qK (hbox)
       have GW123:=qK ((gS hg:w.heap.size≤gb123))
       have GE123:=qK ((gS hg:w.heap.size≤gb123))
       replace HB:=qK (bS hb)
       have NB110_123:=qK ((nL hg BK110.out:gb110≠gb123))
       have NB123_110:=qK ((nG hg BK110.out:gb123≠gb110))
       replace BK110:=qK (bB BK110.out hb)
       clear hb hbox hg
       refine hK.out _ _ ⟨(blk_cell BK110.out 0).trans rfl,(blk_cell BK110.out 1).trans rfl,(blk_cell BK110.out 2).trans rfl⟩ (fun hHeld=>?_)
       clear hK K
       refine nP ?_
       refine oP 1 (some 44) HT_ (fun K hK=>?_)
       refine gO Try.func54 #[.agg #[.slice A0_0 l0_0.length c0_0,.int .i64 a0_1,.int .i64 a0_2]] ?_
       with_reducible refine (orders_all.calls k2 _ _ l0_0 a0_1 a0_2 t118 t119 _ ?side1 ?side2 A40.out).mono ?_
       (case side1=>exact cS HR0_0.out)
       (case side2=>exact HC0_0.out)
       rintro e w52 ⟨rfl,hb⟩
       refine ⟨_,rfl,?_⟩
       replace BK110:=qK (bB BK110.out hb)
       replace BK123:=qK (bB BK123.out hb)
       replace HB:=qK (bS hb)
       (try clear hb)
       (try clear hb2)
       (try clear hk)
       (try clear hi)
       refine hK.out _ _ ⟨(blk_cell BK110.out 0).trans rfl,(blk_cell BK110.out 1).trans rfl,(blk_cell BK110.out 2).trans rfl⟩ (fun hHeld=>?_)
       clear hK K
       refine nP ?_
       refine oP 4 (some 47) HT_ (fun K hK=>?_)
       refine gO Try.func53 #[.agg #[.int .i64 t118,.int .i64 t119],.agg #[.int .i64 a0_1,.int .i64 a0_2]] ?_
       with_reducible refine (orders_common.calls t118 t119 a0_1 a0_2 t120 t121 false _ A41.out).mono ?_
       rintro e w53 ⟨rfl,hb⟩
       refine ⟨_,rfl,?_⟩
       replace BK110:=qK (bB BK110.out hb)
       replace BK123:=qK (bB BK123.out hb)
       replace HB:=qK (bS hb)
       (try clear hb)
       (try clear hb2)
       (try clear hk)
       (try clear hi)
       refine hK.out _ _ ⟨(blk_cell BK110.out 0).trans rfl,(blk_cell BK110.out 1).trans rfl,(blk_cell BK110.out 2).trans rfl⟩ (fun hHeld=>?_)
       clear hK K
       refine nP ?_
       refine pP 5 (some 42) HT_ ?_
       refine pP 6 (some 48) HT_ ?_
       refine pP 7 (some 49) HT_ ?_
       exact norm_ (by simp only [putAll,Act.put,List.setIfInBounds_toArray,List.set_cons_zero,List.set_cons_succ]) (hCont (gb123) _ ⟨hHeld,(bX BK110.out),(bX BK123.out),GW123.out,GE123.out,NB110_123.out,NB123_110.out,bA⟩)
     rintro gb123 w54 ⟨hS_,h0_,h1_,h2_,h3_,h4_,h5_,h6_⟩
     have n0_:Aside0 (w54.heap[gb110]? = some (.cells #[.slice A0_0 l0_0.length c0_0,.int .i64 a0_1,.int .i64 a0_2] 26 (0,0))):=⟨h0_⟩
     have n1_:Aside0 (w54.heap[gb123]? = some (.cells #[.int .i64 0,.int .i64 0] 24 (0,0))):=⟨h1_⟩
     have n2_:Aside0 (w.heap.size≤gb123):=⟨h2_⟩
     have n3_:Aside0 (w.heap.size≤gb123):=⟨h3_⟩
     have n4_:Aside0 (gb110≠gb123):=⟨h4_⟩
     have n5_:Aside0 (gb123≠gb110):=⟨h5_⟩
     have n6_:Aside0 (Below w.heap.size w w54):=⟨h6_⟩
     clear BK110
     clear HB
     clear h0_ h1_ h2_ h3_ h4_ h5_ h6_
     have BK110:=n0_
     have BK123:=n1_
     have GW123:=n2_
     have GE123:=n3_
     have NB110_123:=n4_
     have NB123_110:=n5_
     have HB:=n6_
     clear n0_ n1_ n2_ n3_ n4_ n5_ n6_
     have hHeld:w54.cell? ⟨gb110,0,none⟩=some (.slice A0_0 l0_0.length c0_0)∧w54.cell? ⟨gb110,1,none⟩=some (.int .i64 a0_1)∧w54.cell? ⟨gb110,2,none⟩=some (.int .i64 a0_2):=hS_
     refine norm_ (a':=?_) ?_ ?_
     rotate_left
     ·simp only [putAll,Act.put,List.setIfInBounds_toArray,List.set_cons_zero,List.set_cons_succ]
      rfl
     refine oP 9 none HT_ (fun K hK=>?_)
     have hs55:w54.cell? ⟨gb123,0,none⟩=some (.int .i64 0):=(blk_cell BK123.out 0).trans rfl
     have hfs55:=blk_frozen BK123.out 0
     have hns55_0:=NB110_123.out
     have hms55_0:=NB123_110.out
     have hs56:w54.cell? ⟨gb123,1,none⟩=some (.int .i64 0):=(blk_cell BK123.out 1).trans rfl
     have hfs56:=blk_frozen BK123.out 1
     have hns56_0:=NB110_123.out
     have hms56_0:=NB123_110.out
     refine skip_ (w1:=?_) (by rfl) rfl ?_ ?_
     rotate_left
     ·go_simp
      rfl
     refine hK.out _ _ ⟨((cell_far (p:=⟨gb123,_,none⟩) NB110_123.out _).trans (((cell_far (p:=⟨gb123,_,none⟩) NB110_123.out _).trans (hHeld.1)))),((cell_far (p:=⟨gb123,_,none⟩) NB110_123.out _).trans (((cell_far (p:=⟨gb123,_,none⟩) NB110_123.out _).trans (hHeld.2.1)))),((cell_far (p:=⟨gb123,_,none⟩) NB110_123.out _).trans (((cell_far (p:=⟨gb123,_,none⟩) NB110_123.out _).trans (hHeld.2.2))))⟩ (fun hHeld=>?_)
     clear hK K
     refine pP 10 (some 6) HT_ ?_
     refine done_ (done_of HT_.out (by kernel_rfl)) ?_
     try go_wp2
     go_ret
     exact ⟨by first|rfl|(simp [errW_none,errW_some] <;> rfl)|(simp [*,errW_none,errW_some] <;> rfl),bA⟩
end Go.Proofs.Ythimaecnpkcmeaa.K
