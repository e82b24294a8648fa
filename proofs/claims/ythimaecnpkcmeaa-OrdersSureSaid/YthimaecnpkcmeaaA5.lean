/- Contracts of Go functions and lemmas for them: each theorem states what one function returns and what it leaves of memory; its conditions stand in its statement. -/
import Derived.Test.YthimaecnpkcmeaaA3
import Derived.Test.YthimaecnpkcmeaaA4
set_option linter.unusedVariables false
set_option linter.unusedSimpArgs false
namespace Go.Proofs.Ythimaecnpkcmeaa.K
open Go.RowKit Go.Proofs.YthimaecnpkcmeaaW.PrintWords Go.Proofs.YthimaecnpkcmeaaW.PrintLast Go.Proofs.YthimaecnpkcmeaaW.PrintMore
attribute [local go_sem] max2_int min2_int max_two min_two max_three min_three max_four min_four   -- for this text's walks alone
set_option linter.unusedVariables false
set_option linter.unusedSimpArgs false
def orders_right.l0:Nat→List Int→List Int→Int→Int→List (S50)→Int→Int→Option (Int)
 | 0,_,_,_,_,_,_,_=>none
 | k+1,x1,x13,x14,x15,x125000,x125001,x125002=>if x15 < x14 then (if 0≤x15 then (if x15 < (x13.length:Int) then ((orders_within.f (rd x13 x15) 0 (wrap64 ((x125000.length:Int) - 1))).bind fun t127=>(if t127=true then (if x15 > 0 then (if 0≤(wrap64 (x15 - 1)) then (if (wrap64 (x15 - 1)) < (x1.length:Int) then (if (rd x1 (wrap64 (x15 - 1)))≥(rd x13 x15) then (some 1) else (orders_right.l0 k x1 x13 x14 (wrap64 (x15+1)) x125000 x125001 x125002)) else (none)) else (none)) else (orders_right.l0 k x1 x13 x14 (wrap64 (x15+1)) x125000 x125001 x125002)) else (some 1))) else (none)) else (none)) else (some 0)
def orders_right.f (k:Nat) (l0_0:List (S50)) (a0_1:Int) (a0_2:Int) (l1:List Int):Option (Int):=(orders_Check.f k l0_0 a0_1 a0_2).bind fun t125=>(if t125=0 then (orders_right.l0 k l1 l1 (l1.length:Int) 0 l0_0 a0_1 a0_2) else (some t125))
set_option maxHeartbeats 8000000 in
set_option maxRecDepth 100000 in
theorem orders_right.calls (k:Nat) (A0_0:Option Addr) (c0_0:Nat) (l0_0:List (S50)) (a0_1:Int) (a0_2:Int) (A1:Option Addr) (c1:Nat) (l1:List Int) (r:Int) (w:World) (hr0_0:Kd.C k50 w A0_0 l0_0.length l0_0) (hc0_0:l0_0.length≤c0_0) (hr1:Kd.C (Kd.int .i64) w A1 l1.length l1) (hc1:l1.length≤c1) (h:orders_right.f k l0_0 a0_1 a0_2 l1=some r) :
 Calls Try.prog 49 #[.agg #[.slice A0_0 l0_0.length c0_0,.int .i64 a0_1,.int .i64 a0_2],.slice A1 l1.length c1] w fun e w'=>e= .returned (.int .i64 r)∧Below w.heap.size w w':=by
 have hu26:=Try.underlying26
 have HR0_0:=Aside0.mk hr0_0
 have HC0_0:=Aside0.mk hc0_0
 clear hr0_0 hc0_0
 have HR1:=Aside0.mk hr1
 have HC1:=Aside0.mk hc1
 clear hr1 hc1
 have HB:=Aside0.mk (Below.refl w.heap.size w)
 have H:((orders_Check.f k l0_0 a0_1 a0_2).bind fun t125=>(if t125=0 then (orders_right.l0 k l1 l1 (l1.length:Int) 0 l0_0 a0_1 a0_2) else (some t125)))=some r:=h
 clear h
 replace H:=Option.bind_eq_some_iff.mp H
 obtain ⟨t125,A30,H⟩:=H
 replace H:(if t125=0 then (orders_right.l0 k l1 l1 (l1.length:Int) 0 l0_0 a0_1 a0_2) else (some t125))=some r:=H
 have A3:=Aside0.mk A30
 clear A30
 by_cases c4:t125=0
 rotate_left
 ·rw [if_neg c4] at H
  have c4b0:(t125 == 0)=false:=beq_eq_false_iff_ne.mpr c4
  have c4b1:(t125 != 0)=true:=bne_iff_ne.mpr c4
  obtain rfl:=Option.some.inj H
  go_enter Try.func49,Try.ntmps49
  go_wp2_with (first|((with_reducible refine gate_dst (N:=2) rfl ?_);refine bE #[.slice A0_0 l0_0.length c0_0,.int .i64 a0_1,.int .i64 a0_2] 26 ?_;intro gb124 hg w22 hbox hb;have BK124:=qK (hbox);have GW124:=qK ((gS hg:w.heap.size≤gb124));have GE124:=qK ((gS hg:w.heap.size≤gb124));replace HB:=qK (bS hb);clear hb hbox hg;obtain ⟨_,_,_,_,_,_⟩:=xC3 BK124.out)|((with_reducible refine gate_callee (f:=45) rfl ?_);refine gL (some 9) Try.func45 #[.agg #[.slice A0_0 l0_0.length c0_0,.int .i64 a0_1,.int .i64 a0_2]] ?_;(with_reducible refine (orders_Check.calls k _ _ l0_0 a0_1 a0_2 t125 _ ?side1 ?side2 A3.out).mono ?_);(case side1=>exact cS HR0_0.out);(case side2=>exact HC0_0.out);rintro e w24 ⟨rfl,hb⟩;refine ⟨_,rfl,?_⟩;replace BK124:=qK (bB BK124.out hb);replace HB:=qK (bS hb)))
  go_ret
  exact ⟨by first|rfl|(simp [errW_none,errW_some] <;> rfl)|(simp [*,errW_none,errW_some] <;> rfl),bA⟩
 rw [if_pos c4] at H
 have c4b0:(t125 == 0)=true:=beq_iff_eq.mpr c4
 have c4b1:(t125 != 0)=false:=bne_eq_false_iff_eq.mpr c4
 clear c4
 have H':=Aside0.mk H
 clear H
 go_enter Try.func49,Try.ntmps49
 go_wp2_with (first|((with_reducible refine gate_dst (N:=2) rfl ?_);refine bE #[.slice A0_0 l0_0.length c0_0,.int .i64 a0_1,.int .i64 a0_2] 26 ?_;intro gb124 hg w5 hbox hb;have BK124:=qK (hbox);have GW124:=qK ((gS hg:w.heap.size≤gb124));have GE124:=qK ((gS hg:w.heap.size≤gb124));replace HB:=qK (bS hb);clear hb hbox hg;obtain ⟨hcz6_0,hcz6_1,hcz6_2,hfz6_0,hfz6_1,hfz6_2⟩:=xC3 BK124.out)|((with_reducible refine gate_callee (f:=45) rfl ?_);refine gL (some 9) Try.func45 #[.agg #[.slice A0_0 l0_0.length c0_0,.int .i64 a0_1,.int .i64 a0_2]] ?_;(with_reducible refine (orders_Check.calls k _ _ l0_0 a0_1 a0_2 t125 _ ?side1 ?side2 A3.out).mono ?_);(case side1=>exact cS HR0_0.out);(case side2=>exact HC0_0.out);rintro e w7 ⟨rfl,hb⟩;refine ⟨_,rfl,?_⟩;replace BK124:=qK (bB BK124.out hb);replace HB:=qK (bS hb)))
 go_loopg [15] k (fun kq v15 w'=>∃ (x15_1:Int),v15= .int .i64 x15_1∧Aside0 (orders_right.l0 kq l1 l1 (l1.length:Int) x15_1 l0_0 a0_1 a0_2=some r)∧Aside0 (kq≤k)∧Aside0 (w'.heap[gb124]? = some (.cells #[(.slice A0_0 l0_0.length c0_0),.int .i64 a0_1,.int .i64 a0_2] 26 (0,0)))∧Aside0 (Below w.heap.size w w'))
 case atStart=>exact ⟨(0),sA,H',⟨Nat.le_refl _⟩,⟨by (with_reducible repeat (first|refine blk_drewN ?_ _|refine blk_drew ?_|refine blk_alloc ?_ _));exact BK124.out⟩,⟨bA⟩⟩
 case round =>
  clear H'
  try clear c1
  try clear p2
  try clear c4
  try clear c4b0
  try clear c4b1
  try clear hcz6_0
  try clear hcz6_1
  try clear hcz6_2
  try clear hfz6_0
  try clear hfz6_1
  try clear hfz6_2
  obtain ⟨x15_1,rfl,HA,HK1,BK124,HB⟩:=hrel
  cases gk with
  | zero=>exact absurd HA.out (by simp [orders_right.l0])
  | succ k1 =>
   have H:=HA.out
   clear HA
   simp only [orders_right.l0] at H
   by_cases c8:x15_1 < (l1.length:Int)
   rotate_left
   ·rw [if_neg c8] at H
    have c8b0:decide (x15_1 < (l1.length:Int))=false:=decide_eq_false c8
    clear c8
    obtain rfl:=Option.some.inj H
    go_wp2
    go_ret
    exact ⟨by first|rfl|(simp [errW_none,errW_some] <;> rfl)|(simp [*,errW_none,errW_some] <;> rfl),bA⟩
   rw [if_pos c8] at H
   have c8b0:decide (x15_1 < (l1.length:Int))=true:=decide_eq_true c8
   clear c8
   by_cases c9:0≤x15_1
   rotate_left
   ·rw [if_neg c9] at H
    exact absurd H (by simp)
   rw [if_pos c9] at H
   have c9b0:decide (0≤x15_1)=true:=decide_eq_true c9
   clear c9
   by_cases c10:x15_1 < (l1.length:Int)
   rotate_left
   ·rw [if_neg c10] at H
    exact absurd H (by simp)
   rw [if_pos c10] at H
   have c10b0:decide (x15_1 < (l1.length:Int))=true:=decide_eq_true c10
   clear c10
   replace H:=Option.bind_eq_some_iff.mp H
   obtain ⟨t127,A110,H⟩:=H
   replace H:(if t127=true then (if x15_1 > 0 then (if 0≤(wrap64 (x15_1 - 1)) then (if (wrap64 (x15_1 - 1)) < (l1.length:Int) then (if (rd l1 (wrap64 (x15_1 - 1)))≥(rd l1 x15_1) then (some 1) else (orders_right.l0 k1 l1 l1 (l1.length:Int) (wrap64 (x15_1+1)) l0_0 a0_1 a0_2)) else (none)) else (none)) else (orders_right.l0 k1 l1 l1 (l1.length:Int) (wrap64 (x15_1+1)) l0_0 a0_1 a0_2)) else (some 1))=some r:=H
   have A11:=Aside0.mk A110
   clear A110
   by_cases c12:t127=true
   rotate_left
   ·replace c12:=Bool.eq_false_iff.mpr c12
    subst c12
    have H1:(some 1)=some r:=by rw [if_neg (show ¬ (false=true) by decide)] at H;exact H
    clear H
    have H:=H1
    clear H1
    obtain rfl:=Option.some.inj H
    have p126:0≤(x15_1:Int):=dA
    have q126:x15_1 < (l1.length:Int):=dA
    obtain ⟨ad126,e126,hx126_0⟩:=Kd.at_int HR1.out x15_1 p126 q126
    cases e126
    replace hx126_0:=hC HB.out hx126_0
    replace p126:=eq_true p126
    replace q126:=eq_true q126
    obtain ⟨_,_,_,_,_,_⟩:=xC3 BK124.out
    go_wp2_with (first|((with_reducible refine gate_callee (f:=52) rfl ?_);refine gL (some 25) Try.func52 #[.int .i64 (rd l1 x15_1),.int .i64 0,.int .i64 (wrap64 ((l0_0.length:Int) - 1))] ?_;(with_reducible refine (orders_within.calls (rd l1 x15_1) 0 (wrap64 ((l0_0.length:Int) - 1)) false _ A11.out).mono ?_);rintro e w' ⟨rfl,⟨nd,rfl⟩⟩;refine ⟨_,rfl,?_⟩))
    go_ret
    exact ⟨by first|rfl|(simp [errW_none,errW_some] <;> rfl)|(simp [*,errW_none,errW_some] <;> rfl),bA⟩
   subst c12
   have H1:(if x15_1 > 0 then (if 0≤(wrap64 (x15_1 - 1)) then (if (wrap64 (x15_1 - 1)) < (l1.length:Int) then (if (rd l1 (wrap64 (x15_1 - 1)))≥(rd l1 x15_1) then (some 1) else (orders_right.l0 k1 l1 l1 (l1.length:Int) (wrap64 (x15_1+1)) l0_0 a0_1 a0_2)) else (none)) else (none)) else (orders_right.l0 k1 l1 l1 (l1.length:Int) (wrap64 (x15_1+1)) l0_0 a0_1 a0_2))=some r:=by rw [if_pos rfl] at H;exact H
   clear H
   have H:=H1
   clear H1
   by_cases c13:x15_1 > 0
   rotate_left
   ·rw [if_neg c13] at H
    have c13b0:decide (0 < x15_1)=false:=decide_eq_false c13
    clear c13
    have H':=Aside0.mk H
    clear H
    have p126:0≤(x15_1:Int):=dA
    have q126:x15_1 < (l1.length:Int):=dA
    obtain ⟨ad126,e126,hx126_0⟩:=Kd.at_int HR1.out x15_1 p126 q126
    cases e126
    replace hx126_0:=hC HB.out hx126_0
    replace p126:=eq_true p126
    replace q126:=eq_true q126
    obtain ⟨_,_,_,_,_,_⟩:=xC3 BK124.out
    go_wp2_with (first|((with_reducible refine gate_callee (f:=52) rfl ?_);refine gL (some 25) Try.func52 #[.int .i64 (rd l1 x15_1),.int .i64 0,.int .i64 (wrap64 ((l0_0.length:Int) - 1))] ?_;(with_reducible refine (orders_within.calls (rd l1 x15_1) 0 (wrap64 ((l0_0.length:Int) - 1)) true _ A11.out).mono ?_);rintro e w' ⟨rfl,⟨nd,rfl⟩⟩;refine ⟨_,rfl,?_⟩))
    go_roundg k1
    case measure=>have:=HK1.out;omega
    case rel=>exact ⟨(wrap64 (x15_1+1)),sA,H',⟨by have:=HK1.out;omega⟩,⟨by (with_reducible repeat (first|refine blk_drewN ?_ _|refine blk_drew ?_|refine blk_alloc ?_ _));exact BK124.out⟩,⟨bA⟩⟩
   rw [if_pos c13] at H
   have c13b0:decide (0 < x15_1)=true:=decide_eq_true c13
   clear c13
   obtain ⟨ji14,hji14⟩ : ∃ j_:Int,(wrap64 (x15_1 - 1))=j_:=⟨_,rfl⟩
   replace H:(if 0≤(ji14) then (if (ji14) < (l1.length:Int) then (if (rd l1 (ji14))≥(rd l1 x15_1) then (some 1) else (orders_right.l0 k1 l1 l1 (l1.length:Int) (wrap64 (x15_1+1)) l0_0 a0_1 a0_2)) else (none)) else (none))=some r:=by first|(rw [hji14] at H;exact H)|(simp only [hji14] at H ⊢;exact H)
   (try rw [hji14] at A11)
   have hji14w:(IntKind.i64.wrap (x15_1 - 1))=ji14:=(i64_w _).trans hji14
   by_cases c15:0≤(ji14)
   rotate_left
   ·rw [if_neg c15] at H
    exact absurd H (by simp)
   rw [if_pos c15] at H
   have c15b0:decide (0≤(ji14))=true:=decide_eq_true c15
   clear c15
   by_cases c16:(ji14) < (l1.length:Int)
   rotate_left
   ·rw [if_neg c16] at H
    exact absurd H (by simp)
   rw [if_pos c16] at H
   have c16b0:decide ((ji14) < (l1.length:Int))=true:=decide_eq_true c16
   clear c16
   by_cases c17:(rd l1 (ji14))≥(rd l1 x15_1)
   ·rw [if_pos c17] at H
    have c17b0:decide ((rd l1 x15_1)≤(rd l1 (ji14)))=true:=decide_eq_true c17
    clear c17
    obtain rfl:=Option.some.inj H
    have p126:0≤(x15_1:Int):=dA
    have q126:x15_1 < (l1.length:Int):=dA
    obtain ⟨ad126,e126,hx126_0⟩:=Kd.at_int HR1.out x15_1 p126 q126
    cases e126
    replace hx126_0:=hC HB.out hx126_0
    replace p126:=eq_true p126
    replace q126:=eq_true q126
    obtain ⟨_,_,_,_,_,_⟩:=xC3 BK124.out
    go_wp2_with (first|((with_reducible refine gate_callee (f:=52) rfl ?_);refine gL (some 25) Try.func52 #[.int .i64 (rd l1 x15_1),.int .i64 0,.int .i64 (wrap64 ((l0_0.length:Int) - 1))] ?_;(with_reducible refine (orders_within.calls (rd l1 x15_1) 0 (wrap64 ((l0_0.length:Int) - 1)) true _ A11.out).mono ?_);rintro e w' ⟨rfl,⟨nd,rfl⟩⟩;refine ⟨_,rfl,?_⟩;have p128:0≤((ji14):Int):=dA;have q128:(ji14) < (l1.length:Int):=dA;obtain ⟨ad128,e128,hx128_0⟩:=Kd.at_int HR1.out (ji14) p128 q128;obtain rfl:ad126=ad128:=(by injection e128);replace hx128_0:=hC HB.out hx128_0;replace p128:=eq_true p128;replace q128:=eq_true q128))
    go_ret
    exact ⟨by first|rfl|(simp [errW_none,errW_some] <;> rfl)|(simp only [← hji14];first|rfl|(simp [errW_none,errW_some] <;> rfl))|(simp [*,errW_none,errW_some] <;> rfl),bA⟩
   rw [if_neg c17] at H
   have c17b0:decide ((rd l1 x15_1)≤(rd l1 (ji14)))=false:=decide_eq_false c17
   clear c17
   have H':=Aside0.mk H
   clear H
   have p126:0≤(x15_1:Int):=dA
   have q126:x15_1 < (l1.length:Int):=dA
   obtain ⟨ad126,e126,hx126_0⟩:=Kd.at_int HR1.out x15_1 p126 q126
   cases e126
   replace hx126_0:=hC HB.out hx126_0
   replace p126:=eq_true p126
   replace q126:=eq_true q126
   obtain ⟨_,_,_,_,_,_⟩:=xC3 BK124.out
   go_wp2_with (first|((with_reducible refine gate_callee (f:=52) rfl ?_);refine gL (some 25) Try.func52 #[.int .i64 (rd l1 x15_1),.int .i64 0,.int .i64 (wrap64 ((l0_0.length:Int) - 1))] ?_;(with_reducible refine (orders_within.calls (rd l1 x15_1) 0 (wrap64 ((l0_0.length:Int) - 1)) true _ A11.out).mono ?_);rintro e w' ⟨rfl,⟨nd,rfl⟩⟩;refine ⟨_,rfl,?_⟩;have p128:0≤((ji14):Int):=dA;have q128:(ji14) < (l1.length:Int):=dA;obtain ⟨ad128,e128,hx128_0⟩:=Kd.at_int HR1.out (ji14) p128 q128;obtain rfl:ad126=ad128:=(by injection e128);replace hx128_0:=hC HB.out hx128_0;replace p128:=eq_true p128;replace q128:=eq_true q128))
   go_roundg k1
   case measure=>have:=HK1.out;omega
   case rel=>exact ⟨(wrap64 (x15_1+1)),sA,H',⟨by have:=HK1.out;omega⟩,⟨by (with_reducible repeat (first|refine blk_drewN ?_ _|refine blk_drew ?_|refine blk_alloc ?_ _));exact BK124.out⟩,⟨bA⟩⟩
def orders_bounds.f (k:Nat) (l0_0:List (S50)) (a0_1:Int) (a0_2:Int) (l1:List Int) (a2:Int) (a3:Int):Option (Int):=(orders_right.f k l0_0 a0_1 a0_2 l1).bind fun t130=>(if t130=0 then (if a2≥a3 then (some 1) else (if a2 < (-1099511627776) then (some 1) else (if a3 > 1099511627776 then (some 1) else (some 0)))) else (some t130))
set_option maxHeartbeats 8000000 in
set_option maxRecDepth 100000 in
theorem orders_bounds.calls (k:Nat) (A0_0:Option Addr) (c0_0:Nat) (l0_0:List (S50)) (a0_1:Int) (a0_2:Int) (A1:Option Addr) (c1:Nat) (l1:List Int) (a2:Int) (a3:Int) (r:Int) (w:World) (hr0_0:Kd.C k50 w A0_0 l0_0.length l0_0) (hc0_0:l0_0.length≤c0_0) (hr1:Kd.C (Kd.int .i64) w A1 l1.length l1) (hc1:l1.length≤c1) (h:orders_bounds.f k l0_0 a0_1 a0_2 l1 a2 a3=some r) :
 Calls Try.prog 47 #[.agg #[.slice A0_0 l0_0.length c0_0,.int .i64 a0_1,.int .i64 a0_2],.slice A1 l1.length c1,.int .i64 a2,.int .i64 a3] w fun e w'=>e= .returned (.int .i64 r)∧Below w.heap.size w w':=by
 have hu26:=Try.underlying26
 have HR0_0:=Aside0.mk hr0_0
 have HC0_0:=Aside0.mk hc0_0
 clear hr0_0 hc0_0
 have HR1:=Aside0.mk hr1
 have HC1:=Aside0.mk hc1
 clear hr1 hc1
 have HB:=Aside0.mk (Below.refl w.heap.size w)
 have H:((orders_right.f k l0_0 a0_1 a0_2 l1).bind fun t130=>(if t130=0 then (if a2≥a3 then (some 1) else (if a2 < (-1099511627776) then (some 1) else (if a3 > 1099511627776 then (some 1) else (some 0)))) else (some t130)))=some r:=h
 clear h
 replace H:=Option.bind_eq_some_iff.mp H
 obtain ⟨t130,A50,H⟩:=H
 replace H:(if t130=0 then (if a2≥a3 then (some 1) else (if a2 < (-1099511627776) then (some 1) else (if a3 > 1099511627776 then (some 1) else (some 0)))) else (some t130))=some r:=H
 have A5:=Aside0.mk A50
 clear A50
 by_cases c6:t130=0
 rotate_left
 ·rw [if_neg c6] at H
  have c6b0:(t130 == 0)=false:=beq_eq_false_iff_ne.mpr c6
  have c6b1:(t130 != 0)=true:=bne_iff_ne.mpr c6
  obtain rfl:=Option.some.inj H
  go_enter Try.func47,Try.ntmps47
  go_wp2_with (first|((with_reducible refine gate_dst (N:=4) rfl ?_);refine bE #[.slice A0_0 l0_0.length c0_0,.int .i64 a0_1,.int .i64 a0_2] 26 ?_;intro gb129 hg w22 hbox hb;have BK129:=qK (hbox);have GW129:=qK ((gS hg:w.heap.size≤gb129));have GE129:=qK ((gS hg:w.heap.size≤gb129));replace HB:=qK (bS hb);clear hb hbox hg;obtain ⟨_,_,_,_,_,_⟩:=xC3 BK129.out)|((with_reducible refine gate_callee (f:=49) rfl ?_);refine gL (some 12) Try.func49 #[.agg #[.slice A0_0 l0_0.length c0_0,.int .i64 a0_1,.int .i64 a0_2],.slice A1 l1.length c1] ?_;(with_reducible refine (orders_right.calls k _ _ l0_0 a0_1 a0_2 _ _ l1 t130 _ ?side1 ?side2 ?side3 ?side4 A5.out).mono ?_);(case side1=>exact cS HR0_0.out);(case side2=>exact HC0_0.out);(case side3=>exact cS HR1.out);(case side4=>exact HC1.out);rintro e w24 ⟨rfl,hb⟩;refine ⟨_,rfl,?_⟩;replace BK129:=qK (bB BK129.out hb);replace HB:=qK (bS hb)))
  go_ret
  exact ⟨by first|rfl|(simp [errW_none,errW_some] <;> rfl)|(simp [*,errW_none,errW_some] <;> rfl),bA⟩
 rw [if_pos c6] at H
 have c6b0:(t130 == 0)=true:=beq_iff_eq.mpr c6
 have c6b1:(t130 != 0)=false:=bne_eq_false_iff_eq.mpr c6
 clear c6
 by_cases c7:a2≥a3
 ·rw [if_pos c7] at H
  have c7b0:decide (a3≤a2)=true:=decide_eq_true c7
  clear c7
  obtain rfl:=Option.some.inj H
  go_enter Try.func47,Try.ntmps47
  go_wp2_with (first|((with_reducible refine gate_dst (N:=4) rfl ?_);refine bE #[.slice A0_0 l0_0.length c0_0,.int .i64 a0_1,.int .i64 a0_2] 26 ?_;intro gb129 hg w8 hbox hb;have BK129:=qK (hbox);have GW129:=qK ((gS hg:w.heap.size≤gb129));have GE129:=qK ((gS hg:w.heap.size≤gb129));replace HB:=qK (bS hb);clear hb hbox hg;obtain ⟨_,_,_,_,_,_⟩:=xC3 BK129.out)|((with_reducible refine gate_callee (f:=49) rfl ?_);refine gL (some 12) Try.func49 #[.agg #[.slice A0_0 l0_0.length c0_0,.int .i64 a0_1,.int .i64 a0_2],.slice A1 l1.length c1] ?_;(with_reducible refine (orders_right.calls k _ _ l0_0 a0_1 a0_2 _ _ l1 t130 _ ?side1 ?side2 ?side3 ?side4 A5.out).mono ?_);(case side1=>exact cS HR0_0.out);(case side2=>exact HC0_0.out);(case side3=>exact cS HR1.out);(case side4=>exact HC1.out);rintro e w10 ⟨rfl,hb⟩;refine ⟨_,rfl,?_⟩;replace BK129:=qK (bB BK129.out hb);replace HB:=qK (bS hb)))
  go_ret
  exact ⟨by first|rfl|(simp [errW_none,errW_some] <;> rfl)|(simp [*,errW_none,errW_some] <;> rfl),bA⟩
 rw [if_neg c7] at H
 have c7b0:decide (a3≤a2)=false:=decide_eq_false c7
 clear c7
 by_cases c11:a2 < (-1099511627776)
 ·rw [if_pos c11] at H
  have c11b0:decide (a2 < (-1099511627776))=true:=decide_eq_true c11
  clear c11
  obtain rfl:=Option.some.inj H
  go_enter Try.func47,Try.ntmps47
  go_wp2_with (first|((with_reducible refine gate_dst (N:=4) rfl ?_);refine bE #[.slice A0_0 l0_0.length c0_0,.int .i64 a0_1,.int .i64 a0_2] 26 ?_;intro gb129 hg w12 hbox hb;have BK129:=qK (hbox);have GW129:=qK ((gS hg:w.heap.size≤gb129));have GE129:=qK ((gS hg:w.heap.size≤gb129));replace HB:=qK (bS hb);clear hb hbox hg;obtain ⟨_,_,_,_,_,_⟩:=xC3 BK129.out)|((with_reducible refine gate_callee (f:=49) rfl ?_);refine gL (some 12) Try.func49 #[.agg #[.slice A0_0 l0_0.length c0_0,.int .i64 a0_1,.int .i64 a0_2],.slice A1 l1.length c1] ?_;(with_reducible refine (orders_right.calls k _ _ l0_0 a0_1 a0_2 _ _ l1 t130 _ ?side1 ?side2 ?side3 ?side4 A5.out).mono ?_);(case side1=>exact cS HR0_0.out);(case side2=>exact HC0_0.out);(case side3=>exact cS HR1.out);(case side4=>exact HC1.out);rintro e w14 ⟨rfl,hb⟩;refine ⟨_,rfl,?_⟩;replace BK129:=qK (bB BK129.out hb);replace HB:=qK (bS hb)))
  go_ret
  exact ⟨by first|rfl|(simp [errW_none,errW_some] <;> rfl)|(simp [*,errW_none,errW_some] <;> rfl),bA⟩
 rw [if_neg c11] at H
 have c11b0:decide (a2 < (-1099511627776))=false:=decide_eq_false c11
 clear c11
 by_cases c15:a3 > 1099511627776
 ·rw [if_pos c15] at H
  have c15b0:decide (1099511627776 < a3)=true:=decide_eq_true c15
  clear c15
  obtain rfl:=Option.some.inj H
  go_enter Try.func47,Try.ntmps47
  go_wp2_with (first|((with_reducible refine gate_dst (N:=4) rfl ?_);refine bE #[.slice A0_0 l0_0.length c0_0,.int .i64 a0_1,.int .i64 a0_2] 26 ?_;intro gb129 hg w16 hbox hb;have BK129:=qK (hbox);have GW129:=qK ((gS hg:w.heap.size≤gb129));have GE129:=qK ((gS hg:w.heap.size≤gb129));replace HB:=qK (bS hb);clear hb hbox hg;obtain ⟨_,_,_,_,_,_⟩:=xC3 BK129.out)|((with_reducible refine gate_callee (f:=49) rfl ?_);refine gL (some 12) Try.func49 #[.agg #[.slice A0_0 l0_0.length c0_0,.int .i64 a0_1,.int .i64 a0_2],.slice A1 l1.length c1] ?_;(with_reducible refine (orders_right.calls k _ _ l0_0 a0_1 a0_2 _ _ l1 t130 _ ?side1 ?side2 ?side3 ?side4 A5.out).mono ?_);(case side1=>exact cS HR0_0.out);(case side2=>exact HC0_0.out);(case side3=>exact cS HR1.out);(case side4=>exact HC1.out);rintro e w18 ⟨rfl,hb⟩;refine ⟨_,rfl,?_⟩;replace BK129:=qK (bB BK129.out hb);replace HB:=qK (bS hb)))
  go_ret
  exact ⟨by first|rfl|(simp [errW_none,errW_some] <;> rfl)|(simp [*,errW_none,errW_some] <;> rfl),bA⟩
 rw [if_neg c15] at H
 have c15b0:decide (1099511627776 < a3)=false:=decide_eq_false c15
 clear c15
 obtain rfl:=Option.some.inj H
 go_enter Try.func47,Try.ntmps47
 go_wp2_with (first|((with_reducible refine gate_dst (N:=4) rfl ?_);refine bE #[.slice A0_0 l0_0.length c0_0,.int .i64 a0_1,.int .i64 a0_2] 26 ?_;intro gb129 hg w19 hbox hb;have BK129:=qK (hbox);have GW129:=qK ((gS hg:w.heap.size≤gb129));have GE129:=qK ((gS hg:w.heap.size≤gb129));replace HB:=qK (bS hb);clear hb hbox hg;obtain ⟨_,_,_,_,_,_⟩:=xC3 BK129.out)|((with_reducible refine gate_callee (f:=49) rfl ?_);refine gL (some 12) Try.func49 #[.agg #[.slice A0_0 l0_0.length c0_0,.int .i64 a0_1,.int .i64 a0_2],.slice A1 l1.length c1] ?_;(with_reducible refine (orders_right.calls k _ _ l0_0 a0_1 a0_2 _ _ l1 t130 _ ?side1 ?side2 ?side3 ?side4 A5.out).mono ?_);(case side1=>exact cS HR0_0.out);(case side2=>exact HC0_0.out);(case side3=>exact cS HR1.out);(case side4=>exact HC1.out);rintro e w21 ⟨rfl,hb⟩;refine ⟨_,rfl,?_⟩;replace BK129:=qK (bB BK129.out hb);replace HB:=qK (bS hb)))
 go_ret
 exact ⟨by first|rfl|(simp [errW_none,errW_some] <;> rfl)|(simp [*,errW_none,errW_some] <;> rfl),bA⟩
def orders_gain.f (a0_0:Int) (a0_1:Int) (a0_2:Int) (a0_3:Int):Option (Int):=some (mx 0 (wrap64 ((wrap64 (a0_1 - a0_0)) - (wrap64 (2*a0_3)))))
set_option maxHeartbeats 8000000 in
set_option maxRecDepth 100000 in
theorem orders_gain.calls (a0_0:Int) (a0_1:Int) (a0_2:Int) (a0_3:Int) (r:Int) (w:World) (h:orders_gain.f a0_0 a0_1 a0_2 a0_3=some r) :
 Calls Try.prog 97 #[.agg #[.int .i64 a0_0,.int .i64 a0_1,.int .i64 a0_2,.int .i64 a0_3]] w fun e w'=>e= .returned (.int .i64 r)∧Below w.heap.size w w':=by
 have hu50:=Try.underlying50
 have HB:=Aside0.mk (Below.refl w.heap.size w)
 have H:(some (mx 0 (wrap64 ((wrap64 (a0_1 - a0_0)) - (wrap64 (2*a0_3))))))=some r:=h
 clear h
 obtain ⟨ji2,hji2⟩ : ∃ j_:Int,(mx 0 (wrap64 ((wrap64 (a0_1 - a0_0)) - (wrap64 (2*a0_3)))))=j_:=⟨_,rfl⟩
 replace H:(some ji2)=some r:=by first|(rw [hji2] at H;exact H)|(simp only [hji2] at H ⊢;exact H)
 (try (have hji2l:0≤ji2:=by (rw [← hji2];unfold mx;(repeat' split) <;> omega)))
 (try (have hji2m:0≤ji2:=by omega))
 have hji2_:(if 0 < (wrap64 ((wrap64 (a0_1 - a0_0)) - (wrap64 (2*a0_3)))) then (wrap64 ((wrap64 (a0_1 - a0_0)) - (wrap64 (2*a0_3)))) else 0)=ji2:=hji2
 obtain rfl:=Option.some.inj H
 go_enter Try.func97,Try.ntmps97
 go_wp2_with (first|((with_reducible refine gate_dst (N:=1) rfl ?_);refine bE #[.int .i64 a0_0,.int .i64 a0_1,.int .i64 a0_2,.int .i64 a0_3] 50 ?_;intro gb131 hg w3 hbox hb;have BK131:=qK (hbox);have GW131:=qK ((gS hg:w.heap.size≤gb131));have GE131:=qK ((gS hg:w.heap.size≤gb131));replace HB:=qK (bS hb);clear hb hbox hg;obtain ⟨_,_,_,_,_,_,_,_⟩:=xC4 BK131.out))
 go_ret
 exact ⟨by first|rfl|(simp [errW_none,errW_some] <;> rfl)|(simp only [← hji2];first|rfl|(simp [errW_none,errW_some] <;> rfl))|(simp [*,errW_none,errW_some] <;> rfl),bA⟩
def orders_gains.l0:Nat→List Int→List Int→Int→Int→List (S50)→Int→Int→Option (List Int)
 | 0,_,_,_,_,_,_,_=>none
 | k+1,x5,x8,x9,x10,x133000,x133001,x133002=>if x10 < x9 then (if 0≤x10 then (if x10 < (x8.length:Int) then (if 0≤(rd x8 x10) then (if (rd x8 x10) < (x133000.length:Int) then ((orders_gain.f ((rd_T50 x133000 (rd x8 x10)).f0.f0) ((rd_T50 x133000 (rd x8 x10)).f0.f1) ((rd_T50 x133000 (rd x8 x10)).f1) ((rd_T50 x133000 (rd x8 x10)).f2)).bind fun t135=>(if x5.length < 17592186044416 then (orders_gains.l0 k (x5 ++ [t135]) x8 x9 (wrap64 (x10+1)) x133000 x133001 x133002) else (none))) else (none)) else (none)) else (none)) else (none)) else (some x5)
def orders_gains.f (k:Nat) (l0_0:List (S50)) (a0_1:Int) (a0_2:Int) (l1:List Int):Option (List Int):=orders_gains.l0 k ([]:List Int) l1 (l1.length:Int) 0 l0_0 a0_1 a0_2
set_option maxHeartbeats 8000000 in
set_option maxRecDepth 100000 in
theorem orders_gains.calls (k:Nat) (A0_0:Option Addr) (c0_0:Nat) (l0_0:List (S50)) (a0_1:Int) (a0_2:Int) (A1:Option Addr) (c1:Nat) (l1:List Int) (r:List Int) (w:World) (hr0_0:Kd.C k50 w A0_0 l0_0.length l0_0) (hc0_0:l0_0.length≤c0_0) (hr1:Kd.C (Kd.int .i64) w A1 l1.length l1) (hc1:l1.length≤c1) (h:orders_gains.f k l0_0 a0_1 a0_2 l1=some r) :
 Calls Try.prog 62 #[.agg #[.slice A0_0 l0_0.length c0_0,.int .i64 a0_1,.int .i64 a0_2],.slice A1 l1.length c1] w fun e w'=>∃ v0_:Value,e= .returned (v0_)∧Kd.R (Kd.int .i64) 3 w' w.heap.size (fun _=>True) v0_ r∧Below w.heap.size w w':=by
 have hu26:=Try.underlying26
 have hu50:=Try.underlying50
 have HR0_0:=Aside0.mk hr0_0
 have HC0_0:=Aside0.mk hc0_0
 clear hr0_0 hc0_0
 have HR1:=Aside0.mk hr1
 have HC1:=Aside0.mk hc1
 clear hr1 hc1
 have HB:=Aside0.mk (Below.refl w.heap.size w)
 have H:(orders_gains.l0 k ([]:List Int) l1 (l1.length:Int) 0 l0_0 a0_1 a0_2)=some r:=h
 clear h
 have H':=Aside0.mk H
 clear H
 go_enter Try.func62,Try.ntmps62
 go_wp2_with (first|((with_reducible refine gate_dst (N:=2) rfl ?_);refine bE #[.slice A0_0 l0_0.length c0_0,.int .i64 a0_1,.int .i64 a0_2] 26 ?_;intro gb132 hg w3 hbox hb;have BK132:=qK (hbox);have GW132:=qK ((gS hg:w.heap.size≤gb132));have GE132:=qK ((gS hg:w.heap.size≤gb132));replace HB:=qK (bS hb);clear hb hbox hg))
 go_loopg [5,10] k (fun kq v5 v10 w'=>∃ (x5_1:List Int) (x10_1:Int),v10= .int .i64 x10_1∧Aside0 (orders_gains.l0 kq x5_1 l1 (l1.length:Int) x10_1 l0_0 a0_1 a0_2=some r)∧Aside0 (kq≤k)∧Aside0 (Kd.R (Kd.int .i64) 3 w' w.heap.size (fun _=>True) v5 x5_1)∧Aside0 (w'.heap[gb132]? = some (.cells #[(.slice A0_0 l0_0.length c0_0),.int .i64 a0_1,.int .i64 a0_2] 26 (0,0)))∧Aside0 (Below w.heap.size w w'))
 case atStart=>exact ⟨(([]:List Int)),(0),sA,H',⟨Nat.le_refl _⟩,⟨by first|exact Kd.R_nil _ _ _ _ _|exact Kd.N_nil _ _ _ _ _|exact Kd.V_nil _ _ _ _ _|exact Kd.Q_nil _ _ _ _ _|exact Kd.S_nil _ _ _ _ _⟩,⟨by (with_reducible repeat (first|refine blk_drewN ?_ _|refine blk_drew ?_|refine blk_alloc ?_ _));exact BK132.out⟩,⟨bA⟩⟩
 case round =>
  clear H'
  try clear c1
  try clear p2
  obtain ⟨x5_1,x10_1,rfl,HA,HK1,HO_5,BK132,HB⟩:=hrel
  cases gk with
  | zero=>exact absurd HA.out (by simp [orders_gains.l0])
  | succ k1 =>
   have H:=HA.out
   clear HA
   simp only [orders_gains.l0] at H
   by_cases c4:x10_1 < (l1.length:Int)
   rotate_left
   ·rw [if_neg c4] at H
    have c4b0:decide (x10_1 < (l1.length:Int))=false:=decide_eq_false c4
    clear c4
    obtain rfl:=Option.some.inj H
    go_wp2
    go_ret
    exact ⟨_,by first|rfl|(simp [errW_none,errW_some] <;> rfl)|(simp [*,errW_none,errW_some] <;> rfl),by (with_reducible repeat (first|apply Kd.R_alloc|apply Kd.R_drewN|apply Kd.R_drew));exact HO_5.out,bA⟩
   rw [if_pos c4] at H
   have c4b0:decide (x10_1 < (l1.length:Int))=true:=decide_eq_true c4
   clear c4
   by_cases c5:0≤x10_1
   rotate_left
   ·rw [if_neg c5] at H
    exact absurd H (by simp)
   rw [if_pos c5] at H
   have c5b0:decide (0≤x10_1)=true:=decide_eq_true c5
   clear c5
   by_cases c6:x10_1 < (l1.length:Int)
   rotate_left
   ·rw [if_neg c6] at H
    exact absurd H (by simp)
   rw [if_pos c6] at H
   have c6b0:decide (x10_1 < (l1.length:Int))=true:=decide_eq_true c6
   clear c6
   by_cases c7:0≤(rd l1 x10_1)
   rotate_left
   ·rw [if_neg c7] at H
    exact absurd H (by simp)
   rw [if_pos c7] at H
   have c7b0:decide (0≤(rd l1 x10_1))=true:=decide_eq_true c7
   clear c7
   by_cases c8:(rd l1 x10_1) < (l0_0.length:Int)
   rotate_left
   ·rw [if_neg c8] at H
    exact absurd H (by simp)
   rw [if_pos c8] at H
   have c8b0:decide ((rd l1 x10_1) < (l0_0.length:Int))=true:=decide_eq_true c8
   clear c8
   replace H:=Option.bind_eq_some_iff.mp H
   obtain ⟨t135,A90,H⟩:=H
   replace H:(if x5_1.length < 17592186044416 then (orders_gains.l0 k1 (x5_1 ++ [t135]) l1 (l1.length:Int) (wrap64 (x10_1+1)) l0_0 a0_1 a0_2) else (none))=some r:=H
   have A9:=Aside0.mk A90
   clear A90
   by_cases c10:x5_1.length < 17592186044416
   rotate_left
   ·rw [if_neg c10] at H
    exact absurd H (by simp)
   rw [if_pos c10] at H
   have LMc10:=Aside0.mk c10
   clear c10
   obtain ⟨y136,hy136⟩ : ∃ y_:List Int,y_=(x5_1 ++ [t135]):=⟨_,rfl⟩
   replace H:(orders_gains.l0 k1 y136 l1 (l1.length:Int) (wrap64 (x10_1+1)) l0_0 a0_1 a0_2)=some r:=by first|(rw [hy136];with_reducible exact H)|(have H2_:=(Option.bind_some _ _).symm.trans H;rw [hy136];with_reducible exact H2_)|(have H2_:=(Option.bind_some _ _).symm.trans H;with_reducible exact H2_)|with_reducible exact H|(rw [hy136];exact H)|exact H
   have Ny136:=Aside0.mk hy136
   clear hy136
   have H':=Aside0.mk H
   clear H
   have p133:0≤(x10_1:Int):=dA
   have q133:x10_1 < (l1.length:Int):=dA
   obtain ⟨ad133,e133,hx133_0⟩:=Kd.at_int HR1.out x10_1 p133 q133
   cases e133
   replace hx133_0:=hC HB.out hx133_0
   replace p133:=eq_true p133
   replace q133:=eq_true q133
   obtain ⟨_,_,_,_,_,_⟩:=xC3 BK132.out
   have p134:0≤((rd l1 x10_1):Int):=dA
   have q134:(rd l1 x10_1) < (l0_0.length:Int):=dA
   obtain ⟨ad134,e134,hx134_0,hx134_1,hx134_2,hx134_3⟩:=at_T50 HR0_0.out (rd l1 x10_1) p134 q134
   cases e134
   replace hx134_0:=hC HB.out hx134_0
   replace hx134_1:=hC HB.out hx134_1
   replace hx134_2:=hC HB.out hx134_2
   replace hx134_3:=hC HB.out hx134_3
   replace p134:=eq_true p134
   replace q134:=eq_true q134
   go_wp2_with (first|((with_reducible refine gate_callee (f:=97) rfl ?_);refine gL (some 20) Try.func97 #[.agg #[.int .i64 ((rd_T50 l0_0 (rd l1 x10_1)).f0.f0),.int .i64 ((rd_T50 l0_0 (rd l1 x10_1)).f0.f1),.int .i64 ((rd_T50 l0_0 (rd l1 x10_1)).f1),.int .i64 ((rd_T50 l0_0 (rd l1 x10_1)).f2)]] ?_;(with_reducible refine (orders_gain.calls ((rd_T50 l0_0 (rd l1 x10_1)).f0.f0) ((rd_T50 l0_0 (rd l1 x10_1)).f0.f1) ((rd_T50 l0_0 (rd l1 x10_1)).f1) ((rd_T50 l0_0 (rd l1 x10_1)).f2) t135 _ A9.out).mono ?_);rintro e w12 ⟨rfl,hb⟩;refine ⟨_,rfl,?_⟩;replace HO_5:=qK (Kd.R_below (rS HO_5.out) hb);replace BK132:=qK (bB BK132.out hb);replace HB:=qK (bS hb))|((with_reducible refine gate_builtin (b:=.append) (xs:=#[.tmp 14,.tmp 21]) rfl ?_);at_builtin;refine Kd.R_append (Kd.int .i64) (w0:=w) w.heap.size rfl (.tmp 14) (.tmp 21) 27 3 (.int .i64 0) 8 rfl Try.underlying27 info3 rfl (by decide) (by omega) u5 x5_1 t135 [.int .i64 t135] (fun _=>True) (fun _=>False) rfl rfl ?aP (fun _ hk=>hk.elim) ?aF ?aO ?aB ?aS ?aL ?_;(case aP=>exact rfl);(case aB=>exact bA);(case aF=>exact (fun _ _=>trivial));(case aO=>exact (rS HO_5.out));(case aS=>exact bZ);(case aL=>have:=LMc10.out;omega);intro v137 w13 ho hb hg hat;rw [← Ny136.out] at ho;replace BK132:=qK (blk_grown (g:=gb132) (o:=.cells #[.slice (some ad134) l0_0.length c0_0,.int .i64 a0_1,.int .i64 a0_2] 26 (0,0)) (bX BK132.out) hg (Kd.R_ne HO_5.out BK132.out (by decide)));replace HB:=qK (hb);have HO138:=qK (ho);clear HO_5;clear ho hb hg hat))
   go_roundg k1
   case measure=>have:=HK1.out;omega
   case rel=>exact ⟨(y136),(wrap64 (x10_1+1)),sA,H',⟨by have:=HK1.out;omega⟩,⟨by (with_reducible repeat (first|apply Kd.R_alloc|apply Kd.R_drewN|apply Kd.R_drew));exact HO138.out⟩,⟨by (with_reducible repeat (first|refine blk_drewN ?_ _|refine blk_drew ?_|refine blk_alloc ?_ _));exact BK132.out⟩,⟨bA⟩⟩
def orders_windowOf.f (k:Nat) (l0_0:List (S50)) (a0_1:Int) (a0_2:Int) (a1:Int):Option (Int × Int × Int × Int × Int):=(orders_all.f k l0_0 a0_1 a0_2).bind fun bt141=>(some (bt141.1,wrap64 (bt141.2 - a1),a1,a0_1,a0_2))
set_option maxHeartbeats 8000000 in
set_option maxRecDepth 100000 in
theorem orders_windowOf.calls (k:Nat) (A0_0:Option Addr) (c0_0:Nat) (l0_0:List (S50)) (a0_1:Int) (a0_2:Int) (a1:Int) (r1:Int) (r2:Int) (r3:Int) (r4:Int) (r5:Int) (w:World) (hr0_0:Kd.C k50 w A0_0 l0_0.length l0_0) (hc0_0:l0_0.length≤c0_0) (h:orders_windowOf.f k l0_0 a0_1 a0_2 a1=some (r1,r2,r3,r4,r5)) :
 Calls Try.prog 64 #[.agg #[.slice A0_0 l0_0.length c0_0,.int .i64 a0_1,.int .i64 a0_2],.int .i64 a1] w fun e w'=>e= .returned (.agg #[.int .i64 r1,.int .i64 r2,.int .i64 r3,.int .i64 r4,.int .i64 r5])∧Below w.heap.size w w':=by
 have hu26:=Try.underlying26
 have hu105:=Try.underlying105
 have hu24:=Try.underlying24
 have HR0_0:=Aside0.mk hr0_0
 have HC0_0:=Aside0.mk hc0_0
 clear hr0_0 hc0_0
 have HB:=Aside0.mk (Below.refl w.heap.size w)
 have H:((orders_all.f k l0_0 a0_1 a0_2).bind fun bt141=>(some (bt141.1,wrap64 (bt141.2 - a1),a1,a0_1,a0_2)))=some (r1,r2,r3,r4,r5):=h
 clear h
 replace H:=Option.bind_eq_some_iff.mp H
 obtain ⟨⟨t141,t142⟩,A30,H⟩:=H
 replace H:(some (t141,wrap64 (t142 - a1),a1,a0_1,a0_2))=some (r1,r2,r3,r4,r5):=H
 have A3:=Aside0.mk A30
 clear A30
 simp only [Option.some.injEq,Prod.mk.injEq] at H
 obtain ⟨rfl,rfl,rfl,rfl,rfl⟩:=H
 go_enter Try.func64,Try.ntmps64
 go_wp2_with (first|((with_reducible refine gate_dst (N:=2) rfl ?_);refine bE #[.slice A0_0 l0_0.length c0_0,.int .i64 a0_1,.int .i64 a0_2] 26 ?_;intro gb139 hg w4 hbox hb;have BK139:=qK (hbox);have GW139:=qK ((gS hg:w.heap.size≤gb139));have GE139:=qK ((gS hg:w.heap.size≤gb139));replace HB:=qK (bS hb);clear hb hbox hg)|((with_reducible refine gate_dst (N:=4) rfl ?_);refine bE #[.int .i64 0,.int .i64 0,.int .i64 0,.int .i64 0,.int .i64 0] 105 ?_;intro gb140 hg w5 hbox hb;have BK140:=qK (hbox);have GW140:=qK ((gS hg:w.heap.size≤gb140));have GE140:=qK ((gS hg:w.heap.size≤gb140));replace HB:=qK (bS hb);have NB139_140:=qK ((nL hg BK139.out:gb139≠gb140));have NB140_139:=qK ((nG hg BK139.out:gb140≠gb139));replace BK139:=qK (bB BK139.out hb);clear hb hbox hg;have hnb6:=NB139_140.out;have hnc6:=NB140_139.out;obtain ⟨_,_,_,_,_,_⟩:=xC3 BK139.out)|((with_reducible refine gate_callee (f:=54) rfl ?_);refine gL (some 7) Try.func54 #[.agg #[.slice A0_0 l0_0.length c0_0,.int .i64 a0_1,.int .i64 a0_2]] ?_;(with_reducible refine (orders_all.calls k _ _ l0_0 a0_1 a0_2 t141 t142 _ ?side1 ?side2 A3.out).mono ?_);(case side1=>exact cS HR0_0.out);(case side2=>exact HC0_0.out);rintro e w8 ⟨rfl,hb⟩;refine ⟨_,rfl,?_⟩;replace BK139:=qK (bB BK139.out hb);replace BK140:=qK (bB BK140.out hb);replace HB:=qK (bS hb))|((with_reducible refine gate_dst (N:=5) rfl ?_);refine bE #[.int .i64 0,.int .i64 0] 24 ?_;intro gb143 hg w9 hbox hb;have BK143:=qK (hbox);have GW143:=qK ((gS hg:w.heap.size≤gb143));have GE143:=qK ((gS hg:w.heap.size≤gb143));replace HB:=qK (bS hb);have NB139_143:=qK ((nL hg BK139.out:gb139≠gb143));have NB143_139:=qK ((nG hg BK139.out:gb143≠gb139));replace BK139:=qK (bB BK139.out hb);have NB140_143:=qK ((nL hg BK140.out:gb140≠gb143));have NB143_140:=qK ((nG hg BK140.out:gb143≠gb140));replace BK140:=qK (bB BK140.out hb);clear hb hbox hg;have hnb10:=NB143_139.out;have hnc10:=NB139_143.out;have hnb11:=NB143_140.out;have hnc11:=NB140_143.out;obtain ⟨_,_,_,_⟩:=xC2 BK143.out;obtain ⟨_,_,_,_,_,_⟩:=xC3 BK139.out;obtain ⟨_,_,_,_,_,_,_,_,_,_⟩:=xC5 BK140.out))
 refine bodyPost_ret (results_cell_row rfl _ _ gb140 105 #[.int .i64 t141,.int .i64 (wrap64 (t142 - a1)),.int .i64 a1,.int .i64 a0_1,.int .i64 a0_2] (0,0) _ rfl (by (with_reducible repeat (first|refine blk_drewN ?_ _|refine blk_drew ?_|refine blk_alloc ?_ _));refine blk_put (cs:=#[.int .i64 t141,.int .i64 (wrap64 (t142 - a1)),.int .i64 a1,.int .i64 a0_1,.int .i64 0]) ?_ 4 _ rfl;(with_reducible repeat (first|refine blk_drewN ?_ _|refine blk_drew ?_|refine blk_alloc ?_ _));refine blk_put (cs:=#[.int .i64 t141,.int .i64 (wrap64 (t142 - a1)),.int .i64 a1,.int .i64 0,.int .i64 0]) ?_ 3 _ rfl;(with_reducible repeat (first|refine blk_drewN ?_ _|refine blk_drew ?_|refine blk_alloc ?_ _));refine blk_put (cs:=#[.int .i64 t141,.int .i64 (wrap64 (t142 - a1)),.int .i64 0,.int .i64 0,.int .i64 0]) ?_ 2 _ rfl;(with_reducible repeat (first|refine blk_drewN ?_ _|refine blk_drew ?_|refine blk_alloc ?_ _));refine blk_put (cs:=#[.int .i64 t141,.int .i64 0,.int .i64 0,.int .i64 0,.int .i64 0]) ?_ 1 _ rfl;(with_reducible repeat (first|refine blk_drewN ?_ _|refine blk_drew ?_|refine blk_alloc ?_ _));refine blk_put (cs:=#[.int .i64 0,.int .i64 0,.int .i64 0,.int .i64 0,.int .i64 0]) ?_ 0 _ rfl;(with_reducible repeat (first|refine blk_drewN ?_ _|refine blk_drew ?_|refine blk_alloc ?_ _));refine blk_far ?_ NB140_143.out _;(with_reducible repeat (first|refine blk_drewN ?_ _|refine blk_drew ?_|refine blk_alloc ?_ _));refine blk_far ?_ NB140_143.out _;(with_reducible repeat (first|refine blk_drewN ?_ _|refine blk_drew ?_|refine blk_alloc ?_ _));exact BK140.out) Try.underlying105 rfl (by kernel_rfl)) rfl ?_
 exact ⟨by first|rfl|(simp [errW_none,errW_some] <;> rfl)|(simp [*,errW_none,errW_some] <;> rfl),bA⟩
def orders_total.l0:Nat→Int→List Int→Int→Int→Option (Int)
 | 0,_,_,_,_=>none
 | k+1,x3,x6,x7,x8=>if x8 < x7 then (if 0≤x8 then (if x8 < (x6.length:Int) then (orders_total.l0 k (wrap64 (x3+(rd x6 x8))) x6 x7 (wrap64 (x8+1))) else (none)) else (none)) else (some x3)
def orders_total.f (k:Nat) (l0:List Int):Option (Int):=orders_total.l0 k 0 l0 (l0.length:Int) 0
set_option maxHeartbeats 8000000 in
set_option maxRecDepth 100000 in
theorem orders_total.calls (k:Nat) (A0:Option Addr) (c0:Nat) (l0:List Int) (r:Int) (w:World) (hr0:Kd.C (Kd.int .i64) w A0 l0.length l0) (hc0:l0.length≤c0) (h:orders_total.f k l0=some r) :
 Calls Try.prog 66 #[.slice A0 l0.length c0] w fun e w'=>e= .returned (.int .i64 r)∧Drawn0 w w':=by
 have HR0:=Aside0.mk hr0
 have HC0:=Aside0.mk hc0
 clear hr0 hc0
 have H:(orders_total.l0 k 0 l0 (l0.length:Int) 0)=some r:=h
 clear h
 have H':=Aside0.mk H
 clear H
 go_enter Try.func66,Try.ntmps66
 go_wp2
 go_loopg [3,8] k (fun kq v3 v8 w'=>∃ (x3_1:Int) (x8_1:Int),v3= .int .i64 x3_1∧v8= .int .i64 x8_1∧Aside0 (orders_total.l0 kq x3_1 l0 (l0.length:Int) x8_1=some r)∧Aside0 (kq≤k)∧Drawn0 w w')
 case atStart=>exact ⟨(0),(0),sA,sA,H',⟨Nat.le_refl _⟩,by repeat (first|exact Drawn0.refl _|apply Drawn0.step)⟩
 case round =>
  clear H'
  obtain ⟨x3_1,x8_1,rfl,rfl,HA,HK1,⟨m1,rfl⟩⟩:=hrel
  cases gk with
  | zero=>exact absurd HA.out (by simp [orders_total.l0])
  | succ k1 =>
   have H:=HA.out
   clear HA
   simp only [orders_total.l0] at H
   by_cases c2:x8_1 < (l0.length:Int)
   rotate_left
   ·rw [if_neg c2] at H
    have c2b0:decide (x8_1 < (l0.length:Int))=false:=decide_eq_false c2
    clear c2
    obtain rfl:=Option.some.inj H
    go_wp2
    go_ret
    exact ⟨by first|rfl|(simp;done)|(simp [*];done),by repeat (first|exact Drawn0.refl _|apply Drawn0.step)⟩
   rw [if_pos c2] at H
   have c2b0:decide (x8_1 < (l0.length:Int))=true:=decide_eq_true c2
   clear c2
   by_cases c3:0≤x8_1
   rotate_left
   ·rw [if_neg c3] at H
    exact absurd H (by simp)
   rw [if_pos c3] at H
   have c3b0:decide (0≤x8_1)=true:=decide_eq_true c3
   clear c3
   by_cases c4:x8_1 < (l0.length:Int)
   rotate_left
   ·rw [if_neg c4] at H
    exact absurd H (by simp)
   rw [if_pos c4] at H
   have c4b0:decide (x8_1 < (l0.length:Int))=true:=decide_eq_true c4
   clear c4
   have H':=Aside0.mk H
   clear H
   have p144:0≤(x8_1:Int):=dA
   have q144:x8_1 < (l0.length:Int):=dA
   obtain ⟨ad144,e144,hx144_0⟩:=Kd.at_int HR0.out x8_1 p144 q144
   cases e144
   replace p144:=eq_true p144
   replace q144:=eq_true q144
   go_wp2
   go_roundg k1
   case measure=>have:=HK1.out;omega
   case rel=>exact ⟨(wrap64 (x3_1+(rd l0 x8_1))),(wrap64 (x8_1+1)),sA,sA,H',⟨by have:=HK1.out;omega⟩,by repeat (first|exact Drawn0.refl _|apply Drawn0.step)⟩
def orders_shown.l0:Nat→Int→List Int→List Int→Int→Int→List (S50)→Int→Int→Option (List Int)
 | 0,_,_,_,_,_,_,_,_=>none
 | k+1,x2,x7,x12,x13,x14,x146000,x146001,x146002=>if x14 < x13 then (if 0≤x14 then (if x14 < (x12.length:Int) then (if 0≤(rd x12 x14) then (if (rd x12 x14) < (x146000.length:Int) then ((orders_gain.f ((rd_T50 x146000 (rd x12 x14)).f0.f0) ((rd_T50 x146000 (rd x12 x14)).f0.f1) ((rd_T50 x146000 (rd x12 x14)).f1) ((rd_T50 x146000 (rd x12 x14)).f2)).bind fun t149=>(if x7.length < 17592186044416 then (orders_shown.l0 k (wrap64 (x2 - (mn x2 t149))) (x7 ++ [wrap64 ((wrap64 (((rd_T50 x146000 (rd x12 x14)).f0.f0)+((rd_T50 x146000 (rd x12 x14)).f2)))+(mn x2 t149))]) x12 x13 (wrap64 (x14+1)) x146000 x146001 x146002) else (none))) else (none)) else (none)) else (none)) else (none)) else (some x7)
def orders_shown.f (k:Nat) (l0_0:List (S50)) (a0_1:Int) (a0_2:Int) (l1:List Int) (a2:Int):Option (List Int):=orders_shown.l0 k a2 ([]:List Int) l1 (l1.length:Int) 0 l0_0 a0_1 a0_2
set_option maxHeartbeats 8000000 in
set_option maxRecDepth 100000 in
theorem orders_shown.calls (k:Nat) (A0_0:Option Addr) (c0_0:Nat) (l0_0:List (S50)) (a0_1:Int) (a0_2:Int) (A1:Option Addr) (c1:Nat) (l1:List Int) (a2:Int) (r:List Int) (w:World) (hr0_0:Kd.C k50 w A0_0 l0_0.length l0_0) (hc0_0:l0_0.length≤c0_0) (hr1:Kd.C (Kd.int .i64) w A1 l1.length l1) (hc1:l1.length≤c1) (h:orders_shown.f k l0_0 a0_1 a0_2 l1 a2=some r) :
 Calls Try.prog 71 #[.agg #[.slice A0_0 l0_0.length c0_0,.int .i64 a0_1,.int .i64 a0_2],.slice A1 l1.length c1,.int .i64 a2] w fun e w'=>∃ v0_:Value,e= .returned (v0_)∧Kd.R (Kd.int .i64) 3 w' w.heap.size (fun _=>True) v0_ r∧Below w.heap.size w w':=by
 have hu26:=Try.underlying26
 have hu50:=Try.underlying50
 have HR0_0:=Aside0.mk hr0_0
 have HC0_0:=Aside0.mk hc0_0
 clear hr0_0 hc0_0
 have HR1:=Aside0.mk hr1
 have HC1:=Aside0.mk hc1
 clear hr1 hc1
 have HB:=Aside0.mk (Below.refl w.heap.size w)
 have H:(orders_shown.l0 k a2 ([]:List Int) l1 (l1.length:Int) 0 l0_0 a0_1 a0_2)=some r:=h
 clear h
 have H':=Aside0.mk H
 clear H
 go_enter Try.func71,Try.ntmps71
 go_wp2_with (first|((with_reducible refine gate_dst (N:=3) rfl ?_);refine bE #[.slice A0_0 l0_0.length c0_0,.int .i64 a0_1,.int .i64 a0_2] 26 ?_;intro gb145 hg w4 hbox hb;have BK145:=qK (hbox);have GW145:=qK ((gS hg:w.heap.size≤gb145));have GE145:=qK ((gS hg:w.heap.size≤gb145));replace HB:=qK (bS hb);clear hb hbox hg))
 go_loopg [2,7,14] k (fun kq v2 v7 v14 w'=>∃ (x2_1:Int) (x7_1:List Int) (x14_1:Int),v2= .int .i64 x2_1∧v14= .int .i64 x14_1∧Aside0 (orders_shown.l0 kq x2_1 x7_1 l1 (l1.length:Int) x14_1 l0_0 a0_1 a0_2=some r)∧Aside0 (kq≤k)∧Aside0 (Kd.R (Kd.int .i64) 3 w' w.heap.size (fun _=>True) v7 x7_1)∧Aside0 (w'.heap[gb145]? = some (.cells #[(.slice A0_0 l0_0.length c0_0),.int .i64 a0_1,.int .i64 a0_2] 26 (0,0)))∧Aside0 (Below w.heap.size w w'))
 case atStart=>exact ⟨(a2),(([]:List Int)),(0),sA,sA,H',⟨Nat.le_refl _⟩,⟨by first|exact Kd.R_nil _ _ _ _ _|exact Kd.N_nil _ _ _ _ _|exact Kd.V_nil _ _ _ _ _|exact Kd.Q_nil _ _ _ _ _|exact Kd.S_nil _ _ _ _ _⟩,⟨by (with_reducible repeat (first|refine blk_drewN ?_ _|refine blk_drew ?_|refine blk_alloc ?_ _));exact BK145.out⟩,⟨bA⟩⟩
 case round =>
  clear H'
  try clear c1
  try clear p2
  obtain ⟨x2_1,x7_1,x14_1,rfl,rfl,HA,HK1,HO_7,BK145,HB⟩:=hrel
  cases gk with
  | zero=>exact absurd HA.out (by simp [orders_shown.l0])
  | succ k1 =>
   have H:=HA.out
   clear HA
   simp only [orders_shown.l0] at H
   by_cases c5:x14_1 < (l1.length:Int)
   rotate_left
   ·rw [if_neg c5] at H
    have c5b0:decide (x14_1 < (l1.length:Int))=false:=decide_eq_false c5
    clear c5
    obtain rfl:=Option.some.inj H
    go_wp2
    go_ret
    exact ⟨_,by first|rfl|(simp [errW_none,errW_some] <;> rfl)|(simp [*,errW_none,errW_some] <;> rfl),by (with_reducible repeat (first|apply Kd.R_alloc|apply Kd.R_drewN|apply Kd.R_drew));exact HO_7.out,bA⟩
   rw [if_pos c5] at H
   have c5b0:decide (x14_1 < (l1.length:Int))=true:=decide_eq_true c5
   clear c5
   by_cases c6:0≤x14_1
   rotate_left
   ·rw [if_neg c6] at H
    exact absurd H (by simp)
   rw [if_pos c6] at H
   have c6b0:decide (0≤x14_1)=true:=decide_eq_true c6
   clear c6
   by_cases c7:x14_1 < (l1.length:Int)
   rotate_left
   ·rw [if_neg c7] at H
    exact absurd H (by simp)
   rw [if_pos c7] at H
   have c7b0:decide (x14_1 < (l1.length:Int))=true:=decide_eq_true c7
   clear c7
   by_cases c8:0≤(rd l1 x14_1)
   rotate_left
   ·rw [if_neg c8] at H
    exact absurd H (by simp)
   rw [if_pos c8] at H
   have c8b0:decide (0≤(rd l1 x14_1))=true:=decide_eq_true c8
   clear c8
   by_cases c9:(rd l1 x14_1) < (l0_0.length:Int)
   rotate_left
   ·rw [if_neg c9] at H
    exact absurd H (by simp)
   rw [if_pos c9] at H
   have c9b0:decide ((rd l1 x14_1) < (l0_0.length:Int))=true:=decide_eq_true c9
   clear c9
   replace H:=Option.bind_eq_some_iff.mp H
   obtain ⟨t149,A100,H⟩:=H
   replace H:(if x7_1.length < 17592186044416 then (orders_shown.l0 k1 (wrap64 (x2_1 - (mn x2_1 t149))) (x7_1 ++ [wrap64 ((wrap64 (((rd_T50 l0_0 (rd l1 x14_1)).f0.f0)+((rd_T50 l0_0 (rd l1 x14_1)).f2)))+(mn x2_1 t149))]) l1 (l1.length:Int) (wrap64 (x14_1+1)) l0_0 a0_1 a0_2) else (none))=some r:=H
   have A10:=Aside0.mk A100
   clear A100
   obtain ⟨ji11,hji11⟩ : ∃ j_:Int,(mn x2_1 t149)=j_:=⟨_,rfl⟩
   replace H:(if x7_1.length < 17592186044416 then (orders_shown.l0 k1 (wrap64 (x2_1 - (ji11))) (x7_1 ++ [wrap64 ((wrap64 (((rd_T50 l0_0 (rd l1 x14_1)).f0.f0)+((rd_T50 l0_0 (rd l1 x14_1)).f2)))+(ji11))]) l1 (l1.length:Int) (wrap64 (x14_1+1)) l0_0 a0_1 a0_2) else (none))=some r:=by first|(rw [hji11] at H;exact H)|(simp only [hji11] at H ⊢;exact H)
   (try rw [hji11] at A10)
   have hji11_:(if t149 < x2_1 then t149 else x2_1)=ji11:=hji11
   by_cases c12:x7_1.length < 17592186044416
   rotate_left
   ·rw [if_neg c12] at H
    exact absurd H (by simp)
   rw [if_pos c12] at H
   have LMc12:=Aside0.mk c12
   clear c12
   obtain ⟨y150,hy150⟩ : ∃ y_:List Int,y_=(x7_1 ++ [wrap64 ((wrap64 (((rd_T50 l0_0 (rd l1 x14_1)).f0.f0)+((rd_T50 l0_0 (rd l1 x14_1)).f2)))+(ji11))]):=⟨_,rfl⟩
   replace H:(orders_shown.l0 k1 (wrap64 (x2_1 - (ji11))) y150 l1 (l1.length:Int) (wrap64 (x14_1+1)) l0_0 a0_1 a0_2)=some r:=by first|(rw [hy150];with_reducible exact H)|(have H2_:=(Option.bind_some _ _).symm.trans H;rw [hy150];with_reducible exact H2_)|(have H2_:=(Option.bind_some _ _).symm.trans H;with_reducible exact H2_)|with_reducible exact H|(rw [hy150];exact H)|exact H
   have Ny150:=Aside0.mk hy150
   clear hy150
   have H':=Aside0.mk H
   clear H
   have p146:0≤(x14_1:Int):=dA
   have q146:x14_1 < (l1.length:Int):=dA
   obtain ⟨ad146,e146,hx146_0⟩:=Kd.at_int HR1.out x14_1 p146 q146
   cases e146
   replace hx146_0:=hC HB.out hx146_0
   replace p146:=eq_true p146
   replace q146:=eq_true q146
   obtain ⟨_,_,_,_,_,_⟩:=xC3 BK145.out
   have p147:0≤((rd l1 x14_1):Int):=dA
   have q147:(rd l1 x14_1) < (l0_0.length:Int):=dA
   obtain ⟨ad147,e147,hx147_0,hx147_1,hx147_2,hx147_3⟩:=at_T50 HR0_0.out (rd l1 x14_1) p147 q147
   cases e147
   replace hx147_0:=hC HB.out hx147_0
   replace hx147_1:=hC HB.out hx147_1
   replace hx147_2:=hC HB.out hx147_2
   replace hx147_3:=hC HB.out hx147_3
   replace p147:=eq_true p147
   replace q147:=eq_true q147
   go_wp2_with (first|((with_reducible refine gate_dst (N:=10) rfl ?_);refine bE #[.int .i64 0,.int .i64 0,.int .i64 0,.int .i64 0] 50 ?_;intro gb148 hg w14 hbox hb;replace HO_7:=qK (Kd.R_below (rS HO_7.out) hb);have BK148:=qK (hbox);have GW148:=qK ((gS hg:w.heap.size≤gb148));have GE148:=qK ((gS hg:w.heap.size≤gb148));replace HB:=qK (bS hb);have NB145_148:=qK ((nL hg BK145.out:gb145≠gb148));have NB148_145:=qK ((nG hg BK145.out:gb148≠gb145));replace BK145:=qK (bB BK145.out hb);clear hb hbox hg;have hnb15:=NB148_145.out;have hnc15:=NB145_148.out;obtain ⟨_,_,_,_,_,_,_,_⟩:=xC4 BK148.out)|((with_reducible refine gate_callee (f:=97) rfl ?_);refine gL (some 25) Try.func97 #[.agg #[.int .i64 ((rd_T50 l0_0 (rd l1 x14_1)).f0.f0),.int .i64 ((rd_T50 l0_0 (rd l1 x14_1)).f0.f1),.int .i64 ((rd_T50 l0_0 (rd l1 x14_1)).f1),.int .i64 ((rd_T50 l0_0 (rd l1 x14_1)).f2)]] ?_;(with_reducible refine (orders_gain.calls ((rd_T50 l0_0 (rd l1 x14_1)).f0.f0) ((rd_T50 l0_0 (rd l1 x14_1)).f0.f1) ((rd_T50 l0_0 (rd l1 x14_1)).f1) ((rd_T50 l0_0 (rd l1 x14_1)).f2) t149 _ A10.out).mono ?_);rintro e w17 ⟨rfl,hb⟩;refine ⟨_,rfl,?_⟩;replace HO_7:=qK (Kd.R_below (rS ((Kd.R_mono (Kd.R_far (p:=⟨gb148,3,none⟩) (Kd.R_far (p:=⟨gb148,2,none⟩) (Kd.R_far (p:=⟨gb148,1,none⟩) (Kd.R_far (p:=⟨gb148,0,none⟩) (Kd.R_types HO_7.out BK148.out (by decide)) (fun _ hk=>hk.2) (.int .i64 ((rd_T50 l0_0 (rd l1 x14_1)).f0.f0))) (fun _ hk=>hk.2) (.int .i64 ((rd_T50 l0_0 (rd l1 x14_1)).f0.f1))) (fun _ hk=>hk.2) (.int .i64 ((rd_T50 l0_0 (rd l1 x14_1)).f1))) (fun _ hk=>hk.2) (.int .i64 ((rd_T50 l0_0 (rd l1 x14_1)).f2))) (fun _ h_=>h_.1)))) hb);replace BK145:=qK (blk_below (g:=gb145) (o:=.cells #[.slice (some ad147) l0_0.length c0_0,.int .i64 a0_1,.int .i64 a0_2] 26 (0,0)) (by (with_reducible repeat (first|refine blk_drewN ?_ _|refine blk_drew ?_|refine blk_alloc ?_ _));refine blk_far ?_ NB145_148.out _;(with_reducible repeat (first|refine blk_drewN ?_ _|refine blk_drew ?_|refine blk_alloc ?_ _));refine blk_far ?_ NB145_148.out _;(with_reducible repeat (first|refine blk_drewN ?_ _|refine blk_drew ?_|refine blk_alloc ?_ _));refine blk_far ?_ NB145_148.out _;(with_reducible repeat (first|refine blk_drewN ?_ _|refine blk_drew ?_|refine blk_alloc ?_ _));refine blk_far ?_ NB145_148.out _;(with_reducible repeat (first|refine blk_drewN ?_ _|refine blk_drew ?_|refine blk_alloc ?_ _));exact BK145.out) hb);replace BK148:=qK (blk_below (g:=gb148) (o:=.cells #[.int .i64 ((rd_T50 l0_0 (rd l1 x14_1)).f0.f0),.int .i64 ((rd_T50 l0_0 (rd l1 x14_1)).f0.f1),.int .i64 ((rd_T50 l0_0 (rd l1 x14_1)).f1),.int .i64 ((rd_T50 l0_0 (rd l1 x14_1)).f2)] 50 (0,0)) (by (with_reducible repeat (first|refine blk_drewN ?_ _|refine blk_drew ?_|refine blk_alloc ?_ _));refine blk_put (cs:=#[.int .i64 ((rd_T50 l0_0 (rd l1 x14_1)).f0.f0),.int .i64 ((rd_T50 l0_0 (rd l1 x14_1)).f0.f1),.int .i64 ((rd_T50 l0_0 (rd l1 x14_1)).f1),.int .i64 0]) ?_ 3 _ rfl;(with_reducible repeat (first|refine blk_drewN ?_ _|refine blk_drew ?_|refine blk_alloc ?_ _));refine blk_put (cs:=#[.int .i64 ((rd_T50 l0_0 (rd l1 x14_1)).f0.f0),.int .i64 ((rd_T50 l0_0 (rd l1 x14_1)).f0.f1),.int .i64 0,.int .i64 0]) ?_ 2 _ rfl;(with_reducible repeat (first|refine blk_drewN ?_ _|refine blk_drew ?_|refine blk_alloc ?_ _));refine blk_put (cs:=#[.int .i64 ((rd_T50 l0_0 (rd l1 x14_1)).f0.f0),.int .i64 0,.int .i64 0,.int .i64 0]) ?_ 1 _ rfl;(with_reducible repeat (first|refine blk_drewN ?_ _|refine blk_drew ?_|refine blk_alloc ?_ _));refine blk_put (cs:=#[.int .i64 0,.int .i64 0,.int .i64 0,.int .i64 0]) ?_ 0 _ rfl;(with_reducible repeat (first|refine blk_drewN ?_ _|refine blk_drew ?_|refine blk_alloc ?_ _));exact BK148.out) hb);replace HB:=qK (bS hb);obtain ⟨_,_,_,_,_,_,_,_⟩:=xC4 BK148.out)|((with_reducible refine gate_builtin (b:=.append) (xs:=#[.tmp 30,.tmp 39]) rfl ?_);at_builtin;refine Kd.R_append (Kd.int .i64) (w0:=w) w.heap.size rfl (.tmp 30) (.tmp 39) 27 3 (.int .i64 0) 8 rfl Try.underlying27 info3 rfl (by decide) (by omega) u7 x7_1 (wrap64 ((wrap64 (((rd_T50 l0_0 (rd l1 x14_1)).f0.f0)+((rd_T50 l0_0 (rd l1 x14_1)).f2)))+(ji11))) [.int .i64 (wrap64 ((wrap64 (((rd_T50 l0_0 (rd l1 x14_1)).f0.f0)+((rd_T50 l0_0 (rd l1 x14_1)).f2)))+(ji11)))] (fun _=>True) (fun _=>False) rfl rfl ?aP (fun _ hk=>hk.elim) ?aF ?aO ?aB ?aS ?aL ?_;(case aP=>exact rfl);(case aB=>exact bA);(case aF=>exact (fun _ _=>trivial));(case aO=>exact (rS HO_7.out));(case aS=>exact bZ);(case aL=>have:=LMc12.out;omega);intro v151 w19 ho hb hg hat;rw [← Ny150.out] at ho;replace BK145:=qK (blk_grown (g:=gb145) (o:=.cells #[.slice (some ad147) l0_0.length c0_0,.int .i64 a0_1,.int .i64 a0_2] 26 (0,0)) (bX BK145.out) hg (Kd.R_ne HO_7.out BK145.out (by decide)));replace BK148:=qK (blk_grown (g:=gb148) (o:=.cells #[.int .i64 ((rd_T50 l0_0 (rd l1 x14_1)).f0.f0),.int .i64 ((rd_T50 l0_0 (rd l1 x14_1)).f0.f1),.int .i64 ((rd_T50 l0_0 (rd l1 x14_1)).f1),.int .i64 ((rd_T50 l0_0 (rd l1 x14_1)).f2)] 50 (0,0)) (bX BK148.out) hg (Kd.R_ne HO_7.out BK148.out (by decide)));replace HB:=qK (hb);have HO152:=qK (ho);clear HO_7;clear ho hb hg hat))
   go_roundg k1
   case measure=>have:=HK1.out;omega
   case rel=>exact ⟨(wrap64 (x2_1 - (ji11))),(y150),(wrap64 (x14_1+1)),(by first|rfl|(simp;done)|(simp only [← hji11] <;> (first|rfl|simp))|(simp [*];done)),sA,H',⟨by have:=HK1.out;omega⟩,⟨by (with_reducible repeat (first|apply Kd.R_alloc|apply Kd.R_drewN|apply Kd.R_drew));exact HO152.out⟩,⟨by (with_reducible repeat (first|refine blk_drewN ?_ _|refine blk_drew ?_|refine blk_alloc ?_ _));exact BK145.out⟩,⟨bA⟩⟩
def orders_window_ends.f (a0_0:Int) (a0_1:Int) (a0_2:Int) (a0_3:Int) (a0_4:Int):Option (Int × Int):=some (mx 0 (wrap64 (a0_3 - a0_1)),mn a0_2 (wrap64 (a0_4 - a0_0)))
set_option maxHeartbeats 8000000 in
set_option maxRecDepth 100000 in
theorem orders_window_ends.calls (a0_0:Int) (a0_1:Int) (a0_2:Int) (a0_3:Int) (a0_4:Int) (r1:Int) (r2:Int) (w:World) (h:orders_window_ends.f a0_0 a0_1 a0_2 a0_3 a0_4=some (r1,r2)) :
 Calls Try.prog 78 #[.agg #[.int .i64 a0_0,.int .i64 a0_1,.int .i64 a0_2,.int .i64 a0_3,.int .i64 a0_4]] w fun e w'=>e= .returned (.tuple #[.int .i64 r1,.int .i64 r2])∧Below w.heap.size w w':=by
 have hu105:=Try.underlying105
 have HB:=Aside0.mk (Below.refl w.heap.size w)
 have H:(some (mx 0 (wrap64 (a0_3 - a0_1)),mn a0_2 (wrap64 (a0_4 - a0_0))))=some (r1,r2):=h
 clear h
 obtain ⟨ji2,hji2⟩ : ∃ j_:Int,(mx 0 (wrap64 (a0_3 - a0_1)))=j_:=⟨_,rfl⟩
 replace H:(some (ji2,mn a0_2 (wrap64 (a0_4 - a0_0))))=some (r1,r2):=by first|(rw [hji2] at H;exact H)|(simp only [hji2] at H ⊢;exact H)
 (try (have hji2l:0≤ji2:=by (rw [← hji2];unfold mx;(repeat' split) <;> omega)))
 (try (have hji2m:0≤ji2:=by omega))
 have hji2_:(if 0 < (wrap64 (a0_3 - a0_1)) then (wrap64 (a0_3 - a0_1)) else 0)=ji2:=hji2
 obtain ⟨ji3,hji3⟩ : ∃ j_:Int,(mn a0_2 (wrap64 (a0_4 - a0_0)))=j_:=⟨_,rfl⟩
 replace H:(some (ji2,ji3))=some (r1,r2):=by first|(rw [hji3] at H;exact H)|(simp only [hji3] at H ⊢;exact H)
 have hji3_:(if (wrap64 (a0_4 - a0_0)) < a0_2 then (wrap64 (a0_4 - a0_0)) else a0_2)=ji3:=hji3
 simp only [Option.some.injEq,Prod.mk.injEq] at H
 obtain ⟨rfl,rfl⟩:=H
 go_enter Try.func78,Try.ntmps78
 go_wp2_with (first|((with_reducible refine gate_dst (N:=1) rfl ?_);refine bE #[.int .i64 a0_0,.int .i64 a0_1,.int .i64 a0_2,.int .i64 a0_3,.int .i64 a0_4] 105 ?_;intro gb153 hg w4 hbox hb;have BK153:=qK (hbox);have GW153:=qK ((gS hg:w.heap.size≤gb153));have GE153:=qK ((gS hg:w.heap.size≤gb153));replace HB:=qK (bS hb);clear hb hbox hg;obtain ⟨_,_,_,_,_,_,_,_,_,_⟩:=xC5 BK153.out))
 repeat (go_quiet (first|((with_reducible refine gate_dst (N:=1) rfl ?_);refine bE #[.int .i64 a0_0,.int .i64 a0_1,.int .i64 a0_2,.int .i64 a0_3,.int .i64 a0_4] 105 ?_;intro gb153 hg w4 hbox hb;have BK153:=qK (hbox);have GW153:=qK ((gS hg:w.heap.size≤gb153));have GE153:=qK ((gS hg:w.heap.size≤gb153));replace HB:=qK (bS hb);clear hb hbox hg;obtain ⟨_,_,_,_,_,_,_,_,_,_⟩:=xC5 BK153.out));try go_wp2_with (first|((with_reducible refine gate_dst (N:=1) rfl ?_);refine bE #[.int .i64 a0_0,.int .i64 a0_1,.int .i64 a0_2,.int .i64 a0_3,.int .i64 a0_4] 105 ?_;intro gb153 hg w4 hbox hb;have BK153:=qK (hbox);have GW153:=qK ((gS hg:w.heap.size≤gb153));have GE153:=qK ((gS hg:w.heap.size≤gb153));replace HB:=qK (bS hb);clear hb hbox hg;obtain ⟨_,_,_,_,_,_,_,_,_,_⟩:=xC5 BK153.out)))
 go_ret2
 exact ⟨by first|rfl|(simp [errW_none,errW_some] <;> rfl)|(simp only [← hji2,← hji3];first|rfl|(simp [errW_none,errW_some] <;> rfl))|(simp [*,errW_none,errW_some] <;> rfl),bA⟩
def orders_window_seen.f (a0_0:Int) (a0_1:Int) (a0_2:Int) (a0_3:Int) (a0_4:Int) (a1:Int):Option (Int × Int):=(orders_common.f (wrap64 (a0_0+a1)) (wrap64 (a0_1+a1)) a0_3 a0_4).bind fun bt156=>(some (bt156.1,bt156.2.1))
set_option maxHeartbeats 8000000 in
set_option maxRecDepth 100000 in
theorem orders_window_seen.calls (a0_0:Int) (a0_1:Int) (a0_2:Int) (a0_3:Int) (a0_4:Int) (a1:Int) (r1:Int) (r2:Int) (w:World) (h:orders_window_seen.f a0_0 a0_1 a0_2 a0_3 a0_4 a1=some (r1,r2)) :
 Calls Try.prog 79 #[.agg #[.int .i64 a0_0,.int .i64 a0_1,.int .i64 a0_2,.int .i64 a0_3,.int .i64 a0_4],.int .i64 a1] w fun e w'=>e= .returned (.agg #[.int .i64 r1,.int .i64 r2])∧Below w.heap.size w w':=by
 have hu105:=Try.underlying105
 have hu24:=Try.underlying24
 have HB:=Aside0.mk (Below.refl w.heap.size w)
 have H:((orders_common.f (wrap64 (a0_0+a1)) (wrap64 (a0_1+a1)) a0_3 a0_4).bind fun bt156=>(some (bt156.1,bt156.2.1)))=some (r1,r2):=h
 clear h
 replace H:=Option.bind_eq_some_iff.mp H
 obtain ⟨⟨t156,t157,t158⟩,A30,H⟩:=H
 replace H:(some (t156,t157))=some (r1,r2):=H
 have A3:=Aside0.mk A30
 clear A30
 simp only [Option.some.injEq,Prod.mk.injEq] at H
 obtain ⟨rfl,rfl⟩:=H
 go_enter Try.func79,Try.ntmps79
 go_wp2_with (first|((with_reducible refine gate_dst (N:=2) rfl ?_);refine bE #[.int .i64 a0_0,.int .i64 a0_1,.int .i64 a0_2,.int .i64 a0_3,.int .i64 a0_4] 105 ?_;intro gb154 hg w4 hbox hb;have BK154:=qK (hbox);have GW154:=qK ((gS hg:w.heap.size≤gb154));have GE154:=qK ((gS hg:w.heap.size≤gb154));replace HB:=qK (bS hb);clear hb hbox hg)|((with_reducible refine gate_dst (N:=4) rfl ?_);refine bE #[.int .i64 0,.int .i64 0] 24 ?_;intro gb155 hg w5 hbox hb;have BK155:=qK (hbox);have GW155:=qK ((gS hg:w.heap.size≤gb155));have GE155:=qK ((gS hg:w.heap.size≤gb155));replace HB:=qK (bS hb);have NB154_155:=qK ((nL hg BK154.out:gb154≠gb155));have NB155_154:=qK ((nG hg BK154.out:gb155≠gb154));replace BK154:=qK (bB BK154.out hb);clear hb hbox hg;have hnb6:=NB154_155.out;have hnc6:=NB155_154.out;obtain ⟨_,_,_,_,_,_,_,_,_,_⟩:=xC5 BK154.out)|((with_reducible refine gate_callee (f:=53) rfl ?_);refine gL (some 21) Try.func53 #[.agg #[.int .i64 (wrap64 (a0_0+a1)),.int .i64 (wrap64 (a0_1+a1))],.agg #[.int .i64 a0_3,.int .i64 a0_4]] ?_;(with_reducible refine (orders_common.calls (wrap64 (a0_0+a1)) (wrap64 (a0_1+a1)) a0_3 a0_4 t156 t157 t158 _ A3.out).mono ?_);rintro e w8 ⟨rfl,hb⟩;refine ⟨_,rfl,?_⟩;replace BK154:=qK (bB BK154.out hb);replace BK155:=qK (bB BK155.out hb);replace HB:=qK (bS hb))|((with_reducible refine gate_dst (N:=5) rfl ?_);refine bE #[.int .i64 0,.int .i64 0] 24 ?_;intro gb159 hg w9 hbox hb;have BK159:=qK (hbox);have GW159:=qK ((gS hg:w.heap.size≤gb159));have GE159:=qK ((gS hg:w.heap.size≤gb159));replace HB:=qK (bS hb);have NB154_159:=qK ((nL hg BK154.out:gb154≠gb159));have NB159_154:=qK ((nG hg BK154.out:gb159≠gb154));replace BK154:=qK (bB BK154.out hb);have NB155_159:=qK ((nL hg BK155.out:gb155≠gb159));have NB159_155:=qK ((nG hg BK155.out:gb159≠gb155));replace BK155:=qK (bB BK155.out hb);clear hb hbox hg;have hnb10:=NB159_154.out;have hnc10:=NB154_159.out;have hnb11:=NB159_155.out;have hnc11:=NB155_159.out;obtain ⟨_,_,_,_⟩:=xC2 BK159.out;obtain ⟨_,_,_,_⟩:=xC2 BK155.out))
 refine bodyPost_ret (results_cell_row rfl _ _ gb155 24 #[.int .i64 t156,.int .i64 t157] (0,0) _ rfl (by (with_reducible repeat (first|refine blk_drewN ?_ _|refine blk_drew ?_|refine blk_alloc ?_ _));refine blk_put (cs:=#[.int .i64 t156,.int .i64 0]) ?_ 1 _ rfl;(with_reducible repeat (first|refine blk_drewN ?_ _|refine blk_drew ?_|refine blk_alloc ?_ _));refine blk_put (cs:=#[.int .i64 0,.int .i64 0]) ?_ 0 _ rfl;(with_reducible repeat (first|refine blk_drewN ?_ _|refine blk_drew ?_|refine blk_alloc ?_ _));refine blk_far ?_ NB155_159.out _;(with_reducible repeat (first|refine blk_drewN ?_ _|refine blk_drew ?_|refine blk_alloc ?_ _));refine blk_far ?_ NB155_159.out _;(with_reducible repeat (first|refine blk_drewN ?_ _|refine blk_drew ?_|refine blk_alloc ?_ _));exact BK155.out) Try.underlying24 rfl (by kernel_rfl)) rfl ?_
 exact ⟨by first|rfl|(simp [errW_none,errW_some] <;> rfl)|(simp [*,errW_none,errW_some] <;> rfl),bA⟩
end Go.Proofs.Ythimaecnpkcmeaa.K
