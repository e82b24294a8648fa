/- Contracts of Go functions and lemmas for them: each theorem states what one function returns and what it leaves of memory; its conditions stand in its statement. -/
import Derived.Test.YthimaecnpkcmeaaA3
import Derived.Test.YthimaecnpkcmeaaA7
import Derived.Test.YthimaecnpkcmeaaA8
import Derived.Test.YthimaecnpkcmeaaA18
import Derived.Test.YthimaecnpkcmeaaA19
import Derived.Test.YthimaecnpkcmeaaA20
set_option linter.unusedVariables false
set_option linter.unusedSimpArgs false
namespace Go.Proofs.Ythimaecnpkcmeaa.K
open Go.RowKit Go.Proofs.YthimaecnpkcmeaaW.PrintWords Go.Proofs.YthimaecnpkcmeaaW.PrintLast Go.Proofs.YthimaecnpkcmeaaW.PrintMore
attribute [local go_sem] max2_int min2_int max_two min_two max_three min_three max_four min_four   -- for this text's walks alone
set_option linter.unusedVariables false
set_option linter.unusedSimpArgs false
mutual
def acreagelaw08_OrdersSure.j0:Nat→List Int→List Int→List Int→Int→Int→Bool→List (S50)→Int→Int→Option (Bool)
 | 0,_,_,_,_,_,_,_,_,_=>none
 | k+1,x1,x2,x3,x4,x5,x55,x516000,x516001,x516002=>if x55=true then (some true) else ((orders_Decides.f k x516000 x516001 x516002 x1 x4 x5).bind fun bt519=>((orders_Open.f k x516000 x516001 x516002 x1 x4 x5).bind fun bt521=>(if bt519.2=0 then (if bt521.2.2=0 then (if (bt519.1 == bt521.2.1)=true then (acreagelaw08_OrdersSure.j1 k x1 x2 x3 x4 x5 bt521.1 bt521.2.1 true x516000 x516001 x516002) else (if (bt521.1.length:Int)=0 then (acreagelaw08_OrdersSure.j1 k x1 x2 x3 x4 x5 bt521.1 bt521.2.1 false x516000 x516001 x516002) else (acreagelaw08_OrdersSure.j1 k x1 x2 x3 x4 x5 bt521.1 bt521.2.1 (!bt521.2.1) x516000 x516001 x516002))) else (acreagelaw08_OrdersSure.j1 k x1 x2 x3 x4 x5 bt521.1 bt521.2.1 true x516000 x516001 x516002)) else (acreagelaw08_OrdersSure.j1 k x1 x2 x3 x4 x5 bt521.1 bt521.2.1 true x516000 x516001 x516002))))
def acreagelaw08_OrdersSure.j1:Nat→List Int→List Int→List Int→Int→Int→List Int→Bool→Bool→List (S50)→Int→Int→Option (Bool)
 | 0,_,_,_,_,_,_,_,_,_,_,_=>none
 | k+1,x1,x2,x3,x4,x5,x15,x16,x92,x516000,x516001,x516002=>if x92=true then (some false) else (if x16=true then ((orders_Measured.f k x516000 x516001 x516002 x1 x15).bind fun bt526=>((orders_Sum.f k bt526.1 bt526.2.1 bt526.2.2.1).bind fun bt533=>(if bt526.2.2.2=0 then (if bt533.2.2=0 then (if bt533.1 < x5 then (some (decide (bt533.2.1 > x4))) else (some false)) else (some false)) else (some false)))) else ((acreageref08_CheckAreas.f k x516000 x516001 x516002 x2).bind fun t537=>(if t537=0 then ((acreagelaw08_shows.f k x516000 x516001 x516002 x1 x2 x3).bind fun t538=>((orders_Measured.f k x516000 x516001 x516002 x1 t538).bind fun bt541=>((orders_Sum.f k bt541.1 bt541.2.1 bt541.2.2.1).bind fun bt548=>(acreagelaw08_OrdersSure.l0 k x4 x5 bt541.2.2.2 bt548.2.2 0 x2 (x2.length:Int) 0 bt548.1 bt548.2.1)))) else (some true))))
def acreagelaw08_OrdersSure.l0:Nat→Int→Int→Int→Int→Int→List Int→Int→Int→Int→Int→Option (Bool)
 | 0,_,_,_,_,_,_,_,_,_,_=>none
 | k+1,x4,x5,x14,x17,x24,x144,x145,x146,x552000,x552001=>if x146 < x145 then (if 0≤x146 then (if x146 < (x144.length:Int) then (acreagelaw08_OrdersSure.l0 k x4 x5 x14 x17 (wrap64 (x24+(rd x144 x146))) x144 x145 (wrap64 (x146+1)) x552000 x552001) else (none)) else (none)) else (if x14=0 then (if x17=0 then (if x552000≥x5 then (if x24≥x5 then (some true) else (if x552001≤x4 then (some (decide (x24≤x4))) else (some false))) else (if x552001≤x4 then (some (decide (x24≤x4))) else (some false))) else (some false)) else (some false))
end
def acreagelaw08_OrdersSure.f (k:Nat) (l0_0:List (S50)) (a0_1:Int) (a0_2:Int) (l1:List Int) (l2:List Int) (l3:List Int) (a4:Int) (a5:Int):Option (Bool):=(acreagelaw08_sane.f).bind fun t516=>(if t516=true then ((acreageref08_Valid.f k l0_0 a0_1 a0_2).bind fun t517=>(if t517=true then ((acreageref08_Right.f k l0_0 a0_1 a0_2 l1).bind fun t518=>(if t518=true then (if (l3.length:Int) > 40 then (acreagelaw08_OrdersSure.j0 k l1 l2 l3 a4 a5 true l0_0 a0_1 a0_2) else (if a4≥a5 then (acreagelaw08_OrdersSure.j0 k l1 l2 l3 a4 a5 true l0_0 a0_1 a0_2) else (if a4 < (-1099511627776) then (acreagelaw08_OrdersSure.j0 k l1 l2 l3 a4 a5 true l0_0 a0_1 a0_2) else (acreagelaw08_OrdersSure.j0 k l1 l2 l3 a4 a5 (decide (a5 > 1099511627776)) l0_0 a0_1 a0_2)))) else (acreagelaw08_OrdersSure.j0 k l1 l2 l3 a4 a5 true l0_0 a0_1 a0_2))) else (acreagelaw08_OrdersSure.j0 k l1 l2 l3 a4 a5 true l0_0 a0_1 a0_2))) else (some false))
def acreagelaw08_OrdersSure.T15:Bool × List (List Nat × List Nat):=(true,[([],[]),([],[]),([],[]),([],[]),([],[]),([],[]),([2,3,4,5],[2,3,4,5]),([0,1,6,6],[0,1,6]),([7],[7]),([8],[8]),([8],[8]),([],[]),([11,9,7,0,1,2,3,4,5,6,7,8,9,11],[9,11]),([10,12,0,1,2,3,4,5,6,7,8,9,10,11,12],[10])])
def acreagelaw08_OrdersSure.B15:List Nat:=[0,0,0,0,0,0,60,127,255,511,511,0,3071,8191]
theorem acreagelaw08_OrdersSure.tab15:rtab .any (opsOf Try.f3 15)=acreagelaw08_OrdersSure.T15:=by kernel_rfl
theorem acreagelaw08_OrdersSure.bits15:waitsOk acreagelaw08_OrdersSure.T15.2 acreagelaw08_OrdersSure.B15=true:=by kernel_rfl
set_option maxHeartbeats 8000000 in
set_option maxRecDepth 100000 in
theorem acreagelaw08_OrdersSure.calls (k:Nat) (A0_0:Option Addr) (c0_0:Nat) (l0_0:List (S50)) (a0_1:Int) (a0_2:Int) (A1:Option Addr) (c1:Nat) (l1:List Int) (A2:Option Addr) (c2:Nat) (l2:List Int) (A3:Option Addr) (c3:Nat) (l3:List Int) (a4:Int) (a5:Int) (r:Bool) (w:World) (hr0_0:Kd.C k50 w A0_0 l0_0.length l0_0) (hc0_0:l0_0.length≤c0_0) (hr1:Kd.C (Kd.int .i64) w A1 l1.length l1) (hc1:l1.length≤c1) (hr2:Kd.C (Kd.int .i64) w A2 l2.length l2) (hc2:l2.length≤c2) (hr3:Kd.C (Kd.int .i64) w A3 l3.length l3) (hc3:l3.length≤c3) (h:acreagelaw08_OrdersSure.f k l0_0 a0_1 a0_2 l1 l2 l3 a4 a5=some r) :
 Calls Try.prog 3 #[.agg #[.slice A0_0 l0_0.length c0_0,.int .i64 a0_1,.int .i64 a0_2],.slice A1 l1.length c1,.slice A2 l2.length c2,.slice A3 l3.length c3,.int .i64 a4,.int .i64 a5] w fun e w'=>e= .returned (.bool r)∧Below w.heap.size w w':=by
 have hu26:=Try.underlying26
 have hu24:=Try.underlying24
 have HR0_0:=Aside0.mk hr0_0
 have HC0_0:=Aside0.mk hc0_0
 clear hr0_0 hc0_0
 have HR1:=Aside0.mk hr1
 have HC1:=Aside0.mk hc1
 clear hr1 hc1
 have HR2:=Aside0.mk hr2
 have HC2:=Aside0.mk hc2
 clear hr2 hc2
 have HR3:=Aside0.mk hr3
 have HC3:=Aside0.mk hc3
 clear hr3 hc3
 have HB:=Aside0.mk (Below.refl w.heap.size w)
 have H:((acreagelaw08_sane.f).bind fun t516=>(if t516=true then ((acreageref08_Valid.f k l0_0 a0_1 a0_2).bind fun t517=>(if t517=true then ((acreageref08_Right.f k l0_0 a0_1 a0_2 l1).bind fun t518=>(if t518=true then (if (l3.length:Int) > 40 then (acreagelaw08_OrdersSure.j0 k l1 l2 l3 a4 a5 true l0_0 a0_1 a0_2) else (if a4≥a5 then (acreagelaw08_OrdersSure.j0 k l1 l2 l3 a4 a5 true l0_0 a0_1 a0_2) else (if a4 < (-1099511627776) then (acreagelaw08_OrdersSure.j0 k l1 l2 l3 a4 a5 true l0_0 a0_1 a0_2) else (acreagelaw08_OrdersSure.j0 k l1 l2 l3 a4 a5 (decide (a5 > 1099511627776)) l0_0 a0_1 a0_2)))) else (acreagelaw08_OrdersSure.j0 k l1 l2 l3 a4 a5 true l0_0 a0_1 a0_2))) else (acreagelaw08_OrdersSure.j0 k l1 l2 l3 a4 a5 true l0_0 a0_1 a0_2))) else (some false)))=some r:=h
 clear h
 replace H:=Option.bind_eq_some_iff.mp H
 obtain ⟨t516,A70,H⟩:=H
 replace H:(if t516=true then ((acreageref08_Valid.f k l0_0 a0_1 a0_2).bind fun t517=>(if t517=true then ((acreageref08_Right.f k l0_0 a0_1 a0_2 l1).bind fun t518=>(if t518=true then (if (l3.length:Int) > 40 then (acreagelaw08_OrdersSure.j0 k l1 l2 l3 a4 a5 true l0_0 a0_1 a0_2) else (if a4≥a5 then (acreagelaw08_OrdersSure.j0 k l1 l2 l3 a4 a5 true l0_0 a0_1 a0_2) else (if a4 < (-1099511627776) then (acreagelaw08_OrdersSure.j0 k l1 l2 l3 a4 a5 true l0_0 a0_1 a0_2) else (acreagelaw08_OrdersSure.j0 k l1 l2 l3 a4 a5 (decide (a5 > 1099511627776)) l0_0 a0_1 a0_2)))) else (acreagelaw08_OrdersSure.j0 k l1 l2 l3 a4 a5 true l0_0 a0_1 a0_2))) else (acreagelaw08_OrdersSure.j0 k l1 l2 l3 a4 a5 true l0_0 a0_1 a0_2))) else (some false))=some r:=H
 have A7:=Aside0.mk A70
 clear A70
 by_cases c8:t516=true
 rotate_left
 ·replace c8:=Bool.eq_false_iff.mpr c8
  subst c8
  have H1:(some false)=some r:=by rw [if_neg (show ¬ (false=true) by decide)] at H;exact H
  clear H
  have H:=H1
  clear H1
  obtain rfl:=Option.some.inj H
  go_enter Try.func3,Try.ntmps3
  go_wp2_with (first|((with_reducible refine gate_dst (N:=6) rfl ?_);(try (refine gate_guard (by rfl) ?_;dsimp only));refine bE #[.slice A0_0 l0_0.length c0_0,.int .i64 a0_1,.int .i64 a0_2] 26 ?_;intro gb515 hg w160 hbox hb;have BK515:=qK (hbox);have GW515:=qK ((gS hg:w.heap.size≤gb515));have GE515:=qK ((gS hg:w.heap.size≤gb515));replace HB:=qK (bS hb);clear hb hbox hg)|((with_reducible refine gate_callee (f:=9) rfl ?_);refine gL (some 27) Try.func9 #[] ?_;(with_reducible refine (acreagelaw08_sane.calls false _ A7.out).mono ?_);rintro e w161 ⟨rfl,hb⟩;refine ⟨_,rfl,?_⟩;replace BK515:=qK (bB BK515.out hb);replace HB:=qK (bS hb)))
  go_ret
  exact ⟨by first|rfl|(simp [errW_none,errW_some] <;> rfl)|(simp [*,errW_none,errW_some] <;> rfl),bA⟩
 subst c8
 have H1:((acreageref08_Valid.f k l0_0 a0_1 a0_2).bind fun t517=>(if t517=true then ((acreageref08_Right.f k l0_0 a0_1 a0_2 l1).bind fun t518=>(if t518=true then (if (l3.length:Int) > 40 then (acreagelaw08_OrdersSure.j0 k l1 l2 l3 a4 a5 true l0_0 a0_1 a0_2) else (if a4≥a5 then (acreagelaw08_OrdersSure.j0 k l1 l2 l3 a4 a5 true l0_0 a0_1 a0_2) else (if a4 < (-1099511627776) then (acreagelaw08_OrdersSure.j0 k l1 l2 l3 a4 a5 true l0_0 a0_1 a0_2) else (acreagelaw08_OrdersSure.j0 k l1 l2 l3 a4 a5 (decide (a5 > 1099511627776)) l0_0 a0_1 a0_2)))) else (acreagelaw08_OrdersSure.j0 k l1 l2 l3 a4 a5 true l0_0 a0_1 a0_2))) else (acreagelaw08_OrdersSure.j0 k l1 l2 l3 a4 a5 true l0_0 a0_1 a0_2)))=some r:=by rw [if_pos rfl] at H;exact H
 clear H
 have H:=H1
 clear H1
 have HC9:=Aside0.mk H
 clear H
 go_enter Try.func3,Try.ntmps3
 go_upto_region 3 with (first|((with_reducible refine gate_dst (N:=6) rfl ?_);(try (refine gate_guard (by rfl) ?_;dsimp only));refine bE #[.slice A0_0 l0_0.length c0_0,.int .i64 a0_1,.int .i64 a0_2] 26 ?_;intro gb515 hg w10 hbox hb;have BK515:=qK (hbox);have GW515:=qK ((gS hg:w.heap.size≤gb515));have GE515:=qK ((gS hg:w.heap.size≤gb515));replace HB:=qK (bS hb);clear hb hbox hg)|((with_reducible refine gate_callee (f:=9) rfl ?_);refine gL (some 27) Try.func9 #[] ?_;(with_reducible refine (acreagelaw08_sane.calls true _ A7.out).mono ?_);rintro e w11 ⟨rfl,hb⟩;refine ⟨_,rfl,?_⟩;replace BK515:=qK (bB BK515.out hb);replace HB:=qK (bS hb)))
 (try simp only [Act.put,List.setIfInBounds_toArray,List.set_cons_zero,List.set_cons_succ])
 go_cut [55] (fun v55 wc=>∃ (kq:Nat) (x55_8:Bool),v55= .bool x55_8∧Aside0 (acreagelaw08_OrdersSure.j0 kq l1 l2 l3 a4 a5 x55_8 l0_0 a0_1 a0_2=some r)∧Aside0 (kq≤k)∧Aside0 (wc.heap[gb515]? = some (.cells #[(.slice A0_0 l0_0.length c0_0),.int .i64 a0_1,.int .i64 a0_2] 26 (0,0)))∧Aside0 (Below w.heap.size w wc))
 case first =>
  have H:=HC9.out
  clear HC9
  replace H:=Option.bind_eq_some_iff.mp H
  obtain ⟨t517,A120,H⟩:=H
  replace H:(if t517=true then ((acreageref08_Right.f k l0_0 a0_1 a0_2 l1).bind fun t518=>(if t518=true then (if (l3.length:Int) > 40 then (acreagelaw08_OrdersSure.j0 k l1 l2 l3 a4 a5 true l0_0 a0_1 a0_2) else (if a4≥a5 then (acreagelaw08_OrdersSure.j0 k l1 l2 l3 a4 a5 true l0_0 a0_1 a0_2) else (if a4 < (-1099511627776) then (acreagelaw08_OrdersSure.j0 k l1 l2 l3 a4 a5 true l0_0 a0_1 a0_2) else (acreagelaw08_OrdersSure.j0 k l1 l2 l3 a4 a5 (decide (a5 > 1099511627776)) l0_0 a0_1 a0_2)))) else (acreagelaw08_OrdersSure.j0 k l1 l2 l3 a4 a5 true l0_0 a0_1 a0_2))) else (acreagelaw08_OrdersSure.j0 k l1 l2 l3 a4 a5 true l0_0 a0_1 a0_2))=some r:=H
  have A12:=Aside0.mk A120
  clear A120
  by_cases c13:t517=true
  rotate_left
  ·replace c13:=Bool.eq_false_iff.mpr c13
   subst c13
   have H1:(acreagelaw08_OrdersSure.j0 k l1 l2 l3 a4 a5 true l0_0 a0_1 a0_2)=some r:=by rw [if_neg (show ¬ (false=true) by decide)] at H;exact H
   clear H
   have H:=H1
   clear H1
   have H':=Aside0.mk H
   clear H
   obtain ⟨hcz39_0,hcz39_1,hcz39_2,hfz39_0,hfz39_1,hfz39_2⟩:=xC3 BK515.out
   go_wp2_with (first|((with_reducible refine gate_callee (f:=10) rfl ?_);refine gL (some 30) Try.func10 #[.agg #[.slice A0_0 l0_0.length c0_0,.int .i64 a0_1,.int .i64 a0_2]] ?_;(with_reducible refine (acreageref08_Valid.calls k _ _ l0_0 a0_1 a0_2 false _ ?side1 ?side2 A12.out).mono ?_);(case side1=>exact cS HR0_0.out);(case side2=>exact HC0_0.out);rintro e w40 ⟨rfl,hb⟩;refine ⟨_,rfl,?_⟩;replace BK515:=qK (bB BK515.out hb);replace HB:=qK (bS hb)))
   go_meet
   case rel=>exact ⟨_,(true),sA,H',⟨by first|omega|exact Nat.le_refl _⟩,⟨by (with_reducible repeat (first|refine blk_drewN ?_ _|refine blk_drew ?_|refine blk_alloc ?_ _));exact BK515.out⟩,⟨bA⟩⟩
  subst c13
  have H1:((acreageref08_Right.f k l0_0 a0_1 a0_2 l1).bind fun t518=>(if t518=true then (if (l3.length:Int) > 40 then (acreagelaw08_OrdersSure.j0 k l1 l2 l3 a4 a5 true l0_0 a0_1 a0_2) else (if a4≥a5 then (acreagelaw08_OrdersSure.j0 k l1 l2 l3 a4 a5 true l0_0 a0_1 a0_2) else (if a4 < (-1099511627776) then (acreagelaw08_OrdersSure.j0 k l1 l2 l3 a4 a5 true l0_0 a0_1 a0_2) else (acreagelaw08_OrdersSure.j0 k l1 l2 l3 a4 a5 (decide (a5 > 1099511627776)) l0_0 a0_1 a0_2)))) else (acreagelaw08_OrdersSure.j0 k l1 l2 l3 a4 a5 true l0_0 a0_1 a0_2)))=some r:=by rw [if_pos rfl] at H;exact H
  clear H
  have H:=H1
  clear H1
  replace H:=Option.bind_eq_some_iff.mp H
  obtain ⟨t518,A140,H⟩:=H
  replace H:(if t518=true then (if (l3.length:Int) > 40 then (acreagelaw08_OrdersSure.j0 k l1 l2 l3 a4 a5 true l0_0 a0_1 a0_2) else (if a4≥a5 then (acreagelaw08_OrdersSure.j0 k l1 l2 l3 a4 a5 true l0_0 a0_1 a0_2) else (if a4 < (-1099511627776) then (acreagelaw08_OrdersSure.j0 k l1 l2 l3 a4 a5 true l0_0 a0_1 a0_2) else (acreagelaw08_OrdersSure.j0 k l1 l2 l3 a4 a5 (decide (a5 > 1099511627776)) l0_0 a0_1 a0_2)))) else (acreagelaw08_OrdersSure.j0 k l1 l2 l3 a4 a5 true l0_0 a0_1 a0_2))=some r:=H
  have A14:=Aside0.mk A140
  clear A140
  by_cases c15:t518=true
  rotate_left
  ·replace c15:=Bool.eq_false_iff.mpr c15
   subst c15
   have H1:(acreagelaw08_OrdersSure.j0 k l1 l2 l3 a4 a5 true l0_0 a0_1 a0_2)=some r:=by rw [if_neg (show ¬ (false=true) by decide)] at H;exact H
   clear H
   have H:=H1
   clear H1
   have H':=Aside0.mk H
   clear H
   obtain ⟨hcz35_0,hcz35_1,hcz35_2,hfz35_0,hfz35_1,hfz35_2⟩:=xC3 BK515.out
   go_wp2_with (first|((with_reducible refine gate_callee (f:=10) rfl ?_);refine gL (some 30) Try.func10 #[.agg #[.slice A0_0 l0_0.length c0_0,.int .i64 a0_1,.int .i64 a0_2]] ?_;(with_reducible refine (acreageref08_Valid.calls k _ _ l0_0 a0_1 a0_2 true _ ?side1 ?side2 A12.out).mono ?_);(case side1=>exact cS HR0_0.out);(case side2=>exact HC0_0.out);rintro e w36 ⟨rfl,hb⟩;refine ⟨_,rfl,?_⟩;replace BK515:=qK (bB BK515.out hb);replace HB:=qK (bS hb);obtain ⟨hcz37_0,hcz37_1,hcz37_2,hfz37_0,hfz37_1,hfz37_2⟩:=xC3 BK515.out)|(go_at_call 11;(with_reducible refine (acreageref08_Right.calls k _ _ l0_0 a0_1 a0_2 _ _ l1 false _ ?side1 ?side2 ?side3 ?side4 A14.out).mono ?_);(case side1=>exact cS HR0_0.out);(case side2=>exact HC0_0.out);(case side3=>exact cS HR1.out);(case side4=>exact HC1.out);rintro e w38 ⟨rfl,hb⟩;replace BK515:=qK (bB BK515.out hb);replace HB:=qK (bS hb)))
   go_meet
   case rel=>exact ⟨_,(true),sA,H',⟨by first|omega|exact Nat.le_refl _⟩,⟨by (with_reducible repeat (first|refine blk_drewN ?_ _|refine blk_drew ?_|refine blk_alloc ?_ _));exact BK515.out⟩,⟨bA⟩⟩
  subst c15
  have H1:(if (l3.length:Int) > 40 then (acreagelaw08_OrdersSure.j0 k l1 l2 l3 a4 a5 true l0_0 a0_1 a0_2) else (if a4≥a5 then (acreagelaw08_OrdersSure.j0 k l1 l2 l3 a4 a5 true l0_0 a0_1 a0_2) else (if a4 < (-1099511627776) then (acreagelaw08_OrdersSure.j0 k l1 l2 l3 a4 a5 true l0_0 a0_1 a0_2) else (acreagelaw08_OrdersSure.j0 k l1 l2 l3 a4 a5 (decide (a5 > 1099511627776)) l0_0 a0_1 a0_2))))=some r:=by rw [if_pos rfl] at H;exact H
  clear H
  have H:=H1
  clear H1
  by_cases c16:(l3.length:Int) > 40
  ·rw [if_pos c16] at H
   have c16b0:decide (40 < (l3.length:Int))=true:=decide_eq_true c16
   have c16b1:decide (40 < l3.length)=true:=decide_eq_true (by omega)
   clear c16
   (first|rw [c16b0]|(simp only [i64_w,i32_w];rw [c16b0])|skip)
   have H':=Aside0.mk H
   clear H
   obtain ⟨hcz17_0,hcz17_1,hcz17_2,hfz17_0,hfz17_1,hfz17_2⟩:=xC3 BK515.out
   go_wp2_with (first|((with_reducible refine gate_callee (f:=10) rfl ?_);refine gL (some 30) Try.func10 #[.agg #[.slice A0_0 l0_0.length c0_0,.int .i64 a0_1,.int .i64 a0_2]] ?_;(with_reducible refine (acreageref08_Valid.calls k _ _ l0_0 a0_1 a0_2 true _ ?side1 ?side2 A12.out).mono ?_);(case side1=>exact cS HR0_0.out);(case side2=>exact HC0_0.out);rintro e w18 ⟨rfl,hb⟩;refine ⟨_,rfl,?_⟩;replace BK515:=qK (bB BK515.out hb);replace HB:=qK (bS hb);obtain ⟨hcz19_0,hcz19_1,hcz19_2,hfz19_0,hfz19_1,hfz19_2⟩:=xC3 BK515.out)|(go_at_call 11;(with_reducible refine (acreageref08_Right.calls k _ _ l0_0 a0_1 a0_2 _ _ l1 true _ ?side1 ?side2 ?side3 ?side4 A14.out).mono ?_);(case side1=>exact cS HR0_0.out);(case side2=>exact HC0_0.out);(case side3=>exact cS HR1.out);(case side4=>exact HC1.out);rintro e w20 ⟨rfl,hb⟩;replace BK515:=qK (bB BK515.out hb);replace HB:=qK (bS hb)))
   go_meet
   case rel=>exact ⟨_,(true),sA,H',⟨by first|omega|exact Nat.le_refl _⟩,⟨by (with_reducible repeat (first|refine blk_drewN ?_ _|refine blk_drew ?_|refine blk_alloc ?_ _));exact BK515.out⟩,⟨bA⟩⟩
  rw [if_neg c16] at H
  have c16b0:decide (40 < (l3.length:Int))=false:=decide_eq_false c16
  have c16b1:decide (40 < l3.length)=false:=decide_eq_false (by omega)
  clear c16
  (first|rw [c16b0]|(simp only [i64_w,i32_w];rw [c16b0])|skip)
  by_cases c21:a4≥a5
  ·rw [if_pos c21] at H
   have c21b0:decide (a5≤a4)=true:=decide_eq_true c21
   clear c21
   have H':=Aside0.mk H
   clear H
   obtain ⟨hcz22_0,hcz22_1,hcz22_2,hfz22_0,hfz22_1,hfz22_2⟩:=xC3 BK515.out
   go_wp2_with (first|((with_reducible refine gate_callee (f:=10) rfl ?_);refine gL (some 30) Try.func10 #[.agg #[.slice A0_0 l0_0.length c0_0,.int .i64 a0_1,.int .i64 a0_2]] ?_;(with_reducible refine (acreageref08_Valid.calls k _ _ l0_0 a0_1 a0_2 true _ ?side1 ?side2 A12.out).mono ?_);(case side1=>exact cS HR0_0.out);(case side2=>exact HC0_0.out);rintro e w23 ⟨rfl,hb⟩;refine ⟨_,rfl,?_⟩;replace BK515:=qK (bB BK515.out hb);replace HB:=qK (bS hb);obtain ⟨hcz24_0,hcz24_1,hcz24_2,hfz24_0,hfz24_1,hfz24_2⟩:=xC3 BK515.out)|(go_at_call 11;(with_reducible refine (acreageref08_Right.calls k _ _ l0_0 a0_1 a0_2 _ _ l1 true _ ?side1 ?side2 ?side3 ?side4 A14.out).mono ?_);(case side1=>exact cS HR0_0.out);(case side2=>exact HC0_0.out);(case side3=>exact cS HR1.out);(case side4=>exact HC1.out);rintro e w25 ⟨rfl,hb⟩;replace BK515:=qK (bB BK515.out hb);replace HB:=qK (bS hb)))
   go_meet
   case rel=>exact ⟨_,(true),sA,H',⟨by first|omega|exact Nat.le_refl _⟩,⟨by (with_reducible repeat (first|refine blk_drewN ?_ _|refine blk_drew ?_|refine blk_alloc ?_ _));exact BK515.out⟩,⟨bA⟩⟩
  rw [if_neg c21] at H
  have c21b0:decide (a5≤a4)=false:=decide_eq_false c21
  clear c21
  by_cases c26:a4 < (-1099511627776)
  ·rw [if_pos c26] at H
   have c26b0:decide (a4 < (-1099511627776))=true:=decide_eq_true c26
   clear c26
   have H':=Aside0.mk H
   clear H
   obtain ⟨hcz27_0,hcz27_1,hcz27_2,hfz27_0,hfz27_1,hfz27_2⟩:=xC3 BK515.out
   go_wp2_with (first|((with_reducible refine gate_callee (f:=10) rfl ?_);refine gL (some 30) Try.func10 #[.agg #[.slice A0_0 l0_0.length c0_0,.int .i64 a0_1,.int .i64 a0_2]] ?_;(with_reducible refine (acreageref08_Valid.calls k _ _ l0_0 a0_1 a0_2 true _ ?side1 ?side2 A12.out).mono ?_);(case side1=>exact cS HR0_0.out);(case side2=>exact HC0_0.out);rintro e w28 ⟨rfl,hb⟩;refine ⟨_,rfl,?_⟩;replace BK515:=qK (bB BK515.out hb);replace HB:=qK (bS hb);obtain ⟨hcz29_0,hcz29_1,hcz29_2,hfz29_0,hfz29_1,hfz29_2⟩:=xC3 BK515.out)|(go_at_call 11;(with_reducible refine (acreageref08_Right.calls k _ _ l0_0 a0_1 a0_2 _ _ l1 true _ ?side1 ?side2 ?side3 ?side4 A14.out).mono ?_);(case side1=>exact cS HR0_0.out);(case side2=>exact HC0_0.out);(case side3=>exact cS HR1.out);(case side4=>exact HC1.out);rintro e w30 ⟨rfl,hb⟩;replace BK515:=qK (bB BK515.out hb);replace HB:=qK (bS hb)))
   go_meet
   case rel=>exact ⟨_,(true),sA,H',⟨by first|omega|exact Nat.le_refl _⟩,⟨by (with_reducible repeat (first|refine blk_drewN ?_ _|refine blk_drew ?_|refine blk_alloc ?_ _));exact BK515.out⟩,⟨bA⟩⟩
  rw [if_neg c26] at H
  have c26b0:decide (a4 < (-1099511627776))=false:=decide_eq_false c26
  clear c26
  have H':=Aside0.mk H
  clear H
  obtain ⟨hcz31_0,hcz31_1,hcz31_2,hfz31_0,hfz31_1,hfz31_2⟩:=xC3 BK515.out
  go_wp2_with (first|((with_reducible refine gate_callee (f:=10) rfl ?_);refine gL (some 30) Try.func10 #[.agg #[.slice A0_0 l0_0.length c0_0,.int .i64 a0_1,.int .i64 a0_2]] ?_;(with_reducible refine (acreageref08_Valid.calls k _ _ l0_0 a0_1 a0_2 true _ ?side1 ?side2 A12.out).mono ?_);(case side1=>exact cS HR0_0.out);(case side2=>exact HC0_0.out);rintro e w32 ⟨rfl,hb⟩;refine ⟨_,rfl,?_⟩;replace BK515:=qK (bB BK515.out hb);replace HB:=qK (bS hb);obtain ⟨hcz33_0,hcz33_1,hcz33_2,hfz33_0,hfz33_1,hfz33_2⟩:=xC3 BK515.out)|(go_at_call 11;(with_reducible refine (acreageref08_Right.calls k _ _ l0_0 a0_1 a0_2 _ _ l1 true _ ?side1 ?side2 ?side3 ?side4 A14.out).mono ?_);(case side1=>exact cS HR0_0.out);(case side2=>exact HC0_0.out);(case side3=>exact cS HR1.out);(case side4=>exact HC1.out);rintro e w34 ⟨rfl,hb⟩;replace BK515:=qK (bB BK515.out hb);replace HB:=qK (bS hb)))
  go_meet
  case rel=>exact ⟨_,(decide (a5 > 1099511627776)),sA,H',⟨by first|omega|exact Nat.le_refl _⟩,⟨by (with_reducible repeat (first|refine blk_drewN ?_ _|refine blk_drew ?_|refine blk_alloc ?_ _));exact BK515.out⟩,⟨bA⟩⟩
 case rest =>
  clear HC9
  try clear c1
  try clear c2
  try clear p2
  try clear c3
  try clear c8
  try clear c9
  try clear c10
  try clear c13
  try clear c15
  try clear c16
  try clear c16b0
  try clear c16b1
  try clear c21
  try clear c21b0
  try clear c26
  try clear c26b0
  try clear hcz17_0
  try clear hcz17_1
  try clear hcz17_2
  try clear hcz19_0
  try clear hcz19_1
  try clear hcz19_2
  try clear hcz22_0
  try clear hcz22_1
  try clear hcz22_2
  try clear hcz24_0
  try clear hcz24_1
  try clear hcz24_2
  try clear hcz27_0
  try clear hcz27_1
  try clear hcz27_2
  try clear hcz29_0
  try clear hcz29_1
  try clear hcz29_2
  try clear hcz31_0
  try clear hcz31_1
  try clear hcz31_2
  try clear hcz33_0
  try clear hcz33_1
  try clear hcz33_2
  try clear hcz35_0
  try clear hcz35_1
  try clear hcz35_2
  try clear hcz37_0
  try clear hcz37_1
  try clear hcz37_2
  try clear hcz39_0
  try clear hcz39_1
  try clear hcz39_2
  try clear hfz17_0
  try clear hfz17_1
  try clear hfz17_2
  try clear hfz19_0
  try clear hfz19_1
  try clear hfz19_2
  try clear hfz22_0
  try clear hfz22_1
  try clear hfz22_2
  try clear hfz24_0
  try clear hfz24_1
  try clear hfz24_2
  try clear hfz27_0
  try clear hfz27_1
  try clear hfz27_2
  try clear hfz29_0
  try clear hfz29_1
  try clear hfz29_2
  try clear hfz31_0
  try clear hfz31_1
  try clear hfz31_2
  try clear hfz33_0
  try clear hfz33_1
  try clear hfz33_2
  try clear hfz35_0
  try clear hfz35_1
  try clear hfz35_2
  try clear hfz37_0
  try clear hfz37_1
  try clear hfz37_2
  try clear hfz39_0
  try clear hfz39_1
  try clear hfz39_2
  obtain ⟨kq,x55_8,rfl,HA,HJ8,BK515,HB⟩:=hcut
  cases kq with
  | zero=>exact absurd HA.out (by simp [acreagelaw08_OrdersSure.j0])
  | succ kj8 =>
   have H:=HA.out
   clear HA
   simp only [acreagelaw08_OrdersSure.j0] at H
   by_cases c41:x55_8=true
   ·subst c41
    have H1:(some true)=some r:=by rw [if_pos rfl] at H;exact H
    clear H
    have H:=H1
    clear H1
    obtain rfl:=Option.some.inj H
    go_wp2
    go_ret
    exact ⟨by first|rfl|(simp [errW_none,errW_some] <;> rfl)|(simp [*,errW_none,errW_some] <;> rfl),bA⟩
   replace c41:=Bool.eq_false_iff.mpr c41
   subst c41
   have H1:((orders_Decides.f kj8 l0_0 a0_1 a0_2 l1 a4 a5).bind fun bt519=>((orders_Open.f kj8 l0_0 a0_1 a0_2 l1 a4 a5).bind fun bt521=>(if bt519.2=0 then (if bt521.2.2=0 then (if (bt519.1 == bt521.2.1)=true then (acreagelaw08_OrdersSure.j1 kj8 l1 l2 l3 a4 a5 bt521.1 bt521.2.1 true l0_0 a0_1 a0_2) else (if (bt521.1.length:Int)=0 then (acreagelaw08_OrdersSure.j1 kj8 l1 l2 l3 a4 a5 bt521.1 bt521.2.1 false l0_0 a0_1 a0_2) else (acreagelaw08_OrdersSure.j1 kj8 l1 l2 l3 a4 a5 bt521.1 bt521.2.1 (!bt521.2.1) l0_0 a0_1 a0_2))) else (acreagelaw08_OrdersSure.j1 kj8 l1 l2 l3 a4 a5 bt521.1 bt521.2.1 true l0_0 a0_1 a0_2)) else (acreagelaw08_OrdersSure.j1 kj8 l1 l2 l3 a4 a5 bt521.1 bt521.2.1 true l0_0 a0_1 a0_2))))=some r:=by rw [if_neg (show ¬ (false=true) by decide)] at H;exact H
   clear H
   have H:=H1
   clear H1
   replace H:=Option.bind_eq_some_iff.mp H
   obtain ⟨⟨t519,t520⟩,A420,H⟩:=H
   replace H:((orders_Open.f kj8 l0_0 a0_1 a0_2 l1 a4 a5).bind fun bt521=>(if t520=0 then (if bt521.2.2=0 then (if (t519 == bt521.2.1)=true then (acreagelaw08_OrdersSure.j1 kj8 l1 l2 l3 a4 a5 bt521.1 bt521.2.1 true l0_0 a0_1 a0_2) else (if (bt521.1.length:Int)=0 then (acreagelaw08_OrdersSure.j1 kj8 l1 l2 l3 a4 a5 bt521.1 bt521.2.1 false l0_0 a0_1 a0_2) else (acreagelaw08_OrdersSure.j1 kj8 l1 l2 l3 a4 a5 bt521.1 bt521.2.1 (!bt521.2.1) l0_0 a0_1 a0_2))) else (acreagelaw08_OrdersSure.j1 kj8 l1 l2 l3 a4 a5 bt521.1 bt521.2.1 true l0_0 a0_1 a0_2)) else (acreagelaw08_OrdersSure.j1 kj8 l1 l2 l3 a4 a5 bt521.1 bt521.2.1 true l0_0 a0_1 a0_2)))=some r:=H
   have A42:=Aside0.mk A420
   clear A420
   replace H:=Option.bind_eq_some_iff.mp H
   obtain ⟨⟨t521,t524,t525⟩,A430,H⟩:=H
   replace H:(if t520=0 then (if t525=0 then (if (t519 == t524)=true then (acreagelaw08_OrdersSure.j1 kj8 l1 l2 l3 a4 a5 t521 t524 true l0_0 a0_1 a0_2) else (if (t521.length:Int)=0 then (acreagelaw08_OrdersSure.j1 kj8 l1 l2 l3 a4 a5 t521 t524 false l0_0 a0_1 a0_2) else (acreagelaw08_OrdersSure.j1 kj8 l1 l2 l3 a4 a5 t521 t524 (!t524) l0_0 a0_1 a0_2))) else (acreagelaw08_OrdersSure.j1 kj8 l1 l2 l3 a4 a5 t521 t524 true l0_0 a0_1 a0_2)) else (acreagelaw08_OrdersSure.j1 kj8 l1 l2 l3 a4 a5 t521 t524 true l0_0 a0_1 a0_2))=some r:=H
   have A43:=Aside0.mk A430
   clear A430
   have HC44:=Aside0.mk H
   clear H
   obtain ⟨hcz45_0,hcz45_1,hcz45_2,hfz45_0,hfz45_1,hfz45_2⟩:=xC3 BK515.out
   go_upto_region 7 with (first|((with_reducible refine gate_callee (f:=12) rfl ?_);refine gL (some 61) Try.func12 #[.agg #[.slice A0_0 l0_0.length c0_0,.int .i64 a0_1,.int .i64 a0_2],.slice A1 l1.length c1,.int .i64 a4,.int .i64 a5] ?_;(with_reducible refine (orders_Decides.calls kj8 _ _ l0_0 a0_1 a0_2 _ _ l1 a4 a5 t519 t520 _ ?side1 ?side2 ?side3 ?side4 A42.out).mono ?_);(case side1=>exact cS HR0_0.out);(case side2=>exact HC0_0.out);(case side3=>exact cS HR1.out);(case side4=>exact HC1.out);rintro e w46 ⟨rfl,hb⟩;refine ⟨_,rfl,?_⟩;replace BK515:=qK (bB BK515.out hb);replace HB:=qK (bS hb);obtain ⟨hcz47_0,hcz47_1,hcz47_2,hfz47_0,hfz47_1,hfz47_2⟩:=xC3 BK515.out)|((with_reducible refine gate_callee (f:=13) rfl ?_);refine gL (some 69) Try.func13 #[.agg #[.slice A0_0 l0_0.length c0_0,.int .i64 a0_1,.int .i64 a0_2],.slice A1 l1.length c1,.int .i64 a4,.int .i64 a5] ?_;(with_reducible refine (orders_Open.calls kj8 _ _ l0_0 a0_1 a0_2 _ _ l1 a4 a5 t521 t524 t525 _ ?side1 ?side2 ?side3 ?side4 A43.out).mono ?_);(case side1=>exact cS HR0_0.out);(case side2=>exact HC0_0.out);(case side3=>exact cS HR1.out);(case side4=>exact HC1.out);rintro e w48 ⟨v522,rfl,ho0,hb⟩;refine ⟨_,rfl,?_⟩;have HO523:=qK (Kd.R_lower ho0 bZ);replace BK515:=qK (bB BK515.out hb);replace HB:=qK (bS hb)))
   (try simp only [Act.put,List.setIfInBounds_toArray,List.set_cons_zero,List.set_cons_succ])
   go_cut [92] (fun v92 wc=>∃ (kq:Nat) (x92_43:Bool),v92= .bool x92_43∧Aside0 (acreagelaw08_OrdersSure.j1 kq l1 l2 l3 a4 a5 t521 t524 x92_43 l0_0 a0_1 a0_2=some r)∧Aside0 (kq≤kj8)∧Aside0 (Kd.R (Kd.int .i64) 3 wc w.heap.size (fun _=>True) v522 t521)∧Aside0 (wc.heap[gb515]? = some (.cells #[(.slice A0_0 l0_0.length c0_0),.int .i64 a0_1,.int .i64 a0_2] 26 (0,0)))∧Aside0 (Below w.heap.size w wc))
   case first =>
    have H:=HC44.out
    clear HC44
    by_cases c49:t520=0
    rotate_left
    ·rw [if_neg c49] at H
     have c49b0:(t520 == 0)=false:=beq_eq_false_iff_ne.mpr c49
     have c49b1:(t520 != 0)=true:=bne_iff_ne.mpr c49
     (first|rw [c49b0]|(simp only [i64_w,i32_w];rw [c49b0])|skip)
     have H':=Aside0.mk H
     clear H
     go_wp2
     go_meet
     case rel=>exact ⟨_,(true),sA,H',⟨by have:=HJ8.out;first|omega|exact Nat.le_refl _⟩,⟨by (with_reducible repeat (first|apply Kd.R_alloc|apply Kd.R_drewN|apply Kd.R_drew));exact HO523.out⟩,⟨by (with_reducible repeat (first|refine blk_drewN ?_ _|refine blk_drew ?_|refine blk_alloc ?_ _));exact BK515.out⟩,⟨bA⟩⟩
    rw [if_pos c49] at H
    have c49b0:(t520 == 0)=true:=beq_iff_eq.mpr c49
    have c49b1:(t520 != 0)=false:=bne_eq_false_iff_eq.mpr c49
    clear c49
    (first|rw [c49b0]|(simp only [i64_w,i32_w];rw [c49b0])|skip)
    by_cases c50:t525=0
    rotate_left
    ·rw [if_neg c50] at H
     have c50b0:(t525 == 0)=false:=beq_eq_false_iff_ne.mpr c50
     have c50b1:(t525 != 0)=true:=bne_iff_ne.mpr c50
     have H':=Aside0.mk H
     clear H
     go_wp2
     go_meet
     case rel=>exact ⟨_,(true),sA,H',⟨by have:=HJ8.out;first|omega|exact Nat.le_refl _⟩,⟨by (with_reducible repeat (first|apply Kd.R_alloc|apply Kd.R_drewN|apply Kd.R_drew));exact HO523.out⟩,⟨by (with_reducible repeat (first|refine blk_drewN ?_ _|refine blk_drew ?_|refine blk_alloc ?_ _));exact BK515.out⟩,⟨bA⟩⟩
    rw [if_pos c50] at H
    have c50b0:(t525 == 0)=true:=beq_iff_eq.mpr c50
    have c50b1:(t525 != 0)=false:=bne_eq_false_iff_eq.mpr c50
    clear c50
    by_cases c51:(t519 == t524)=true
    ·rw [if_pos c51] at H
     have c51b0:(t519 == t524)=true:=c51
     (try (have c51b1:decide (t519=t524)=true:=by simpa using c51))
     (try (have c51b2:(t519 == t524)=true:=by simpa using c51))
     clear c51
     have H':=Aside0.mk H
     clear H
     go_wp2
     go_meet
     case rel=>exact ⟨_,(true),sA,H',⟨by have:=HJ8.out;first|omega|exact Nat.le_refl _⟩,⟨by (with_reducible repeat (first|apply Kd.R_alloc|apply Kd.R_drewN|apply Kd.R_drew));exact HO523.out⟩,⟨by (with_reducible repeat (first|refine blk_drewN ?_ _|refine blk_drew ?_|refine blk_alloc ?_ _));exact BK515.out⟩,⟨bA⟩⟩
    rw [if_neg c51] at H
    have c51b0:(t519 == t524)=false:=by simpa using c51
    (try (have c51b1:decide (t519=t524)=false:=by simpa using c51))
    (try (have c51b2:(t519 == t524)=false:=by simpa using c51))
    (try (have c51b3 : ¬ (t519=t524):=by simpa using c51))
    clear c51
    by_cases c52:(t521.length:Int)=0
    ·rw [if_pos c52] at H
     have c52b0:((t521.length:Int) == 0)=true:=beq_iff_eq.mpr c52
     have c52b1:((t521.length:Int) != 0)=false:=bne_eq_false_iff_eq.mpr c52
     clear c52
     have H':=Aside0.mk H
     clear H
     obtain ⟨Ao53,co53,eo53⟩:=Kd.R_slice HO523.out
     subst eo53
     go_wp2
     go_meet
     case rel=>exact ⟨_,(false),sA,H',⟨by have:=HJ8.out;first|omega|exact Nat.le_refl _⟩,⟨by (with_reducible repeat (first|apply Kd.R_alloc|apply Kd.R_drewN|apply Kd.R_drew));exact HO523.out⟩,⟨by (with_reducible repeat (first|refine blk_drewN ?_ _|refine blk_drew ?_|refine blk_alloc ?_ _));exact BK515.out⟩,⟨bA⟩⟩
    rw [if_neg c52] at H
    have c52b0:((t521.length:Int) == 0)=false:=beq_eq_false_iff_ne.mpr c52
    have c52b1:((t521.length:Int) != 0)=true:=bne_iff_ne.mpr c52
    have c52b2 : ¬ (t521=[]):=fun h_=>c52 (by rw [h_];rfl)
    have H':=Aside0.mk H
    clear H
    obtain ⟨Ao54,co54,eo54⟩:=Kd.R_slice HO523.out
    subst eo54
    go_wp2
    go_meet
    case rel=>exact ⟨_,(!t524),sA,H',⟨by have:=HJ8.out;first|omega|exact Nat.le_refl _⟩,⟨by (with_reducible repeat (first|apply Kd.R_alloc|apply Kd.R_drewN|apply Kd.R_drew));exact HO523.out⟩,⟨by (with_reducible repeat (first|refine blk_drewN ?_ _|refine blk_drew ?_|refine blk_alloc ?_ _));exact BK515.out⟩,⟨bA⟩⟩
   case rest =>
    clear HC44
    try clear c1
    try clear c2
    try clear p2
    try clear c3
    try clear c4
    try clear c5
    try clear c8
    try clear c9
    try clear c10
    try clear c12
    try clear c13
    try clear c15
    try clear c16
    try clear c16b0
    try clear c16b1
    try clear c21
    try clear c21b0
    try clear c26
    try clear c26b0
    try clear c41
    try clear c49
    try clear c49b0
    try clear c49b1
    try clear c50
    try clear c50b0
    try clear c50b1
    try clear c51
    try clear c51b0
    try clear c51b1
    try clear c51b2
    try clear c52
    try clear c52b0
    try clear c52b1
    try clear c52b2
    try clear hcz17_0
    try clear hcz17_1
    try clear hcz17_2
    try clear hcz19_0
    try clear hcz19_1
    try clear hcz19_2
    try clear hcz22_0
    try clear hcz22_1
    try clear hcz22_2
    try clear hcz24_0
    try clear hcz24_1
    try clear hcz24_2
    try clear hcz27_0
    try clear hcz27_1
    try clear hcz27_2
    try clear hcz29_0
    try clear hcz29_1
    try clear hcz29_2
    try clear hcz31_0
    try clear hcz31_1
    try clear hcz31_2
    try clear hcz33_0
    try clear hcz33_1
    try clear hcz33_2
    try clear hcz35_0
    try clear hcz35_1
    try clear hcz35_2
    try clear hcz37_0
    try clear hcz37_1
    try clear hcz37_2
    try clear hcz39_0
    try clear hcz39_1
    try clear hcz39_2
    try clear hcz45_0
    try clear hcz45_1
    try clear hcz45_2
    try clear hcz47_0
    try clear hcz47_1
    try clear hcz47_2
    try clear hfz17_0
    try clear hfz17_1
    try clear hfz17_2
    try clear hfz19_0
    try clear hfz19_1
    try clear hfz19_2
    try clear hfz22_0
    try clear hfz22_1
    try clear hfz22_2
    try clear hfz24_0
    try clear hfz24_1
    try clear hfz24_2
    try clear hfz27_0
    try clear hfz27_1
    try clear hfz27_2
    try clear hfz29_0
    try clear hfz29_1
    try clear hfz29_2
    try clear hfz31_0
    try clear hfz31_1
    try clear hfz31_2
    try clear hfz33_0
    try clear hfz33_1
    try clear hfz33_2
    try clear hfz35_0
    try clear hfz35_1
    try clear hfz35_2
    try clear hfz37_0
    try clear hfz37_1
    try clear hfz37_2
    try clear hfz39_0
    try clear hfz39_1
    try clear hfz39_2
    try clear hfz45_0
    try clear hfz45_1
    try clear hfz45_2
    try clear hfz47_0
    try clear hfz47_1
    try clear hfz47_2
    try clear p2
    obtain ⟨kq,x92_43,rfl,HA,HJ43,HO_15,BK515,HB⟩:=hcut
    cases kq with
    | zero=>exact absurd HA.out (by simp [acreagelaw08_OrdersSure.j1])
    | succ kj43 =>
     have H:=HA.out
     clear HA
     simp only [acreagelaw08_OrdersSure.j1] at H
     by_cases c55:x92_43=true
     ·subst c55
      have H1:(some false)=some r:=by rw [if_pos rfl] at H;exact H
      clear H
      have H:=H1
      clear H1
      obtain rfl:=Option.some.inj H
      go_wp2
      go_ret
      exact ⟨by first|rfl|(simp [errW_none,errW_some] <;> rfl)|(simp [*,errW_none,errW_some] <;> rfl),bA⟩
     replace c55:=Bool.eq_false_iff.mpr c55
     subst c55
     have H1:(if t524=true then ((orders_Measured.f kj43 l0_0 a0_1 a0_2 l1 t521).bind fun bt526=>((orders_Sum.f kj43 bt526.1 bt526.2.1 bt526.2.2.1).bind fun bt533=>(if bt526.2.2.2=0 then (if bt533.2.2=0 then (if bt533.1 < a5 then (some (decide (bt533.2.1 > a4))) else (some false)) else (some false)) else (some false)))) else ((acreageref08_CheckAreas.f kj43 l0_0 a0_1 a0_2 l2).bind fun t537=>(if t537=0 then ((acreagelaw08_shows.f kj43 l0_0 a0_1 a0_2 l1 l2 l3).bind fun t538=>((orders_Measured.f kj43 l0_0 a0_1 a0_2 l1 t538).bind fun bt541=>((orders_Sum.f kj43 bt541.1 bt541.2.1 bt541.2.2.1).bind fun bt548=>(acreagelaw08_OrdersSure.l0 kj43 a4 a5 bt541.2.2.2 bt548.2.2 0 l2 (l2.length:Int) 0 bt548.1 bt548.2.1)))) else (some true))))=some r:=by rw [if_neg (show ¬ (false=true) by decide)] at H;exact H
     clear H
     have H:=H1
     clear H1
     by_cases c56:t524=true
     ·subst c56
      have H1:((orders_Measured.f kj43 l0_0 a0_1 a0_2 l1 t521).bind fun bt526=>((orders_Sum.f kj43 bt526.1 bt526.2.1 bt526.2.2.1).bind fun bt533=>(if bt526.2.2.2=0 then (if bt533.2.2=0 then (if bt533.1 < a5 then (some (decide (bt533.2.1 > a4))) else (some false)) else (some false)) else (some false))))=some r:=by rw [if_pos rfl] at H;exact H
      clear H
      have H:=H1
      clear H1
      replace H:=Option.bind_eq_some_iff.mp H
      obtain ⟨⟨t526,t529,t530,t531⟩,A570,H⟩:=H
      replace H:((orders_Sum.f kj43 t526 t529 t530).bind fun bt533=>(if t531=0 then (if bt533.2.2=0 then (if bt533.1 < a5 then (some (decide (bt533.2.1 > a4))) else (some false)) else (some false)) else (some false)))=some r:=H
      have A57:=Aside0.mk A570
      clear A570
      replace H:=Option.bind_eq_some_iff.mp H
      obtain ⟨⟨t533,t534,t535⟩,A580,H⟩:=H
      replace H:(if t531=0 then (if t535=0 then (if t533 < a5 then (some (decide (t534 > a4))) else (some false)) else (some false)) else (some false))=some r:=H
      have A58:=Aside0.mk A580
      clear A580
      by_cases c59:t531=0
      rotate_left
      ·rw [if_neg c59] at H
       have c59b0:(t531 == 0)=false:=beq_eq_false_iff_ne.mpr c59
       have c59b1:(t531 != 0)=true:=bne_iff_ne.mpr c59
       obtain rfl:=Option.some.inj H
       obtain ⟨hcz98_0,hcz98_1,hcz98_2,hfz98_0,hfz98_1,hfz98_2⟩:=xC3 BK515.out
       obtain ⟨Ao99,co99,eo99⟩:=Kd.R_slice HO_15.out
       subst eo99
       go_wp2_with (first|((with_reducible refine gate_callee (f:=14) rfl ?_);refine gL (some 98) Try.func14 #[.agg #[.slice A0_0 l0_0.length c0_0,.int .i64 a0_1,.int .i64 a0_2],.slice A1 l1.length c1,.slice Ao99 t521.length co99] ?_;(with_reducible refine (orders_Measured.calls kj43 _ _ l0_0 a0_1 a0_2 _ _ l1 _ _ t521 t526 t529 t530 t531 _ ?side1 ?side2 ?side3 ?side4 ?side5 ?side6 A57.out).mono ?_);(case side1=>exact cS HR0_0.out);(case side2=>exact HC0_0.out);(case side3=>exact cS HR1.out);(case side4=>exact HC1.out);(case side5=>exact cR (Kd.R_reads' HO_15.out).2.2);(case side6=>exact (Kd.R_reads' HO_15.out).2.1);rintro e w100 ⟨v527,rfl,ho0,hb⟩;refine ⟨_,rfl,?_⟩;replace HO_15:=qK (Kd.R_below (rS HO_15.out) hb);have HO528:=qK (Kd.R_lower ho0 bZ);replace BK515:=qK (bB BK515.out hb);replace HB:=qK (bS hb))|((with_reducible refine gate_dst (N:=18) rfl ?_);(try (refine gate_guard (by rfl) ?_;dsimp only));refine bE #[.slice none 0 0,.int .i64 0,.int .i64 0] 26 ?_;intro gb532 hg w101 hbox hb;replace HO_15:=qK (Kd.R_below (rS HO_15.out) hb);replace HO528:=qK (Kd.R_below (rS HO528.out) hb);have BK532:=qK (hbox);have GW532:=qK ((gS hg:w.heap.size≤gb532));have GE532:=qK ((gS hg:w.heap.size≤gb532));replace HB:=qK (bS hb);have NB515_532:=qK ((nL hg BK515.out:gb515≠gb532));have NB532_515:=qK ((nG hg BK515.out:gb532≠gb515));replace BK515:=qK (bB BK515.out hb);clear hb hbox hg;obtain ⟨Ao102,co102,eo102⟩:=Kd.R_slice HO528.out;subst eo102;have hnb103:=NB532_515.out;have hnc103:=NB515_532.out;obtain ⟨hcz104_0,hcz104_1,hcz104_2,hfz104_0,hfz104_1,hfz104_2⟩:=xC3 BK532.out)|((with_reducible refine gate_callee (f:=15) rfl ?_);refine gL (some 103) Try.func15 #[.agg #[.slice Ao102 t526.length co102,.int .i64 t529,.int .i64 t530]] ?_;(with_reducible refine (orders_Sum.calls kj43 _ _ t526 t529 t530 t533 t534 t535 _ ?side1 ?side2 A58.out).mono ?_);(case side1=>refine (Kd.R_reads' (e:=50) (base:=w.heap.size) (ok:=fun k_=>True) (n:=t526.length) (c:=co102) ?_).2.2;exact (rS ((Kd.R_mono (Kd.R_far (p:=⟨gb532,2,none⟩) (Kd.R_far (p:=⟨gb532,1,none⟩) (Kd.R_far (p:=⟨gb532,0,none⟩) (Kd.R_types HO528.out BK532.out (by decide)) (fun _ hk=>hk.2) (.slice Ao102 t526.length co102)) (fun _ hk=>hk.2) (.int .i64 t529)) (fun _ hk=>hk.2) (.int .i64 t530)) (fun _ h_=>h_.1)))));(case side2=>exact (Kd.R_reads' HO528.out).2.1);rintro e w105 ⟨rfl,hb⟩;refine ⟨_,rfl,?_⟩;replace HO_15:=qK (Kd.R_below (rS ((Kd.R_mono (Kd.R_far (p:=⟨gb532,2,none⟩) (Kd.R_far (p:=⟨gb532,1,none⟩) (Kd.R_far (p:=⟨gb532,0,none⟩) (Kd.R_types HO_15.out BK532.out (by decide)) (fun _ hk=>hk.2) (.slice Ao102 t526.length co102)) (fun _ hk=>hk.2) (.int .i64 t529)) (fun _ hk=>hk.2) (.int .i64 t530)) (fun _ h_=>h_.1)))) hb);replace HO528:=qK (Kd.R_below (rS ((Kd.R_mono (Kd.R_far (p:=⟨gb532,2,none⟩) (Kd.R_far (p:=⟨gb532,1,none⟩) (Kd.R_far (p:=⟨gb532,0,none⟩) (Kd.R_types HO528.out BK532.out (by decide)) (fun _ hk=>hk.2) (.slice Ao102 t526.length co102)) (fun _ hk=>hk.2) (.int .i64 t529)) (fun _ hk=>hk.2) (.int .i64 t530)) (fun _ h_=>h_.1)))) hb);replace BK515:=qK (blk_below (g:=gb515) (o:=.cells #[.slice A0_0 l0_0.length c0_0,.int .i64 a0_1,.int .i64 a0_2] 26 (0,0)) (by (with_reducible repeat (first|refine blk_drewN ?_ _|refine blk_drew ?_|refine blk_alloc ?_ _));refine blk_far ?_ NB515_532.out _;(with_reducible repeat (first|refine blk_drewN ?_ _|refine blk_drew ?_|refine blk_alloc ?_ _));refine blk_far ?_ NB515_532.out _;(with_reducible repeat (first|refine blk_drewN ?_ _|refine blk_drew ?_|refine blk_alloc ?_ _));refine blk_far ?_ NB515_532.out _;(with_reducible repeat (first|refine blk_drewN ?_ _|refine blk_drew ?_|refine blk_alloc ?_ _));exact BK515.out) hb);replace BK532:=qK (blk_below (g:=gb532) (o:=.cells #[.slice Ao102 t526.length co102,.int .i64 t529,.int .i64 t530] 26 (0,0)) (by (with_reducible repeat (first|refine blk_drewN ?_ _|refine blk_drew ?_|refine blk_alloc ?_ _));refine blk_put (cs:=#[.slice Ao102 t526.length co102,.int .i64 t529,.int .i64 0]) ?_ 2 _ rfl;(with_reducible repeat (first|refine blk_drewN ?_ _|refine blk_drew ?_|refine blk_alloc ?_ _));refine blk_put (cs:=#[.slice Ao102 t526.length co102,.int .i64 0,.int .i64 0]) ?_ 1 _ rfl;(with_reducible repeat (first|refine blk_drewN ?_ _|refine blk_drew ?_|refine blk_alloc ?_ _));refine blk_put (cs:=#[.slice none 0 0,.int .i64 0,.int .i64 0]) ?_ 0 _ rfl;(with_reducible repeat (first|refine blk_drewN ?_ _|refine blk_drew ?_|refine blk_alloc ?_ _));exact BK532.out) hb);replace HB:=qK (bS hb))|((with_reducible refine gate_dst (N:=20) rfl ?_);(try (refine gate_guard (by rfl) ?_;dsimp only));refine bE #[.int .i64 0,.int .i64 0] 24 ?_;intro gb536 hg w106 hbox hb;replace HO_15:=qK (Kd.R_below (rS HO_15.out) hb);replace HO528:=qK (Kd.R_below (rS HO528.out) hb);have BK536:=qK (hbox);have GW536:=qK ((gS hg:w.heap.size≤gb536));have GE536:=qK ((gS hg:w.heap.size≤gb536));replace HB:=qK (bS hb);have NB515_536:=qK ((nL hg BK515.out:gb515≠gb536));have NB536_515:=qK ((nG hg BK515.out:gb536≠gb515));replace BK515:=qK (bB BK515.out hb);have NB532_536:=qK ((nL hg BK532.out:gb532≠gb536));have NB536_532:=qK ((nG hg BK532.out:gb536≠gb532));replace BK532:=qK (bB BK532.out hb);clear hb hbox hg;have hnb107:=NB536_515.out;have hnc107:=NB515_536.out;have hnb108:=NB536_532.out;have hnc108:=NB532_536.out;obtain ⟨hcz109_0,hcz109_1,hfz109_0,hfz109_1⟩:=xC2 BK536.out))
       go_ret
       exact ⟨by first|rfl|(simp [errW_none,errW_some] <;> rfl)|(simp [*,errW_none,errW_some] <;> rfl),bA⟩
      rw [if_pos c59] at H
      have c59b0:(t531 == 0)=true:=beq_iff_eq.mpr c59
      have c59b1:(t531 != 0)=false:=bne_eq_false_iff_eq.mpr c59
      clear c59
      by_cases c60:t535=0
      rotate_left
      ·rw [if_neg c60] at H
       have c60b0:(t535 == 0)=false:=beq_eq_false_iff_ne.mpr c60
       have c60b1:(t535 != 0)=true:=bne_iff_ne.mpr c60
       obtain rfl:=Option.some.inj H
       obtain ⟨hcz86_0,hcz86_1,hcz86_2,hfz86_0,hfz86_1,hfz86_2⟩:=xC3 BK515.out
       obtain ⟨Ao87,co87,eo87⟩:=Kd.R_slice HO_15.out
       subst eo87
       go_wp2_with (first|((with_reducible refine gate_callee (f:=14) rfl ?_);refine gL (some 98) Try.func14 #[.agg #[.slice A0_0 l0_0.length c0_0,.int .i64 a0_1,.int .i64 a0_2],.slice A1 l1.length c1,.slice Ao87 t521.length co87] ?_;(with_reducible refine (orders_Measured.calls kj43 _ _ l0_0 a0_1 a0_2 _ _ l1 _ _ t521 t526 t529 t530 t531 _ ?side1 ?side2 ?side3 ?side4 ?side5 ?side6 A57.out).mono ?_);(case side1=>exact cS HR0_0.out);(case side2=>exact HC0_0.out);(case side3=>exact cS HR1.out);(case side4=>exact HC1.out);(case side5=>exact cR (Kd.R_reads' HO_15.out).2.2);(case side6=>exact (Kd.R_reads' HO_15.out).2.1);rintro e w88 ⟨v527,rfl,ho0,hb⟩;refine ⟨_,rfl,?_⟩;replace HO_15:=qK (Kd.R_below (rS HO_15.out) hb);have HO528:=qK (Kd.R_lower ho0 bZ);replace BK515:=qK (bB BK515.out hb);replace HB:=qK (bS hb))|((with_reducible refine gate_dst (N:=18) rfl ?_);(try (refine gate_guard (by rfl) ?_;dsimp only));refine bE #[.slice none 0 0,.int .i64 0,.int .i64 0] 26 ?_;intro gb532 hg w89 hbox hb;replace HO_15:=qK (Kd.R_below (rS HO_15.out) hb);replace HO528:=qK (Kd.R_below (rS HO528.out) hb);have BK532:=qK (hbox);have GW532:=qK ((gS hg:w.heap.size≤gb532));have GE532:=qK ((gS hg:w.heap.size≤gb532));replace HB:=qK (bS hb);have NB515_532:=qK ((nL hg BK515.out:gb515≠gb532));have NB532_515:=qK ((nG hg BK515.out:gb532≠gb515));replace BK515:=qK (bB BK515.out hb);clear hb hbox hg;obtain ⟨Ao90,co90,eo90⟩:=Kd.R_slice HO528.out;subst eo90;have hnb91:=NB532_515.out;have hnc91:=NB515_532.out;obtain ⟨hcz92_0,hcz92_1,hcz92_2,hfz92_0,hfz92_1,hfz92_2⟩:=xC3 BK532.out)|((with_reducible refine gate_callee (f:=15) rfl ?_);refine gL (some 103) Try.func15 #[.agg #[.slice Ao90 t526.length co90,.int .i64 t529,.int .i64 t530]] ?_;(with_reducible refine (orders_Sum.calls kj43 _ _ t526 t529 t530 t533 t534 t535 _ ?side1 ?side2 A58.out).mono ?_);(case side1=>refine (Kd.R_reads' (e:=50) (base:=w.heap.size) (ok:=fun k_=>True) (n:=t526.length) (c:=co90) ?_).2.2;exact (rS ((Kd.R_mono (Kd.R_far (p:=⟨gb532,2,none⟩) (Kd.R_far (p:=⟨gb532,1,none⟩) (Kd.R_far (p:=⟨gb532,0,none⟩) (Kd.R_types HO528.out BK532.out (by decide)) (fun _ hk=>hk.2) (.slice Ao90 t526.length co90)) (fun _ hk=>hk.2) (.int .i64 t529)) (fun _ hk=>hk.2) (.int .i64 t530)) (fun _ h_=>h_.1)))));(case side2=>exact (Kd.R_reads' HO528.out).2.1);rintro e w93 ⟨rfl,hb⟩;refine ⟨_,rfl,?_⟩;replace HO_15:=qK (Kd.R_below (rS ((Kd.R_mono (Kd.R_far (p:=⟨gb532,2,none⟩) (Kd.R_far (p:=⟨gb532,1,none⟩) (Kd.R_far (p:=⟨gb532,0,none⟩) (Kd.R_types HO_15.out BK532.out (by decide)) (fun _ hk=>hk.2) (.slice Ao90 t526.length co90)) (fun _ hk=>hk.2) (.int .i64 t529)) (fun _ hk=>hk.2) (.int .i64 t530)) (fun _ h_=>h_.1)))) hb);replace HO528:=qK (Kd.R_below (rS ((Kd.R_mono (Kd.R_far (p:=⟨gb532,2,none⟩) (Kd.R_far (p:=⟨gb532,1,none⟩) (Kd.R_far (p:=⟨gb532,0,none⟩) (Kd.R_types HO528.out BK532.out (by decide)) (fun _ hk=>hk.2) (.slice Ao90 t526.length co90)) (fun _ hk=>hk.2) (.int .i64 t529)) (fun _ hk=>hk.2) (.int .i64 t530)) (fun _ h_=>h_.1)))) hb);replace BK515:=qK (blk_below (g:=gb515) (o:=.cells #[.slice A0_0 l0_0.length c0_0,.int .i64 a0_1,.int .i64 a0_2] 26 (0,0)) (by (with_reducible repeat (first|refine blk_drewN ?_ _|refine blk_drew ?_|refine blk_alloc ?_ _));refine blk_far ?_ NB515_532.out _;(with_reducible repeat (first|refine blk_drewN ?_ _|refine blk_drew ?_|refine blk_alloc ?_ _));refine blk_far ?_ NB515_532.out _;(with_reducible repeat (first|refine blk_drewN ?_ _|refine blk_drew ?_|refine blk_alloc ?_ _));refine blk_far ?_ NB515_532.out _;(with_reducible repeat (first|refine blk_drewN ?_ _|refine blk_drew ?_|refine blk_alloc ?_ _));exact BK515.out) hb);replace BK532:=qK (blk_below (g:=gb532) (o:=.cells #[.slice Ao90 t526.length co90,.int .i64 t529,.int .i64 t530] 26 (0,0)) (by (with_reducible repeat (first|refine blk_drewN ?_ _|refine blk_drew ?_|refine blk_alloc ?_ _));refine blk_put (cs:=#[.slice Ao90 t526.length co90,.int .i64 t529,.int .i64 0]) ?_ 2 _ rfl;(with_reducible repeat (first|refine blk_drewN ?_ _|refine blk_drew ?_|refine blk_alloc ?_ _));refine blk_put (cs:=#[.slice Ao90 t526.length co90,.int .i64 0,.int .i64 0]) ?_ 1 _ rfl;(with_reducible repeat (first|refine blk_drewN ?_ _|refine blk_drew ?_|refine blk_alloc ?_ _));refine blk_put (cs:=#[.slice none 0 0,.int .i64 0,.int .i64 0]) ?_ 0 _ rfl;(with_reducible repeat (first|refine blk_drewN ?_ _|refine blk_drew ?_|refine blk_alloc ?_ _));exact BK532.out) hb);replace HB:=qK (bS hb))|((with_reducible refine gate_dst (N:=20) rfl ?_);(try (refine gate_guard (by rfl) ?_;dsimp only));refine bE #[.int .i64 0,.int .i64 0] 24 ?_;intro gb536 hg w94 hbox hb;replace HO_15:=qK (Kd.R_below (rS HO_15.out) hb);replace HO528:=qK (Kd.R_below (rS HO528.out) hb);have BK536:=qK (hbox);have GW536:=qK ((gS hg:w.heap.size≤gb536));have GE536:=qK ((gS hg:w.heap.size≤gb536));replace HB:=qK (bS hb);have NB515_536:=qK ((nL hg BK515.out:gb515≠gb536));have NB536_515:=qK ((nG hg BK515.out:gb536≠gb515));replace BK515:=qK (bB BK515.out hb);have NB532_536:=qK ((nL hg BK532.out:gb532≠gb536));have NB536_532:=qK ((nG hg BK532.out:gb536≠gb532));replace BK532:=qK (bB BK532.out hb);clear hb hbox hg;have hnb95:=NB536_515.out;have hnc95:=NB515_536.out;have hnb96:=NB536_532.out;have hnc96:=NB532_536.out;obtain ⟨hcz97_0,hcz97_1,hfz97_0,hfz97_1⟩:=xC2 BK536.out))
       go_ret
       exact ⟨by first|rfl|(simp [errW_none,errW_some] <;> rfl)|(simp [*,errW_none,errW_some] <;> rfl),bA⟩
      rw [if_pos c60] at H
      have c60b0:(t535 == 0)=true:=beq_iff_eq.mpr c60
      have c60b1:(t535 != 0)=false:=bne_eq_false_iff_eq.mpr c60
      clear c60
      by_cases c61:t533 < a5
      ·rw [if_pos c61] at H
       have c61b0:decide (t533 < a5)=true:=decide_eq_true c61
       clear c61
       obtain rfl:=Option.some.inj H
       obtain ⟨_,_,_,_,_,_⟩:=xC3 BK515.out
       obtain ⟨Ao63,co63,eo63⟩:=Kd.R_slice HO_15.out
       subst eo63
       go_wp2_with (first|((with_reducible refine gate_callee (f:=14) rfl ?_);refine gL (some 98) Try.func14 #[.agg #[.slice A0_0 l0_0.length c0_0,.int .i64 a0_1,.int .i64 a0_2],.slice A1 l1.length c1,.slice Ao63 t521.length co63] ?_;(with_reducible refine (orders_Measured.calls kj43 _ _ l0_0 a0_1 a0_2 _ _ l1 _ _ t521 t526 t529 t530 t531 _ ?side1 ?side2 ?side3 ?side4 ?side5 ?side6 A57.out).mono ?_);(case side1=>exact cS HR0_0.out);(case side2=>exact HC0_0.out);(case side3=>exact cS HR1.out);(case side4=>exact HC1.out);(case side5=>exact cR (Kd.R_reads' HO_15.out).2.2);(case side6=>exact (Kd.R_reads' HO_15.out).2.1);rintro e w64 ⟨v527,rfl,ho0,hb⟩;refine ⟨_,rfl,?_⟩;replace HO_15:=qK (Kd.R_below (rS HO_15.out) hb);have HO528:=qK (Kd.R_lower ho0 bZ);replace BK515:=qK (bB BK515.out hb);replace HB:=qK (bS hb))|((with_reducible refine gate_dst (N:=18) rfl ?_);(try (refine gate_guard (by rfl) ?_;dsimp only));refine bE #[.slice none 0 0,.int .i64 0,.int .i64 0] 26 ?_;intro gb532 hg w65 hbox hb;replace HO_15:=qK (Kd.R_below (rS HO_15.out) hb);replace HO528:=qK (Kd.R_below (rS HO528.out) hb);have BK532:=qK (hbox);have GW532:=qK ((gS hg:w.heap.size≤gb532));have GE532:=qK ((gS hg:w.heap.size≤gb532));replace HB:=qK (bS hb);have NB515_532:=qK ((nL hg BK515.out:gb515≠gb532));have NB532_515:=qK ((nG hg BK515.out:gb532≠gb515));replace BK515:=qK (bB BK515.out hb);clear hb hbox hg;obtain ⟨Ao66,co66,eo66⟩:=Kd.R_slice HO528.out;subst eo66;have hnb67:=NB532_515.out;have hnc67:=NB515_532.out;obtain ⟨_,_,_,_,_,_⟩:=xC3 BK532.out)|((with_reducible refine gate_callee (f:=15) rfl ?_);refine gL (some 103) Try.func15 #[.agg #[.slice Ao66 t526.length co66,.int .i64 t529,.int .i64 t530]] ?_;(with_reducible refine (orders_Sum.calls kj43 _ _ t526 t529 t530 t533 t534 t535 _ ?side1 ?side2 A58.out).mono ?_);(case side1=>refine (Kd.R_reads' (e:=50) (base:=w.heap.size) (ok:=fun k_=>True) (n:=t526.length) (c:=co66) ?_).2.2;exact (rS ((Kd.R_mono (Kd.R_far (p:=⟨gb532,2,none⟩) (Kd.R_far (p:=⟨gb532,1,none⟩) (Kd.R_far (p:=⟨gb532,0,none⟩) (Kd.R_types HO528.out BK532.out (by decide)) (fun _ hk=>hk.2) (.slice Ao66 t526.length co66)) (fun _ hk=>hk.2) (.int .i64 t529)) (fun _ hk=>hk.2) (.int .i64 t530)) (fun _ h_=>h_.1)))));(case side2=>exact (Kd.R_reads' HO528.out).2.1);rintro e w69 ⟨rfl,hb⟩;refine ⟨_,rfl,?_⟩;replace HO_15:=qK (Kd.R_below (rS ((Kd.R_mono (Kd.R_far (p:=⟨gb532,2,none⟩) (Kd.R_far (p:=⟨gb532,1,none⟩) (Kd.R_far (p:=⟨gb532,0,none⟩) (Kd.R_types HO_15.out BK532.out (by decide)) (fun _ hk=>hk.2) (.slice Ao66 t526.length co66)) (fun _ hk=>hk.2) (.int .i64 t529)) (fun _ hk=>hk.2) (.int .i64 t530)) (fun _ h_=>h_.1)))) hb);replace HO528:=qK (Kd.R_below (rS ((Kd.R_mono (Kd.R_far (p:=⟨gb532,2,none⟩) (Kd.R_far (p:=⟨gb532,1,none⟩) (Kd.R_far (p:=⟨gb532,0,none⟩) (Kd.R_types HO528.out BK532.out (by decide)) (fun _ hk=>hk.2) (.slice Ao66 t526.length co66)) (fun _ hk=>hk.2) (.int .i64 t529)) (fun _ hk=>hk.2) (.int .i64 t530)) (fun _ h_=>h_.1)))) hb);replace BK515:=qK (blk_below (g:=gb515) (o:=.cells #[.slice A0_0 l0_0.length c0_0,.int .i64 a0_1,.int .i64 a0_2] 26 (0,0)) (by (with_reducible repeat (first|refine blk_drewN ?_ _|refine blk_drew ?_|refine blk_alloc ?_ _));refine blk_far ?_ NB515_532.out _;(with_reducible repeat (first|refine blk_drewN ?_ _|refine blk_drew ?_|refine blk_alloc ?_ _));refine blk_far ?_ NB515_532.out _;(with_reducible repeat (first|refine blk_drewN ?_ _|refine blk_drew ?_|refine blk_alloc ?_ _));refine blk_far ?_ NB515_532.out _;(with_reducible repeat (first|refine blk_drewN ?_ _|refine blk_drew ?_|refine blk_alloc ?_ _));exact BK515.out) hb);replace BK532:=qK (blk_below (g:=gb532) (o:=.cells #[.slice Ao66 t526.length co66,.int .i64 t529,.int .i64 t530] 26 (0,0)) (by (with_reducible repeat (first|refine blk_drewN ?_ _|refine blk_drew ?_|refine blk_alloc ?_ _));refine blk_put (cs:=#[.slice Ao66 t526.length co66,.int .i64 t529,.int .i64 0]) ?_ 2 _ rfl;(with_reducible repeat (first|refine blk_drewN ?_ _|refine blk_drew ?_|refine blk_alloc ?_ _));refine blk_put (cs:=#[.slice Ao66 t526.length co66,.int .i64 0,.int .i64 0]) ?_ 1 _ rfl;(with_reducible repeat (first|refine blk_drewN ?_ _|refine blk_drew ?_|refine blk_alloc ?_ _));refine blk_put (cs:=#[.slice none 0 0,.int .i64 0,.int .i64 0]) ?_ 0 _ rfl;(with_reducible repeat (first|refine blk_drewN ?_ _|refine blk_drew ?_|refine blk_alloc ?_ _));exact BK532.out) hb);replace HB:=qK (bS hb))|((with_reducible refine gate_dst (N:=20) rfl ?_);(try (refine gate_guard (by rfl) ?_;dsimp only));refine bE #[.int .i64 0,.int .i64 0] 24 ?_;intro gb536 hg w70 hbox hb;replace HO_15:=qK (Kd.R_below (rS HO_15.out) hb);replace HO528:=qK (Kd.R_below (rS HO528.out) hb);have BK536:=qK (hbox);have GW536:=qK ((gS hg:w.heap.size≤gb536));have GE536:=qK ((gS hg:w.heap.size≤gb536));replace HB:=qK (bS hb);have NB515_536:=qK ((nL hg BK515.out:gb515≠gb536));have NB536_515:=qK ((nG hg BK515.out:gb536≠gb515));replace BK515:=qK (bB BK515.out hb);have NB532_536:=qK ((nL hg BK532.out:gb532≠gb536));have NB536_532:=qK ((nG hg BK532.out:gb536≠gb532));replace BK532:=qK (bB BK532.out hb);clear hb hbox hg;have hnb71:=NB536_515.out;have hnc71:=NB515_536.out;have hnb72:=NB536_532.out;have hnc72:=NB532_536.out;obtain ⟨_,_,_,_⟩:=xC2 BK536.out))
       go_ret
       exact ⟨by first|rfl|(simp [errW_none,errW_some] <;> rfl)|(simp [*,errW_none,errW_some] <;> rfl),bA⟩
      rw [if_neg c61] at H
      have c61b0:decide (t533 < a5)=false:=decide_eq_false c61
      clear c61
      obtain rfl:=Option.some.inj H
      obtain ⟨hcz74_0,hcz74_1,hcz74_2,hfz74_0,hfz74_1,hfz74_2⟩:=xC3 BK515.out
      obtain ⟨Ao75,co75,eo75⟩:=Kd.R_slice HO_15.out
      subst eo75
      go_wp2_with (first|((with_reducible refine gate_callee (f:=14) rfl ?_);refine gL (some 98) Try.func14 #[.agg #[.slice A0_0 l0_0.length c0_0,.int .i64 a0_1,.int .i64 a0_2],.slice A1 l1.length c1,.slice Ao75 t521.length co75] ?_;(with_reducible refine (orders_Measured.calls kj43 _ _ l0_0 a0_1 a0_2 _ _ l1 _ _ t521 t526 t529 t530 t531 _ ?side1 ?side2 ?side3 ?side4 ?side5 ?side6 A57.out).mono ?_);(case side1=>exact cS HR0_0.out);(case side2=>exact HC0_0.out);(case side3=>exact cS HR1.out);(case side4=>exact HC1.out);(case side5=>exact cR (Kd.R_reads' HO_15.out).2.2);(case side6=>exact (Kd.R_reads' HO_15.out).2.1);rintro e w76 ⟨v527,rfl,ho0,hb⟩;refine ⟨_,rfl,?_⟩;replace HO_15:=qK (Kd.R_below (rS HO_15.out) hb);have HO528:=qK (Kd.R_lower ho0 bZ);replace BK515:=qK (bB BK515.out hb);replace HB:=qK (bS hb))|((with_reducible refine gate_dst (N:=18) rfl ?_);(try (refine gate_guard (by rfl) ?_;dsimp only));refine bE #[.slice none 0 0,.int .i64 0,.int .i64 0] 26 ?_;intro gb532 hg w77 hbox hb;replace HO_15:=qK (Kd.R_below (rS HO_15.out) hb);replace HO528:=qK (Kd.R_below (rS HO528.out) hb);have BK532:=qK (hbox);have GW532:=qK ((gS hg:w.heap.size≤gb532));have GE532:=qK ((gS hg:w.heap.size≤gb532));replace HB:=qK (bS hb);have NB515_532:=qK ((nL hg BK515.out:gb515≠gb532));have NB532_515:=qK ((nG hg BK515.out:gb532≠gb515));replace BK515:=qK (bB BK515.out hb);clear hb hbox hg;obtain ⟨Ao78,co78,eo78⟩:=Kd.R_slice HO528.out;subst eo78;have hnb79:=NB532_515.out;have hnc79:=NB515_532.out;obtain ⟨hcz80_0,hcz80_1,hcz80_2,hfz80_0,hfz80_1,hfz80_2⟩:=xC3 BK532.out)|((with_reducible refine gate_callee (f:=15) rfl ?_);refine gL (some 103) Try.func15 #[.agg #[.slice Ao78 t526.length co78,.int .i64 t529,.int .i64 t530]] ?_;(with_reducible refine (orders_Sum.calls kj43 _ _ t526 t529 t530 t533 t534 t535 _ ?side1 ?side2 A58.out).mono ?_);(case side1=>refine (Kd.R_reads' (e:=50) (base:=w.heap.size) (ok:=fun k_=>True) (n:=t526.length) (c:=co78) ?_).2.2;exact (rS ((Kd.R_mono (Kd.R_far (p:=⟨gb532,2,none⟩) (Kd.R_far (p:=⟨gb532,1,none⟩) (Kd.R_far (p:=⟨gb532,0,none⟩) (Kd.R_types HO528.out BK532.out (by decide)) (fun _ hk=>hk.2) (.slice Ao78 t526.length co78)) (fun _ hk=>hk.2) (.int .i64 t529)) (fun _ hk=>hk.2) (.int .i64 t530)) (fun _ h_=>h_.1)))));(case side2=>exact (Kd.R_reads' HO528.out).2.1);rintro e w81 ⟨rfl,hb⟩;refine ⟨_,rfl,?_⟩;replace HO_15:=qK (Kd.R_below (rS ((Kd.R_mono (Kd.R_far (p:=⟨gb532,2,none⟩) (Kd.R_far (p:=⟨gb532,1,none⟩) (Kd.R_far (p:=⟨gb532,0,none⟩) (Kd.R_types HO_15.out BK532.out (by decide)) (fun _ hk=>hk.2) (.slice Ao78 t526.length co78)) (fun _ hk=>hk.2) (.int .i64 t529)) (fun _ hk=>hk.2) (.int .i64 t530)) (fun _ h_=>h_.1)))) hb);replace HO528:=qK (Kd.R_below (rS ((Kd.R_mono (Kd.R_far (p:=⟨gb532,2,none⟩) (Kd.R_far (p:=⟨gb532,1,none⟩) (Kd.R_far (p:=⟨gb532,0,none⟩) (Kd.R_types HO528.out BK532.out (by decide)) (fun _ hk=>hk.2) (.slice Ao78 t526.length co78)) (fun _ hk=>hk.2) (.int .i64 t529)) (fun _ hk=>hk.2) (.int .i64 t530)) (fun _ h_=>h_.1)))) hb);replace BK515:=qK (blk_below (g:=gb515) (o:=.cells #[.slice A0_0 l0_0.length c0_0,.int .i64 a0_1,.int .i64 a0_2] 26 (0,0)) (by (with_reducible repeat (first|refine blk_drewN ?_ _|refine blk_drew ?_|refine blk_alloc ?_ _));refine blk_far ?_ NB515_532.out _;(with_reducible repeat (first|refine blk_drewN ?_ _|refine blk_drew ?_|refine blk_alloc ?_ _));refine blk_far ?_ NB515_532.out _;(with_reducible repeat (first|refine blk_drewN ?_ _|refine blk_drew ?_|refine blk_alloc ?_ _));refine blk_far ?_ NB515_532.out _;(with_reducible repeat (first|refine blk_drewN ?_ _|refine blk_drew ?_|refine blk_alloc ?_ _));exact BK515.out) hb);replace BK532:=qK (blk_below (g:=gb532) (o:=.cells #[.slice Ao78 t526.length co78,.int .i64 t529,.int .i64 t530] 26 (0,0)) (by (with_reducible repeat (first|refine blk_drewN ?_ _|refine blk_drew ?_|refine blk_alloc ?_ _));refine blk_put (cs:=#[.slice Ao78 t526.length co78,.int .i64 t529,.int .i64 0]) ?_ 2 _ rfl;(with_reducible repeat (first|refine blk_drewN ?_ _|refine blk_drew ?_|refine blk_alloc ?_ _));refine blk_put (cs:=#[.slice Ao78 t526.length co78,.int .i64 0,.int .i64 0]) ?_ 1 _ rfl;(with_reducible repeat (first|refine blk_drewN ?_ _|refine blk_drew ?_|refine blk_alloc ?_ _));refine blk_put (cs:=#[.slice none 0 0,.int .i64 0,.int .i64 0]) ?_ 0 _ rfl;(with_reducible repeat (first|refine blk_drewN ?_ _|refine blk_drew ?_|refine blk_alloc ?_ _));exact BK532.out) hb);replace HB:=qK (bS hb))|((with_reducible refine gate_dst (N:=20) rfl ?_);(try (refine gate_guard (by rfl) ?_;dsimp only));refine bE #[.int .i64 0,.int .i64 0] 24 ?_;intro gb536 hg w82 hbox hb;replace HO_15:=qK (Kd.R_below (rS HO_15.out) hb);replace HO528:=qK (Kd.R_below (rS HO528.out) hb);have BK536:=qK (hbox);have GW536:=qK ((gS hg:w.heap.size≤gb536));have GE536:=qK ((gS hg:w.heap.size≤gb536));replace HB:=qK (bS hb);have NB515_536:=qK ((nL hg BK515.out:gb515≠gb536));have NB536_515:=qK ((nG hg BK515.out:gb536≠gb515));replace BK515:=qK (bB BK515.out hb);have NB532_536:=qK ((nL hg BK532.out:gb532≠gb536));have NB536_532:=qK ((nG hg BK532.out:gb536≠gb532));replace BK532:=qK (bB BK532.out hb);clear hb hbox hg;have hnb83:=NB536_515.out;have hnc83:=NB515_536.out;have hnb84:=NB536_532.out;have hnc84:=NB532_536.out;obtain ⟨hcz85_0,hcz85_1,hfz85_0,hfz85_1⟩:=xC2 BK536.out))
      go_ret
      exact ⟨by first|rfl|(simp [errW_none,errW_some] <;> rfl)|(simp [*,errW_none,errW_some] <;> rfl),bA⟩
     replace c56:=Bool.eq_false_iff.mpr c56
     subst c56
     have H1:((acreageref08_CheckAreas.f kj43 l0_0 a0_1 a0_2 l2).bind fun t537=>(if t537=0 then ((acreagelaw08_shows.f kj43 l0_0 a0_1 a0_2 l1 l2 l3).bind fun t538=>((orders_Measured.f kj43 l0_0 a0_1 a0_2 l1 t538).bind fun bt541=>((orders_Sum.f kj43 bt541.1 bt541.2.1 bt541.2.2.1).bind fun bt548=>(acreagelaw08_OrdersSure.l0 kj43 a4 a5 bt541.2.2.2 bt548.2.2 0 l2 (l2.length:Int) 0 bt548.1 bt548.2.1)))) else (some true)))=some r:=by rw [if_neg (show ¬ (false=true) by decide)] at H;exact H
     clear H
     have H:=H1
     clear H1
     replace H:=Option.bind_eq_some_iff.mp H
     obtain ⟨t537,A1100,H⟩:=H
     replace H:(if t537=0 then ((acreagelaw08_shows.f kj43 l0_0 a0_1 a0_2 l1 l2 l3).bind fun t538=>((orders_Measured.f kj43 l0_0 a0_1 a0_2 l1 t538).bind fun bt541=>((orders_Sum.f kj43 bt541.1 bt541.2.1 bt541.2.2.1).bind fun bt548=>(acreagelaw08_OrdersSure.l0 kj43 a4 a5 bt541.2.2.2 bt548.2.2 0 l2 (l2.length:Int) 0 bt548.1 bt548.2.1)))) else (some true))=some r:=H
     have A110:=Aside0.mk A1100
     clear A1100
     by_cases c111:t537=0
     rotate_left
     ·rw [if_neg c111] at H
      have c111b0:(t537 == 0)=false:=beq_eq_false_iff_ne.mpr c111
      have c111b1:(t537 != 0)=true:=bne_iff_ne.mpr c111
      obtain rfl:=Option.some.inj H
      obtain ⟨_,_,_,_,_,_⟩:=xC3 BK515.out
      go_wp2_with (first|((with_reducible refine gate_callee (f:=16) rfl ?_);refine gL (some 126) Try.func16 #[.agg #[.slice A0_0 l0_0.length c0_0,.int .i64 a0_1,.int .i64 a0_2],.slice A2 l2.length c2] ?_;(with_reducible refine (acreageref08_CheckAreas.calls kj43 _ _ l0_0 a0_1 a0_2 _ _ l2 t537 _ ?side1 ?side2 ?side3 ?side4 A110.out).mono ?_);(case side1=>exact cS HR0_0.out);(case side2=>exact HC0_0.out);(case side3=>exact cS HR2.out);(case side4=>exact HC2.out);rintro e w159 ⟨rfl,hb⟩;refine ⟨_,rfl,?_⟩;replace HO_15:=qK (Kd.R_below (rS HO_15.out) hb);replace BK515:=qK (bB BK515.out hb);replace HB:=qK (bS hb)))
      go_ret
      exact ⟨by first|rfl|(simp [errW_none,errW_some] <;> rfl)|(simp [*,errW_none,errW_some] <;> rfl),bA⟩
     rw [if_pos c111] at H
     have c111b0:(t537 == 0)=true:=beq_iff_eq.mpr c111
     have c111b1:(t537 != 0)=false:=bne_eq_false_iff_eq.mpr c111
     clear c111
     replace H:=Option.bind_eq_some_iff.mp H
     obtain ⟨t538,A1120,H⟩:=H
     replace H:((orders_Measured.f kj43 l0_0 a0_1 a0_2 l1 t538).bind fun bt541=>((orders_Sum.f kj43 bt541.1 bt541.2.1 bt541.2.2.1).bind fun bt548=>(acreagelaw08_OrdersSure.l0 kj43 a4 a5 bt541.2.2.2 bt548.2.2 0 l2 (l2.length:Int) 0 bt548.1 bt548.2.1)))=some r:=H
     have A112:=Aside0.mk A1120
     clear A1120
     replace H:=Option.bind_eq_some_iff.mp H
     obtain ⟨⟨t541,t544,t545,t546⟩,A1130,H⟩:=H
     replace H:((orders_Sum.f kj43 t541 t544 t545).bind fun bt548=>(acreagelaw08_OrdersSure.l0 kj43 a4 a5 t546 bt548.2.2 0 l2 (l2.length:Int) 0 bt548.1 bt548.2.1))=some r:=H
     have A113:=Aside0.mk A1130
     clear A1130
     replace H:=Option.bind_eq_some_iff.mp H
     obtain ⟨⟨t548,t549,t550⟩,A1140,H⟩:=H
     replace H:(acreagelaw08_OrdersSure.l0 kj43 a4 a5 t546 t550 0 l2 (l2.length:Int) 0 t548 t549)=some r:=H
     have A114:=Aside0.mk A1140
     clear A1140
     have H':=Aside0.mk H
     clear H
     obtain ⟨hcz115_0,hcz115_1,hcz115_2,hfz115_0,hfz115_1,hfz115_2⟩:=xC3 BK515.out
     try go_wp2_with (first|((with_reducible refine gate_callee (f:=16) rfl ?_);refine gL (some 126) Try.func16 #[.agg #[.slice A0_0 l0_0.length c0_0,.int .i64 a0_1,.int .i64 a0_2],.slice A2 l2.length c2] ?_;(with_reducible refine (acreageref08_CheckAreas.calls kj43 _ _ l0_0 a0_1 a0_2 _ _ l2 t537 _ ?side1 ?side2 ?side3 ?side4 A110.out).mono ?_);(case side1=>exact cS HR0_0.out);(case side2=>exact HC0_0.out);(case side3=>exact cS HR2.out);(case side4=>exact HC2.out);rintro e w116 ⟨rfl,hb⟩;refine ⟨_,rfl,?_⟩;replace HO_15:=qK (Kd.R_below (rS HO_15.out) hb);replace BK515:=qK (bB BK515.out hb);replace HB:=qK (bS hb)))
     replace HO_15:=qK (Kd.R_drew HO_15.out)
     replace BK515:=qK (blk_drew BK515.out)
     replace HB:=qK (below_drew1 HB.out)
     refine start_ (n:=14) (S:=fun w'=>w'.cell? ⟨gb515,0,none⟩=some (.slice A0_0 l0_0.length c0_0)∧w'.cell? ⟨gb515,1,none⟩=some (.int .i64 a0_1)∧w'.cell? ⟨gb515,2,none⟩=some (.int .i64 a0_2)) (ds:=[]) #[false,false,false,false,false,false,false,false,false,false,false,false,false,false] (by kernel_rfl) rfl rfl ⟨(blk_cell BK515.out 0).trans rfl,(blk_cell BK515.out 1).trans rfl,(blk_cell BK515.out 2).trans rfl⟩ (fun hHeld=>?_);refine with_tabW acreagelaw08_OrdersSure.tab15 acreagelaw08_OrdersSure.bits15 (fun HT_ HW_=>?_)
     generalize w116.drew=w117 at HO_15 BK515 HB hHeld ⊢
     refine pP 1 (some 130) HT_ ?_
     refine pP 3 (some 132) HT_ ?_
     refine pP 4 (some 133) HT_ ?_
     refine pP 5 (some 134) HT_ ?_
     refine tP 0 (some 129) HT_ HW_ hHeld ?_
     refine tP 2 (some 131) HT_ HW_ hHeld ?_
     refine join_ (σ:=Value × Value × Nat) 2 #[true,true,true,true,true,true,true,true,true,true,true,true,false,false] (fun s_=>[(135,s_.1),(136,.tuple #[.agg #[s_.2.1,.int .i64 t544,.int .i64 t545],.int .i64 t546]),(22,.pointer (some ⟨s_.2.2,0,none⟩)),(128,.tuple #[.agg #[s_.2.1,.int .i64 t544,.int .i64 t545],.int .i64 t546]),(137,.agg #[s_.2.1,.int .i64 t544,.int .i64 t545]),(138,.int .i64 t546)]) (fun s_ w'=>(w'.cell? ⟨gb515,0,none⟩=some (.slice A0_0 l0_0.length c0_0)∧w'.cell? ⟨gb515,1,none⟩=some (.int .i64 a0_1)∧w'.cell? ⟨gb515,2,none⟩=some (.int .i64 a0_2))∧(Kd.R (Kd.int .i64) 3 w' w.heap.size (fun k_=>some k_≠(v522:Value).ownBlock) s_.1 t538)∧(Kd.R k50 50 w' w.heap.size (fun _=>True) s_.2.1 t541)∧(Kd.R (Kd.int .i64) 3 w' w.heap.size (fun k_=>some k_≠(s_.1:Value).ownBlock) v522 t521)∧(w'.heap[gb515]? = some (.cells #[.slice A0_0 l0_0.length c0_0,.int .i64 a0_1,.int .i64 a0_2] 26 (0,0)))∧(w'.heap[s_.2.2]? = some (.cells #[.slice none 0 0,.int .i64 0,.int .i64 0] 26 (0,0)))∧(w.heap.size≤s_.2.2)∧(w.heap.size≤s_.2.2)∧(gb515≠s_.2.2)∧(s_.2.2≠gb515)∧(Below w.heap.size w w')) ?_ ?_
     rotate_left
     ·intro hCont
      refine two_ (i:=6) (j:=11) (Ni:=some 135) (Nj:=some 22) #[true,true,true,true,true,true,true,false,false,false,false,false,false,false] #[true,true,true,true,true,true,false,false,false,false,false,true,false,false] rfl rfl rfl rfl (two_of HT_.out (by kernel_rfl)) (by decide) (by decide) (fun K hK=>?_) (fun K hK=>?_)
      ·skip
       refine gO Try.func17 #[.agg #[.slice A0_0 l0_0.length c0_0,.int .i64 a0_1,.int .i64 a0_2],.slice A1 l1.length c1,.slice A2 l2.length c2,.slice A3 l3.length c3] ?_
       with_reducible refine (acreagelaw08_shows.calls kj43 _ _ l0_0 a0_1 a0_2 _ _ l1 _ _ l2 _ _ l3 t538 _ ?side1 ?side2 ?side3 ?side4 ?side5 ?side6 ?side7 ?side8 A112.out).mono ?_
       (case side1=>exact cS HR0_0.out)
       (case side2=>exact HC0_0.out)
       (case side3=>exact cS HR1.out)
       (case side4=>exact HC1.out)
       (case side5=>exact cS HR2.out)
       (case side6=>exact HC2.out)
       (case side7=>exact cS HR3.out)
       (case side8=>exact HC3.out)
       rintro e w118 ⟨v539,rfl,ho0,hb⟩
       refine ⟨_,rfl,?_⟩
       have HO540:=qK (Kd.R_lower (Kd.R_new' ho0 (Kd.R_lt (rS HO_15.out))) bZ)
       replace HO_15:=qK (Kd.R_elder' (rS HO_15.out) (Kd.R_base ho0) hb)
       replace BK515:=qK (bB BK515.out hb)
       replace HB:=qK (bS hb)
       (try clear hb)
       (try clear hb2)
       (try clear hk)
       (try clear hi)
       (try clear ho0)
       obtain ⟨Ao119,co119,eo119⟩:=Kd.R_slice HO540.out
       (first|subst eo119|(injection eo119 with f1_ f2_ f3_;have f4_:=f1_.symm;have f5_:=f3_.symm;clear f1_ f2_ f3_;subst f4_;subst f5_))
       refine hK.out _ _ ⟨(blk_cell BK515.out 0).trans rfl,(blk_cell BK515.out 1).trans rfl,(blk_cell BK515.out 2).trans rfl⟩ (fun hHeld=>?_)
       clear hK K
       refine nP ?_
       refine two_ (i:=7) (j:=11) (Ni:=some 136) (Nj:=some 22) #[true,true,true,true,true,true,true,true,false,false,false,false,false,false] #[true,true,true,true,true,true,true,false,false,false,false,true,false,false] rfl rfl rfl rfl (two_of HT_.out (by kernel_rfl)) (by decide) (by decide) (fun K hK=>?_) (fun K hK=>?_)
       ·skip
        refine gO Try.func14 #[.agg #[.slice A0_0 l0_0.length c0_0,.int .i64 a0_1,.int .i64 a0_2],.slice A1 l1.length c1,.slice Ao119 t538.length co119] ?_
        with_reducible refine (orders_Measured.calls kj43 _ _ l0_0 a0_1 a0_2 _ _ l1 _ _ t538 t541 t544 t545 t546 _ ?side1 ?side2 ?side3 ?side4 ?side5 ?side6 A113.out).mono ?_
        (case side1=>exact cS HR0_0.out)
        (case side2=>exact HC0_0.out)
        (case side3=>exact cS HR1.out)
        (case side4=>exact HC1.out)
        (case side5=>exact cR (Kd.R_reads' HO540.out).2.2)
        (case side6=>exact (Kd.R_reads' HO540.out).2.1)
        rintro e w120 ⟨v542,rfl,ho0,hb⟩
        refine ⟨_,rfl,?_⟩
        replace HO_15:=qK (Kd.R_below (rS HO_15.out) hb)
        replace HO540:=qK (Kd.R_below (rS HO540.out) hb)
        have HO543:=qK (Kd.R_lower ho0 bZ)
        replace BK515:=qK (bB BK515.out hb)
        replace HB:=qK (bS hb)
        (try clear hb)
        (try clear hb2)
        (try clear hk)
        (try clear hi)
        (try clear ho0)
        refine hK.out _ _ ⟨(blk_cell BK515.out 0).trans rfl,(blk_cell BK515.out 1).trans rfl,(blk_cell BK515.out 2).trans rfl⟩ (fun hHeld=>?_)
        clear hK K
        refine nP ?_
        refine pP 8 (some 128) HT_ ?_
        refine pP 9 (some 137) HT_ ?_
        refine pP 10 (some 138) HT_ ?_
        refine oP 11 (some 22) HT_ (fun K hK=>?_)
        refine box_step ?hg (N:=22) ?hd (cs:=#[.slice none 0 0,.int .i64 0,.int .i64 0]) (t:=26) ?hr ?_;(case hd=>rfl);(case hg=>rfl);(case hr=>first|(go_simp;done)|(go_simp;rfl))
        intro gb547 hg w121 hbox hb
        replace HO_15:=qK (Kd.R_below (rS HO_15.out) hb)
        replace HO540:=qK (Kd.R_below (rS HO540.out) hb)
        replace HO543:=qK (Kd.R_below (rS HO543.out) hb)
        have BK547:=qK (hbox)
        have GW547:=qK ((gS hg:w.heap.size≤gb547))
        have GE547:=qK ((gS hg:w.heap.size≤gb547))
        replace HB:=qK (bS hb)
        have NB515_547:=qK ((nL hg BK515.out:gb515≠gb547))
        have NB547_515:=qK ((nG hg BK515.out:gb547≠gb515))
        replace BK515:=qK (bB BK515.out hb)
        clear hb hbox hg
        refine hK.out _ _ ⟨(blk_cell BK515.out 0).trans rfl,(blk_cell BK515.out 1).trans rfl,(blk_cell BK515.out 2).trans rfl⟩ (fun hHeld=>?_)
        clear hK K
        refine nP ?_
        exact norm_ (by simp only [putAll,Act.put,List.setIfInBounds_toArray,List.set_cons_zero,List.set_cons_succ]) (hCont (.slice Ao119 t538.length co119,v542,gb547) _ ⟨hHeld,(rS (Kd.R_mono HO540.out (fun _ hk=>hk.2))),(rS HO543.out),(rS (Kd.R_mono HO_15.out (fun _ hk=>hk.2))),(bX BK515.out),(bX BK547.out),GW547.out,GE547.out,NB515_547.out,NB547_515.out,bA⟩)
       ·skip
        refine box_step ?hg (N:=22) ?hd (cs:=#[.slice none 0 0,.int .i64 0,.int .i64 0]) (t:=26) ?hr ?_;(case hd=>rfl);(case hg=>rfl);(case hr=>first|(go_simp;done)|(go_simp;rfl))
        intro gb547 hg w119 hbox hb
        replace HO_15:=qK (Kd.R_below (rS HO_15.out) hb)
        replace HO540:=qK (Kd.R_below (rS HO540.out) hb)
        have BK547:=qK (hbox)
        have GW547:=qK ((gS hg:w.heap.size≤gb547))
        have GE547:=qK ((gS hg:w.heap.size≤gb547))
        replace HB:=qK (bS hb)
        have NB515_547:=qK ((nL hg BK515.out:gb515≠gb547))
        have NB547_515:=qK ((nG hg BK515.out:gb547≠gb515))
        replace BK515:=qK (bB BK515.out hb)
        clear hb hbox hg
        obtain ⟨Ao120,co120,eo120⟩:=Kd.R_slice HO540.out
        (first|subst eo120|(injection eo120 with f1_ f2_ f3_;have f4_:=f1_.symm;have f5_:=f3_.symm;clear f1_ f2_ f3_;subst f4_;subst f5_))
        refine hK.out _ _ ⟨(blk_cell BK515.out 0).trans rfl,(blk_cell BK515.out 1).trans rfl,(blk_cell BK515.out 2).trans rfl⟩ (fun hHeld=>?_)
        clear hK K
        refine nP ?_
        refine oP 7 (some 136) HT_ (fun K hK=>?_)
        refine gO Try.func14 #[.agg #[.slice A0_0 l0_0.length c0_0,.int .i64 a0_1,.int .i64 a0_2],.slice A1 l1.length c1,.slice Ao120 t538.length co120] ?_
        with_reducible refine (orders_Measured.calls kj43 _ _ l0_0 a0_1 a0_2 _ _ l1 _ _ t538 t541 t544 t545 t546 _ ?side1 ?side2 ?side3 ?side4 ?side5 ?side6 A113.out).mono ?_
        (case side1=>exact cS HR0_0.out)
        (case side2=>exact HC0_0.out)
        (case side3=>exact cS HR1.out)
        (case side4=>exact HC1.out)
        (case side5=>exact cR (Kd.R_reads' HO540.out).2.2)
        (case side6=>exact (Kd.R_reads' HO540.out).2.1)
        rintro e w121 ⟨v542,rfl,ho0,hb⟩
        refine ⟨_,rfl,?_⟩
        replace HO_15:=qK (Kd.R_below (rS HO_15.out) hb)
        replace HO540:=qK (Kd.R_below (rS HO540.out) hb)
        have HO543:=qK (Kd.R_lower ho0 bZ)
        replace BK515:=qK (bB BK515.out hb)
        replace BK547:=qK (bB BK547.out hb)
        replace HB:=qK (bS hb)
        (try clear hb)
        (try clear hb2)
        (try clear hk)
        (try clear hi)
        (try clear ho0)
        refine hK.out _ _ ⟨(blk_cell BK515.out 0).trans rfl,(blk_cell BK515.out 1).trans rfl,(blk_cell BK515.out 2).trans rfl⟩ (fun hHeld=>?_)
        clear hK K
        refine nP ?_
        refine pP 8 (some 128) HT_ ?_
        refine pP 9 (some 137) HT_ ?_
        refine pP 10 (some 138) HT_ ?_
        exact norm_ (by simp only [putAll,Act.put,List.setIfInBounds_toArray,List.set_cons_zero,List.set_cons_succ]) (hCont (.slice Ao120 t538.length co120,v542,gb547) _ ⟨hHeld,(rS (Kd.R_mono HO540.out (fun _ hk=>hk.2))),(rS HO543.out),(rS (Kd.R_mono HO_15.out (fun _ hk=>hk.2))),(bX BK515.out),(bX BK547.out),GW547.out,GE547.out,NB515_547.out,NB547_515.out,bA⟩)
      ·skip
       refine box_step ?hg (N:=22) ?hd (cs:=#[.slice none 0 0,.int .i64 0,.int .i64 0]) (t:=26) ?hr ?_;(case hd=>rfl);(case hg=>rfl);(case hr=>first|(go_simp;done)|(go_simp;rfl))
       intro gb547 hg w118 hbox hb
       replace HO_15:=qK (Kd.R_below (rS HO_15.out) hb)
       have BK547:=qK (hbox)
       have GW547:=qK ((gS hg:w.heap.size≤gb547))
       have GE547:=qK ((gS hg:w.heap.size≤gb547))
       replace HB:=qK (bS hb)
       have NB515_547:=qK ((nL hg BK515.out:gb515≠gb547))
       have NB547_515:=qK ((nG hg BK515.out:gb547≠gb515))
       replace BK515:=qK (bB BK515.out hb)
       clear hb hbox hg
       refine hK.out _ _ ⟨(blk_cell BK515.out 0).trans rfl,(blk_cell BK515.out 1).trans rfl,(blk_cell BK515.out 2).trans rfl⟩ (fun hHeld=>?_)
       clear hK K
       refine nP ?_
       refine oP 6 (some 135) HT_ (fun K hK=>?_)
       refine gO Try.func17 #[.agg #[.slice A0_0 l0_0.length c0_0,.int .i64 a0_1,.int .i64 a0_2],.slice A1 l1.length c1,.slice A2 l2.length c2,.slice A3 l3.length c3] ?_
       with_reducible refine (acreagelaw08_shows.calls kj43 _ _ l0_0 a0_1 a0_2 _ _ l1 _ _ l2 _ _ l3 t538 _ ?side1 ?side2 ?side3 ?side4 ?side5 ?side6 ?side7 ?side8 A112.out).mono ?_
       (case side1=>exact cS HR0_0.out)
       (case side2=>exact HC0_0.out)
       (case side3=>exact cS HR1.out)
       (case side4=>exact HC1.out)
       (case side5=>exact cS HR2.out)
       (case side6=>exact HC2.out)
       (case side7=>exact cS HR3.out)
       (case side8=>exact HC3.out)
       rintro e w119 ⟨v539,rfl,ho0,hb⟩
       refine ⟨_,rfl,?_⟩
       have HO540:=qK (Kd.R_lower (Kd.R_new' ho0 (Kd.R_lt (rS HO_15.out))) bZ)
       replace HO_15:=qK (Kd.R_elder' (rS HO_15.out) (Kd.R_base ho0) hb)
       replace BK515:=qK (bB BK515.out hb)
       replace BK547:=qK (bB BK547.out hb)
       replace HB:=qK (bS hb)
       (try clear hb)
       (try clear hb2)
       (try clear hk)
       (try clear hi)
       (try clear ho0)
       obtain ⟨Ao120,co120,eo120⟩:=Kd.R_slice HO540.out
       (first|subst eo120|(injection eo120 with f1_ f2_ f3_;have f4_:=f1_.symm;have f5_:=f3_.symm;clear f1_ f2_ f3_;subst f4_;subst f5_))
       refine hK.out _ _ ⟨(blk_cell BK515.out 0).trans rfl,(blk_cell BK515.out 1).trans rfl,(blk_cell BK515.out 2).trans rfl⟩ (fun hHeld=>?_)
       clear hK K
       refine nP ?_
       refine oP 7 (some 136) HT_ (fun K hK=>?_)
       refine gO Try.func14 #[.agg #[.slice A0_0 l0_0.length c0_0,.int .i64 a0_1,.int .i64 a0_2],.slice A1 l1.length c1,.slice Ao120 t538.length co120] ?_
       with_reducible refine (orders_Measured.calls kj43 _ _ l0_0 a0_1 a0_2 _ _ l1 _ _ t538 t541 t544 t545 t546 _ ?side1 ?side2 ?side3 ?side4 ?side5 ?side6 A113.out).mono ?_
       (case side1=>exact cS HR0_0.out)
       (case side2=>exact HC0_0.out)
       (case side3=>exact cS HR1.out)
       (case side4=>exact HC1.out)
       (case side5=>exact cR (Kd.R_reads' HO540.out).2.2)
       (case side6=>exact (Kd.R_reads' HO540.out).2.1)
       rintro e w121 ⟨v542,rfl,ho0,hb⟩
       refine ⟨_,rfl,?_⟩
       replace HO_15:=qK (Kd.R_below (rS HO_15.out) hb)
       replace HO540:=qK (Kd.R_below (rS HO540.out) hb)
       have HO543:=qK (Kd.R_lower ho0 bZ)
       replace BK515:=qK (bB BK515.out hb)
       replace BK547:=qK (bB BK547.out hb)
       replace HB:=qK (bS hb)
       (try clear hb)
       (try clear hb2)
       (try clear hk)
       (try clear hi)
       (try clear ho0)
       refine hK.out _ _ ⟨(blk_cell BK515.out 0).trans rfl,(blk_cell BK515.out 1).trans rfl,(blk_cell BK515.out 2).trans rfl⟩ (fun hHeld=>?_)
       clear hK K
       refine nP ?_
       refine pP 8 (some 128) HT_ ?_
       refine pP 9 (some 137) HT_ ?_
       refine pP 10 (some 138) HT_ ?_
       exact norm_ (by simp only [putAll,Act.put,List.setIfInBounds_toArray,List.set_cons_zero,List.set_cons_succ]) (hCont (.slice Ao120 t538.length co120,v542,gb547) _ ⟨hHeld,(rS (Kd.R_mono HO540.out (fun _ hk=>hk.2))),(rS HO543.out),(rS (Kd.R_mono HO_15.out (fun _ hk=>hk.2))),(bX BK515.out),(bX BK547.out),GW547.out,GE547.out,NB515_547.out,NB547_515.out,bA⟩)
     rintro ⟨v539,v542,gb547⟩ w122 ⟨hS_,h0_,h1_,h2_,h3_,h4_,h5_,h6_,h7_,h8_,h9_⟩
     have n0_:Aside0 (Kd.R (Kd.int .i64) 3 w122 w.heap.size (fun k_=>some k_≠(v522:Value).ownBlock) v539 t538):=⟨h0_⟩
     have n1_:Aside0 (Kd.R k50 50 w122 w.heap.size (fun _=>True) v542 t541):=⟨h1_⟩
     have n2_:Aside0 (Kd.R (Kd.int .i64) 3 w122 w.heap.size (fun k_=>some k_≠(v539:Value).ownBlock) v522 t521):=⟨h2_⟩
     have n3_:Aside0 (w122.heap[gb515]? = some (.cells #[.slice A0_0 l0_0.length c0_0,.int .i64 a0_1,.int .i64 a0_2] 26 (0,0))):=⟨h3_⟩
     have n4_:Aside0 (w122.heap[gb547]? = some (.cells #[.slice none 0 0,.int .i64 0,.int .i64 0] 26 (0,0))):=⟨h4_⟩
     have n5_:Aside0 (w.heap.size≤gb547):=⟨h5_⟩
     have n6_:Aside0 (w.heap.size≤gb547):=⟨h6_⟩
     have n7_:Aside0 (gb515≠gb547):=⟨h7_⟩
     have n8_:Aside0 (gb547≠gb515):=⟨h8_⟩
     have n9_:Aside0 (Below w.heap.size w w122):=⟨h9_⟩
     clear HO_15
     clear BK515
     clear HB
     clear h0_ h1_ h2_ h3_ h4_ h5_ h6_ h7_ h8_ h9_
     have HO540:=n0_
     have HO543:=n1_
     have HO_15:=n2_
     have BK515:=n3_
     have BK547:=n4_
     have GW547:=n5_
     have GE547:=n6_
     have NB515_547:=n7_
     have NB547_515:=n8_
     have HB:=n9_
     clear n0_ n1_ n2_ n3_ n4_ n5_ n6_ n7_ n8_ n9_
     have hHeld:w122.cell? ⟨gb515,0,none⟩=some (.slice A0_0 l0_0.length c0_0)∧w122.cell? ⟨gb515,1,none⟩=some (.int .i64 a0_1)∧w122.cell? ⟨gb515,2,none⟩=some (.int .i64 a0_2):=hS_
     obtain ⟨Ao123,co123,eo123⟩:=Kd.R_slice HO543.out
     (first|subst eo123|(injection eo123 with f1_ f2_ f3_;have f4_:=f1_.symm;have f5_:=f3_.symm;clear f1_ f2_ f3_;subst f4_;subst f5_))
     refine norm_ (a':=?_) ?_ ?_
     rotate_left
     ·simp only [putAll,Act.put,List.setIfInBounds_toArray,List.set_cons_zero,List.set_cons_succ]
      rfl
     refine oP 12 none HT_ (fun K hK=>?_)
     have hs124:w122.cell? ⟨gb547,0,none⟩=some (.slice none 0 0):=(blk_cell BK547.out 0).trans rfl
     have hfs124:=blk_frozen BK547.out 0
     have hns124_0:=NB515_547.out
     have hms124_0:=NB547_515.out
     have hs125:w122.cell? ⟨gb547,1,none⟩=some (.int .i64 0):=(blk_cell BK547.out 1).trans rfl
     have hfs125:=blk_frozen BK547.out 1
     have hns125_0:=NB515_547.out
     have hms125_0:=NB547_515.out
     have hs126:w122.cell? ⟨gb547,2,none⟩=some (.int .i64 0):=(blk_cell BK547.out 2).trans rfl
     have hfs126:=blk_frozen BK547.out 2
     have hns126_0:=NB515_547.out
     have hms126_0:=NB547_515.out
     refine skip_ (w1:=?_) (by rfl) rfl ?_ ?_
     rotate_left
     ·go_simp
      rfl
     refine hK.out _ _ ⟨((cell_far (p:=⟨gb547,_,none⟩) NB515_547.out _).trans (((cell_far (p:=⟨gb547,_,none⟩) NB515_547.out _).trans (((cell_far (p:=⟨gb547,_,none⟩) NB515_547.out _).trans (hHeld.1)))))),((cell_far (p:=⟨gb547,_,none⟩) NB515_547.out _).trans (((cell_far (p:=⟨gb547,_,none⟩) NB515_547.out _).trans (((cell_far (p:=⟨gb547,_,none⟩) NB515_547.out _).trans (hHeld.2.1)))))),((cell_far (p:=⟨gb547,_,none⟩) NB515_547.out _).trans (((cell_far (p:=⟨gb547,_,none⟩) NB515_547.out _).trans (((cell_far (p:=⟨gb547,_,none⟩) NB515_547.out _).trans (hHeld.2.2))))))⟩ (fun hHeld=>?_)
     clear hK K
     refine pP 13 (some 14) HT_ ?_
     refine done_ (done_of HT_.out (by kernel_rfl)) ?_
     have hnb127:=NB547_515.out
     have hnc127:=NB515_547.out
     obtain ⟨hcz128_0,hcz128_1,hcz128_2,hfz128_0,hfz128_1,hfz128_2⟩:=xC3 BK547.out
     try go_wp2_with (first|((with_reducible refine gate_callee (f:=15) rfl ?_);refine gL (some 141) Try.func15 #[.agg #[.slice Ao123 t541.length co123,.int .i64 t544,.int .i64 t545]] ?_;(with_reducible refine (orders_Sum.calls kj43 _ _ t541 t544 t545 t548 t549 t550 _ ?side1 ?side2 A114.out).mono ?_);(case side1=>refine (Kd.R_reads' (e:=50) (base:=w.heap.size) (ok:=fun k_=>True) (n:=t541.length) (c:=co123) ?_).2.2;exact (rS ((Kd.R_mono (Kd.R_far (p:=⟨gb547,2,none⟩) (Kd.R_far (p:=⟨gb547,1,none⟩) (Kd.R_far (p:=⟨gb547,0,none⟩) (Kd.R_types HO543.out BK547.out (by decide)) (fun _ hk=>hk.2) (.slice Ao123 t541.length co123)) (fun _ hk=>hk.2) (.int .i64 t544)) (fun _ hk=>hk.2) (.int .i64 t545)) (fun _ h_=>h_.1)))));(case side2=>exact (Kd.R_reads' HO543.out).2.1);rintro e w129 ⟨rfl,hb⟩;refine ⟨_,rfl,?_⟩;replace HO_15:=qK (Kd.R_below (rS ((Kd.R_mono (Kd.R_far (p:=⟨gb547,2,none⟩) (Kd.R_far (p:=⟨gb547,1,none⟩) (Kd.R_far (p:=⟨gb547,0,none⟩) (Kd.R_types HO_15.out BK547.out (by decide)) (fun _ hk=>hk.2) (.slice Ao123 t541.length co123)) (fun _ hk=>hk.2) (.int .i64 t544)) (fun _ hk=>hk.2) (.int .i64 t545)) (fun _ h_=>h_.1)))) hb);replace HO540:=qK (Kd.R_below (rS ((Kd.R_mono (Kd.R_far (p:=⟨gb547,2,none⟩) (Kd.R_far (p:=⟨gb547,1,none⟩) (Kd.R_far (p:=⟨gb547,0,none⟩) (Kd.R_types HO540.out BK547.out (by decide)) (fun _ hk=>hk.2) (.slice Ao123 t541.length co123)) (fun _ hk=>hk.2) (.int .i64 t544)) (fun _ hk=>hk.2) (.int .i64 t545)) (fun _ h_=>h_.1)))) hb);replace HO543:=qK (Kd.R_below (rS ((Kd.R_mono (Kd.R_far (p:=⟨gb547,2,none⟩) (Kd.R_far (p:=⟨gb547,1,none⟩) (Kd.R_far (p:=⟨gb547,0,none⟩) (Kd.R_types HO543.out BK547.out (by decide)) (fun _ hk=>hk.2) (.slice Ao123 t541.length co123)) (fun _ hk=>hk.2) (.int .i64 t544)) (fun _ hk=>hk.2) (.int .i64 t545)) (fun _ h_=>h_.1)))) hb);replace BK515:=qK (blk_below (g:=gb515) (o:=.cells #[.slice A0_0 l0_0.length c0_0,.int .i64 a0_1,.int .i64 a0_2] 26 (0,0)) (by (with_reducible repeat (first|refine blk_drewN ?_ _|refine blk_drew ?_|refine blk_alloc ?_ _));refine blk_far ?_ NB515_547.out _;(with_reducible repeat (first|refine blk_drewN ?_ _|refine blk_drew ?_|refine blk_alloc ?_ _));refine blk_far ?_ NB515_547.out _;(with_reducible repeat (first|refine blk_drewN ?_ _|refine blk_drew ?_|refine blk_alloc ?_ _));refine blk_far ?_ NB515_547.out _;(with_reducible repeat (first|refine blk_drewN ?_ _|refine blk_drew ?_|refine blk_alloc ?_ _));exact BK515.out) hb);replace BK547:=qK (blk_below (g:=gb547) (o:=.cells #[.slice Ao123 t541.length co123,.int .i64 t544,.int .i64 t545] 26 (0,0)) (by (with_reducible repeat (first|refine blk_drewN ?_ _|refine blk_drew ?_|refine blk_alloc ?_ _));refine blk_put (cs:=#[.slice Ao123 t541.length co123,.int .i64 t544,.int .i64 0]) ?_ 2 _ rfl;(with_reducible repeat (first|refine blk_drewN ?_ _|refine blk_drew ?_|refine blk_alloc ?_ _));refine blk_put (cs:=#[.slice Ao123 t541.length co123,.int .i64 0,.int .i64 0]) ?_ 1 _ rfl;(with_reducible repeat (first|refine blk_drewN ?_ _|refine blk_drew ?_|refine blk_alloc ?_ _));refine blk_put (cs:=#[.slice none 0 0,.int .i64 0,.int .i64 0]) ?_ 0 _ rfl;(with_reducible repeat (first|refine blk_drewN ?_ _|refine blk_drew ?_|refine blk_alloc ?_ _));exact BK547.out) hb);replace HB:=qK (bS hb))|((with_reducible refine gate_dst (N:=23) rfl ?_);(try (refine gate_guard (by rfl) ?_;dsimp only));refine bE #[.int .i64 0,.int .i64 0] 24 ?_;intro gb551 hg w130 hbox hb;replace HO_15:=qK (Kd.R_below (rS HO_15.out) hb);replace HO540:=qK (Kd.R_below (rS HO540.out) hb);replace HO543:=qK (Kd.R_below (rS HO543.out) hb);have BK551:=qK (hbox);have GW551:=qK ((gS hg:w.heap.size≤gb551));have GE551:=qK ((gS hg:w.heap.size≤gb551));replace HB:=qK (bS hb);have NB515_551:=qK ((nL hg BK515.out:gb515≠gb551));have NB551_515:=qK ((nG hg BK515.out:gb551≠gb515));replace BK515:=qK (bB BK515.out hb);have NB547_551:=qK ((nL hg BK547.out:gb547≠gb551));have NB551_547:=qK ((nG hg BK547.out:gb551≠gb547));replace BK547:=qK (bB BK547.out hb);clear hb hbox hg;have hnb131:=NB551_515.out;have hnc131:=NB515_551.out;have hnb132:=NB551_547.out;have hnc132:=NB547_551.out;obtain ⟨hcz133_0,hcz133_1,hfz133_0,hfz133_1⟩:=xC2 BK551.out))
     go_loopg [24,146] kj43 (fun kq v24 v146 w'=>∃ (x24_3:Int) (x146_3:Int),v24= .int .i64 x24_3∧v146= .int .i64 x146_3∧Aside0 (acreagelaw08_OrdersSure.l0 kq a4 a5 t546 t550 x24_3 l2 (l2.length:Int) x146_3 t548 t549=some r)∧Aside0 (kq≤kj43)∧Aside0 (Kd.R k50 50 w' w.heap.size (fun _=>True) (.slice Ao123 t541.length co123) t541)∧Aside0 (w'.heap[gb515]? = some (.cells #[(.slice A0_0 l0_0.length c0_0),.int .i64 a0_1,.int .i64 a0_2] 26 (0,0)))∧Aside0 (w'.heap[gb547]? = some (.cells #[(.slice Ao123 t541.length co123),.int .i64 t544,.int .i64 t545] 26 (0,0)))∧Aside0 (w'.heap[gb551]? = some (.cells #[.int .i64 t548,.int .i64 t549] 24 (0,0)))∧Aside0 (Below w.heap.size w w'))
     case atStart=>exact ⟨(0),(0),sA,sA,H',⟨Nat.le_refl _⟩,⟨by (with_reducible repeat (first|apply Kd.R_alloc|apply Kd.R_drewN|apply Kd.R_drew));exact Kd.R_mono (Kd.R_far (p:=⟨gb551,1,none⟩) (Kd.R_far (p:=⟨gb551,0,none⟩) (Kd.R_types HO543.out BK551.out (by decide)) (fun _ hk=>hk.2) (.int .i64 t548)) (fun _ hk=>hk.2) (.int .i64 t549)) (fun _ hk=>trivial)⟩,⟨by (with_reducible repeat (first|refine blk_drewN ?_ _|refine blk_drew ?_|refine blk_alloc ?_ _));refine blk_far ?_ NB515_551.out _;(with_reducible repeat (first|refine blk_drewN ?_ _|refine blk_drew ?_|refine blk_alloc ?_ _));refine blk_far ?_ NB515_551.out _;(with_reducible repeat (first|refine blk_drewN ?_ _|refine blk_drew ?_|refine blk_alloc ?_ _));exact BK515.out⟩,⟨by (with_reducible repeat (first|refine blk_drewN ?_ _|refine blk_drew ?_|refine blk_alloc ?_ _));refine blk_far ?_ NB547_551.out _;(with_reducible repeat (first|refine blk_drewN ?_ _|refine blk_drew ?_|refine blk_alloc ?_ _));refine blk_far ?_ NB547_551.out _;(with_reducible repeat (first|refine blk_drewN ?_ _|refine blk_drew ?_|refine blk_alloc ?_ _));exact BK547.out⟩,⟨by (with_reducible repeat (first|refine blk_drewN ?_ _|refine blk_drew ?_|refine blk_alloc ?_ _));refine blk_put (cs:=#[.int .i64 t548,.int .i64 0]) ?_ 1 _ rfl;(with_reducible repeat (first|refine blk_drewN ?_ _|refine blk_drew ?_|refine blk_alloc ?_ _));refine blk_put (cs:=#[.int .i64 0,.int .i64 0]) ?_ 0 _ rfl;(with_reducible repeat (first|refine blk_drewN ?_ _|refine blk_drew ?_|refine blk_alloc ?_ _));exact BK551.out⟩,⟨bA⟩⟩
     case round =>
      clear H'
      try clear c1
      try clear c2
      try clear p2
      try clear c3
      try clear c5
      try clear c6
      try clear c7
      try clear c8
      try clear c9
      try clear c10
      try clear c11
      try clear c12
      try clear c13
      try clear c14
      try clear c15
      try clear c16
      try clear c17
      try clear c56
      try clear c59
      try clear c59b0
      try clear c59b1
      try clear c60
      try clear c60b0
      try clear c60b1
      try clear c79
      try clear c83
      try clear c84
      try clear c91
      try clear c95
      try clear c96
      try clear c103
      try clear c107
      try clear c108
      try clear c111
      try clear c111b0
      try clear c111b1
      try clear c127
      try clear c131
      try clear c132
      try clear hcz104_0
      try clear hcz104_1
      try clear hcz104_2
      try clear hcz109_0
      try clear hcz109_1
      try clear hcz115_0
      try clear hcz115_1
      try clear hcz115_2
      try clear hcz128_0
      try clear hcz128_1
      try clear hcz128_2
      try clear hcz133_0
      try clear hcz133_1
      try clear hcz74_0
      try clear hcz74_1
      try clear hcz74_2
      try clear hcz80_0
      try clear hcz80_1
      try clear hcz80_2
      try clear hcz85_0
      try clear hcz85_1
      try clear hcz86_0
      try clear hcz86_1
      try clear hcz86_2
      try clear hcz92_0
      try clear hcz92_1
      try clear hcz92_2
      try clear hcz97_0
      try clear hcz97_1
      try clear hcz98_0
      try clear hcz98_1
      try clear hcz98_2
      try clear hfz104_0
      try clear hfz104_1
      try clear hfz104_2
      try clear hfz109_0
      try clear hfz109_1
      try clear hfz115_0
      try clear hfz115_1
      try clear hfz115_2
      try clear hfz128_0
      try clear hfz128_1
      try clear hfz128_2
      try clear hfz133_0
      try clear hfz133_1
      try clear hfz74_0
      try clear hfz74_1
      try clear hfz74_2
      try clear hfz80_0
      try clear hfz80_1
      try clear hfz80_2
      try clear hfz85_0
      try clear hfz85_1
      try clear hfz86_0
      try clear hfz86_1
      try clear hfz86_2
      try clear hfz92_0
      try clear hfz92_1
      try clear hfz92_2
      try clear hfz97_0
      try clear hfz97_1
      try clear hfz98_0
      try clear hfz98_1
      try clear hfz98_2
      obtain ⟨x24_3,x146_3,rfl,rfl,HA,HK3,HO_548000,BK515,BK547,BK551,HB⟩:=hrel
      cases gk with
      | zero=>exact absurd HA.out (by simp [acreagelaw08_OrdersSure.l0])
      | succ k3 =>
       have H:=HA.out
       clear HA
       simp only [acreagelaw08_OrdersSure.l0] at H
       by_cases c134:x146_3 < (l2.length:Int)
       ·rw [if_pos c134] at H
        have c134b0:decide (x146_3 < (l2.length:Int))=true:=decide_eq_true c134
        clear c134
        by_cases c135:0≤x146_3
        rotate_left
        ·rw [if_neg c135] at H
         exact absurd H (by simp)
        rw [if_pos c135] at H
        have c135b0:decide (0≤x146_3)=true:=decide_eq_true c135
        clear c135
        by_cases c136:x146_3 < (l2.length:Int)
        rotate_left
        ·rw [if_neg c136] at H
         exact absurd H (by simp)
        rw [if_pos c136] at H
        have c136b0:decide (x146_3 < (l2.length:Int))=true:=decide_eq_true c136
        clear c136
        have H':=Aside0.mk H
        clear H
        have p552:0≤(x146_3:Int):=dA
        have q552:x146_3 < (l2.length:Int):=dA
        obtain ⟨ad552,e552,hx552_0⟩:=Kd.at_int HR2.out x146_3 p552 q552
        cases e552
        replace hx552_0:=hC HB.out hx552_0
        replace p552:=eq_true p552
        replace q552:=eq_true q552
        go_wp2
        go_roundg k3
        case measure=>have:=HJ8.out;have:=HJ43.out;have:=HK3.out;omega
        case rel=>exact ⟨(wrap64 (x24_3+(rd l2 x146_3))),(wrap64 (x146_3+1)),sA,sA,H',⟨by have:=HJ8.out;have:=HJ43.out;have:=HK3.out;omega⟩,⟨by (with_reducible repeat (first|apply Kd.R_alloc|apply Kd.R_drewN|apply Kd.R_drew));exact HO_548000.out⟩,⟨by (with_reducible repeat (first|refine blk_drewN ?_ _|refine blk_drew ?_|refine blk_alloc ?_ _));exact BK515.out⟩,⟨by (with_reducible repeat (first|refine blk_drewN ?_ _|refine blk_drew ?_|refine blk_alloc ?_ _));exact BK547.out⟩,⟨by (with_reducible repeat (first|refine blk_drewN ?_ _|refine blk_drew ?_|refine blk_alloc ?_ _));exact BK551.out⟩,⟨bA⟩⟩
       rw [if_neg c134] at H
       have c134b0:decide (x146_3 < (l2.length:Int))=false:=decide_eq_false c134
       clear c134
       by_cases c137:t546=0
       rotate_left
       ·rw [if_neg c137] at H
        have c137b0:(t546 == 0)=false:=beq_eq_false_iff_ne.mpr c137
        have c137b1:(t546 != 0)=true:=bne_iff_ne.mpr c137
        obtain rfl:=Option.some.inj H
        go_wp2
        go_ret
        exact ⟨by first|rfl|(simp [errW_none,errW_some] <;> rfl)|(simp [*,errW_none,errW_some] <;> rfl),bA⟩
       rw [if_pos c137] at H
       have c137b0:(t546 == 0)=true:=beq_iff_eq.mpr c137
       have c137b1:(t546 != 0)=false:=bne_eq_false_iff_eq.mpr c137
       clear c137
       by_cases c138:t550=0
       rotate_left
       ·rw [if_neg c138] at H
        have c138b0:(t550 == 0)=false:=beq_eq_false_iff_ne.mpr c138
        have c138b1:(t550 != 0)=true:=bne_iff_ne.mpr c138
        obtain rfl:=Option.some.inj H
        go_wp2
        go_ret
        exact ⟨by first|rfl|(simp [errW_none,errW_some] <;> rfl)|(simp [*,errW_none,errW_some] <;> rfl),bA⟩
       rw [if_pos c138] at H
       have c138b0:(t550 == 0)=true:=beq_iff_eq.mpr c138
       have c138b1:(t550 != 0)=false:=bne_eq_false_iff_eq.mpr c138
       clear c138
       by_cases c139:t548≥a5
       rotate_left
       ·rw [if_neg c139] at H
        have c139b0:decide (a5≤t548)=false:=decide_eq_false c139
        clear c139
        by_cases c151:t549≤a4
        ·rw [if_pos c151] at H
         have c151b0:decide (t549≤a4)=true:=decide_eq_true c151
         clear c151
         obtain rfl:=Option.some.inj H
         have hnb152:=NB551_515.out
         have hnc152:=NB515_551.out
         have hnb153:=NB551_547.out
         have hnc153:=NB547_551.out
         obtain ⟨_,_,_,_⟩:=xC2 BK551.out
         go_wp2
         go_ret
         exact ⟨by first|rfl|(simp [errW_none,errW_some] <;> rfl)|(simp [*,errW_none,errW_some] <;> rfl),bA⟩
        rw [if_neg c151] at H
        have c151b0:decide (t549≤a4)=false:=decide_eq_false c151
        clear c151
        obtain rfl:=Option.some.inj H
        have hnb155:=NB551_515.out
        have hnc155:=NB515_551.out
        have hnb156:=NB551_547.out
        have hnc156:=NB547_551.out
        obtain ⟨_,_,_,_⟩:=xC2 BK551.out
        go_wp2
        go_ret
        exact ⟨by first|rfl|(simp [errW_none,errW_some] <;> rfl)|(simp [*,errW_none,errW_some] <;> rfl),bA⟩
       rw [if_pos c139] at H
       have c139b0:decide (a5≤t548)=true:=decide_eq_true c139
       clear c139
       by_cases c140:x24_3≥a5
       ·rw [if_pos c140] at H
        have c140b0:decide (a5≤x24_3)=true:=decide_eq_true c140
        clear c140
        obtain rfl:=Option.some.inj H
        have hnb141:=NB551_515.out
        have hnc141:=NB515_551.out
        have hnb142:=NB551_547.out
        have hnc142:=NB547_551.out
        obtain ⟨_,_,_,_⟩:=xC2 BK551.out
        go_wp2
        go_ret
        exact ⟨by first|rfl|(simp [errW_none,errW_some] <;> rfl)|(simp [*,errW_none,errW_some] <;> rfl),bA⟩
       rw [if_neg c140] at H
       have c140b0:decide (a5≤x24_3)=false:=decide_eq_false c140
       clear c140
       by_cases c144:t549≤a4
       ·rw [if_pos c144] at H
        have c144b0:decide (t549≤a4)=true:=decide_eq_true c144
        clear c144
        obtain rfl:=Option.some.inj H
        have hnb145:=NB551_515.out
        have hnc145:=NB515_551.out
        have hnb146:=NB551_547.out
        have hnc146:=NB547_551.out
        obtain ⟨_,_,_,_⟩:=xC2 BK551.out
        go_wp2
        go_ret
        exact ⟨by first|rfl|(simp [errW_none,errW_some] <;> rfl)|(simp [*,errW_none,errW_some] <;> rfl),bA⟩
       rw [if_neg c144] at H
       have c144b0:decide (t549≤a4)=false:=decide_eq_false c144
       clear c144
       obtain rfl:=Option.some.inj H
       have hnb148:=NB551_515.out
       have hnc148:=NB515_551.out
       have hnb149:=NB551_547.out
       have hnc149:=NB547_551.out
       obtain ⟨_,_,_,_⟩:=xC2 BK551.out
       go_wp2
       go_ret
       exact ⟨by first|rfl|(simp [errW_none,errW_some] <;> rfl)|(simp [*,errW_none,errW_some] <;> rfl),bA⟩
end Go.Proofs.Ythimaecnpkcmeaa.K
