/- Contracts of Go functions and lemmas for them: each theorem states what one function returns and what it leaves of memory; its conditions stand in its statement. -/
import Derived.Test.YthimaecnpkcmeaaA3
import Derived.Test.YthimaecnpkcmeaaA5
import Derived.Test.YthimaecnpkcmeaaA7
set_option linter.unusedVariables false
set_option linter.unusedSimpArgs false
namespace Go.Proofs.Ythimaecnpkcmeaa.K
open Go.RowKit Go.Proofs.YthimaecnpkcmeaaW.PrintWords Go.Proofs.YthimaecnpkcmeaaW.PrintLast Go.Proofs.YthimaecnpkcmeaaW.PrintMore
attribute [local go_sem] max2_int min2_int max_two min_two max_three min_three max_four min_four   -- for this text's walks alone
set_option linter.unusedVariables false
set_option linter.unusedSimpArgs false
mutual
def orders_Measured.j0:Nat→List Int→List Int→Bool→List (S50)→Int→Int→Option ((List (S50)) × Int × Int × Int)
 | 0,_,_,_,_,_,_=>none
 | k+1,x1,x2,x32,x192000,x192001,x192002=>if x32=true then (some (([]:List (S50)),0,0,1)) else ((slices_Clone_Item.f x192000).bind fun t195=>(orders_Measured.l0 k x2 x1 (x1.length:Int) 0 t195 x192001 x192002))
def orders_Measured.l0:Nat→List Int→List Int→Int→Int→List (S50)→Int→Int→Option ((List (S50)) × Int × Int × Int)
 | 0,_,_,_,_,_,_,_=>none
 | k+1,x2,x40,x41,x42,x199000,x199001,x199002=>if x42 < x41 then (if 0≤x42 then (if x42 < (x40.length:Int) then (if 0≤(rd x40 x42) then (if (rd x40 x42) < (x199000.length:Int) then (if x42 < (x2.length:Int) then ((orders_common.f ((rd_T50 x199000 (rd x40 x42)).f0.f0) ((rd_T50 x199000 (rd x40 x42)).f0.f1) (wrap64 ((rd x2 x42) - ((rd_T50 x199000 (rd x40 x42)).f2))) (wrap64 ((rd x2 x42)+((rd_T50 x199000 (rd x40 x42)).f2)))).bind fun bt206=>(if bt206.2.2=true then (orders_Measured.l0 k x2 x40 x41 (wrap64 (x42+1)) (x199000.set ((rd x40 x42):Int).toNat (⟨(⟨bt206.1,bt206.2.1⟩:S24),(rd_T50 x199000 (rd x40 x42)).f1,(rd_T50 x199000 (rd x40 x42)).f2⟩:S50)) x199001 x199002) else (some (([]:List (S50)),0,0,4)))) else (none)) else (none)) else (none)) else (none)) else (none)) else ((orders_all.f k x199000 x199001 x199002).bind fun bt211=>((orders_common.f bt211.1 bt211.2 x199001 x199002).bind fun bt213=>(if bt213.2.2=true then (some (x199000,x199001,x199002,0)) else (some (([]:List (S50)),0,0,4)))))
end
def orders_Measured.f (k:Nat) (l0_0:List (S50)) (a0_1:Int) (a0_2:Int) (l1:List Int) (l2:List Int):Option ((List (S50)) × Int × Int × Int):=(orders_right.f k l0_0 a0_1 a0_2 l1).bind fun t193=>(if t193=0 then (if (l2.length:Int)=(l1.length:Int) then ((slices_ContainsFunc_Measured.f l2).bind fun t194=>(orders_Measured.j0 k l1 l2 t194 l0_0 a0_1 a0_2)) else (orders_Measured.j0 k l1 l2 true l0_0 a0_1 a0_2)) else (some (([]:List (S50)),0,0,t193)))
def orders_Measured.T6:Bool × List (List Nat × List Nat):=(true,[([],[]),([0],[0]),([1],[1]),([],[]),([3],[3]),([2,4],[2,4]),([],[]),([6,5,2,0,1,2,3,4,5,6],[5,6])])
def orders_Measured.B6:List Nat:=[0,1,3,0,8,31,0,127]
theorem orders_Measured.tab6:rtab .any (opsOf Try.f14 6)=orders_Measured.T6:=by kernel_rfl
theorem orders_Measured.bits6:waitsOk orders_Measured.T6.2 orders_Measured.B6=true:=by kernel_rfl
def orders_Measured.T11:Bool × List (List Nat × List Nat):=(true,[([],[]),([0],[0]),([1],[1]),([2],[2]),([],[]),([],[]),([4,5],[4,5]),([6],[6]),([],[]),([8],[8]),([9],[9]),([10],[10]),([7,11],[7,11]),([],[]),([],[]),([13,14],[13,14]),([15],[15]),([],[]),([17],[17]),([18],[18]),([19],[19]),([16,20],[16,20]),([12,21],[12,21]),([3,22],[3,22]),([23],[23]),([24],[24]),([24],[24]),([],[]),([27,25,23,0,1,2,3,4,5,6,7,8,9,10,11,12,13,14,15,16,17,18,19,20,21,22,23,24,25,27],[25,27]),([26,28,0,1,2,3,4,5,6,7,8,9,10,11,12,13,14,15,16,17,18,19,20,21,22,23,24,25,26,27,28],[26])])
def orders_Measured.B11:List Nat:=[0,1,3,7,0,0,48,112,0,256,768,1792,4080,0,0,24576,57344,0,131072,393216,917504,2088960,4194288,8388607,16777215,33554431,33554431,0,201326591,536870911]
theorem orders_Measured.tab11:rtab .any (opsOf Try.f14 11)=orders_Measured.T11:=by kernel_rfl
theorem orders_Measured.bits11:waitsOk orders_Measured.T11.2 orders_Measured.B11=true:=by kernel_rfl
def orders_Measured.T16:Bool × List (List Nat × List Nat):=(true,[([],[]),([0],[0]),([],[]),([2],[2]),([1,3,1],[1,3]),([4],[4]),([5],[5]),([5],[5]),([],[]),([8,6,4,0,1,2,3,4,5,6,8],[6,8]),([7,9,0,1,2,3,4,5,6,7,8,9],[7])])
def orders_Measured.B16:List Nat:=[0,1,0,4,15,31,63,63,0,383,1023]
theorem orders_Measured.tab16:rtab .any (opsOf Try.f14 16)=orders_Measured.T16:=by kernel_rfl
theorem orders_Measured.bits16:waitsOk orders_Measured.T16.2 orders_Measured.B16=true:=by kernel_rfl
set_option maxHeartbeats 8000000 in
set_option maxRecDepth 100000 in
theorem orders_Measured.calls (k:Nat) (A0_0:Option Addr) (c0_0:Nat) (l0_0:List (S50)) (a0_1:Int) (a0_2:Int) (A1:Option Addr) (c1:Nat) (l1:List Int) (A2:Option Addr) (c2:Nat) (l2:List Int) (r1:List (S50)) (r2:Int) (r3:Int) (r4:Int) (w:World) (hr0_0:Kd.C k50 w A0_0 l0_0.length l0_0) (hc0_0:l0_0.length≤c0_0) (hr1:Kd.C (Kd.int .i64) w A1 l1.length l1) (hc1:l1.length≤c1) (hr2:Kd.C (Kd.int .i64) w A2 l2.length l2) (hc2:l2.length≤c2) (h:orders_Measured.f k l0_0 a0_1 a0_2 l1 l2=some (r1,r2,r3,r4)) :
 Calls Try.prog 14 #[.agg #[.slice A0_0 l0_0.length c0_0,.int .i64 a0_1,.int .i64 a0_2],.slice A1 l1.length c1,.slice A2 l2.length c2] w fun e w'=>∃ v0_:Value,e= .returned (.tuple #[.agg #[v0_,.int .i64 r2,.int .i64 r3],.int .i64 r4])∧Kd.R k50 50 w' w.heap.size (fun _=>True) v0_ r1∧Below w.heap.size w w':=by
 have hu26:=Try.underlying26
 have hu24:=Try.underlying24
 have HR0_0:=Aside0.mk hr0_0
 have HC0_0:=Aside0.mk hc0_0
 clear hr0_0 hc0_0
 have HR1:=Aside0.mk hr1
 have HC1:=Aside0.mk hc1
 clear hr1 hc1
 have HR2:=Aside0.mk hr2
 have HC2:=Aside0.mk hc2
 clear hr2 hc2
 have HB:=Aside0.mk (Below.refl w.heap.size w)
 have H:((orders_right.f k l0_0 a0_1 a0_2 l1).bind fun t193=>(if t193=0 then (if (l2.length:Int)=(l1.length:Int) then ((slices_ContainsFunc_Measured.f l2).bind fun t194=>(orders_Measured.j0 k l1 l2 t194 l0_0 a0_1 a0_2)) else (orders_Measured.j0 k l1 l2 true l0_0 a0_1 a0_2)) else (some (([]:List (S50)),0,0,t193))))=some (r1,r2,r3,r4):=h
 clear h
 replace H:=Option.bind_eq_some_iff.mp H
 obtain ⟨t193,A40,H⟩:=H
 replace H:(if t193=0 then (if (l2.length:Int)=(l1.length:Int) then ((slices_ContainsFunc_Measured.f l2).bind fun t194=>(orders_Measured.j0 k l1 l2 t194 l0_0 a0_1 a0_2)) else (orders_Measured.j0 k l1 l2 true l0_0 a0_1 a0_2)) else (some (([]:List (S50)),0,0,t193)))=some (r1,r2,r3,r4):=H
 have A4:=Aside0.mk A40
 clear A40
 by_cases c5:t193=0
 rotate_left
 ·rw [if_neg c5] at H
  have c5b0:(t193 == 0)=false:=beq_eq_false_iff_ne.mpr c5
  have c5b1:(t193 != 0)=true:=bne_iff_ne.mpr c5
  simp only [Option.some.injEq,Prod.mk.injEq] at H
  obtain ⟨rfl,rfl,rfl,rfl⟩:=H
  go_enter Try.func14,Try.ntmps14
  go_wp2_with (first|((with_reducible refine gate_dst (N:=3) rfl ?_);refine bE #[.slice A0_0 l0_0.length c0_0,.int .i64 a0_1,.int .i64 a0_2] 26 ?_;intro gb191 hg w96 hbox hb;have BK191:=qK (hbox);have GW191:=qK ((gS hg:w.heap.size≤gb191));have GE191:=qK ((gS hg:w.heap.size≤gb191));replace HB:=qK (bS hb);clear hb hbox hg)|((with_reducible refine gate_dst (N:=6) rfl ?_);refine bE #[.slice none 0 0,.int .i64 0,.int .i64 0] 26 ?_;intro gb192 hg w97 hbox hb;have BK192:=qK (hbox);have GW192:=qK ((gS hg:w.heap.size≤gb192));have GE192:=qK ((gS hg:w.heap.size≤gb192));replace HB:=qK (bS hb);have NB191_192:=qK ((nL hg BK191.out:gb191≠gb192));have NB192_191:=qK ((nG hg BK191.out:gb192≠gb191));replace BK191:=qK (bB BK191.out hb);clear hb hbox hg;have hnb98:=NB191_192.out;have hnc98:=NB192_191.out;obtain ⟨_,_,_,_,_,_⟩:=xC3 BK191.out)|((with_reducible refine gate_callee (f:=49) rfl ?_);refine gL (some 19) Try.func49 #[.agg #[.slice A0_0 l0_0.length c0_0,.int .i64 a0_1,.int .i64 a0_2],.slice A1 l1.length c1] ?_;(with_reducible refine (orders_right.calls k _ _ l0_0 a0_1 a0_2 _ _ l1 t193 _ ?side1 ?side2 ?side3 ?side4 A4.out).mono ?_);(case side1=>exact cS HR0_0.out);(case side2=>exact HC0_0.out);(case side3=>exact cS HR1.out);(case side4=>exact HC1.out);rintro e w100 ⟨rfl,hb⟩;refine ⟨_,rfl,?_⟩;replace BK191:=qK (bB BK191.out hb);replace BK192:=qK (bB BK192.out hb);replace HB:=qK (bS hb);obtain ⟨_,_,_,_,_,_⟩:=xC3 BK192.out))
  refine bodyPost_ret (results_ct rfl _ _ gb192 26 #[.slice none 0 0,.int .i64 0,.int .i64 0] (0,0) _ rfl (by (with_reducible repeat (first|refine blk_drewN ?_ _|refine blk_drew ?_|refine blk_alloc ?_ _));refine blk_put (cs:=#[.slice none 0 0,.int .i64 0,.int .i64 0]) ?_ 2 _ rfl;(with_reducible repeat (first|refine blk_drewN ?_ _|refine blk_drew ?_|refine blk_alloc ?_ _));refine blk_put (cs:=#[.slice none 0 0,.int .i64 0,.int .i64 0]) ?_ 1 _ rfl;(with_reducible repeat (first|refine blk_drewN ?_ _|refine blk_drew ?_|refine blk_alloc ?_ _));refine blk_put (cs:=#[.slice none 0 0,.int .i64 0,.int .i64 0]) ?_ 0 _ rfl;(with_reducible repeat (first|refine blk_drewN ?_ _|refine blk_drew ?_|refine blk_alloc ?_ _));exact BK192.out) Try.underlying26 rfl (by kernel_rfl)) rfl ?_
  exact ⟨_,by first|rfl|(simp [errW_none,errW_some] <;> rfl)|(simp [*,errW_none,errW_some] <;> rfl),by first|exact Kd.R_nil _ _ _ _ _|exact Kd.N_nil _ _ _ _ _|exact Kd.V_nil _ _ _ _ _|exact Kd.Q_nil _ _ _ _ _|exact Kd.S_nil _ _ _ _ _,bA⟩
 rw [if_pos c5] at H
 have c5b0:(t193 == 0)=true:=beq_iff_eq.mpr c5
 have c5b1:(t193 != 0)=false:=bne_eq_false_iff_eq.mpr c5
 clear c5
 have HC6:=Aside0.mk H
 clear H
 go_enter Try.func14,Try.ntmps14
 go_upto_region 4 with (first|((with_reducible refine gate_dst (N:=3) rfl ?_);refine bE #[.slice A0_0 l0_0.length c0_0,.int .i64 a0_1,.int .i64 a0_2] 26 ?_;intro gb191 hg w7 hbox hb;have BK191:=qK (hbox);have GW191:=qK ((gS hg:w.heap.size≤gb191));have GE191:=qK ((gS hg:w.heap.size≤gb191));replace HB:=qK (bS hb);clear hb hbox hg)|((with_reducible refine gate_dst (N:=6) rfl ?_);refine bE #[.slice none 0 0,.int .i64 0,.int .i64 0] 26 ?_;intro gb192 hg w8 hbox hb;have BK192:=qK (hbox);have GW192:=qK ((gS hg:w.heap.size≤gb192));have GE192:=qK ((gS hg:w.heap.size≤gb192));replace HB:=qK (bS hb);have NB191_192:=qK ((nL hg BK191.out:gb191≠gb192));have NB192_191:=qK ((nG hg BK191.out:gb192≠gb191));replace BK191:=qK (bB BK191.out hb);clear hb hbox hg;have hnb9:=NB191_192.out;have hnc9:=NB192_191.out;obtain ⟨hcz10_0,hcz10_1,hcz10_2,hfz10_0,hfz10_1,hfz10_2⟩:=xC3 BK191.out)|((with_reducible refine gate_callee (f:=49) rfl ?_);refine gL (some 19) Try.func49 #[.agg #[.slice A0_0 l0_0.length c0_0,.int .i64 a0_1,.int .i64 a0_2],.slice A1 l1.length c1] ?_;(with_reducible refine (orders_right.calls k _ _ l0_0 a0_1 a0_2 _ _ l1 t193 _ ?side1 ?side2 ?side3 ?side4 A4.out).mono ?_);(case side1=>exact cS HR0_0.out);(case side2=>exact HC0_0.out);(case side3=>exact cS HR1.out);(case side4=>exact HC1.out);rintro e w11 ⟨rfl,hb⟩;refine ⟨_,rfl,?_⟩;replace BK191:=qK (bB BK191.out hb);replace BK192:=qK (bB BK192.out hb);replace HB:=qK (bS hb)))
 (try simp only [Act.put,List.setIfInBounds_toArray,List.set_cons_zero,List.set_cons_succ])
 go_cut [32] (fun v32 wc=>∃ (kq:Nat) (x32_5:Bool),v32= .bool x32_5∧Aside0 (orders_Measured.j0 kq l1 l2 x32_5 l0_0 a0_1 a0_2=some (r1,r2,r3,r4))∧Aside0 (kq≤k)∧Aside0 (wc.heap[gb191]? = some (.cells #[(.slice A0_0 l0_0.length c0_0),.int .i64 a0_1,.int .i64 a0_2] 26 (0,0)))∧Aside0 (wc.heap[gb192]? = some (.cells #[(.slice none 0 0),.int .i64 0,.int .i64 0] 26 (0,0)))∧Aside0 (Below w.heap.size w wc))
 case first =>
  have H:=HC6.out
  clear HC6
  by_cases c12:(l2.length:Int)=(l1.length:Int)
  rotate_left
  ·rw [if_neg c12] at H
   have c12b0:((l2.length:Int) == (l1.length:Int))=false:=beq_eq_false_iff_ne.mpr c12
   have c12b1:((l2.length:Int) != (l1.length:Int))=true:=bne_iff_ne.mpr c12
   have c12b2:(l2.length == l1.length)=false:=by first|simpa using c12|(simp at c12 ⊢;omega)
   (first|rw [c12b0]|(simp only [i64_w,i32_w];rw [c12b0])|skip)
   have H':=Aside0.mk H
   clear H
   go_wp2
   go_meet
   case rel=>exact ⟨_,(true),sA,H',⟨by first|omega|exact Nat.le_refl _⟩,⟨by (with_reducible repeat (first|refine blk_drewN ?_ _|refine blk_drew ?_|refine blk_alloc ?_ _));exact BK191.out⟩,⟨by (with_reducible repeat (first|refine blk_drewN ?_ _|refine blk_drew ?_|refine blk_alloc ?_ _));exact BK192.out⟩,⟨bA⟩⟩
  rw [if_pos c12] at H
  have c12b0:((l2.length:Int) == (l1.length:Int))=true:=beq_iff_eq.mpr c12
  have c12b1:((l2.length:Int) != (l1.length:Int))=false:=bne_eq_false_iff_eq.mpr c12
  have c12b2:(l2.length == l1.length)=true:=by first|simpa using c12|(simp at c12 ⊢;omega)
  clear c12
  (first|rw [c12b0]|(simp only [i64_w,i32_w];rw [c12b0])|skip)
  replace H:=Option.bind_eq_some_iff.mp H
  obtain ⟨t194,A130,H⟩:=H
  replace H:(orders_Measured.j0 k l1 l2 t194 l0_0 a0_1 a0_2)=some (r1,r2,r3,r4):=H
  have A13:=Aside0.mk A130
  clear A130
  have H':=Aside0.mk H
  clear H
  go_wp2_with (first|(go_at_call 50;(with_reducible refine (slices_ContainsFunc_Measured.calls _ _ l2 t194 _ ?side1 ?side2 A13.out).mono ?_);(case side1=>exact cS HR2.out);(case side2=>exact HC2.out);rintro e w' ⟨rfl,⟨nd,rfl⟩⟩))
  go_meet
  case rel=>exact ⟨_,(t194),sA,H',⟨by first|omega|exact Nat.le_refl _⟩,⟨by (with_reducible repeat (first|refine blk_drewN ?_ _|refine blk_drew ?_|refine blk_alloc ?_ _));exact BK191.out⟩,⟨by (with_reducible repeat (first|refine blk_drewN ?_ _|refine blk_drew ?_|refine blk_alloc ?_ _));exact BK192.out⟩,⟨bA⟩⟩
 case rest =>
  clear HC6
  try clear c1
  try clear c2
  try clear p2
  try clear c4
  try clear c5
  try clear c5b0
  try clear c5b1
  try clear c9
  try clear c12
  try clear c12b0
  try clear c12b1
  try clear c12b2
  try clear hcz10_0
  try clear hcz10_1
  try clear hcz10_2
  try clear hfz10_0
  try clear hfz10_1
  try clear hfz10_2
  obtain ⟨kq,x32_5,rfl,HA,HJ5,BK191,BK192,HB⟩:=hcut
  cases kq with
  | zero=>exact absurd HA.out (by simp [orders_Measured.j0])
  | succ kj5 =>
   have H:=HA.out
   clear HA
   simp only [orders_Measured.j0] at H
   by_cases c14:x32_5=true
   ·subst c14
    have H1:(some (([]:List (S50)),0,0,1))=some (r1,r2,r3,r4):=by rw [if_pos rfl] at H;exact H
    clear H
    have H:=H1
    clear H1
    simp only [Option.some.injEq,Prod.mk.injEq] at H
    obtain ⟨rfl,rfl,rfl,rfl⟩:=H
    have hnb15:=NB192_191.out
    have hnc15:=NB191_192.out
    obtain ⟨hcz16_0,hcz16_1,hcz16_2,hfz16_0,hfz16_1,hfz16_2⟩:=xC3 BK192.out
    go_wp2
    refine bodyPost_ret (results_ct rfl _ _ gb192 26 #[.slice none 0 0,.int .i64 0,.int .i64 0] (0,0) _ rfl (by (with_reducible repeat (first|refine blk_drewN ?_ _|refine blk_drew ?_|refine blk_alloc ?_ _));refine blk_put (cs:=#[.slice none 0 0,.int .i64 0,.int .i64 0]) ?_ 2 _ rfl;(with_reducible repeat (first|refine blk_drewN ?_ _|refine blk_drew ?_|refine blk_alloc ?_ _));refine blk_put (cs:=#[.slice none 0 0,.int .i64 0,.int .i64 0]) ?_ 1 _ rfl;(with_reducible repeat (first|refine blk_drewN ?_ _|refine blk_drew ?_|refine blk_alloc ?_ _));refine blk_put (cs:=#[.slice none 0 0,.int .i64 0,.int .i64 0]) ?_ 0 _ rfl;(with_reducible repeat (first|refine blk_drewN ?_ _|refine blk_drew ?_|refine blk_alloc ?_ _));exact BK192.out) Try.underlying26 rfl (by kernel_rfl)) rfl ?_
    exact ⟨_,by first|rfl|(simp [errW_none,errW_some] <;> rfl)|(simp [*,errW_none,errW_some] <;> rfl),by first|exact Kd.R_nil _ _ _ _ _|exact Kd.N_nil _ _ _ _ _|exact Kd.V_nil _ _ _ _ _|exact Kd.Q_nil _ _ _ _ _|exact Kd.S_nil _ _ _ _ _,bA⟩
   replace c14:=Bool.eq_false_iff.mpr c14
   subst c14
   have H1:((slices_Clone_Item.f l0_0).bind fun t195=>(orders_Measured.l0 kj5 l2 l1 (l1.length:Int) 0 t195 a0_1 a0_2))=some (r1,r2,r3,r4):=by rw [if_neg (show ¬ (false=true) by decide)] at H;exact H
   clear H
   have H:=H1
   clear H1
   replace H:=Option.bind_eq_some_iff.mp H
   obtain ⟨t195,A170,H⟩:=H
   replace H:(orders_Measured.l0 kj5 l2 l1 (l1.length:Int) 0 t195 a0_1 a0_2)=some (r1,r2,r3,r4):=H
   have A17:=Aside0.mk A170
   clear A170
   have H':=Aside0.mk H
   clear H
   try go_wp2
   replace BK191:=qK (blk_drew BK191.out)
   replace BK192:=qK (blk_drew BK192.out)
   replace HB:=qK (below_drew1 HB.out)
   refine start_ (n:=8) (S:=fun w'=>w'.cell? ⟨gb191,0,none⟩=some (.slice A0_0 l0_0.length c0_0)∧w'.cell? ⟨gb191,1,none⟩=some (.int .i64 a0_1)∧w'.cell? ⟨gb191,2,none⟩=some (.int .i64 a0_2)) (ds:=[]) #[false,false,false,false,false,false,false,false] (by kernel_rfl) rfl rfl ⟨(blk_cell BK191.out 0).trans rfl,(blk_cell BK191.out 1).trans rfl,(blk_cell BK191.out 2).trans rfl⟩ (fun hHeld=>?_);refine with_tabW orders_Measured.tab6 orders_Measured.bits6 (fun HT_ HW_=>?_)
   generalize wc.drew=w18 at BK191 BK192 HB hHeld ⊢
   refine pP 0 (some 34) HT_ ?_
   refine pP 3 (some 37) HT_ ?_
   refine tP 1 (some 35) HT_ HW_ hHeld ?_
   refine tP 4 (some 38) HT_ HW_ hHeld ?_
   refine join_ (σ:=Value × Nat) 1 #[true,true,true,true,true,true,true,false] (fun s_=>[(36,s_.1),(9,.pointer (some ⟨s_.2,0,none⟩)),(39,.agg #[s_.1,.int .i64 a0_1,.int .i64 a0_2])]) (fun s_ w'=>(w'.cell? ⟨gb191,0,none⟩=some (.slice A0_0 l0_0.length c0_0)∧w'.cell? ⟨gb191,1,none⟩=some (.int .i64 a0_1)∧w'.cell? ⟨gb191,2,none⟩=some (.int .i64 a0_2))∧(Kd.R k50 50 w' w.heap.size (fun _=>True) s_.1 t195)∧(w'.heap[gb191]? = some (.cells #[.slice A0_0 l0_0.length c0_0,.int .i64 a0_1,.int .i64 a0_2] 26 (0,0)))∧(w'.heap[gb192]? = some (.cells #[.slice none 0 0,.int .i64 0,.int .i64 0] 26 (0,0)))∧(w'.heap[s_.2]? = some (.cells #[.slice none 0 0,.int .i64 0,.int .i64 0] 26 (0,0)))∧(w.heap.size≤s_.2)∧(w.heap.size≤s_.2)∧(gb191≠s_.2)∧(s_.2≠gb191)∧(gb192≠s_.2)∧(s_.2≠gb192)∧(Below w.heap.size w w')) ?_ ?_
   rotate_left
   ·intro hCont
    refine two_ (i:=2) (j:=6) (Ni:=some 36) (Nj:=some 9) #[true,true,true,true,true,false,false,false] #[true,true,false,true,true,false,true,false] rfl rfl rfl rfl (two_of HT_.out (by kernel_rfl)) (by decide) (by decide) (fun K hK=>?_) (fun K hK=>?_)
    ·skip
     refine gO Try.func22 #[.slice A0_0 l0_0.length c0_0] ?_
     with_reducible refine (slices_Clone_Item.calls _ _ l0_0 t195 _ ?side1 ?side2 A17.out).mono ?_
     (case side1=>exact cS HR0_0.out)
     (case side2=>exact HC0_0.out)
     rintro e w19 ⟨v196,rfl,ho0,hb⟩
     refine ⟨_,rfl,?_⟩
     have HO197:=qK (Kd.R_lower ho0 bZ)
     replace BK191:=qK (bB BK191.out hb)
     replace BK192:=qK (bB BK192.out hb)
     replace HB:=qK (bS hb)
     (try clear hb)
     (try clear hb2)
     (try clear hk)
     (try clear hi)
     (try clear ho0)
     obtain ⟨Ao20,co20,eo20⟩:=Kd.R_slice HO197.out
     (first|subst eo20|(injection eo20 with f1_ f2_ f3_;have f4_:=f1_.symm;have f5_:=f3_.symm;clear f1_ f2_ f3_;subst f4_;subst f5_))
     refine hK.out _ _ ⟨(blk_cell BK191.out 0).trans rfl,(blk_cell BK191.out 1).trans rfl,(blk_cell BK191.out 2).trans rfl⟩ (fun hHeld=>?_)
     clear hK K
     refine nP ?_
     refine pP 5 (some 39) HT_ ?_
     refine oP 6 (some 9) HT_ (fun K hK=>?_)
     refine box_step ?hg (N:=9) ?hd (cs:=#[.slice none 0 0,.int .i64 0,.int .i64 0]) (t:=26) ?hr ?_;(case hd=>rfl);(case hg=>rfl);(case hr=>first|(go_simp;done)|(go_simp;rfl))
     intro gb198 hg w21 hbox hb
     replace HO197:=qK (Kd.R_below (rS HO197.out) hb)
     have BK198:=qK (hbox)
     have GW198:=qK ((gS hg:w.heap.size≤gb198))
     have GE198:=qK ((gS hg:w.heap.size≤gb198))
     replace HB:=qK (bS hb)
     have NB191_198:=qK ((nL hg BK191.out:gb191≠gb198))
     have NB198_191:=qK ((nG hg BK191.out:gb198≠gb191))
     replace BK191:=qK (bB BK191.out hb)
     have NB192_198:=qK ((nL hg BK192.out:gb192≠gb198))
     have NB198_192:=qK ((nG hg BK192.out:gb198≠gb192))
     replace BK192:=qK (bB BK192.out hb)
     clear hb hbox hg
     refine hK.out _ _ ⟨(blk_cell BK191.out 0).trans rfl,(blk_cell BK191.out 1).trans rfl,(blk_cell BK191.out 2).trans rfl⟩ (fun hHeld=>?_)
     clear hK K
     refine nP ?_
     exact norm_ (by simp only [putAll,Act.put,List.setIfInBounds_toArray,List.set_cons_zero,List.set_cons_succ]) (hCont (.slice Ao20 t195.length co20,gb198) _ ⟨hHeld,(rS HO197.out),(bX BK191.out),(bX BK192.out),(bX BK198.out),GW198.out,GE198.out,NB191_198.out,NB198_191.out,NB192_198.out,NB198_192.out,bA⟩)
    ·skip
     refine box_step ?hg (N:=9) ?hd (cs:=#[.slice none 0 0,.int .i64 0,.int .i64 0]) (t:=26) ?hr ?_;(case hd=>rfl);(case hg=>rfl);(case hr=>first|(go_simp;done)|(go_simp;rfl))
     intro gb198 hg w19 hbox hb
     have BK198:=qK (hbox)
     have GW198:=qK ((gS hg:w.heap.size≤gb198))
     have GE198:=qK ((gS hg:w.heap.size≤gb198))
     replace HB:=qK (bS hb)
     have NB191_198:=qK ((nL hg BK191.out:gb191≠gb198))
     have NB198_191:=qK ((nG hg BK191.out:gb198≠gb191))
     replace BK191:=qK (bB BK191.out hb)
     have NB192_198:=qK ((nL hg BK192.out:gb192≠gb198))
     have NB198_192:=qK ((nG hg BK192.out:gb198≠gb192))
     replace BK192:=qK (bB BK192.out hb)
     clear hb hbox hg
     refine hK.out _ _ ⟨(blk_cell BK191.out 0).trans rfl,(blk_cell BK191.out 1).trans rfl,(blk_cell BK191.out 2).trans rfl⟩ (fun hHeld=>?_)
     clear hK K
     refine nP ?_
     refine oP 2 (some 36) HT_ (fun K hK=>?_)
     refine gO Try.func22 #[.slice A0_0 l0_0.length c0_0] ?_
     with_reducible refine (slices_Clone_Item.calls _ _ l0_0 t195 _ ?side1 ?side2 A17.out).mono ?_
     (case side1=>exact cS HR0_0.out)
     (case side2=>exact HC0_0.out)
     rintro e w20 ⟨v196,rfl,ho0,hb⟩
     refine ⟨_,rfl,?_⟩
     have HO197:=qK (Kd.R_lower ho0 bZ)
     replace BK191:=qK (bB BK191.out hb)
     replace BK192:=qK (bB BK192.out hb)
     replace BK198:=qK (bB BK198.out hb)
     replace HB:=qK (bS hb)
     (try clear hb)
     (try clear hb2)
     (try clear hk)
     (try clear hi)
     (try clear ho0)
     obtain ⟨Ao21,co21,eo21⟩:=Kd.R_slice HO197.out
     (first|subst eo21|(injection eo21 with f1_ f2_ f3_;have f4_:=f1_.symm;have f5_:=f3_.symm;clear f1_ f2_ f3_;subst f4_;subst f5_))
     refine hK.out _ _ ⟨(blk_cell BK191.out 0).trans rfl,(blk_cell BK191.out 1).trans rfl,(blk_cell BK191.out 2).trans rfl⟩ (fun hHeld=>?_)
     clear hK K
     refine nP ?_
     refine pP 5 (some 39) HT_ ?_
     exact norm_ (by simp only [putAll,Act.put,List.setIfInBounds_toArray,List.set_cons_zero,List.set_cons_succ]) (hCont (.slice Ao21 t195.length co21,gb198) _ ⟨hHeld,(rS HO197.out),(bX BK191.out),(bX BK192.out),(bX BK198.out),GW198.out,GE198.out,NB191_198.out,NB198_191.out,NB192_198.out,NB198_192.out,bA⟩)
   rintro ⟨v196,gb198⟩ w22 ⟨hS_,h0_,h1_,h2_,h3_,h4_,h5_,h6_,h7_,h8_,h9_,h10_⟩
   have n0_:Aside0 (Kd.R k50 50 w22 w.heap.size (fun _=>True) v196 t195):=⟨h0_⟩
   have n1_:Aside0 (w22.heap[gb191]? = some (.cells #[.slice A0_0 l0_0.length c0_0,.int .i64 a0_1,.int .i64 a0_2] 26 (0,0))):=⟨h1_⟩
   have n2_:Aside0 (w22.heap[gb192]? = some (.cells #[.slice none 0 0,.int .i64 0,.int .i64 0] 26 (0,0))):=⟨h2_⟩
   have n3_:Aside0 (w22.heap[gb198]? = some (.cells #[.slice none 0 0,.int .i64 0,.int .i64 0] 26 (0,0))):=⟨h3_⟩
   have n4_:Aside0 (w.heap.size≤gb198):=⟨h4_⟩
   have n5_:Aside0 (w.heap.size≤gb198):=⟨h5_⟩
   have n6_:Aside0 (gb191≠gb198):=⟨h6_⟩
   have n7_:Aside0 (gb198≠gb191):=⟨h7_⟩
   have n8_:Aside0 (gb192≠gb198):=⟨h8_⟩
   have n9_:Aside0 (gb198≠gb192):=⟨h9_⟩
   have n10_:Aside0 (Below w.heap.size w w22):=⟨h10_⟩
   clear BK191
   clear BK192
   clear HB
   clear h0_ h1_ h2_ h3_ h4_ h5_ h6_ h7_ h8_ h9_ h10_
   have HO197:=n0_
   have BK191:=n1_
   have BK192:=n2_
   have BK198:=n3_
   have GW198:=n4_
   have GE198:=n5_
   have NB191_198:=n6_
   have NB198_191:=n7_
   have NB192_198:=n8_
   have NB198_192:=n9_
   have HB:=n10_
   clear n0_ n1_ n2_ n3_ n4_ n5_ n6_ n7_ n8_ n9_ n10_
   have hHeld:w22.cell? ⟨gb191,0,none⟩=some (.slice A0_0 l0_0.length c0_0)∧w22.cell? ⟨gb191,1,none⟩=some (.int .i64 a0_1)∧w22.cell? ⟨gb191,2,none⟩=some (.int .i64 a0_2):=hS_
   obtain ⟨Ao23,co23,eo23⟩:=Kd.R_slice HO197.out
   (first|subst eo23|(injection eo23 with f1_ f2_ f3_;have f4_:=f1_.symm;have f5_:=f3_.symm;clear f1_ f2_ f3_;subst f4_;subst f5_))
   refine norm_ (a':=?_) ?_ ?_
   rotate_left
   ·simp only [putAll,Act.put,List.setIfInBounds_toArray,List.set_cons_zero,List.set_cons_succ]
    rfl
   refine oP 7 none HT_ (fun K hK=>?_)
   have hs24:w22.cell? ⟨gb198,0,none⟩=some (.slice none 0 0):=(blk_cell BK198.out 0).trans rfl
   have hfs24:=blk_frozen BK198.out 0
   have hns24_0:=NB191_198.out
   have hns24_1:=NB192_198.out
   have hms24_0:=NB198_191.out
   have hms24_1:=NB198_192.out
   have hs25:w22.cell? ⟨gb198,1,none⟩=some (.int .i64 0):=(blk_cell BK198.out 1).trans rfl
   have hfs25:=blk_frozen BK198.out 1
   have hns25_0:=NB191_198.out
   have hns25_1:=NB192_198.out
   have hms25_0:=NB198_191.out
   have hms25_1:=NB198_192.out
   have hs26:w22.cell? ⟨gb198,2,none⟩=some (.int .i64 0):=(blk_cell BK198.out 2).trans rfl
   have hfs26:=blk_frozen BK198.out 2
   have hns26_0:=NB191_198.out
   have hns26_1:=NB192_198.out
   have hms26_0:=NB198_191.out
   have hms26_1:=NB198_192.out
   refine skip_ (w1:=?_) (by rfl) rfl ?_ ?_
   rotate_left
   ·go_simp
    rfl
   refine hK.out _ _ ⟨((cell_far (p:=⟨gb198,_,none⟩) NB191_198.out _).trans (((cell_far (p:=⟨gb198,_,none⟩) NB191_198.out _).trans (((cell_far (p:=⟨gb198,_,none⟩) NB191_198.out _).trans (hHeld.1)))))),((cell_far (p:=⟨gb198,_,none⟩) NB191_198.out _).trans (((cell_far (p:=⟨gb198,_,none⟩) NB191_198.out _).trans (((cell_far (p:=⟨gb198,_,none⟩) NB191_198.out _).trans (hHeld.2.1)))))),((cell_far (p:=⟨gb198,_,none⟩) NB191_198.out _).trans (((cell_far (p:=⟨gb198,_,none⟩) NB191_198.out _).trans (((cell_far (p:=⟨gb198,_,none⟩) NB191_198.out _).trans (hHeld.2.2))))))⟩ (fun hHeld=>?_)
   clear hK K
   refine done_ (done_of HT_.out (by kernel_rfl)) ?_
   try go_wp2
   go_loopg [42] kj5 (fun kq v42 w'=>∃ (x42_2:Int) (x193001_2:Int) (x193002_2:Int) (x199000_2:List (S50)) (u199000:Value),v42= .int .i64 x42_2∧Aside0 (orders_Measured.l0 kq l2 l1 (l1.length:Int) x42_2 x199000_2 a0_1 a0_2=some (r1,r2,r3,r4))∧Aside0 (kq≤kj5)∧Aside0 (Kd.R k50 50 w' w.heap.size (fun _=>True) u199000 x199000_2)∧Aside0 (w'.heap[gb191]? = some (.cells #[(.slice A0_0 l0_0.length c0_0),.int .i64 a0_1,.int .i64 a0_2] 26 (0,0)))∧Aside0 (w'.heap[gb192]? = some (.cells #[(.slice none 0 0),.int .i64 x193001_2,.int .i64 x193002_2] 26 (0,0)))∧Aside0 (w'.heap[gb198]? = some (.cells #[u199000,.int .i64 a0_1,.int .i64 a0_2] 26 (0,0)))∧Aside0 (Below w.heap.size w w'))
   case atStart=>exact ⟨(0),(0),(0),(t195),(.slice Ao23 t195.length co23),sA,H',⟨Nat.le_refl _⟩,⟨by (with_reducible repeat (first|apply Kd.R_alloc|apply Kd.R_drewN|apply Kd.R_drew));exact Kd.R_mono (Kd.R_far (p:=⟨gb198,2,none⟩) (Kd.R_far (p:=⟨gb198,1,none⟩) (Kd.R_far (p:=⟨gb198,0,none⟩) (Kd.R_types HO197.out BK198.out (by decide)) (fun _ hk=>hk.2) (.slice Ao23 t195.length co23)) (fun _ hk=>hk.2) (.int .i64 a0_1)) (fun _ hk=>hk.2) (.int .i64 a0_2)) (fun _ hk=>trivial)⟩,⟨by (with_reducible repeat (first|refine blk_drewN ?_ _|refine blk_drew ?_|refine blk_alloc ?_ _));refine blk_far ?_ NB191_198.out _;(with_reducible repeat (first|refine blk_drewN ?_ _|refine blk_drew ?_|refine blk_alloc ?_ _));refine blk_far ?_ NB191_198.out _;(with_reducible repeat (first|refine blk_drewN ?_ _|refine blk_drew ?_|refine blk_alloc ?_ _));refine blk_far ?_ NB191_198.out _;(with_reducible repeat (first|refine blk_drewN ?_ _|refine blk_drew ?_|refine blk_alloc ?_ _));exact BK191.out⟩,⟨by (with_reducible repeat (first|refine blk_drewN ?_ _|refine blk_drew ?_|refine blk_alloc ?_ _));refine blk_far ?_ NB192_198.out _;(with_reducible repeat (first|refine blk_drewN ?_ _|refine blk_drew ?_|refine blk_alloc ?_ _));refine blk_far ?_ NB192_198.out _;(with_reducible repeat (first|refine blk_drewN ?_ _|refine blk_drew ?_|refine blk_alloc ?_ _));refine blk_far ?_ NB192_198.out _;(with_reducible repeat (first|refine blk_drewN ?_ _|refine blk_drew ?_|refine blk_alloc ?_ _));exact BK192.out⟩,⟨by (with_reducible repeat (first|refine blk_drewN ?_ _|refine blk_drew ?_|refine blk_alloc ?_ _));refine blk_put (cs:=#[.slice Ao23 t195.length co23,.int .i64 a0_1,.int .i64 0]) ?_ 2 _ rfl;(with_reducible repeat (first|refine blk_drewN ?_ _|refine blk_drew ?_|refine blk_alloc ?_ _));refine blk_put (cs:=#[.slice Ao23 t195.length co23,.int .i64 0,.int .i64 0]) ?_ 1 _ rfl;(with_reducible repeat (first|refine blk_drewN ?_ _|refine blk_drew ?_|refine blk_alloc ?_ _));refine blk_put (cs:=#[.slice none 0 0,.int .i64 0,.int .i64 0]) ?_ 0 _ rfl;(with_reducible repeat (first|refine blk_drewN ?_ _|refine blk_drew ?_|refine blk_alloc ?_ _));exact BK198.out⟩,⟨bA⟩⟩
   case round =>
    clear H'
    try clear c1
    try clear c2
    try clear p2
    try clear c4
    try clear c5
    try clear c5b0
    try clear c5b1
    try clear c9
    try clear c12
    try clear c12b0
    try clear c12b1
    try clear c12b2
    try clear c14
    try clear c15
    try clear c22
    try clear hcz10_0
    try clear hcz10_1
    try clear hcz10_2
    try clear hcz16_0
    try clear hcz16_1
    try clear hcz16_2
    try clear hfz10_0
    try clear hfz10_1
    try clear hfz10_2
    try clear hfz16_0
    try clear hfz16_1
    try clear hfz16_2
    try clear p2
    obtain ⟨x42_2,x193001_2,x193002_2,x199000_2,u199000,rfl,HA,HK2,HO_199000,BK191,BK192,BK198,HB⟩:=hrel
    cases gk with
    | zero=>exact absurd HA.out (by simp [orders_Measured.l0])
    | succ k2 =>
     have H:=HA.out
     clear HA
     simp only [orders_Measured.l0] at H
     by_cases c27:x42_2 < (l1.length:Int)
     rotate_left
     ·rw [if_neg c27] at H
      have c27b0:decide (x42_2 < (l1.length:Int))=false:=decide_eq_false c27
      clear c27
      replace H:=Option.bind_eq_some_iff.mp H
      obtain ⟨⟨t211,t212⟩,A660,H⟩:=H
      replace H:((orders_common.f t211 t212 a0_1 a0_2).bind fun bt213=>(if bt213.2.2=true then (some (x199000_2,a0_1,a0_2,0)) else (some (([]:List (S50)),0,0,4))))=some (r1,r2,r3,r4):=H
      have A66:=Aside0.mk A660
      clear A660
      replace H:=Option.bind_eq_some_iff.mp H
      obtain ⟨⟨t213,t214,t215⟩,A670,H⟩:=H
      replace H:(if t215=true then (some (x199000_2,a0_1,a0_2,0)) else (some (([]:List (S50)),0,0,4)))=some (r1,r2,r3,r4):=H
      have A67:=Aside0.mk A670
      clear A670
      by_cases c68:t215=true
      rotate_left
      ·replace c68:=Bool.eq_false_iff.mpr c68
       subst c68
       have H1:(some (([]:List (S50)),0,0,4))=some (r1,r2,r3,r4):=by rw [if_neg (show ¬ (false=true) by decide)] at H;exact H
       clear H
       have H:=H1
       clear H1
       simp only [Option.some.injEq,Prod.mk.injEq] at H
       obtain ⟨rfl,rfl,rfl,rfl⟩:=H
       obtain ⟨Ao84,co84,eo84⟩:=Kd.R_slice HO_199000.out
       subst eo84
       try go_wp2
       replace HO_199000:=qK (Kd.R_drew HO_199000.out)
       replace BK191:=qK (blk_drew BK191.out)
       replace BK192:=qK (blk_drew BK192.out)
       replace BK198:=qK (blk_drew BK198.out)
       replace HB:=qK (below_drew1 HB.out)
       refine start_ (n:=11) (S:=fun w'=>w'.cell? ⟨gb198,0,none⟩=some (.slice Ao84 x199000_2.length co84)∧w'.cell? ⟨gb198,1,none⟩=some (.int .i64 a0_1)∧w'.cell? ⟨gb198,2,none⟩=some (.int .i64 a0_2)) (ds:=[]) #[false,false,false,false,false,false,false,false,false,false,false] (by kernel_rfl) rfl rfl ⟨(blk_cell BK198.out 0).trans rfl,(blk_cell BK198.out 1).trans rfl,(blk_cell BK198.out 2).trans rfl⟩ (fun hHeld=>?_);refine with_tabW orders_Measured.tab16 orders_Measured.bits16 (fun HT_ HW_=>?_)
       generalize wr.drew=w85 at HO_199000 BK191 BK192 BK198 HB hHeld ⊢
       refine pP 2 (some 89) HT_ ?_
       refine tP 0 (some 87) HT_ HW_ hHeld ?_
       refine tP 3 (some 90) HT_ HW_ hHeld ?_
       refine join_ (σ:=Nat) 2 #[true,true,true,true,true,true,true,true,true,false,false] (fun s_=>[(88,.agg #[.int .i64 t211,.int .i64 t212]),(91,.tuple #[.agg #[.int .i64 t213,.int .i64 t214],.bool false]),(15,.pointer (some ⟨s_,0,none⟩)),(86,.tuple #[.agg #[.int .i64 t213,.int .i64 t214],.bool false]),(92,.agg #[.int .i64 t213,.int .i64 t214]),(93,.bool false)]) (fun s_ w'=>(w'.cell? ⟨gb198,0,none⟩=some (.slice Ao84 x199000_2.length co84)∧w'.cell? ⟨gb198,1,none⟩=some (.int .i64 a0_1)∧w'.cell? ⟨gb198,2,none⟩=some (.int .i64 a0_2))∧(Kd.R k50 50 w' w.heap.size (fun _=>True) (.slice Ao84 x199000_2.length co84) x199000_2)∧(w'.heap[gb191]? = some (.cells #[.slice A0_0 l0_0.length c0_0,.int .i64 a0_1,.int .i64 a0_2] 26 (0,0)))∧(w'.heap[gb192]? = some (.cells #[.slice none 0 0,.int .i64 x193001_2,.int .i64 x193002_2] 26 (0,0)))∧(w'.heap[gb198]? = some (.cells #[.slice Ao84 x199000_2.length co84,.int .i64 a0_1,.int .i64 a0_2] 26 (0,0)))∧(w'.heap[s_]? = some (.cells #[.int .i64 0,.int .i64 0] 24 (0,0)))∧(w.heap.size≤s_)∧(w.heap.size≤s_)∧(gb191≠s_)∧(s_≠gb191)∧(gb192≠s_)∧(s_≠gb192)∧(gb198≠s_)∧(s_≠gb198)∧(Below w.heap.size w w')) ?_ ?_
       rotate_left
       ·intro hCont
        refine two_ (i:=1) (j:=8) (Ni:=some 88) (Nj:=some 15) #[true,true,true,true,false,false,false,false,false,false,false] #[true,false,true,true,false,false,false,false,true,false,false] rfl rfl rfl rfl (two_of HT_.out (by kernel_rfl)) (by decide) (by decide) (fun K hK=>?_) (fun K hK=>?_)
        ·skip
         refine gO Try.func54 #[.agg #[.slice Ao84 x199000_2.length co84,.int .i64 a0_1,.int .i64 a0_2]] ?_
         with_reducible refine (orders_all.calls k2 _ _ x199000_2 a0_1 a0_2 t211 t212 _ ?side1 ?side2 A66.out).mono ?_
         (case side1=>exact cR (Kd.R_reads' HO_199000.out).2.2)
         (case side2=>exact (Kd.R_reads' HO_199000.out).2.1)
         rintro e w86 ⟨rfl,hb⟩
         refine ⟨_,rfl,?_⟩
         replace HO_199000:=qK (Kd.R_below (rS HO_199000.out) hb)
         replace BK191:=qK (bB BK191.out hb)
         replace BK192:=qK (bB BK192.out hb)
         replace BK198:=qK (bB BK198.out hb)
         replace HB:=qK (bS hb)
         (try clear hb)
         (try clear hb2)
         (try clear hk)
         (try clear hi)
         refine hK.out _ _ ⟨(blk_cell BK198.out 0).trans rfl,(blk_cell BK198.out 1).trans rfl,(blk_cell BK198.out 2).trans rfl⟩ (fun hHeld=>?_)
         clear hK K
         refine nP ?_
         refine two_ (i:=4) (j:=8) (Ni:=some 91) (Nj:=some 15) #[true,true,true,true,true,false,false,false,false,false,false] #[true,true,true,true,false,false,false,false,true,false,false] rfl rfl rfl rfl (two_of HT_.out (by kernel_rfl)) (by decide) (by decide) (fun K hK=>?_) (fun K hK=>?_)
         ·skip
          refine gO Try.func53 #[.agg #[.int .i64 t211,.int .i64 t212],.agg #[.int .i64 a0_1,.int .i64 a0_2]] ?_
          with_reducible refine (orders_common.calls t211 t212 a0_1 a0_2 t213 t214 false _ A67.out).mono ?_
          rintro e w87 ⟨rfl,hb⟩
          refine ⟨_,rfl,?_⟩
          replace HO_199000:=qK (Kd.R_below (rS HO_199000.out) hb)
          replace BK191:=qK (bB BK191.out hb)
          replace BK192:=qK (bB BK192.out hb)
          replace BK198:=qK (bB BK198.out hb)
          replace HB:=qK (bS hb)
          (try clear hb)
          (try clear hb2)
          (try clear hk)
          (try clear hi)
          refine hK.out _ _ ⟨(blk_cell BK198.out 0).trans rfl,(blk_cell BK198.out 1).trans rfl,(blk_cell BK198.out 2).trans rfl⟩ (fun hHeld=>?_)
          clear hK K
          refine nP ?_
          refine pP 5 (some 86) HT_ ?_
          refine pP 6 (some 92) HT_ ?_
          refine pP 7 (some 93) HT_ ?_
          refine oP 8 (some 15) HT_ (fun K hK=>?_)
          refine box_step ?hg (N:=15) ?hd (cs:=#[.int .i64 0,.int .i64 0]) (t:=24) ?hr ?_;(case hd=>rfl);(case hg=>rfl);(case hr=>first|(go_simp;done)|(go_simp;rfl))
          intro gb216 hg w88 hbox hb
          replace HO_199000:=qK (Kd.R_below (rS HO_199000.out) hb)
          have BK216:=qK (hbox)
          have GW216:=qK ((gS hg:w.heap.size≤gb216))
          have GE216:=qK ((gS hg:w.heap.size≤gb216))
          replace HB:=qK (bS hb)
          have NB191_216:=qK ((nL hg BK191.out:gb191≠gb216))
          have NB216_191:=qK ((nG hg BK191.out:gb216≠gb191))
          replace BK191:=qK (bB BK191.out hb)
          have NB192_216:=qK ((nL hg BK192.out:gb192≠gb216))
          have NB216_192:=qK ((nG hg BK192.out:gb216≠gb192))
          replace BK192:=qK (bB BK192.out hb)
          have NB198_216:=qK ((nL hg BK198.out:gb198≠gb216))
          have NB216_198:=qK ((nG hg BK198.out:gb216≠gb198))
          replace BK198:=qK (bB BK198.out hb)
          clear hb hbox hg
          refine hK.out _ _ ⟨(blk_cell BK198.out 0).trans rfl,(blk_cell BK198.out 1).trans rfl,(blk_cell BK198.out 2).trans rfl⟩ (fun hHeld=>?_)
          clear hK K
          refine nP ?_
          exact norm_ (by simp only [putAll,Act.put,List.setIfInBounds_toArray,List.set_cons_zero,List.set_cons_succ]) (hCont (gb216) _ ⟨hHeld,(rS HO_199000.out),(bX BK191.out),(bX BK192.out),(bX BK198.out),(bX BK216.out),GW216.out,GE216.out,NB191_216.out,NB216_191.out,NB192_216.out,NB216_192.out,NB198_216.out,NB216_198.out,bA⟩)
         ·skip
          refine box_step ?hg (N:=15) ?hd (cs:=#[.int .i64 0,.int .i64 0]) (t:=24) ?hr ?_;(case hd=>rfl);(case hg=>rfl);(case hr=>first|(go_simp;done)|(go_simp;rfl))
          intro gb216 hg w87 hbox hb
          replace HO_199000:=qK (Kd.R_below (rS HO_199000.out) hb)
          have BK216:=qK (hbox)
          have GW216:=qK ((gS hg:w.heap.size≤gb216))
          have GE216:=qK ((gS hg:w.heap.size≤gb216))
          replace HB:=qK (bS hb)
          have NB191_216:=qK ((nL hg BK191.out:gb191≠gb216))
          have NB216_191:=qK ((nG hg BK191.out:gb216≠gb191))
          replace BK191:=qK (bB BK191.out hb)
          have NB192_216:=qK ((nL hg BK192.out:gb192≠gb216))
          have NB216_192:=qK ((nG hg BK192.out:gb216≠gb192))
          replace BK192:=qK (bB BK192.out hb)
          have NB198_216:=qK ((nL hg BK198.out:gb198≠gb216))
          have NB216_198:=qK ((nG hg BK198.out:gb216≠gb198))
          replace BK198:=qK (bB BK198.out hb)
          clear hb hbox hg
          refine hK.out _ _ ⟨(blk_cell BK198.out 0).trans rfl,(blk_cell BK198.out 1).trans rfl,(blk_cell BK198.out 2).trans rfl⟩ (fun hHeld=>?_)
          clear hK K
          refine nP ?_
          refine oP 4 (some 91) HT_ (fun K hK=>?_)
          refine gO Try.func53 #[.agg #[.int .i64 t211,.int .i64 t212],.agg #[.int .i64 a0_1,.int .i64 a0_2]] ?_
          with_reducible refine (orders_common.calls t211 t212 a0_1 a0_2 t213 t214 false _ A67.out).mono ?_
          rintro e w88 ⟨rfl,hb⟩
          refine ⟨_,rfl,?_⟩
          replace HO_199000:=qK (Kd.R_below (rS HO_199000.out) hb)
          replace BK191:=qK (bB BK191.out hb)
          replace BK192:=qK (bB BK192.out hb)
          replace BK198:=qK (bB BK198.out hb)
          replace BK216:=qK (bB BK216.out hb)
          replace HB:=qK (bS hb)
          (try clear hb)
          (try clear hb2)
          (try clear hk)
          (try clear hi)
          refine hK.out _ _ ⟨(blk_cell BK198.out 0).trans rfl,(blk_cell BK198.out 1).trans rfl,(blk_cell BK198.out 2).trans rfl⟩ (fun hHeld=>?_)
          clear hK K
          refine nP ?_
          refine pP 5 (some 86) HT_ ?_
          refine pP 6 (some 92) HT_ ?_
          refine pP 7 (some 93) HT_ ?_
          exact norm_ (by simp only [putAll,Act.put,List.setIfInBounds_toArray,List.set_cons_zero,List.set_cons_succ]) (hCont (gb216) _ ⟨hHeld,(rS HO_199000.out),(bX BK191.out),(bX BK192.out),(bX BK198.out),(bX BK216.out),GW216.out,GE216.out,NB191_216.out,NB216_191.out,NB192_216.out,NB216_192.out,NB198_216.out,NB216_198.out,bA⟩)
        ·skip
         refine box_step ?hg (N:=15) ?hd (cs:=#[.int .i64 0,.int .i64 0]) (t:=24) ?hr ?_;(case hd=>rfl);(case hg=>rfl);(case hr=>first|(go_simp;done)|(go_simp;rfl))
         intro gb216 hg w86 hbox hb
         replace HO_199000:=qK (Kd.R_below (rS HO_199000.out) hb)
         have BK216:=qK (hbox)
         have GW216:=qK ((gS hg:w.heap.size≤gb216))
         have GE216:=qK ((gS hg:w.heap.size≤gb216))
         replace HB:=qK (bS hb)
         have NB191_216:=qK ((nL hg BK191.out:gb191≠gb216))
         have NB216_191:=qK ((nG hg BK191.out:gb216≠gb191))
         replace BK191:=qK (bB BK191.out hb)
         have NB192_216:=qK ((nL hg BK192.out:gb192≠gb216))
         have NB216_192:=qK ((nG hg BK192.out:gb216≠gb192))
         replace BK192:=qK (bB BK192.out hb)
         have NB198_216:=qK ((nL hg BK198.out:gb198≠gb216))
         have NB216_198:=qK ((nG hg BK198.out:gb216≠gb198))
         replace BK198:=qK (bB BK198.out hb)
         clear hb hbox hg
         refine hK.out _ _ ⟨(blk_cell BK198.out 0).trans rfl,(blk_cell BK198.out 1).trans rfl,(blk_cell BK198.out 2).trans rfl⟩ (fun hHeld=>?_)
         clear hK K
         refine nP ?_
         refine oP 1 (some 88) HT_ (fun K hK=>?_)
         refine gO Try.func54 #[.agg #[.slice Ao84 x199000_2.length co84,.int .i64 a0_1,.int .i64 a0_2]] ?_
         with_reducible refine (orders_all.calls k2 _ _ x199000_2 a0_1 a0_2 t211 t212 _ ?side1 ?side2 A66.out).mono ?_
         (case side1=>exact cR (Kd.R_reads' HO_199000.out).2.2)
         (case side2=>exact (Kd.R_reads' HO_199000.out).2.1)
         rintro e w87 ⟨rfl,hb⟩
         refine ⟨_,rfl,?_⟩
         replace HO_199000:=qK (Kd.R_below (rS HO_199000.out) hb)
         replace BK191:=qK (bB BK191.out hb)
         replace BK192:=qK (bB BK192.out hb)
         replace BK198:=qK (bB BK198.out hb)
         replace BK216:=qK (bB BK216.out hb)
         replace HB:=qK (bS hb)
         (try clear hb)
         (try clear hb2)
         (try clear hk)
         (try clear hi)
         refine hK.out _ _ ⟨(blk_cell BK198.out 0).trans rfl,(blk_cell BK198.out 1).trans rfl,(blk_cell BK198.out 2).trans rfl⟩ (fun hHeld=>?_)
         clear hK K
         refine nP ?_
         refine oP 4 (some 91) HT_ (fun K hK=>?_)
         refine gO Try.func53 #[.agg #[.int .i64 t211,.int .i64 t212],.agg #[.int .i64 a0_1,.int .i64 a0_2]] ?_
         with_reducible refine (orders_common.calls t211 t212 a0_1 a0_2 t213 t214 false _ A67.out).mono ?_
         rintro e w88 ⟨rfl,hb⟩
         refine ⟨_,rfl,?_⟩
         replace HO_199000:=qK (Kd.R_below (rS HO_199000.out) hb)
         replace BK191:=qK (bB BK191.out hb)
         replace BK192:=qK (bB BK192.out hb)
         replace BK198:=qK (bB BK198.out hb)
         replace BK216:=qK (bB BK216.out hb)
         replace HB:=qK (bS hb)
         (try clear hb)
         (try clear hb2)
         (try clear hk)
         (try clear hi)
         refine hK.out _ _ ⟨(blk_cell BK198.out 0).trans rfl,(blk_cell BK198.out 1).trans rfl,(blk_cell BK198.out 2).trans rfl⟩ (fun hHeld=>?_)
         clear hK K
         refine nP ?_
         refine pP 5 (some 86) HT_ ?_
         refine pP 6 (some 92) HT_ ?_
         refine pP 7 (some 93) HT_ ?_
         exact norm_ (by simp only [putAll,Act.put,List.setIfInBounds_toArray,List.set_cons_zero,List.set_cons_succ]) (hCont (gb216) _ ⟨hHeld,(rS HO_199000.out),(bX BK191.out),(bX BK192.out),(bX BK198.out),(bX BK216.out),GW216.out,GE216.out,NB191_216.out,NB216_191.out,NB192_216.out,NB216_192.out,NB198_216.out,NB216_198.out,bA⟩)
       rintro gb216 w89 ⟨hS_,h0_,h1_,h2_,h3_,h4_,h5_,h6_,h7_,h8_,h9_,h10_,h11_,h12_,h13_⟩
       have n0_:Aside0 (Kd.R k50 50 w89 w.heap.size (fun _=>True) (.slice Ao84 x199000_2.length co84) x199000_2):=⟨h0_⟩
       have n1_:Aside0 (w89.heap[gb191]? = some (.cells #[.slice A0_0 l0_0.length c0_0,.int .i64 a0_1,.int .i64 a0_2] 26 (0,0))):=⟨h1_⟩
       have n2_:Aside0 (w89.heap[gb192]? = some (.cells #[.slice none 0 0,.int .i64 x193001_2,.int .i64 x193002_2] 26 (0,0))):=⟨h2_⟩
       have n3_:Aside0 (w89.heap[gb198]? = some (.cells #[.slice Ao84 x199000_2.length co84,.int .i64 a0_1,.int .i64 a0_2] 26 (0,0))):=⟨h3_⟩
       have n4_:Aside0 (w89.heap[gb216]? = some (.cells #[.int .i64 0,.int .i64 0] 24 (0,0))):=⟨h4_⟩
       have n5_:Aside0 (w.heap.size≤gb216):=⟨h5_⟩
       have n6_:Aside0 (w.heap.size≤gb216):=⟨h6_⟩
       have n7_:Aside0 (gb191≠gb216):=⟨h7_⟩
       have n8_:Aside0 (gb216≠gb191):=⟨h8_⟩
       have n9_:Aside0 (gb192≠gb216):=⟨h9_⟩
       have n10_:Aside0 (gb216≠gb192):=⟨h10_⟩
       have n11_:Aside0 (gb198≠gb216):=⟨h11_⟩
       have n12_:Aside0 (gb216≠gb198):=⟨h12_⟩
       have n13_:Aside0 (Below w.heap.size w w89):=⟨h13_⟩
       clear HO_199000
       clear BK191
       clear BK192
       clear BK198
       clear HB
       clear h0_ h1_ h2_ h3_ h4_ h5_ h6_ h7_ h8_ h9_ h10_ h11_ h12_ h13_
       have HO_199000:=n0_
       have BK191:=n1_
       have BK192:=n2_
       have BK198:=n3_
       have BK216:=n4_
       have GW216:=n5_
       have GE216:=n6_
       have NB191_216:=n7_
       have NB216_191:=n8_
       have NB192_216:=n9_
       have NB216_192:=n10_
       have NB198_216:=n11_
       have NB216_198:=n12_
       have HB:=n13_
       clear n0_ n1_ n2_ n3_ n4_ n5_ n6_ n7_ n8_ n9_ n10_ n11_ n12_ n13_
       have hHeld:w89.cell? ⟨gb198,0,none⟩=some (.slice Ao84 x199000_2.length co84)∧w89.cell? ⟨gb198,1,none⟩=some (.int .i64 a0_1)∧w89.cell? ⟨gb198,2,none⟩=some (.int .i64 a0_2):=hS_
       refine norm_ (a':=?_) ?_ ?_
       rotate_left
       ·simp only [putAll,Act.put,List.setIfInBounds_toArray,List.set_cons_zero,List.set_cons_succ]
        rfl
       refine oP 9 none HT_ (fun K hK=>?_)
       have hs90:w89.cell? ⟨gb216,0,none⟩=some (.int .i64 0):=(blk_cell BK216.out 0).trans rfl
       have hfs90:=blk_frozen BK216.out 0
       have hns90_0:=NB191_216.out
       have hns90_1:=NB192_216.out
       have hns90_2:=NB198_216.out
       have hms90_0:=NB216_191.out
       have hms90_1:=NB216_192.out
       have hms90_2:=NB216_198.out
       have hs91:w89.cell? ⟨gb216,1,none⟩=some (.int .i64 0):=(blk_cell BK216.out 1).trans rfl
       have hfs91:=blk_frozen BK216.out 1
       have hns91_0:=NB191_216.out
       have hns91_1:=NB192_216.out
       have hns91_2:=NB198_216.out
       have hms91_0:=NB216_191.out
       have hms91_1:=NB216_192.out
       have hms91_2:=NB216_198.out
       refine skip_ (w1:=?_) (by rfl) rfl ?_ ?_
       rotate_left
       ·go_simp
        rfl
       refine hK.out _ _ ⟨((cell_far (p:=⟨gb216,_,none⟩) NB198_216.out _).trans (((cell_far (p:=⟨gb216,_,none⟩) NB198_216.out _).trans (hHeld.1)))),((cell_far (p:=⟨gb216,_,none⟩) NB198_216.out _).trans (((cell_far (p:=⟨gb216,_,none⟩) NB198_216.out _).trans (hHeld.2.1)))),((cell_far (p:=⟨gb216,_,none⟩) NB198_216.out _).trans (((cell_far (p:=⟨gb216,_,none⟩) NB198_216.out _).trans (hHeld.2.2))))⟩ (fun hHeld=>?_)
       clear hK K
       refine pP 10 (some 16) HT_ ?_
       refine done_ (done_of HT_.out (by kernel_rfl)) ?_
       have hnb92:=NB192_191.out
       have hnc92:=NB191_192.out
       have hnb93:=NB192_198.out
       have hnc93:=NB198_192.out
       have hnb94:=NB192_216.out
       have hnc94:=NB216_192.out
       obtain ⟨_,_,_,_,_,_⟩:=xC3 BK192.out
       try go_wp2
       refine bodyPost_ret (results_ct rfl _ _ gb192 26 #[.slice none 0 0,.int .i64 0,.int .i64 0] (0,0) _ rfl (by (with_reducible repeat (first|refine blk_drewN ?_ _|refine blk_drew ?_|refine blk_alloc ?_ _));refine blk_put (cs:=#[.slice none 0 0,.int .i64 0,.int .i64 x193002_2]) ?_ 2 _ rfl;(with_reducible repeat (first|refine blk_drewN ?_ _|refine blk_drew ?_|refine blk_alloc ?_ _));refine blk_put (cs:=#[.slice none 0 0,.int .i64 x193001_2,.int .i64 x193002_2]) ?_ 1 _ rfl;(with_reducible repeat (first|refine blk_drewN ?_ _|refine blk_drew ?_|refine blk_alloc ?_ _));refine blk_put (cs:=#[.slice none 0 0,.int .i64 x193001_2,.int .i64 x193002_2]) ?_ 0 _ rfl;(with_reducible repeat (first|refine blk_drewN ?_ _|refine blk_drew ?_|refine blk_alloc ?_ _));refine blk_far ?_ NB192_216.out _;(with_reducible repeat (first|refine blk_drewN ?_ _|refine blk_drew ?_|refine blk_alloc ?_ _));refine blk_far ?_ NB192_216.out _;(with_reducible repeat (first|refine blk_drewN ?_ _|refine blk_drew ?_|refine blk_alloc ?_ _));exact BK192.out) Try.underlying26 rfl (by kernel_rfl)) rfl ?_
       exact ⟨_,by first|rfl|(simp [errW_none,errW_some] <;> rfl)|(simp [*,errW_none,errW_some] <;> rfl),by first|exact Kd.R_nil _ _ _ _ _|exact Kd.N_nil _ _ _ _ _|exact Kd.V_nil _ _ _ _ _|exact Kd.Q_nil _ _ _ _ _|exact Kd.S_nil _ _ _ _ _,bA⟩
      subst c68
      have H1:(some (x199000_2,a0_1,a0_2,0))=some (r1,r2,r3,r4):=by rw [if_pos rfl] at H;exact H
      clear H
      have H:=H1
      clear H1
      simp only [Option.some.injEq,Prod.mk.injEq] at H
      obtain ⟨rfl,rfl,rfl,rfl⟩:=H
      obtain ⟨Ao69,co69,eo69⟩:=Kd.R_slice HO_199000.out
      subst eo69
      try go_wp2
      replace HO_199000:=qK (Kd.R_drew HO_199000.out)
      replace BK191:=qK (blk_drew BK191.out)
      replace BK192:=qK (blk_drew BK192.out)
      replace BK198:=qK (blk_drew BK198.out)
      replace HB:=qK (below_drew1 HB.out)
      refine start_ (n:=11) (S:=fun w'=>w'.cell? ⟨gb198,0,none⟩=some (.slice Ao69 x199000_2.length co69)∧w'.cell? ⟨gb198,1,none⟩=some (.int .i64 a0_1)∧w'.cell? ⟨gb198,2,none⟩=some (.int .i64 a0_2)) (ds:=[]) #[false,false,false,false,false,false,false,false,false,false,false] (by kernel_rfl) rfl rfl ⟨(blk_cell BK198.out 0).trans rfl,(blk_cell BK198.out 1).trans rfl,(blk_cell BK198.out 2).trans rfl⟩ (fun hHeld=>?_);refine with_tabW orders_Measured.tab16 orders_Measured.bits16 (fun HT_ HW_=>?_)
      generalize wr.drew=w70 at HO_199000 BK191 BK192 BK198 HB hHeld ⊢
      refine pP 2 (some 89) HT_ ?_
      refine tP 0 (some 87) HT_ HW_ hHeld ?_
      refine tP 3 (some 90) HT_ HW_ hHeld ?_
      refine join_ (σ:=Nat) 2 #[true,true,true,true,true,true,true,true,true,false,false] (fun s_=>[(88,.agg #[.int .i64 t211,.int .i64 t212]),(91,.tuple #[.agg #[.int .i64 t213,.int .i64 t214],.bool true]),(15,.pointer (some ⟨s_,0,none⟩)),(86,.tuple #[.agg #[.int .i64 t213,.int .i64 t214],.bool true]),(92,.agg #[.int .i64 t213,.int .i64 t214]),(93,.bool true)]) (fun s_ w'=>(w'.cell? ⟨gb198,0,none⟩=some (.slice Ao69 x199000_2.length co69)∧w'.cell? ⟨gb198,1,none⟩=some (.int .i64 a0_1)∧w'.cell? ⟨gb198,2,none⟩=some (.int .i64 a0_2))∧(Kd.R k50 50 w' w.heap.size (fun _=>True) (.slice Ao69 x199000_2.length co69) x199000_2)∧(w'.heap[gb191]? = some (.cells #[.slice A0_0 l0_0.length c0_0,.int .i64 a0_1,.int .i64 a0_2] 26 (0,0)))∧(w'.heap[gb192]? = some (.cells #[.slice none 0 0,.int .i64 x193001_2,.int .i64 x193002_2] 26 (0,0)))∧(w'.heap[gb198]? = some (.cells #[.slice Ao69 x199000_2.length co69,.int .i64 a0_1,.int .i64 a0_2] 26 (0,0)))∧(w'.heap[s_]? = some (.cells #[.int .i64 0,.int .i64 0] 24 (0,0)))∧(w.heap.size≤s_)∧(w.heap.size≤s_)∧(gb191≠s_)∧(s_≠gb191)∧(gb192≠s_)∧(s_≠gb192)∧(gb198≠s_)∧(s_≠gb198)∧(Below w.heap.size w w')) ?_ ?_
      rotate_left
      ·intro hCont
       refine two_ (i:=1) (j:=8) (Ni:=some 88) (Nj:=some 15) #[true,true,true,true,false,false,false,false,false,false,false] #[true,false,true,true,false,false,false,false,true,false,false] rfl rfl rfl rfl (two_of HT_.out (by kernel_rfl)) (by decide) (by decide) (fun K hK=>?_) (fun K hK=>?_)
       ·skip
        refine gO Try.func54 #[.agg #[.slice Ao69 x199000_2.length co69,.int .i64 a0_1,.int .i64 a0_2]] ?_
        with_reducible refine (orders_all.calls k2 _ _ x199000_2 a0_1 a0_2 t211 t212 _ ?side1 ?side2 A66.out).mono ?_
        (case side1=>exact cR (Kd.R_reads' HO_199000.out).2.2)
        (case side2=>exact (Kd.R_reads' HO_199000.out).2.1)
        rintro e w71 ⟨rfl,hb⟩
        refine ⟨_,rfl,?_⟩
        replace HO_199000:=qK (Kd.R_below (rS HO_199000.out) hb)
        replace BK191:=qK (bB BK191.out hb)
        replace BK192:=qK (bB BK192.out hb)
        replace BK198:=qK (bB BK198.out hb)
        replace HB:=qK (bS hb)
        (try clear hb)
        (try clear hb2)
        (try clear hk)
        (try clear hi)
        refine hK.out _ _ ⟨(blk_cell BK198.out 0).trans rfl,(blk_cell BK198.out 1).trans rfl,(blk_cell BK198.out 2).trans rfl⟩ (fun hHeld=>?_)
        clear hK K
        refine nP ?_
        refine two_ (i:=4) (j:=8) (Ni:=some 91) (Nj:=some 15) #[true,true,true,true,true,false,false,false,false,false,false] #[true,true,true,true,false,false,false,false,true,false,false] rfl rfl rfl rfl (two_of HT_.out (by kernel_rfl)) (by decide) (by decide) (fun K hK=>?_) (fun K hK=>?_)
        ·skip
         refine gO Try.func53 #[.agg #[.int .i64 t211,.int .i64 t212],.agg #[.int .i64 a0_1,.int .i64 a0_2]] ?_
         with_reducible refine (orders_common.calls t211 t212 a0_1 a0_2 t213 t214 true _ A67.out).mono ?_
         rintro e w72 ⟨rfl,hb⟩
         refine ⟨_,rfl,?_⟩
         replace HO_199000:=qK (Kd.R_below (rS HO_199000.out) hb)
         replace BK191:=qK (bB BK191.out hb)
         replace BK192:=qK (bB BK192.out hb)
         replace BK198:=qK (bB BK198.out hb)
         replace HB:=qK (bS hb)
         (try clear hb)
         (try clear hb2)
         (try clear hk)
         (try clear hi)
         refine hK.out _ _ ⟨(blk_cell BK198.out 0).trans rfl,(blk_cell BK198.out 1).trans rfl,(blk_cell BK198.out 2).trans rfl⟩ (fun hHeld=>?_)
         clear hK K
         refine nP ?_
         refine pP 5 (some 86) HT_ ?_
         refine pP 6 (some 92) HT_ ?_
         refine pP 7 (some 93) HT_ ?_
         refine oP 8 (some 15) HT_ (fun K hK=>?_)
         refine box_step ?hg (N:=15) ?hd (cs:=#[.int .i64 0,.int .i64 0]) (t:=24) ?hr ?_;(case hd=>rfl);(case hg=>rfl);(case hr=>first|(go_simp;done)|(go_simp;rfl))
         intro gb216 hg w73 hbox hb
         replace HO_199000:=qK (Kd.R_below (rS HO_199000.out) hb)
         have BK216:=qK (hbox)
         have GW216:=qK ((gS hg:w.heap.size≤gb216))
         have GE216:=qK ((gS hg:w.heap.size≤gb216))
         replace HB:=qK (bS hb)
         have NB191_216:=qK ((nL hg BK191.out:gb191≠gb216))
         have NB216_191:=qK ((nG hg BK191.out:gb216≠gb191))
         replace BK191:=qK (bB BK191.out hb)
         have NB192_216:=qK ((nL hg BK192.out:gb192≠gb216))
         have NB216_192:=qK ((nG hg BK192.out:gb216≠gb192))
         replace BK192:=qK (bB BK192.out hb)
         have NB198_216:=qK ((nL hg BK198.out:gb198≠gb216))
         have NB216_198:=qK ((nG hg BK198.out:gb216≠gb198))
         replace BK198:=qK (bB BK198.out hb)
         clear hb hbox hg
         refine hK.out _ _ ⟨(blk_cell BK198.out 0).trans rfl,(blk_cell BK198.out 1).trans rfl,(blk_cell BK198.out 2).trans rfl⟩ (fun hHeld=>?_)
         clear hK K
         refine nP ?_
         exact norm_ (by simp only [putAll,Act.put,List.setIfInBounds_toArray,List.set_cons_zero,List.set_cons_succ]) (hCont (gb216) _ ⟨hHeld,(rS HO_199000.out),(bX BK191.out),(bX BK192.out),(bX BK198.out),(bX BK216.out),GW216.out,GE216.out,NB191_216.out,NB216_191.out,NB192_216.out,NB216_192.out,NB198_216.out,NB216_198.out,bA⟩)
        ·skip
         refine box_step ?hg (N:=15) ?hd (cs:=#[.int .i64 0,.int .i64 0]) (t:=24) ?hr ?_;(case hd=>rfl);(case hg=>rfl);(case hr=>first|(go_simp;done)|(go_simp;rfl))
         intro gb216 hg w72 hbox hb
         replace HO_199000:=qK (Kd.R_below (rS HO_199000.out) hb)
         have BK216:=qK (hbox)
         have GW216:=qK ((gS hg:w.heap.size≤gb216))
         have GE216:=qK ((gS hg:w.heap.size≤gb216))
         replace HB:=qK (bS hb)
         have NB191_216:=qK ((nL hg BK191.out:gb191≠gb216))
         have NB216_191:=qK ((nG hg BK191.out:gb216≠gb191))
         replace BK191:=qK (bB BK191.out hb)
         have NB192_216:=qK ((nL hg BK192.out:gb192≠gb216))
         have NB216_192:=qK ((nG hg BK192.out:gb216≠gb192))
         replace BK192:=qK (bB BK192.out hb)
         have NB198_216:=qK ((nL hg BK198.out:gb198≠gb216))
         have NB216_198:=qK ((nG hg BK198.out:gb216≠gb198))
         replace BK198:=qK (bB BK198.out hb)
         clear hb hbox hg
         refine hK.out _ _ ⟨(blk_cell BK198.out 0).trans rfl,(blk_cell BK198.out 1).trans rfl,(blk_cell BK198.out 2).trans rfl⟩ (fun hHeld=>?_)
         clear hK K
         refine nP ?_
         refine oP 4 (some 91) HT_ (fun K hK=>?_)
         refine gO Try.func53 #[.agg #[.int .i64 t211,.int .i64 t212],.agg #[.int .i64 a0_1,.int .i64 a0_2]] ?_
         with_reducible refine (orders_common.calls t211 t212 a0_1 a0_2 t213 t214 true _ A67.out).mono ?_
         rintro e w73 ⟨rfl,hb⟩
         refine ⟨_,rfl,?_⟩
         replace HO_199000:=qK (Kd.R_below (rS HO_199000.out) hb)
         replace BK191:=qK (bB BK191.out hb)
         replace BK192:=qK (bB BK192.out hb)
         replace BK198:=qK (bB BK198.out hb)
         replace BK216:=qK (bB BK216.out hb)
         replace HB:=qK (bS hb)
         (try clear hb)
         (try clear hb2)
         (try clear hk)
         (try clear hi)
         refine hK.out _ _ ⟨(blk_cell BK198.out 0).trans rfl,(blk_cell BK198.out 1).trans rfl,(blk_cell BK198.out 2).trans rfl⟩ (fun hHeld=>?_)
         clear hK K
         refine nP ?_
         refine pP 5 (some 86) HT_ ?_
         refine pP 6 (some 92) HT_ ?_
         refine pP 7 (some 93) HT_ ?_
         exact norm_ (by simp only [putAll,Act.put,List.setIfInBounds_toArray,List.set_cons_zero,List.set_cons_succ]) (hCont (gb216) _ ⟨hHeld,(rS HO_199000.out),(bX BK191.out),(bX BK192.out),(bX BK198.out),(bX BK216.out),GW216.out,GE216.out,NB191_216.out,NB216_191.out,NB192_216.out,NB216_192.out,NB198_216.out,NB216_198.out,bA⟩)
       ·skip
        refine box_step ?hg (N:=15) ?hd (cs:=#[.int .i64 0,.int .i64 0]) (t:=24) ?hr ?_;(case hd=>rfl);(case hg=>rfl);(case hr=>first|(go_simp;done)|(go_simp;rfl))
        intro gb216 hg w71 hbox hb
        replace HO_199000:=qK (Kd.R_below (rS HO_199000.out) hb)
        have BK216:=qK (hbox)
        have GW216:=qK ((gS hg:w.heap.size≤gb216))
        have GE216:=qK ((gS hg:w.heap.size≤gb216))
        replace HB:=qK (bS hb)
        have NB191_216:=qK ((nL hg BK191.out:gb191≠gb216))
        have NB216_191:=qK ((nG hg BK191.out:gb216≠gb191))
        replace BK191:=qK (bB BK191.out hb)
        have NB192_216:=qK ((nL hg BK192.out:gb192≠gb216))
        have NB216_192:=qK ((nG hg BK192.out:gb216≠gb192))
        replace BK192:=qK (bB BK192.out hb)
        have NB198_216:=qK ((nL hg BK198.out:gb198≠gb216))
        have NB216_198:=qK ((nG hg BK198.out:gb216≠gb198))
        replace BK198:=qK (bB BK198.out hb)
        clear hb hbox hg
        refine hK.out _ _ ⟨(blk_cell BK198.out 0).trans rfl,(blk_cell BK198.out 1).trans rfl,(blk_cell BK198.out 2).trans rfl⟩ (fun hHeld=>?_)
        clear hK K
        refine nP ?_
        refine oP 1 (some 88) HT_ (fun K hK=>?_)
        refine gO Try.func54 #[.agg #[.slice Ao69 x199000_2.length co69,.int .i64 a0_1,.int .i64 a0_2]] ?_
        with_reducible refine (orders_all.calls k2 _ _ x199000_2 a0_1 a0_2 t211 t212 _ ?side1 ?side2 A66.out).mono ?_
        (case side1=>exact cR (Kd.R_reads' HO_199000.out).2.2)
        (case side2=>exact (Kd.R_reads' HO_199000.out).2.1)
        rintro e w72 ⟨rfl,hb⟩
        refine ⟨_,rfl,?_⟩
        replace HO_199000:=qK (Kd.R_below (rS HO_199000.out) hb)
        replace BK191:=qK (bB BK191.out hb)
        replace BK192:=qK (bB BK192.out hb)
        replace BK198:=qK (bB BK198.out hb)
        replace BK216:=qK (bB BK216.out hb)
        replace HB:=qK (bS hb)
        (try clear hb)
        (try clear hb2)
        (try clear hk)
        (try clear hi)
        refine hK.out _ _ ⟨(blk_cell BK198.out 0).trans rfl,(blk_cell BK198.out 1).trans rfl,(blk_cell BK198.out 2).trans rfl⟩ (fun hHeld=>?_)
        clear hK K
        refine nP ?_
        refine oP 4 (some 91) HT_ (fun K hK=>?_)
        refine gO Try.func53 #[.agg #[.int .i64 t211,.int .i64 t212],.agg #[.int .i64 a0_1,.int .i64 a0_2]] ?_
        with_reducible refine (orders_common.calls t211 t212 a0_1 a0_2 t213 t214 true _ A67.out).mono ?_
        rintro e w73 ⟨rfl,hb⟩
        refine ⟨_,rfl,?_⟩
        replace HO_199000:=qK (Kd.R_below (rS HO_199000.out) hb)
        replace BK191:=qK (bB BK191.out hb)
        replace BK192:=qK (bB BK192.out hb)
        replace BK198:=qK (bB BK198.out hb)
        replace BK216:=qK (bB BK216.out hb)
        replace HB:=qK (bS hb)
        (try clear hb)
        (try clear hb2)
        (try clear hk)
        (try clear hi)
        refine hK.out _ _ ⟨(blk_cell BK198.out 0).trans rfl,(blk_cell BK198.out 1).trans rfl,(blk_cell BK198.out 2).trans rfl⟩ (fun hHeld=>?_)
        clear hK K
        refine nP ?_
        refine pP 5 (some 86) HT_ ?_
        refine pP 6 (some 92) HT_ ?_
        refine pP 7 (some 93) HT_ ?_
        exact norm_ (by simp only [putAll,Act.put,List.setIfInBounds_toArray,List.set_cons_zero,List.set_cons_succ]) (hCont (gb216) _ ⟨hHeld,(rS HO_199000.out),(bX BK191.out),(bX BK192.out),(bX BK198.out),(bX BK216.out),GW216.out,GE216.out,NB191_216.out,NB216_191.out,NB192_216.out,NB216_192.out,NB198_216.out,NB216_198.out,bA⟩)
      rintro gb216 w74 ⟨hS_,h0_,h1_,h2_,h3_,h4_,h5_,h6_,h7_,h8_,h9_,h10_,h11_,h12_,h13_⟩
      have n0_:Aside0 (Kd.R k50 50 w74 w.heap.size (fun _=>True) (.slice Ao69 x199000_2.length co69) x199000_2):=⟨h0_⟩
      have n1_:Aside0 (w74.heap[gb191]? = some (.cells #[.slice A0_0 l0_0.length c0_0,.int .i64 a0_1,.int .i64 a0_2] 26 (0,0))):=⟨h1_⟩
      have n2_:Aside0 (w74.heap[gb192]? = some (.cells #[.slice none 0 0,.int .i64 x193001_2,.int .i64 x193002_2] 26 (0,0))):=⟨h2_⟩
      have n3_:Aside0 (w74.heap[gb198]? = some (.cells #[.slice Ao69 x199000_2.length co69,.int .i64 a0_1,.int .i64 a0_2] 26 (0,0))):=⟨h3_⟩
      have n4_:Aside0 (w74.heap[gb216]? = some (.cells #[.int .i64 0,.int .i64 0] 24 (0,0))):=⟨h4_⟩
      have n5_:Aside0 (w.heap.size≤gb216):=⟨h5_⟩
      have n6_:Aside0 (w.heap.size≤gb216):=⟨h6_⟩
      have n7_:Aside0 (gb191≠gb216):=⟨h7_⟩
      have n8_:Aside0 (gb216≠gb191):=⟨h8_⟩
      have n9_:Aside0 (gb192≠gb216):=⟨h9_⟩
      have n10_:Aside0 (gb216≠gb192):=⟨h10_⟩
      have n11_:Aside0 (gb198≠gb216):=⟨h11_⟩
      have n12_:Aside0 (gb216≠gb198):=⟨h12_⟩
      have n13_:Aside0 (Below w.heap.size w w74):=⟨h13_⟩
      clear HO_199000
      clear BK191
      clear BK192
      clear BK198
      clear HB
      clear h0_ h1_ h2_ h3_ h4_ h5_ h6_ h7_ h8_ h9_ h10_ h11_ h12_ h13_
      have HO_199000:=n0_
      have BK191:=n1_
      have BK192:=n2_
      have BK198:=n3_
      have BK216:=n4_
      have GW216:=n5_
      have GE216:=n6_
      have NB191_216:=n7_
      have NB216_191:=n8_
      have NB192_216:=n9_
      have NB216_192:=n10_
      have NB198_216:=n11_
      have NB216_198:=n12_
      have HB:=n13_
      clear n0_ n1_ n2_ n3_ n4_ n5_ n6_ n7_ n8_ n9_ n10_ n11_ n12_ n13_
      have hHeld:w74.cell? ⟨gb198,0,none⟩=some (.slice Ao69 x199000_2.length co69)∧w74.cell? ⟨gb198,1,none⟩=some (.int .i64 a0_1)∧w74.cell? ⟨gb198,2,none⟩=some (.int .i64 a0_2):=hS_
      refine norm_ (a':=?_) ?_ ?_
      rotate_left
      ·simp only [putAll,Act.put,List.setIfInBounds_toArray,List.set_cons_zero,List.set_cons_succ]
       rfl
      refine oP 9 none HT_ (fun K hK=>?_)
      have hs75:w74.cell? ⟨gb216,0,none⟩=some (.int .i64 0):=(blk_cell BK216.out 0).trans rfl
      have hfs75:=blk_frozen BK216.out 0
      have hns75_0:=NB191_216.out
      have hns75_1:=NB192_216.out
      have hns75_2:=NB198_216.out
      have hms75_0:=NB216_191.out
      have hms75_1:=NB216_192.out
      have hms75_2:=NB216_198.out
      have hs76:w74.cell? ⟨gb216,1,none⟩=some (.int .i64 0):=(blk_cell BK216.out 1).trans rfl
      have hfs76:=blk_frozen BK216.out 1
      have hns76_0:=NB191_216.out
      have hns76_1:=NB192_216.out
      have hns76_2:=NB198_216.out
      have hms76_0:=NB216_191.out
      have hms76_1:=NB216_192.out
      have hms76_2:=NB216_198.out
      refine skip_ (w1:=?_) (by rfl) rfl ?_ ?_
      rotate_left
      ·go_simp
       rfl
      refine hK.out _ _ ⟨((cell_far (p:=⟨gb216,_,none⟩) NB198_216.out _).trans (((cell_far (p:=⟨gb216,_,none⟩) NB198_216.out _).trans (hHeld.1)))),((cell_far (p:=⟨gb216,_,none⟩) NB198_216.out _).trans (((cell_far (p:=⟨gb216,_,none⟩) NB198_216.out _).trans (hHeld.2.1)))),((cell_far (p:=⟨gb216,_,none⟩) NB198_216.out _).trans (((cell_far (p:=⟨gb216,_,none⟩) NB198_216.out _).trans (hHeld.2.2))))⟩ (fun hHeld=>?_)
      clear hK K
      refine pP 10 (some 16) HT_ ?_
      refine done_ (done_of HT_.out (by kernel_rfl)) ?_
      have hnb77:=NB198_191.out
      have hnc77:=NB191_198.out
      have hnb78:=NB198_192.out
      have hnc78:=NB192_198.out
      have hnb79:=NB198_216.out
      have hnc79:=NB216_198.out
      obtain ⟨_,_,_,_,_,_⟩:=xC3 BK198.out
      have hnb81:=NB192_191.out
      have hnc81:=NB191_192.out
      have hnb82:=NB192_216.out
      have hnc82:=NB216_192.out
      obtain ⟨_,_,_,_,_,_⟩:=xC3 BK192.out
      try go_wp2
      refine bodyPost_ret (results_ct rfl _ _ gb192 26 #[.slice Ao69 x199000_2.length co69,.int .i64 a0_1,.int .i64 a0_2] (0,0) _ rfl (by (with_reducible repeat (first|refine blk_drewN ?_ _|refine blk_drew ?_|refine blk_alloc ?_ _));refine blk_put (cs:=#[.slice Ao69 x199000_2.length co69,.int .i64 a0_1,.int .i64 x193002_2]) ?_ 2 _ rfl;(with_reducible repeat (first|refine blk_drewN ?_ _|refine blk_drew ?_|refine blk_alloc ?_ _));refine blk_put (cs:=#[.slice Ao69 x199000_2.length co69,.int .i64 x193001_2,.int .i64 x193002_2]) ?_ 1 _ rfl;(with_reducible repeat (first|refine blk_drewN ?_ _|refine blk_drew ?_|refine blk_alloc ?_ _));refine blk_put (cs:=#[.slice none 0 0,.int .i64 x193001_2,.int .i64 x193002_2]) ?_ 0 _ rfl;(with_reducible repeat (first|refine blk_drewN ?_ _|refine blk_drew ?_|refine blk_alloc ?_ _));refine blk_far ?_ NB192_216.out _;(with_reducible repeat (first|refine blk_drewN ?_ _|refine blk_drew ?_|refine blk_alloc ?_ _));refine blk_far ?_ NB192_216.out _;(with_reducible repeat (first|refine blk_drewN ?_ _|refine blk_drew ?_|refine blk_alloc ?_ _));exact BK192.out) Try.underlying26 rfl (by kernel_rfl)) rfl ?_
      exact ⟨_,by first|rfl|(simp [errW_none,errW_some] <;> rfl)|(simp [*,errW_none,errW_some] <;> rfl),by (with_reducible repeat (first|apply Kd.R_alloc|apply Kd.R_drewN|apply Kd.R_drew));exact Kd.R_mono (Kd.R_far (p:=⟨gb192,2,none⟩) (Kd.R_far (p:=⟨gb192,1,none⟩) (Kd.R_far (p:=⟨gb192,0,none⟩) (Kd.R_far (p:=⟨gb216,1,none⟩) (Kd.R_far (p:=⟨gb216,0,none⟩) (Kd.R_types (Kd.R_types HO_199000.out BK216.out (by decide)) BK192.out (by decide)) (fun _ hk=>hk.1.2) (.int .i64 t213)) (fun _ hk=>hk.1.2) (.int .i64 t214)) (fun _ hk=>hk.2) (.slice Ao69 x199000_2.length co69)) (fun _ hk=>hk.2) (.int .i64 a0_1)) (fun _ hk=>hk.2) (.int .i64 a0_2)) (fun _ hk=>trivial),bA⟩
     rw [if_pos c27] at H
     have c27b0:decide (x42_2 < (l1.length:Int))=true:=decide_eq_true c27
     clear c27
     by_cases c28:0≤x42_2
     rotate_left
     ·rw [if_neg c28] at H
      exact absurd H (by simp)
     rw [if_pos c28] at H
     have c28b0:decide (0≤x42_2)=true:=decide_eq_true c28
     clear c28
     by_cases c29:x42_2 < (l1.length:Int)
     rotate_left
     ·rw [if_neg c29] at H
      exact absurd H (by simp)
     rw [if_pos c29] at H
     have c29b0:decide (x42_2 < (l1.length:Int))=true:=decide_eq_true c29
     clear c29
     by_cases c30:0≤(rd l1 x42_2)
     rotate_left
     ·rw [if_neg c30] at H
      exact absurd H (by simp)
     rw [if_pos c30] at H
     have c30b0:decide (0≤(rd l1 x42_2))=true:=decide_eq_true c30
     clear c30
     by_cases c31:(rd l1 x42_2) < (x199000_2.length:Int)
     rotate_left
     ·rw [if_neg c31] at H
      exact absurd H (by simp)
     rw [if_pos c31] at H
     have c31b0:decide ((rd l1 x42_2) < (x199000_2.length:Int))=true:=decide_eq_true c31
     clear c31
     by_cases c32:x42_2 < (l2.length:Int)
     rotate_left
     ·rw [if_neg c32] at H
      exact absurd H (by simp)
     rw [if_pos c32] at H
     have c32b0:decide (x42_2 < (l2.length:Int))=true:=decide_eq_true c32
     clear c32
     replace H:=Option.bind_eq_some_iff.mp H
     obtain ⟨⟨t206,t207,t208⟩,A330,H⟩:=H
     replace H:(if t208=true then (orders_Measured.l0 k2 l2 l1 (l1.length:Int) (wrap64 (x42_2+1)) (x199000_2.set ((rd l1 x42_2):Int).toNat (⟨(⟨t206,t207⟩:S24),(rd_T50 x199000_2 (rd l1 x42_2)).f1,(rd_T50 x199000_2 (rd l1 x42_2)).f2⟩:S50)) a0_1 a0_2) else (some (([]:List (S50)),0,0,4)))=some (r1,r2,r3,r4):=H
     have A33:=Aside0.mk A330
     clear A330
     by_cases c34:t208=true
     rotate_left
     ·replace c34:=Bool.eq_false_iff.mpr c34
      subst c34
      have H1:(some (([]:List (S50)),0,0,4))=some (r1,r2,r3,r4):=by rw [if_neg (show ¬ (false=true) by decide)] at H;exact H
      clear H
      have H:=H1
      clear H1
      simp only [Option.some.injEq,Prod.mk.injEq] at H
      obtain ⟨rfl,rfl,rfl,rfl⟩:=H
      have p199:0≤(x42_2:Int):=dA
      have q199:x42_2 < (l1.length:Int):=dA
      obtain ⟨ad199,e199,hx199_0⟩:=Kd.at_int HR1.out x42_2 p199 q199
      cases e199
      replace hx199_0:=hC HB.out hx199_0
      replace p199:=eq_true p199
      replace q199:=eq_true q199
      have hnb53:=NB198_191.out
      have hnc53:=NB191_198.out
      have hnb54:=NB198_192.out
      have hnc54:=NB192_198.out
      obtain ⟨_,_,_,_,_,_⟩:=xC3 BK198.out
      obtain ⟨Ao56,co56,eo56⟩:=Kd.R_slice HO_199000.out
      subst eo56
      have p200:0≤((rd l1 x42_2):Int):=dA
      have q200:(rd l1 x42_2) < (x199000_2.length:Int):=dA
      obtain ⟨ad200,e200,hx200_0,hx200_1,hx200_2,hx200_3⟩:=at_T50 (Kd.R_reads' HO_199000.out).2.2 (rd l1 x42_2) p200 q200
      cases e200
      replace p200:=eq_true p200
      replace q200:=eq_true q200
      try go_wp2
      replace HO_199000:=qK (Kd.R_drew HO_199000.out)
      replace BK191:=qK (blk_drew BK191.out)
      replace BK192:=qK (blk_drew BK192.out)
      replace BK198:=qK (blk_drew BK198.out)
      replace HB:=qK (below_drew1 HB.out)
      have p201:0≤((rd l1 x42_2):Int):=dA
      have q201:(rd l1 x42_2) < (x199000_2.length:Int):=dA
      obtain ⟨ad201,e201,hx201_0,hx201_1,hx201_2,hx201_3⟩:=at_T50 (Kd.R_reads' HO_199000.out).2.2 (rd l1 x42_2) p201 q201
      obtain rfl:ad200=ad201:=(by injection e201)
      replace p201:=eq_true p201
      replace q201:=eq_true q201
      have p202:0≤(x42_2:Int):=dA
      have q202:x42_2 < (l2.length:Int):=dA
      obtain ⟨ad202,e202,hx202_0⟩:=Kd.at_int HR2.out x42_2 p202 q202
      have hw202_0:=hx202_0
      cases e202
      replace hx202_0:=hC HB.out hx202_0
      replace p202:=eq_true p202
      replace q202:=eq_true q202
      have p203:0≤((rd l1 x42_2):Int):=dA
      have q203:(rd l1 x42_2) < (x199000_2.length:Int):=dA
      obtain ⟨ad203,e203,hx203_0,hx203_1,hx203_2,hx203_3⟩:=at_T50 (Kd.R_reads' HO_199000.out).2.2 (rd l1 x42_2) p203 q203
      obtain rfl:ad200=ad203:=(by injection e203)
      replace p203:=eq_true p203
      replace q203:=eq_true q203
      have p204:0≤(x42_2:Int):=dA
      have q204:x42_2 < (l2.length:Int):=dA
      obtain ⟨ad204,e204,hx204_0⟩:=Kd.at_int HR2.out x42_2 p204 q204
      have hw204_0:=hx204_0
      obtain rfl:ad202=ad204:=(by injection e204)
      replace hx204_0:=hC HB.out hx204_0
      replace p204:=eq_true p204
      replace q204:=eq_true q204
      have p205:0≤((rd l1 x42_2):Int):=dA
      have q205:(rd l1 x42_2) < (x199000_2.length:Int):=dA
      obtain ⟨ad205,e205,hx205_0,hx205_1,hx205_2,hx205_3⟩:=at_T50 (Kd.R_reads' HO_199000.out).2.2 (rd l1 x42_2) p205 q205
      obtain rfl:ad200=ad205:=(by injection e205)
      replace p205:=eq_true p205
      replace q205:=eq_true q205
      refine start_ (n:=30) (S:=fun w'=>w'.cell? (ad200.add (((rd l1 x42_2)).toNat*4))=some (.int .i64 ((rd_T50 x199000_2 (rd l1 x42_2)).f0.f0))∧w'.cell? ⟨(ad200.add (((rd l1 x42_2)).toNat*4)).block,(ad200.add (((rd l1 x42_2)).toNat*4)).off+1,none⟩=some (.int .i64 ((rd_T50 x199000_2 (rd l1 x42_2)).f0.f1))∧w'.cell? ⟨(ad200.add (((rd l1 x42_2)).toNat*4)).block,(ad200.add (((rd l1 x42_2)).toNat*4)).off+2,none⟩=some (.int .i64 ((rd_T50 x199000_2 (rd l1 x42_2)).f1))∧w'.cell? ⟨(ad200.add (((rd l1 x42_2)).toNat*4)).block,(ad200.add (((rd l1 x42_2)).toNat*4)).off+3,none⟩=some (.int .i64 ((rd_T50 x199000_2 (rd l1 x42_2)).f2))∧w'.cell? (ad202.add (x42_2).toNat)=some (.int .i64 (rd l2 x42_2))∧w'.cell? (ad200.add (((rd l1 x42_2)).toNat*4))=some (.int .i64 ((rd_T50 x199000_2 (rd l1 x42_2)).f0.f0))∧w'.cell? ⟨(ad200.add (((rd l1 x42_2)).toNat*4)).block,(ad200.add (((rd l1 x42_2)).toNat*4)).off+1,none⟩=some (.int .i64 ((rd_T50 x199000_2 (rd l1 x42_2)).f0.f1))∧w'.cell? ⟨(ad200.add (((rd l1 x42_2)).toNat*4)).block,(ad200.add (((rd l1 x42_2)).toNat*4)).off+2,none⟩=some (.int .i64 ((rd_T50 x199000_2 (rd l1 x42_2)).f1))∧w'.cell? ⟨(ad200.add (((rd l1 x42_2)).toNat*4)).block,(ad200.add (((rd l1 x42_2)).toNat*4)).off+3,none⟩=some (.int .i64 ((rd_T50 x199000_2 (rd l1 x42_2)).f2))∧w'.cell? (ad202.add (x42_2).toNat)=some (.int .i64 (rd l2 x42_2))∧w'.cell? (ad200.add (((rd l1 x42_2)).toNat*4))=some (.int .i64 ((rd_T50 x199000_2 (rd l1 x42_2)).f0.f0))∧w'.cell? ⟨(ad200.add (((rd l1 x42_2)).toNat*4)).block,(ad200.add (((rd l1 x42_2)).toNat*4)).off+1,none⟩=some (.int .i64 ((rd_T50 x199000_2 (rd l1 x42_2)).f0.f1))∧w'.cell? ⟨(ad200.add (((rd l1 x42_2)).toNat*4)).block,(ad200.add (((rd l1 x42_2)).toNat*4)).off+2,none⟩=some (.int .i64 ((rd_T50 x199000_2 (rd l1 x42_2)).f1))∧w'.cell? ⟨(ad200.add (((rd l1 x42_2)).toNat*4)).block,(ad200.add (((rd l1 x42_2)).toNat*4)).off+3,none⟩=some (.int .i64 ((rd_T50 x199000_2 (rd l1 x42_2)).f2))) (ds:=[]) #[false,false,false,false,false,false,false,false,false,false,false,false,false,false,false,false,false,false,false,false,false,false,false,false,false,false,false,false,false,false] (by kernel_rfl) rfl rfl ⟨hx201_0,hx201_1,hx201_2,hx201_3,(hC HB.out hw202_0),hx203_0,hx203_1,hx203_2,hx203_3,(hC HB.out hw204_0),hx205_0,hx205_1,hx205_2,hx205_3⟩ (fun hHeld=>?_);refine with_tabW orders_Measured.tab11 orders_Measured.bits11 (fun HT_ HW_=>?_)
      generalize wr.drew=w57 at HO_199000 BK191 BK192 BK198 HB hx201_0 hx201_1 hx201_2 hx201_3 hx202_0 hx203_0 hx203_1 hx203_2 hx203_3 hx204_0 hx205_0 hx205_1 hx205_2 hx205_3 hHeld ⊢
      refine pP 0 (some 52) HT_ ?_
      refine pP 1 (some 53) HT_ ?_
      refine pP 2 (some 54) HT_ ?_
      refine pP 4 (some 56) HT_ ?_
      refine pP 5 (some 57) HT_ ?_
      refine pP 6 (some 58) HT_ ?_
      refine pP 8 (some 60) HT_ ?_
      refine pP 9 (some 61) HT_ ?_
      refine pP 10 (some 62) HT_ ?_
      refine pP 13 (some 65) HT_ ?_
      refine pP 14 (some 66) HT_ ?_
      refine pP 15 (some 67) HT_ ?_
      refine pP 17 (some 69) HT_ ?_
      refine pP 18 (some 70) HT_ ?_
      refine pP 19 (some 71) HT_ ?_
      refine tP 3 (some 55) HT_ HW_ hHeld ?_
      refine tP 7 (some 59) HT_ HW_ hHeld ?_
      refine tP 11 (some 63) HT_ HW_ hHeld ?_
      refine pP 12 (some 64) HT_ ?_
      refine tP 16 (some 68) HT_ HW_ hHeld ?_
      refine tP 20 (some 72) HT_ HW_ hHeld ?_
      refine pP 21 (some 73) HT_ ?_
      refine pP 22 (some 74) HT_ ?_
      refine join_ (σ:=Nat) 2 #[true,true,true,true,true,true,true,true,true,true,true,true,true,true,true,true,true,true,true,true,true,true,true,true,true,true,true,true,false,false] (fun s_=>[(75,.tuple #[.agg #[.int .i64 t206,.int .i64 t207],.bool false]),(13,.pointer (some ⟨s_,0,none⟩)),(51,.tuple #[.agg #[.int .i64 t206,.int .i64 t207],.bool false]),(76,.agg #[.int .i64 t206,.int .i64 t207]),(77,.bool false)]) (fun s_ w'=>(w'.cell? (ad200.add (((rd l1 x42_2)).toNat*4))=some (.int .i64 ((rd_T50 x199000_2 (rd l1 x42_2)).f0.f0))∧w'.cell? ⟨(ad200.add (((rd l1 x42_2)).toNat*4)).block,(ad200.add (((rd l1 x42_2)).toNat*4)).off+1,none⟩=some (.int .i64 ((rd_T50 x199000_2 (rd l1 x42_2)).f0.f1))∧w'.cell? ⟨(ad200.add (((rd l1 x42_2)).toNat*4)).block,(ad200.add (((rd l1 x42_2)).toNat*4)).off+2,none⟩=some (.int .i64 ((rd_T50 x199000_2 (rd l1 x42_2)).f1))∧w'.cell? ⟨(ad200.add (((rd l1 x42_2)).toNat*4)).block,(ad200.add (((rd l1 x42_2)).toNat*4)).off+3,none⟩=some (.int .i64 ((rd_T50 x199000_2 (rd l1 x42_2)).f2))∧w'.cell? (ad202.add (x42_2).toNat)=some (.int .i64 (rd l2 x42_2))∧w'.cell? (ad200.add (((rd l1 x42_2)).toNat*4))=some (.int .i64 ((rd_T50 x199000_2 (rd l1 x42_2)).f0.f0))∧w'.cell? ⟨(ad200.add (((rd l1 x42_2)).toNat*4)).block,(ad200.add (((rd l1 x42_2)).toNat*4)).off+1,none⟩=some (.int .i64 ((rd_T50 x199000_2 (rd l1 x42_2)).f0.f1))∧w'.cell? ⟨(ad200.add (((rd l1 x42_2)).toNat*4)).block,(ad200.add (((rd l1 x42_2)).toNat*4)).off+2,none⟩=some (.int .i64 ((rd_T50 x199000_2 (rd l1 x42_2)).f1))∧w'.cell? ⟨(ad200.add (((rd l1 x42_2)).toNat*4)).block,(ad200.add (((rd l1 x42_2)).toNat*4)).off+3,none⟩=some (.int .i64 ((rd_T50 x199000_2 (rd l1 x42_2)).f2))∧w'.cell? (ad202.add (x42_2).toNat)=some (.int .i64 (rd l2 x42_2))∧w'.cell? (ad200.add (((rd l1 x42_2)).toNat*4))=some (.int .i64 ((rd_T50 x199000_2 (rd l1 x42_2)).f0.f0))∧w'.cell? ⟨(ad200.add (((rd l1 x42_2)).toNat*4)).block,(ad200.add (((rd l1 x42_2)).toNat*4)).off+1,none⟩=some (.int .i64 ((rd_T50 x199000_2 (rd l1 x42_2)).f0.f1))∧w'.cell? ⟨(ad200.add (((rd l1 x42_2)).toNat*4)).block,(ad200.add (((rd l1 x42_2)).toNat*4)).off+2,none⟩=some (.int .i64 ((rd_T50 x199000_2 (rd l1 x42_2)).f1))∧w'.cell? ⟨(ad200.add (((rd l1 x42_2)).toNat*4)).block,(ad200.add (((rd l1 x42_2)).toNat*4)).off+3,none⟩=some (.int .i64 ((rd_T50 x199000_2 (rd l1 x42_2)).f2)))∧(Kd.R k50 50 w' w.heap.size (fun _=>True) (.slice (some ad200) x199000_2.length co56) x199000_2)∧(w'.heap[gb191]? = some (.cells #[.slice A0_0 l0_0.length c0_0,.int .i64 a0_1,.int .i64 a0_2] 26 (0,0)))∧(w'.heap[gb192]? = some (.cells #[.slice none 0 0,.int .i64 x193001_2,.int .i64 x193002_2] 26 (0,0)))∧(w'.heap[gb198]? = some (.cells #[.slice (some ad200) x199000_2.length co56,.int .i64 a0_1,.int .i64 a0_2] 26 (0,0)))∧(w'.heap[s_]? = some (.cells #[.int .i64 0,.int .i64 0] 24 (0,0)))∧(w.heap.size≤s_)∧(w.heap.size≤s_)∧(gb191≠s_)∧(s_≠gb191)∧(gb192≠s_)∧(s_≠gb192)∧(gb198≠s_)∧(s_≠gb198)∧(Below w.heap.size w w')) ?_ ?_
      rotate_left
      ·intro hCont
       refine two_ (i:=23) (j:=27) (Ni:=some 75) (Nj:=some 13) #[true,true,true,true,true,true,true,true,true,true,true,true,true,true,true,true,true,true,true,true,true,true,true,true,false,false,false,false,false,false] #[true,true,true,true,true,true,true,true,true,true,true,true,true,true,true,true,true,true,true,true,true,true,true,false,false,false,false,true,false,false] rfl rfl rfl rfl (two_of HT_.out (by kernel_rfl)) (by decide) (by decide) (fun K hK=>?_) (fun K hK=>?_)
       ·skip
        refine gO Try.func53 #[.agg #[.int .i64 ((rd_T50 x199000_2 (rd l1 x42_2)).f0.f0),.int .i64 ((rd_T50 x199000_2 (rd l1 x42_2)).f0.f1)],.agg #[.int .i64 (wrap64 ((rd l2 x42_2) - ((rd_T50 x199000_2 (rd l1 x42_2)).f2))),.int .i64 (wrap64 ((rd l2 x42_2)+((rd_T50 x199000_2 (rd l1 x42_2)).f2)))]] ?_
        with_reducible refine (orders_common.calls ((rd_T50 x199000_2 (rd l1 x42_2)).f0.f0) ((rd_T50 x199000_2 (rd l1 x42_2)).f0.f1) (wrap64 ((rd l2 x42_2) - ((rd_T50 x199000_2 (rd l1 x42_2)).f2))) (wrap64 ((rd l2 x42_2)+((rd_T50 x199000_2 (rd l1 x42_2)).f2))) t206 t207 false _ A33.out).mono ?_
        rintro e w58 ⟨rfl,hb⟩
        have HS0_:=(hb.cell (World.block_lt_of_cell? _ _ (hHeld.1))).trans (hHeld.1)
        have HS1_:=(hb.cell (World.block_lt_of_cell? _ _ (hHeld.2.1))).trans (hHeld.2.1)
        have HS2_:=(hb.cell (World.block_lt_of_cell? _ _ (hHeld.2.2.1))).trans (hHeld.2.2.1)
        have HS3_:=(hb.cell (World.block_lt_of_cell? _ _ (hHeld.2.2.2.1))).trans (hHeld.2.2.2.1)
        have HS5_:=(hb.cell (World.block_lt_of_cell? _ _ (hHeld.2.2.2.2.2.1))).trans (hHeld.2.2.2.2.2.1)
        have HS6_:=(hb.cell (World.block_lt_of_cell? _ _ (hHeld.2.2.2.2.2.2.1))).trans (hHeld.2.2.2.2.2.2.1)
        have HS7_:=(hb.cell (World.block_lt_of_cell? _ _ (hHeld.2.2.2.2.2.2.2.1))).trans (hHeld.2.2.2.2.2.2.2.1)
        have HS8_:=(hb.cell (World.block_lt_of_cell? _ _ (hHeld.2.2.2.2.2.2.2.2.1))).trans (hHeld.2.2.2.2.2.2.2.2.1)
        have HS10_:=(hb.cell (World.block_lt_of_cell? _ _ (hHeld.2.2.2.2.2.2.2.2.2.2.1))).trans (hHeld.2.2.2.2.2.2.2.2.2.2.1)
        have HS11_:=(hb.cell (World.block_lt_of_cell? _ _ (hHeld.2.2.2.2.2.2.2.2.2.2.2.1))).trans (hHeld.2.2.2.2.2.2.2.2.2.2.2.1)
        have HS12_:=(hb.cell (World.block_lt_of_cell? _ _ (hHeld.2.2.2.2.2.2.2.2.2.2.2.2.1))).trans (hHeld.2.2.2.2.2.2.2.2.2.2.2.2.1)
        have HS13_:=(hb.cell (World.block_lt_of_cell? _ _ (hHeld.2.2.2.2.2.2.2.2.2.2.2.2.2))).trans (hHeld.2.2.2.2.2.2.2.2.2.2.2.2.2)
        refine ⟨_,rfl,?_⟩
        replace HO_199000:=qK (Kd.R_below (rS HO_199000.out) hb)
        replace BK191:=qK (bB BK191.out hb)
        replace BK192:=qK (bB BK192.out hb)
        replace BK198:=qK (bB BK198.out hb)
        replace HB:=qK (bS hb)
        (try clear hb)
        (try clear hb2)
        (try clear hk)
        (try clear hi)
        refine hK.out _ _ ⟨HS0_,HS1_,HS2_,HS3_,(hC HB.out hw202_0),HS5_,HS6_,HS7_,HS8_,(hC HB.out hw204_0),HS10_,HS11_,HS12_,HS13_⟩ (fun hHeld=>?_)
        clear hK K
        refine nP ?_
        refine pP 24 (some 51) HT_ ?_
        refine pP 25 (some 76) HT_ ?_
        refine pP 26 (some 77) HT_ ?_
        refine oP 27 (some 13) HT_ (fun K hK=>?_)
        refine box_step ?hg (N:=13) ?hd (cs:=#[.int .i64 0,.int .i64 0]) (t:=24) ?hr ?_;(case hd=>rfl);(case hg=>rfl);(case hr=>first|(go_simp;done)|(go_simp;rfl))
        intro gb209 hg w59 hbox hb
        have HS0_:=(hb.cell (World.block_lt_of_cell? _ _ (hHeld.1))).trans (hHeld.1)
        have HS1_:=(hb.cell (World.block_lt_of_cell? _ _ (hHeld.2.1))).trans (hHeld.2.1)
        have HS2_:=(hb.cell (World.block_lt_of_cell? _ _ (hHeld.2.2.1))).trans (hHeld.2.2.1)
        have HS3_:=(hb.cell (World.block_lt_of_cell? _ _ (hHeld.2.2.2.1))).trans (hHeld.2.2.2.1)
        have HS5_:=(hb.cell (World.block_lt_of_cell? _ _ (hHeld.2.2.2.2.2.1))).trans (hHeld.2.2.2.2.2.1)
        have HS6_:=(hb.cell (World.block_lt_of_cell? _ _ (hHeld.2.2.2.2.2.2.1))).trans (hHeld.2.2.2.2.2.2.1)
        have HS7_:=(hb.cell (World.block_lt_of_cell? _ _ (hHeld.2.2.2.2.2.2.2.1))).trans (hHeld.2.2.2.2.2.2.2.1)
        have HS8_:=(hb.cell (World.block_lt_of_cell? _ _ (hHeld.2.2.2.2.2.2.2.2.1))).trans (hHeld.2.2.2.2.2.2.2.2.1)
        have HS10_:=(hb.cell (World.block_lt_of_cell? _ _ (hHeld.2.2.2.2.2.2.2.2.2.2.1))).trans (hHeld.2.2.2.2.2.2.2.2.2.2.1)
        have HS11_:=(hb.cell (World.block_lt_of_cell? _ _ (hHeld.2.2.2.2.2.2.2.2.2.2.2.1))).trans (hHeld.2.2.2.2.2.2.2.2.2.2.2.1)
        have HS12_:=(hb.cell (World.block_lt_of_cell? _ _ (hHeld.2.2.2.2.2.2.2.2.2.2.2.2.1))).trans (hHeld.2.2.2.2.2.2.2.2.2.2.2.2.1)
        have HS13_:=(hb.cell (World.block_lt_of_cell? _ _ (hHeld.2.2.2.2.2.2.2.2.2.2.2.2.2))).trans (hHeld.2.2.2.2.2.2.2.2.2.2.2.2.2)
        replace HO_199000:=qK (Kd.R_below (rS HO_199000.out) hb)
        have BK209:=qK (hbox)
        have GW209:=qK ((gS hg:w.heap.size≤gb209))
        have GE209:=qK ((gS hg:w.heap.size≤gb209))
        replace HB:=qK (bS hb)
        have NB191_209:=qK ((nL hg BK191.out:gb191≠gb209))
        have NB209_191:=qK ((nG hg BK191.out:gb209≠gb191))
        replace BK191:=qK (bB BK191.out hb)
        have NB192_209:=qK ((nL hg BK192.out:gb192≠gb209))
        have NB209_192:=qK ((nG hg BK192.out:gb209≠gb192))
        replace BK192:=qK (bB BK192.out hb)
        have NB198_209:=qK ((nL hg BK198.out:gb198≠gb209))
        have NB209_198:=qK ((nG hg BK198.out:gb209≠gb198))
        replace BK198:=qK (bB BK198.out hb)
        clear hb hbox hg
        refine hK.out _ _ ⟨HS0_,HS1_,HS2_,HS3_,(hC HB.out hw202_0),HS5_,HS6_,HS7_,HS8_,(hC HB.out hw204_0),HS10_,HS11_,HS12_,HS13_⟩ (fun hHeld=>?_)
        clear hK K
        refine nP ?_
        exact norm_ (by simp only [putAll,Act.put,List.setIfInBounds_toArray,List.set_cons_zero,List.set_cons_succ]) (hCont (gb209) _ ⟨hHeld,(rS HO_199000.out),(bX BK191.out),(bX BK192.out),(bX BK198.out),(bX BK209.out),GW209.out,GE209.out,NB191_209.out,NB209_191.out,NB192_209.out,NB209_192.out,NB198_209.out,NB209_198.out,bA⟩)
       ·skip
        refine box_step ?hg (N:=13) ?hd (cs:=#[.int .i64 0,.int .i64 0]) (t:=24) ?hr ?_;(case hd=>rfl);(case hg=>rfl);(case hr=>first|(go_simp;done)|(go_simp;rfl))
        intro gb209 hg w58 hbox hb
        have HS0_:=(hb.cell (World.block_lt_of_cell? _ _ (hHeld.1))).trans (hHeld.1)
        have HS1_:=(hb.cell (World.block_lt_of_cell? _ _ (hHeld.2.1))).trans (hHeld.2.1)
        have HS2_:=(hb.cell (World.block_lt_of_cell? _ _ (hHeld.2.2.1))).trans (hHeld.2.2.1)
        have HS3_:=(hb.cell (World.block_lt_of_cell? _ _ (hHeld.2.2.2.1))).trans (hHeld.2.2.2.1)
        have HS5_:=(hb.cell (World.block_lt_of_cell? _ _ (hHeld.2.2.2.2.2.1))).trans (hHeld.2.2.2.2.2.1)
        have HS6_:=(hb.cell (World.block_lt_of_cell? _ _ (hHeld.2.2.2.2.2.2.1))).trans (hHeld.2.2.2.2.2.2.1)
        have HS7_:=(hb.cell (World.block_lt_of_cell? _ _ (hHeld.2.2.2.2.2.2.2.1))).trans (hHeld.2.2.2.2.2.2.2.1)
        have HS8_:=(hb.cell (World.block_lt_of_cell? _ _ (hHeld.2.2.2.2.2.2.2.2.1))).trans (hHeld.2.2.2.2.2.2.2.2.1)
        have HS10_:=(hb.cell (World.block_lt_of_cell? _ _ (hHeld.2.2.2.2.2.2.2.2.2.2.1))).trans (hHeld.2.2.2.2.2.2.2.2.2.2.1)
        have HS11_:=(hb.cell (World.block_lt_of_cell? _ _ (hHeld.2.2.2.2.2.2.2.2.2.2.2.1))).trans (hHeld.2.2.2.2.2.2.2.2.2.2.2.1)
        have HS12_:=(hb.cell (World.block_lt_of_cell? _ _ (hHeld.2.2.2.2.2.2.2.2.2.2.2.2.1))).trans (hHeld.2.2.2.2.2.2.2.2.2.2.2.2.1)
        have HS13_:=(hb.cell (World.block_lt_of_cell? _ _ (hHeld.2.2.2.2.2.2.2.2.2.2.2.2.2))).trans (hHeld.2.2.2.2.2.2.2.2.2.2.2.2.2)
        replace HO_199000:=qK (Kd.R_below (rS HO_199000.out) hb)
        have BK209:=qK (hbox)
        have GW209:=qK ((gS hg:w.heap.size≤gb209))
        have GE209:=qK ((gS hg:w.heap.size≤gb209))
        replace HB:=qK (bS hb)
        have NB191_209:=qK ((nL hg BK191.out:gb191≠gb209))
        have NB209_191:=qK ((nG hg BK191.out:gb209≠gb191))
        replace BK191:=qK (bB BK191.out hb)
        have NB192_209:=qK ((nL hg BK192.out:gb192≠gb209))
        have NB209_192:=qK ((nG hg BK192.out:gb209≠gb192))
        replace BK192:=qK (bB BK192.out hb)
        have NB198_209:=qK ((nL hg BK198.out:gb198≠gb209))
        have NB209_198:=qK ((nG hg BK198.out:gb209≠gb198))
        replace BK198:=qK (bB BK198.out hb)
        clear hb hbox hg
        refine hK.out _ _ ⟨HS0_,HS1_,HS2_,HS3_,(hC HB.out hw202_0),HS5_,HS6_,HS7_,HS8_,(hC HB.out hw204_0),HS10_,HS11_,HS12_,HS13_⟩ (fun hHeld=>?_)
        clear hK K
        refine nP ?_
        refine oP 23 (some 75) HT_ (fun K hK=>?_)
        refine gO Try.func53 #[.agg #[.int .i64 ((rd_T50 x199000_2 (rd l1 x42_2)).f0.f0),.int .i64 ((rd_T50 x199000_2 (rd l1 x42_2)).f0.f1)],.agg #[.int .i64 (wrap64 ((rd l2 x42_2) - ((rd_T50 x199000_2 (rd l1 x42_2)).f2))),.int .i64 (wrap64 ((rd l2 x42_2)+((rd_T50 x199000_2 (rd l1 x42_2)).f2)))]] ?_
        with_reducible refine (orders_common.calls ((rd_T50 x199000_2 (rd l1 x42_2)).f0.f0) ((rd_T50 x199000_2 (rd l1 x42_2)).f0.f1) (wrap64 ((rd l2 x42_2) - ((rd_T50 x199000_2 (rd l1 x42_2)).f2))) (wrap64 ((rd l2 x42_2)+((rd_T50 x199000_2 (rd l1 x42_2)).f2))) t206 t207 false _ A33.out).mono ?_
        rintro e w59 ⟨rfl,hb⟩
        have HS0_:=(hb.cell (World.block_lt_of_cell? _ _ (hHeld.1))).trans (hHeld.1)
        have HS1_:=(hb.cell (World.block_lt_of_cell? _ _ (hHeld.2.1))).trans (hHeld.2.1)
        have HS2_:=(hb.cell (World.block_lt_of_cell? _ _ (hHeld.2.2.1))).trans (hHeld.2.2.1)
        have HS3_:=(hb.cell (World.block_lt_of_cell? _ _ (hHeld.2.2.2.1))).trans (hHeld.2.2.2.1)
        have HS5_:=(hb.cell (World.block_lt_of_cell? _ _ (hHeld.2.2.2.2.2.1))).trans (hHeld.2.2.2.2.2.1)
        have HS6_:=(hb.cell (World.block_lt_of_cell? _ _ (hHeld.2.2.2.2.2.2.1))).trans (hHeld.2.2.2.2.2.2.1)
        have HS7_:=(hb.cell (World.block_lt_of_cell? _ _ (hHeld.2.2.2.2.2.2.2.1))).trans (hHeld.2.2.2.2.2.2.2.1)
        have HS8_:=(hb.cell (World.block_lt_of_cell? _ _ (hHeld.2.2.2.2.2.2.2.2.1))).trans (hHeld.2.2.2.2.2.2.2.2.1)
        have HS10_:=(hb.cell (World.block_lt_of_cell? _ _ (hHeld.2.2.2.2.2.2.2.2.2.2.1))).trans (hHeld.2.2.2.2.2.2.2.2.2.2.1)
        have HS11_:=(hb.cell (World.block_lt_of_cell? _ _ (hHeld.2.2.2.2.2.2.2.2.2.2.2.1))).trans (hHeld.2.2.2.2.2.2.2.2.2.2.2.1)
        have HS12_:=(hb.cell (World.block_lt_of_cell? _ _ (hHeld.2.2.2.2.2.2.2.2.2.2.2.2.1))).trans (hHeld.2.2.2.2.2.2.2.2.2.2.2.2.1)
        have HS13_:=(hb.cell (World.block_lt_of_cell? _ _ (hHeld.2.2.2.2.2.2.2.2.2.2.2.2.2))).trans (hHeld.2.2.2.2.2.2.2.2.2.2.2.2.2)
        refine ⟨_,rfl,?_⟩
        replace HO_199000:=qK (Kd.R_below (rS HO_199000.out) hb)
        replace BK191:=qK (bB BK191.out hb)
        replace BK192:=qK (bB BK192.out hb)
        replace BK198:=qK (bB BK198.out hb)
        replace BK209:=qK (bB BK209.out hb)
        replace HB:=qK (bS hb)
        (try clear hb)
        (try clear hb2)
        (try clear hk)
        (try clear hi)
        refine hK.out _ _ ⟨HS0_,HS1_,HS2_,HS3_,(hC HB.out hw202_0),HS5_,HS6_,HS7_,HS8_,(hC HB.out hw204_0),HS10_,HS11_,HS12_,HS13_⟩ (fun hHeld=>?_)
        clear hK K
        refine nP ?_
        refine pP 24 (some 51) HT_ ?_
        refine pP 25 (some 76) HT_ ?_
        refine pP 26 (some 77) HT_ ?_
        exact norm_ (by simp only [putAll,Act.put,List.setIfInBounds_toArray,List.set_cons_zero,List.set_cons_succ]) (hCont (gb209) _ ⟨hHeld,(rS HO_199000.out),(bX BK191.out),(bX BK192.out),(bX BK198.out),(bX BK209.out),GW209.out,GE209.out,NB191_209.out,NB209_191.out,NB192_209.out,NB209_192.out,NB198_209.out,NB209_198.out,bA⟩)
      rintro gb209 w60 ⟨hS_,h0_,h1_,h2_,h3_,h4_,h5_,h6_,h7_,h8_,h9_,h10_,h11_,h12_,h13_⟩
      have n0_:Aside0 (Kd.R k50 50 w60 w.heap.size (fun _=>True) (.slice (some ad200) x199000_2.length co56) x199000_2):=⟨h0_⟩
      have n1_:Aside0 (w60.heap[gb191]? = some (.cells #[.slice A0_0 l0_0.length c0_0,.int .i64 a0_1,.int .i64 a0_2] 26 (0,0))):=⟨h1_⟩
      have n2_:Aside0 (w60.heap[gb192]? = some (.cells #[.slice none 0 0,.int .i64 x193001_2,.int .i64 x193002_2] 26 (0,0))):=⟨h2_⟩
      have n3_:Aside0 (w60.heap[gb198]? = some (.cells #[.slice (some ad200) x199000_2.length co56,.int .i64 a0_1,.int .i64 a0_2] 26 (0,0))):=⟨h3_⟩
      have n4_:Aside0 (w60.heap[gb209]? = some (.cells #[.int .i64 0,.int .i64 0] 24 (0,0))):=⟨h4_⟩
      have n5_:Aside0 (w.heap.size≤gb209):=⟨h5_⟩
      have n6_:Aside0 (w.heap.size≤gb209):=⟨h6_⟩
      have n7_:Aside0 (gb191≠gb209):=⟨h7_⟩
      have n8_:Aside0 (gb209≠gb191):=⟨h8_⟩
      have n9_:Aside0 (gb192≠gb209):=⟨h9_⟩
      have n10_:Aside0 (gb209≠gb192):=⟨h10_⟩
      have n11_:Aside0 (gb198≠gb209):=⟨h11_⟩
      have n12_:Aside0 (gb209≠gb198):=⟨h12_⟩
      have n13_:Aside0 (Below w.heap.size w w60):=⟨h13_⟩
      clear HO_199000
      clear BK191
      clear BK192
      clear BK198
      clear HB
      clear h0_ h1_ h2_ h3_ h4_ h5_ h6_ h7_ h8_ h9_ h10_ h11_ h12_ h13_
      have HO_199000:=n0_
      have BK191:=n1_
      have BK192:=n2_
      have BK198:=n3_
      have BK209:=n4_
      have GW209:=n5_
      have GE209:=n6_
      have NB191_209:=n7_
      have NB209_191:=n8_
      have NB192_209:=n9_
      have NB209_192:=n10_
      have NB198_209:=n11_
      have NB209_198:=n12_
      have HB:=n13_
      clear n0_ n1_ n2_ n3_ n4_ n5_ n6_ n7_ n8_ n9_ n10_ n11_ n12_ n13_
      have hHeld:w60.cell? (ad200.add (((rd l1 x42_2)).toNat*4))=some (.int .i64 ((rd_T50 x199000_2 (rd l1 x42_2)).f0.f0))∧w60.cell? ⟨(ad200.add (((rd l1 x42_2)).toNat*4)).block,(ad200.add (((rd l1 x42_2)).toNat*4)).off+1,none⟩=some (.int .i64 ((rd_T50 x199000_2 (rd l1 x42_2)).f0.f1))∧w60.cell? ⟨(ad200.add (((rd l1 x42_2)).toNat*4)).block,(ad200.add (((rd l1 x42_2)).toNat*4)).off+2,none⟩=some (.int .i64 ((rd_T50 x199000_2 (rd l1 x42_2)).f1))∧w60.cell? ⟨(ad200.add (((rd l1 x42_2)).toNat*4)).block,(ad200.add (((rd l1 x42_2)).toNat*4)).off+3,none⟩=some (.int .i64 ((rd_T50 x199000_2 (rd l1 x42_2)).f2))∧w60.cell? (ad202.add (x42_2).toNat)=some (.int .i64 (rd l2 x42_2))∧w60.cell? (ad200.add (((rd l1 x42_2)).toNat*4))=some (.int .i64 ((rd_T50 x199000_2 (rd l1 x42_2)).f0.f0))∧w60.cell? ⟨(ad200.add (((rd l1 x42_2)).toNat*4)).block,(ad200.add (((rd l1 x42_2)).toNat*4)).off+1,none⟩=some (.int .i64 ((rd_T50 x199000_2 (rd l1 x42_2)).f0.f1))∧w60.cell? ⟨(ad200.add (((rd l1 x42_2)).toNat*4)).block,(ad200.add (((rd l1 x42_2)).toNat*4)).off+2,none⟩=some (.int .i64 ((rd_T50 x199000_2 (rd l1 x42_2)).f1))∧w60.cell? ⟨(ad200.add (((rd l1 x42_2)).toNat*4)).block,(ad200.add (((rd l1 x42_2)).toNat*4)).off+3,none⟩=some (.int .i64 ((rd_T50 x199000_2 (rd l1 x42_2)).f2))∧w60.cell? (ad202.add (x42_2).toNat)=some (.int .i64 (rd l2 x42_2))∧w60.cell? (ad200.add (((rd l1 x42_2)).toNat*4))=some (.int .i64 ((rd_T50 x199000_2 (rd l1 x42_2)).f0.f0))∧w60.cell? ⟨(ad200.add (((rd l1 x42_2)).toNat*4)).block,(ad200.add (((rd l1 x42_2)).toNat*4)).off+1,none⟩=some (.int .i64 ((rd_T50 x199000_2 (rd l1 x42_2)).f0.f1))∧w60.cell? ⟨(ad200.add (((rd l1 x42_2)).toNat*4)).block,(ad200.add (((rd l1 x42_2)).toNat*4)).off+2,none⟩=some (.int .i64 ((rd_T50 x199000_2 (rd l1 x42_2)).f1))∧w60.cell? ⟨(ad200.add (((rd l1 x42_2)).toNat*4)).block,(ad200.add (((rd l1 x42_2)).toNat*4)).off+3,none⟩=some (.int .i64 ((rd_T50 x199000_2 (rd l1 x42_2)).f2)):=hS_
      refine norm_ (a':=?_) ?_ ?_
      rotate_left
      ·simp only [putAll,Act.put,List.setIfInBounds_toArray,List.set_cons_zero,List.set_cons_succ]
       rfl
      refine oP 28 none HT_ (fun K hK=>?_)
      have hs61:w60.cell? ⟨gb209,0,none⟩=some (.int .i64 0):=(blk_cell BK209.out 0).trans rfl
      have hfs61:=blk_frozen BK209.out 0
      have hns61_0:=NB191_209.out
      have hns61_1:=NB192_209.out
      have hns61_2:=NB198_209.out
      have hms61_0:=NB209_191.out
      have hms61_1:=NB209_192.out
      have hms61_2:=NB209_198.out
      have hs62:w60.cell? ⟨gb209,1,none⟩=some (.int .i64 0):=(blk_cell BK209.out 1).trans rfl
      have hfs62:=blk_frozen BK209.out 1
      have hns62_0:=NB191_209.out
      have hns62_1:=NB192_209.out
      have hns62_2:=NB198_209.out
      have hms62_0:=NB209_191.out
      have hms62_1:=NB209_192.out
      have hms62_2:=NB209_198.out
      refine skip_ (w1:=?_) (by rfl) rfl ?_ ?_
      rotate_left
      ·go_simp
       rfl
      refine hK.out _ _ ⟨((cell_far (p:=⟨gb209,_,none⟩) (oB (Kd.R_ne HO_199000.out BK209.out (by decide))) _).trans (((cell_far (p:=⟨gb209,_,none⟩) (oB (Kd.R_ne HO_199000.out BK209.out (by decide))) _).trans (hHeld.1)))),((cell_far (p:=⟨gb209,_,none⟩) (oB (Kd.R_ne HO_199000.out BK209.out (by decide))) _).trans (((cell_far (p:=⟨gb209,_,none⟩) (oB (Kd.R_ne HO_199000.out BK209.out (by decide))) _).trans (hHeld.2.1)))),((cell_far (p:=⟨gb209,_,none⟩) (oB (Kd.R_ne HO_199000.out BK209.out (by decide))) _).trans (((cell_far (p:=⟨gb209,_,none⟩) (oB (Kd.R_ne HO_199000.out BK209.out (by decide))) _).trans (hHeld.2.2.1)))),((cell_far (p:=⟨gb209,_,none⟩) (oB (Kd.R_ne HO_199000.out BK209.out (by decide))) _).trans (((cell_far (p:=⟨gb209,_,none⟩) (oB (Kd.R_ne HO_199000.out BK209.out (by decide))) _).trans (hHeld.2.2.2.1)))),((cell_far (p:=⟨gb209,_,none⟩) (by first|exact Nat.ne_of_lt (Nat.lt_of_lt_of_le (by have:=World.block_lt_of_cell? _ _ hw202_0;first|rwa [add_block] at this|exact this) GW209.out)|(rw [add_block];exact Nat.ne_of_lt (Nat.lt_of_lt_of_le (by have:=World.block_lt_of_cell? _ _ hw202_0;first|rwa [add_block] at this|exact this) GW209.out))|(show (Addr.add _ _).block≠_;rw [add_block];exact Nat.ne_of_lt (Nat.lt_of_lt_of_le (by have:=World.block_lt_of_cell? _ _ hw202_0;first|rwa [add_block] at this|exact this) GW209.out))|(dsimp only;exact Nat.ne_of_lt (Nat.lt_of_lt_of_le (by have:=World.block_lt_of_cell? _ _ hw202_0;first|rwa [add_block] at this|exact this) GW209.out))) _).trans (((cell_far (p:=⟨gb209,_,none⟩) (by first|exact Nat.ne_of_lt (Nat.lt_of_lt_of_le (by have:=World.block_lt_of_cell? _ _ hw202_0;first|rwa [add_block] at this|exact this) GW209.out)|(rw [add_block];exact Nat.ne_of_lt (Nat.lt_of_lt_of_le (by have:=World.block_lt_of_cell? _ _ hw202_0;first|rwa [add_block] at this|exact this) GW209.out))|(show (Addr.add _ _).block≠_;rw [add_block];exact Nat.ne_of_lt (Nat.lt_of_lt_of_le (by have:=World.block_lt_of_cell? _ _ hw202_0;first|rwa [add_block] at this|exact this) GW209.out))|(dsimp only;exact Nat.ne_of_lt (Nat.lt_of_lt_of_le (by have:=World.block_lt_of_cell? _ _ hw202_0;first|rwa [add_block] at this|exact this) GW209.out))) _).trans (hHeld.2.2.2.2.1)))),((cell_far (p:=⟨gb209,_,none⟩) (oB (Kd.R_ne HO_199000.out BK209.out (by decide))) _).trans (((cell_far (p:=⟨gb209,_,none⟩) (oB (Kd.R_ne HO_199000.out BK209.out (by decide))) _).trans (hHeld.2.2.2.2.2.1)))),((cell_far (p:=⟨gb209,_,none⟩) (oB (Kd.R_ne HO_199000.out BK209.out (by decide))) _).trans (((cell_far (p:=⟨gb209,_,none⟩) (oB (Kd.R_ne HO_199000.out BK209.out (by decide))) _).trans (hHeld.2.2.2.2.2.2.1)))),((cell_far (p:=⟨gb209,_,none⟩) (oB (Kd.R_ne HO_199000.out BK209.out (by decide))) _).trans (((cell_far (p:=⟨gb209,_,none⟩) (oB (Kd.R_ne HO_199000.out BK209.out (by decide))) _).trans (hHeld.2.2.2.2.2.2.2.1)))),((cell_far (p:=⟨gb209,_,none⟩) (oB (Kd.R_ne HO_199000.out BK209.out (by decide))) _).trans (((cell_far (p:=⟨gb209,_,none⟩) (oB (Kd.R_ne HO_199000.out BK209.out (by decide))) _).trans (hHeld.2.2.2.2.2.2.2.2.1)))),((cell_far (p:=⟨gb209,_,none⟩) (by first|exact Nat.ne_of_lt (Nat.lt_of_lt_of_le (by have:=World.block_lt_of_cell? _ _ hw204_0;first|rwa [add_block] at this|exact this) GW209.out)|(rw [add_block];exact Nat.ne_of_lt (Nat.lt_of_lt_of_le (by have:=World.block_lt_of_cell? _ _ hw204_0;first|rwa [add_block] at this|exact this) GW209.out))|(show (Addr.add _ _).block≠_;rw [add_block];exact Nat.ne_of_lt (Nat.lt_of_lt_of_le (by have:=World.block_lt_of_cell? _ _ hw204_0;first|rwa [add_block] at this|exact this) GW209.out))|(dsimp only;exact Nat.ne_of_lt (Nat.lt_of_lt_of_le (by have:=World.block_lt_of_cell? _ _ hw204_0;first|rwa [add_block] at this|exact this) GW209.out))) _).trans (((cell_far (p:=⟨gb209,_,none⟩) (by first|exact Nat.ne_of_lt (Nat.lt_of_lt_of_le (by have:=World.block_lt_of_cell? _ _ hw204_0;first|rwa [add_block] at this|exact this) GW209.out)|(rw [add_block];exact Nat.ne_of_lt (Nat.lt_of_lt_of_le (by have:=World.block_lt_of_cell? _ _ hw204_0;first|rwa [add_block] at this|exact this) GW209.out))|(show (Addr.add _ _).block≠_;rw [add_block];exact Nat.ne_of_lt (Nat.lt_of_lt_of_le (by have:=World.block_lt_of_cell? _ _ hw204_0;first|rwa [add_block] at this|exact this) GW209.out))|(dsimp only;exact Nat.ne_of_lt (Nat.lt_of_lt_of_le (by have:=World.block_lt_of_cell? _ _ hw204_0;first|rwa [add_block] at this|exact this) GW209.out))) _).trans (hHeld.2.2.2.2.2.2.2.2.2.1)))),((cell_far (p:=⟨gb209,_,none⟩) (oB (Kd.R_ne HO_199000.out BK209.out (by decide))) _).trans (((cell_far (p:=⟨gb209,_,none⟩) (oB (Kd.R_ne HO_199000.out BK209.out (by decide))) _).trans (hHeld.2.2.2.2.2.2.2.2.2.2.1)))),((cell_far (p:=⟨gb209,_,none⟩) (oB (Kd.R_ne HO_199000.out BK209.out (by decide))) _).trans (((cell_far (p:=⟨gb209,_,none⟩) (oB (Kd.R_ne HO_199000.out BK209.out (by decide))) _).trans (hHeld.2.2.2.2.2.2.2.2.2.2.2.1)))),((cell_far (p:=⟨gb209,_,none⟩) (oB (Kd.R_ne HO_199000.out BK209.out (by decide))) _).trans (((cell_far (p:=⟨gb209,_,none⟩) (oB (Kd.R_ne HO_199000.out BK209.out (by decide))) _).trans (hHeld.2.2.2.2.2.2.2.2.2.2.2.2.1)))),((cell_far (p:=⟨gb209,_,none⟩) (oB (Kd.R_ne HO_199000.out BK209.out (by decide))) _).trans (((cell_far (p:=⟨gb209,_,none⟩) (oB (Kd.R_ne HO_199000.out BK209.out (by decide))) _).trans (hHeld.2.2.2.2.2.2.2.2.2.2.2.2.2))))⟩ (fun hHeld=>?_)
      clear hK K
      refine pP 29 (some 14) HT_ ?_
      refine done_ (done_of HT_.out (by kernel_rfl)) ?_
      have hnb63:=NB192_191.out
      have hnc63:=NB191_192.out
      have hnb64:=NB192_209.out
      have hnc64:=NB209_192.out
      obtain ⟨_,_,_,_,_,_⟩:=xC3 BK192.out
      try go_wp2
      refine bodyPost_ret (results_ct rfl _ _ gb192 26 #[.slice none 0 0,.int .i64 0,.int .i64 0] (0,0) _ rfl (by (with_reducible repeat (first|refine blk_drewN ?_ _|refine blk_drew ?_|refine blk_alloc ?_ _));refine blk_put (cs:=#[.slice none 0 0,.int .i64 0,.int .i64 x193002_2]) ?_ 2 _ rfl;(with_reducible repeat (first|refine blk_drewN ?_ _|refine blk_drew ?_|refine blk_alloc ?_ _));refine blk_put (cs:=#[.slice none 0 0,.int .i64 x193001_2,.int .i64 x193002_2]) ?_ 1 _ rfl;(with_reducible repeat (first|refine blk_drewN ?_ _|refine blk_drew ?_|refine blk_alloc ?_ _));refine blk_put (cs:=#[.slice none 0 0,.int .i64 x193001_2,.int .i64 x193002_2]) ?_ 0 _ rfl;(with_reducible repeat (first|refine blk_drewN ?_ _|refine blk_drew ?_|refine blk_alloc ?_ _));refine blk_far ?_ NB192_209.out _;(with_reducible repeat (first|refine blk_drewN ?_ _|refine blk_drew ?_|refine blk_alloc ?_ _));refine blk_far ?_ NB192_209.out _;(with_reducible repeat (first|refine blk_drewN ?_ _|refine blk_drew ?_|refine blk_alloc ?_ _));exact BK192.out) Try.underlying26 rfl (by kernel_rfl)) rfl ?_
      exact ⟨_,by first|rfl|(simp [errW_none,errW_some] <;> rfl)|(simp [*,errW_none,errW_some] <;> rfl),by first|exact Kd.R_nil _ _ _ _ _|exact Kd.N_nil _ _ _ _ _|exact Kd.V_nil _ _ _ _ _|exact Kd.Q_nil _ _ _ _ _|exact Kd.S_nil _ _ _ _ _,bA⟩
     subst c34
     have H1:(orders_Measured.l0 k2 l2 l1 (l1.length:Int) (wrap64 (x42_2+1)) (x199000_2.set ((rd l1 x42_2):Int).toNat (⟨(⟨t206,t207⟩:S24),(rd_T50 x199000_2 (rd l1 x42_2)).f1,(rd_T50 x199000_2 (rd l1 x42_2)).f2⟩:S50)) a0_1 a0_2)=some (r1,r2,r3,r4):=by rw [if_pos rfl] at H;exact H
     clear H
     have H:=H1
     clear H1
     obtain ⟨y210,hy210⟩ : ∃ y_:List (S50),y_=(x199000_2.set ((rd l1 x42_2):Int).toNat (⟨(⟨t206,t207⟩:S24),(rd_T50 x199000_2 (rd l1 x42_2)).f1,(rd_T50 x199000_2 (rd l1 x42_2)).f2⟩:S50)):=⟨_,rfl⟩
     replace H:(orders_Measured.l0 k2 l2 l1 (l1.length:Int) (wrap64 (x42_2+1)) y210 a0_1 a0_2)=some (r1,r2,r3,r4):=by first|(rw [hy210];with_reducible exact H)|(have H2_:=(Option.bind_some _ _).symm.trans H;rw [hy210];with_reducible exact H2_)|(have H2_:=(Option.bind_some _ _).symm.trans H;with_reducible exact H2_)|with_reducible exact H|(rw [hy210];exact H)|exact H
     have Ny210:=Aside0.mk hy210
     clear hy210
     have H':=Aside0.mk H
     clear H
     have p199:0≤(x42_2:Int):=dA
     have q199:x42_2 < (l1.length:Int):=dA
     obtain ⟨ad199,e199,hx199_0⟩:=Kd.at_int HR1.out x42_2 p199 q199
     cases e199
     replace hx199_0:=hC HB.out hx199_0
     replace p199:=eq_true p199
     replace q199:=eq_true q199
     have hnb36:=NB198_191.out
     have hnc36:=NB191_198.out
     have hnb37:=NB198_192.out
     have hnc37:=NB192_198.out
     obtain ⟨_,_,_,_,_,_⟩:=xC3 BK198.out
     obtain ⟨Ao39,co39,eo39⟩:=Kd.R_slice HO_199000.out
     subst eo39
     have p200:0≤((rd l1 x42_2):Int):=dA
     have q200:(rd l1 x42_2) < (x199000_2.length:Int):=dA
     obtain ⟨ad200,e200,hx200_0,hx200_1,hx200_2,hx200_3⟩:=at_T50 (Kd.R_reads' HO_199000.out).2.2 (rd l1 x42_2) p200 q200
     cases e200
     replace p200:=eq_true p200
     replace q200:=eq_true q200
     try go_wp2
     replace HO_199000:=qK (Kd.R_drew HO_199000.out)
     replace BK191:=qK (blk_drew BK191.out)
     replace BK192:=qK (blk_drew BK192.out)
     replace BK198:=qK (blk_drew BK198.out)
     replace HB:=qK (below_drew1 HB.out)
     have p201:0≤((rd l1 x42_2):Int):=dA
     have q201:(rd l1 x42_2) < (x199000_2.length:Int):=dA
     obtain ⟨ad201,e201,hx201_0,hx201_1,hx201_2,hx201_3⟩:=at_T50 (Kd.R_reads' HO_199000.out).2.2 (rd l1 x42_2) p201 q201
     obtain rfl:ad200=ad201:=(by injection e201)
     replace p201:=eq_true p201
     replace q201:=eq_true q201
     have p202:0≤(x42_2:Int):=dA
     have q202:x42_2 < (l2.length:Int):=dA
     obtain ⟨ad202,e202,hx202_0⟩:=Kd.at_int HR2.out x42_2 p202 q202
     have hw202_0:=hx202_0
     cases e202
     replace hx202_0:=hC HB.out hx202_0
     replace p202:=eq_true p202
     replace q202:=eq_true q202
     have p203:0≤((rd l1 x42_2):Int):=dA
     have q203:(rd l1 x42_2) < (x199000_2.length:Int):=dA
     obtain ⟨ad203,e203,hx203_0,hx203_1,hx203_2,hx203_3⟩:=at_T50 (Kd.R_reads' HO_199000.out).2.2 (rd l1 x42_2) p203 q203
     obtain rfl:ad200=ad203:=(by injection e203)
     replace p203:=eq_true p203
     replace q203:=eq_true q203
     have p204:0≤(x42_2:Int):=dA
     have q204:x42_2 < (l2.length:Int):=dA
     obtain ⟨ad204,e204,hx204_0⟩:=Kd.at_int HR2.out x42_2 p204 q204
     have hw204_0:=hx204_0
     obtain rfl:ad202=ad204:=(by injection e204)
     replace hx204_0:=hC HB.out hx204_0
     replace p204:=eq_true p204
     replace q204:=eq_true q204
     have p205:0≤((rd l1 x42_2):Int):=dA
     have q205:(rd l1 x42_2) < (x199000_2.length:Int):=dA
     obtain ⟨ad205,e205,hx205_0,hx205_1,hx205_2,hx205_3⟩:=at_T50 (Kd.R_reads' HO_199000.out).2.2 (rd l1 x42_2) p205 q205
     obtain rfl:ad200=ad205:=(by injection e205)
     replace p205:=eq_true p205
     replace q205:=eq_true q205
     refine start_ (n:=30) (S:=fun w'=>w'.cell? (ad200.add (((rd l1 x42_2)).toNat*4))=some (.int .i64 ((rd_T50 x199000_2 (rd l1 x42_2)).f0.f0))∧w'.cell? ⟨(ad200.add (((rd l1 x42_2)).toNat*4)).block,(ad200.add (((rd l1 x42_2)).toNat*4)).off+1,none⟩=some (.int .i64 ((rd_T50 x199000_2 (rd l1 x42_2)).f0.f1))∧w'.cell? ⟨(ad200.add (((rd l1 x42_2)).toNat*4)).block,(ad200.add (((rd l1 x42_2)).toNat*4)).off+2,none⟩=some (.int .i64 ((rd_T50 x199000_2 (rd l1 x42_2)).f1))∧w'.cell? ⟨(ad200.add (((rd l1 x42_2)).toNat*4)).block,(ad200.add (((rd l1 x42_2)).toNat*4)).off+3,none⟩=some (.int .i64 ((rd_T50 x199000_2 (rd l1 x42_2)).f2))∧w'.cell? (ad202.add (x42_2).toNat)=some (.int .i64 (rd l2 x42_2))∧w'.cell? (ad200.add (((rd l1 x42_2)).toNat*4))=some (.int .i64 ((rd_T50 x199000_2 (rd l1 x42_2)).f0.f0))∧w'.cell? ⟨(ad200.add (((rd l1 x42_2)).toNat*4)).block,(ad200.add (((rd l1 x42_2)).toNat*4)).off+1,none⟩=some (.int .i64 ((rd_T50 x199000_2 (rd l1 x42_2)).f0.f1))∧w'.cell? ⟨(ad200.add (((rd l1 x42_2)).toNat*4)).block,(ad200.add (((rd l1 x42_2)).toNat*4)).off+2,none⟩=some (.int .i64 ((rd_T50 x199000_2 (rd l1 x42_2)).f1))∧w'.cell? ⟨(ad200.add (((rd l1 x42_2)).toNat*4)).block,(ad200.add (((rd l1 x42_2)).toNat*4)).off+3,none⟩=some (.int .i64 ((rd_T50 x199000_2 (rd l1 x42_2)).f2))∧w'.cell? (ad202.add (x42_2).toNat)=some (.int .i64 (rd l2 x42_2))∧w'.cell? (ad200.add (((rd l1 x42_2)).toNat*4))=some (.int .i64 ((rd_T50 x199000_2 (rd l1 x42_2)).f0.f0))∧w'.cell? ⟨(ad200.add (((rd l1 x42_2)).toNat*4)).block,(ad200.add (((rd l1 x42_2)).toNat*4)).off+1,none⟩=some (.int .i64 ((rd_T50 x199000_2 (rd l1 x42_2)).f0.f1))∧w'.cell? ⟨(ad200.add (((rd l1 x42_2)).toNat*4)).block,(ad200.add (((rd l1 x42_2)).toNat*4)).off+2,none⟩=some (.int .i64 ((rd_T50 x199000_2 (rd l1 x42_2)).f1))∧w'.cell? ⟨(ad200.add (((rd l1 x42_2)).toNat*4)).block,(ad200.add (((rd l1 x42_2)).toNat*4)).off+3,none⟩=some (.int .i64 ((rd_T50 x199000_2 (rd l1 x42_2)).f2))) (ds:=[]) #[false,false,false,false,false,false,false,false,false,false,false,false,false,false,false,false,false,false,false,false,false,false,false,false,false,false,false,false,false,false] (by kernel_rfl) rfl rfl ⟨hx201_0,hx201_1,hx201_2,hx201_3,(hC HB.out hw202_0),hx203_0,hx203_1,hx203_2,hx203_3,(hC HB.out hw204_0),hx205_0,hx205_1,hx205_2,hx205_3⟩ (fun hHeld=>?_);refine with_tabW orders_Measured.tab11 orders_Measured.bits11 (fun HT_ HW_=>?_)
     generalize wr.drew=w40 at HO_199000 BK191 BK192 BK198 HB hx201_0 hx201_1 hx201_2 hx201_3 hx202_0 hx203_0 hx203_1 hx203_2 hx203_3 hx204_0 hx205_0 hx205_1 hx205_2 hx205_3 hHeld ⊢
     refine pP 0 (some 52) HT_ ?_
     refine pP 1 (some 53) HT_ ?_
     refine pP 2 (some 54) HT_ ?_
     refine pP 4 (some 56) HT_ ?_
     refine pP 5 (some 57) HT_ ?_
     refine pP 6 (some 58) HT_ ?_
     refine pP 8 (some 60) HT_ ?_
     refine pP 9 (some 61) HT_ ?_
     refine pP 10 (some 62) HT_ ?_
     refine pP 13 (some 65) HT_ ?_
     refine pP 14 (some 66) HT_ ?_
     refine pP 15 (some 67) HT_ ?_
     refine pP 17 (some 69) HT_ ?_
     refine pP 18 (some 70) HT_ ?_
     refine pP 19 (some 71) HT_ ?_
     refine tP 3 (some 55) HT_ HW_ hHeld ?_
     refine tP 7 (some 59) HT_ HW_ hHeld ?_
     refine tP 11 (some 63) HT_ HW_ hHeld ?_
     refine pP 12 (some 64) HT_ ?_
     refine tP 16 (some 68) HT_ HW_ hHeld ?_
     refine tP 20 (some 72) HT_ HW_ hHeld ?_
     refine pP 21 (some 73) HT_ ?_
     refine pP 22 (some 74) HT_ ?_
     refine join_ (σ:=Nat) 2 #[true,true,true,true,true,true,true,true,true,true,true,true,true,true,true,true,true,true,true,true,true,true,true,true,true,true,true,true,false,false] (fun s_=>[(75,.tuple #[.agg #[.int .i64 t206,.int .i64 t207],.bool true]),(13,.pointer (some ⟨s_,0,none⟩)),(51,.tuple #[.agg #[.int .i64 t206,.int .i64 t207],.bool true]),(76,.agg #[.int .i64 t206,.int .i64 t207]),(77,.bool true)]) (fun s_ w'=>(w'.cell? (ad200.add (((rd l1 x42_2)).toNat*4))=some (.int .i64 ((rd_T50 x199000_2 (rd l1 x42_2)).f0.f0))∧w'.cell? ⟨(ad200.add (((rd l1 x42_2)).toNat*4)).block,(ad200.add (((rd l1 x42_2)).toNat*4)).off+1,none⟩=some (.int .i64 ((rd_T50 x199000_2 (rd l1 x42_2)).f0.f1))∧w'.cell? ⟨(ad200.add (((rd l1 x42_2)).toNat*4)).block,(ad200.add (((rd l1 x42_2)).toNat*4)).off+2,none⟩=some (.int .i64 ((rd_T50 x199000_2 (rd l1 x42_2)).f1))∧w'.cell? ⟨(ad200.add (((rd l1 x42_2)).toNat*4)).block,(ad200.add (((rd l1 x42_2)).toNat*4)).off+3,none⟩=some (.int .i64 ((rd_T50 x199000_2 (rd l1 x42_2)).f2))∧w'.cell? (ad202.add (x42_2).toNat)=some (.int .i64 (rd l2 x42_2))∧w'.cell? (ad200.add (((rd l1 x42_2)).toNat*4))=some (.int .i64 ((rd_T50 x199000_2 (rd l1 x42_2)).f0.f0))∧w'.cell? ⟨(ad200.add (((rd l1 x42_2)).toNat*4)).block,(ad200.add (((rd l1 x42_2)).toNat*4)).off+1,none⟩=some (.int .i64 ((rd_T50 x199000_2 (rd l1 x42_2)).f0.f1))∧w'.cell? ⟨(ad200.add (((rd l1 x42_2)).toNat*4)).block,(ad200.add (((rd l1 x42_2)).toNat*4)).off+2,none⟩=some (.int .i64 ((rd_T50 x199000_2 (rd l1 x42_2)).f1))∧w'.cell? ⟨(ad200.add (((rd l1 x42_2)).toNat*4)).block,(ad200.add (((rd l1 x42_2)).toNat*4)).off+3,none⟩=some (.int .i64 ((rd_T50 x199000_2 (rd l1 x42_2)).f2))∧w'.cell? (ad202.add (x42_2).toNat)=some (.int .i64 (rd l2 x42_2))∧w'.cell? (ad200.add (((rd l1 x42_2)).toNat*4))=some (.int .i64 ((rd_T50 x199000_2 (rd l1 x42_2)).f0.f0))∧w'.cell? ⟨(ad200.add (((rd l1 x42_2)).toNat*4)).block,(ad200.add (((rd l1 x42_2)).toNat*4)).off+1,none⟩=some (.int .i64 ((rd_T50 x199000_2 (rd l1 x42_2)).f0.f1))∧w'.cell? ⟨(ad200.add (((rd l1 x42_2)).toNat*4)).block,(ad200.add (((rd l1 x42_2)).toNat*4)).off+2,none⟩=some (.int .i64 ((rd_T50 x199000_2 (rd l1 x42_2)).f1))∧w'.cell? ⟨(ad200.add (((rd l1 x42_2)).toNat*4)).block,(ad200.add (((rd l1 x42_2)).toNat*4)).off+3,none⟩=some (.int .i64 ((rd_T50 x199000_2 (rd l1 x42_2)).f2)))∧(Kd.R k50 50 w' w.heap.size (fun _=>True) (.slice (some ad200) x199000_2.length co39) x199000_2)∧(w'.heap[gb191]? = some (.cells #[.slice A0_0 l0_0.length c0_0,.int .i64 a0_1,.int .i64 a0_2] 26 (0,0)))∧(w'.heap[gb192]? = some (.cells #[.slice none 0 0,.int .i64 x193001_2,.int .i64 x193002_2] 26 (0,0)))∧(w'.heap[gb198]? = some (.cells #[.slice (some ad200) x199000_2.length co39,.int .i64 a0_1,.int .i64 a0_2] 26 (0,0)))∧(w'.heap[s_]? = some (.cells #[.int .i64 0,.int .i64 0] 24 (0,0)))∧(w.heap.size≤s_)∧(w.heap.size≤s_)∧(gb191≠s_)∧(s_≠gb191)∧(gb192≠s_)∧(s_≠gb192)∧(gb198≠s_)∧(s_≠gb198)∧(Below w.heap.size w w')) ?_ ?_
     rotate_left
     ·intro hCont
      refine two_ (i:=23) (j:=27) (Ni:=some 75) (Nj:=some 13) #[true,true,true,true,true,true,true,true,true,true,true,true,true,true,true,true,true,true,true,true,true,true,true,true,false,false,false,false,false,false] #[true,true,true,true,true,true,true,true,true,true,true,true,true,true,true,true,true,true,true,true,true,true,true,false,false,false,false,true,false,false] rfl rfl rfl rfl (two_of HT_.out (by kernel_rfl)) (by decide) (by decide) (fun K hK=>?_) (fun K hK=>?_)
      ·skip
       refine gO Try.func53 #[.agg #[.int .i64 ((rd_T50 x199000_2 (rd l1 x42_2)).f0.f0),.int .i64 ((rd_T50 x199000_2 (rd l1 x42_2)).f0.f1)],.agg #[.int .i64 (wrap64 ((rd l2 x42_2) - ((rd_T50 x199000_2 (rd l1 x42_2)).f2))),.int .i64 (wrap64 ((rd l2 x42_2)+((rd_T50 x199000_2 (rd l1 x42_2)).f2)))]] ?_
       with_reducible refine (orders_common.calls ((rd_T50 x199000_2 (rd l1 x42_2)).f0.f0) ((rd_T50 x199000_2 (rd l1 x42_2)).f0.f1) (wrap64 ((rd l2 x42_2) - ((rd_T50 x199000_2 (rd l1 x42_2)).f2))) (wrap64 ((rd l2 x42_2)+((rd_T50 x199000_2 (rd l1 x42_2)).f2))) t206 t207 true _ A33.out).mono ?_
       rintro e w41 ⟨rfl,hb⟩
       have HS0_:=(hb.cell (World.block_lt_of_cell? _ _ (hHeld.1))).trans (hHeld.1)
       have HS1_:=(hb.cell (World.block_lt_of_cell? _ _ (hHeld.2.1))).trans (hHeld.2.1)
       have HS2_:=(hb.cell (World.block_lt_of_cell? _ _ (hHeld.2.2.1))).trans (hHeld.2.2.1)
       have HS3_:=(hb.cell (World.block_lt_of_cell? _ _ (hHeld.2.2.2.1))).trans (hHeld.2.2.2.1)
       have HS5_:=(hb.cell (World.block_lt_of_cell? _ _ (hHeld.2.2.2.2.2.1))).trans (hHeld.2.2.2.2.2.1)
       have HS6_:=(hb.cell (World.block_lt_of_cell? _ _ (hHeld.2.2.2.2.2.2.1))).trans (hHeld.2.2.2.2.2.2.1)
       have HS7_:=(hb.cell (World.block_lt_of_cell? _ _ (hHeld.2.2.2.2.2.2.2.1))).trans (hHeld.2.2.2.2.2.2.2.1)
       have HS8_:=(hb.cell (World.block_lt_of_cell? _ _ (hHeld.2.2.2.2.2.2.2.2.1))).trans (hHeld.2.2.2.2.2.2.2.2.1)
       have HS10_:=(hb.cell (World.block_lt_of_cell? _ _ (hHeld.2.2.2.2.2.2.2.2.2.2.1))).trans (hHeld.2.2.2.2.2.2.2.2.2.2.1)
       have HS11_:=(hb.cell (World.block_lt_of_cell? _ _ (hHeld.2.2.2.2.2.2.2.2.2.2.2.1))).trans (hHeld.2.2.2.2.2.2.2.2.2.2.2.1)
       have HS12_:=(hb.cell (World.block_lt_of_cell? _ _ (hHeld.2.2.2.2.2.2.2.2.2.2.2.2.1))).trans (hHeld.2.2.2.2.2.2.2.2.2.2.2.2.1)
       have HS13_:=(hb.cell (World.block_lt_of_cell? _ _ (hHeld.2.2.2.2.2.2.2.2.2.2.2.2.2))).trans (hHeld.2.2.2.2.2.2.2.2.2.2.2.2.2)
       refine ⟨_,rfl,?_⟩
       replace HO_199000:=qK (Kd.R_below (rS HO_199000.out) hb)
       replace BK191:=qK (bB BK191.out hb)
       replace BK192:=qK (bB BK192.out hb)
       replace BK198:=qK (bB BK198.out hb)
       replace HB:=qK (bS hb)
       (try clear hb)
       (try clear hb2)
       (try clear hk)
       (try clear hi)
       refine hK.out _ _ ⟨HS0_,HS1_,HS2_,HS3_,(hC HB.out hw202_0),HS5_,HS6_,HS7_,HS8_,(hC HB.out hw204_0),HS10_,HS11_,HS12_,HS13_⟩ (fun hHeld=>?_)
       clear hK K
       refine nP ?_
       refine pP 24 (some 51) HT_ ?_
       refine pP 25 (some 76) HT_ ?_
       refine pP 26 (some 77) HT_ ?_
       refine oP 27 (some 13) HT_ (fun K hK=>?_)
       refine box_step ?hg (N:=13) ?hd (cs:=#[.int .i64 0,.int .i64 0]) (t:=24) ?hr ?_;(case hd=>rfl);(case hg=>rfl);(case hr=>first|(go_simp;done)|(go_simp;rfl))
       intro gb209 hg w42 hbox hb
       have HS0_:=(hb.cell (World.block_lt_of_cell? _ _ (hHeld.1))).trans (hHeld.1)
       have HS1_:=(hb.cell (World.block_lt_of_cell? _ _ (hHeld.2.1))).trans (hHeld.2.1)
       have HS2_:=(hb.cell (World.block_lt_of_cell? _ _ (hHeld.2.2.1))).trans (hHeld.2.2.1)
       have HS3_:=(hb.cell (World.block_lt_of_cell? _ _ (hHeld.2.2.2.1))).trans (hHeld.2.2.2.1)
       have HS5_:=(hb.cell (World.block_lt_of_cell? _ _ (hHeld.2.2.2.2.2.1))).trans (hHeld.2.2.2.2.2.1)
       have HS6_:=(hb.cell (World.block_lt_of_cell? _ _ (hHeld.2.2.2.2.2.2.1))).trans (hHeld.2.2.2.2.2.2.1)
       have HS7_:=(hb.cell (World.block_lt_of_cell? _ _ (hHeld.2.2.2.2.2.2.2.1))).trans (hHeld.2.2.2.2.2.2.2.1)
       have HS8_:=(hb.cell (World.block_lt_of_cell? _ _ (hHeld.2.2.2.2.2.2.2.2.1))).trans (hHeld.2.2.2.2.2.2.2.2.1)
       have HS10_:=(hb.cell (World.block_lt_of_cell? _ _ (hHeld.2.2.2.2.2.2.2.2.2.2.1))).trans (hHeld.2.2.2.2.2.2.2.2.2.2.1)
       have HS11_:=(hb.cell (World.block_lt_of_cell? _ _ (hHeld.2.2.2.2.2.2.2.2.2.2.2.1))).trans (hHeld.2.2.2.2.2.2.2.2.2.2.2.1)
       have HS12_:=(hb.cell (World.block_lt_of_cell? _ _ (hHeld.2.2.2.2.2.2.2.2.2.2.2.2.1))).trans (hHeld.2.2.2.2.2.2.2.2.2.2.2.2.1)
       have HS13_:=(hb.cell (World.block_lt_of_cell? _ _ (hHeld.2.2.2.2.2.2.2.2.2.2.2.2.2))).trans (hHeld.2.2.2.2.2.2.2.2.2.2.2.2.2)
       replace HO_199000:=qK (Kd.R_below (rS HO_199000.out) hb)
       have BK209:=qK (hbox)
       have GW209:=qK ((gS hg:w.heap.size≤gb209))
       have GE209:=qK ((gS hg:w.heap.size≤gb209))
       replace HB:=qK (bS hb)
       have NB191_209:=qK ((nL hg BK191.out:gb191≠gb209))
       have NB209_191:=qK ((nG hg BK191.out:gb209≠gb191))
       replace BK191:=qK (bB BK191.out hb)
       have NB192_209:=qK ((nL hg BK192.out:gb192≠gb209))
       have NB209_192:=qK ((nG hg BK192.out:gb209≠gb192))
       replace BK192:=qK (bB BK192.out hb)
       have NB198_209:=qK ((nL hg BK198.out:gb198≠gb209))
       have NB209_198:=qK ((nG hg BK198.out:gb209≠gb198))
       replace BK198:=qK (bB BK198.out hb)
       clear hb hbox hg
       refine hK.out _ _ ⟨HS0_,HS1_,HS2_,HS3_,(hC HB.out hw202_0),HS5_,HS6_,HS7_,HS8_,(hC HB.out hw204_0),HS10_,HS11_,HS12_,HS13_⟩ (fun hHeld=>?_)
       clear hK K
       refine nP ?_
       exact norm_ (by simp only [putAll,Act.put,List.setIfInBounds_toArray,List.set_cons_zero,List.set_cons_succ]) (hCont (gb209) _ ⟨hHeld,(rS HO_199000.out),(bX BK191.out),(bX BK192.out),(bX BK198.out),(bX BK209.out),GW209.out,GE209.out,NB191_209.out,NB209_191.out,NB192_209.out,NB209_192.out,NB198_209.out,NB209_198.out,bA⟩)
      ·skip
       refine box_step ?hg (N:=13) ?hd (cs:=#[.int .i64 0,.int .i64 0]) (t:=24) ?hr ?_;(case hd=>rfl);(case hg=>rfl);(case hr=>first|(go_simp;done)|(go_simp;rfl))
       intro gb209 hg w41 hbox hb
       have HS0_:=(hb.cell (World.block_lt_of_cell? _ _ (hHeld.1))).trans (hHeld.1)
       have HS1_:=(hb.cell (World.block_lt_of_cell? _ _ (hHeld.2.1))).trans (hHeld.2.1)
       have HS2_:=(hb.cell (World.block_lt_of_cell? _ _ (hHeld.2.2.1))).trans (hHeld.2.2.1)
       have HS3_:=(hb.cell (World.block_lt_of_cell? _ _ (hHeld.2.2.2.1))).trans (hHeld.2.2.2.1)
       have HS5_:=(hb.cell (World.block_lt_of_cell? _ _ (hHeld.2.2.2.2.2.1))).trans (hHeld.2.2.2.2.2.1)
       have HS6_:=(hb.cell (World.block_lt_of_cell? _ _ (hHeld.2.2.2.2.2.2.1))).trans (hHeld.2.2.2.2.2.2.1)
       have HS7_:=(hb.cell (World.block_lt_of_cell? _ _ (hHeld.2.2.2.2.2.2.2.1))).trans (hHeld.2.2.2.2.2.2.2.1)
       have HS8_:=(hb.cell (World.block_lt_of_cell? _ _ (hHeld.2.2.2.2.2.2.2.2.1))).trans (hHeld.2.2.2.2.2.2.2.2.1)
       have HS10_:=(hb.cell (World.block_lt_of_cell? _ _ (hHeld.2.2.2.2.2.2.2.2.2.2.1))).trans (hHeld.2.2.2.2.2.2.2.2.2.2.1)
       have HS11_:=(hb.cell (World.block_lt_of_cell? _ _ (hHeld.2.2.2.2.2.2.2.2.2.2.2.1))).trans (hHeld.2.2.2.2.2.2.2.2.2.2.2.1)
       have HS12_:=(hb.cell (World.block_lt_of_cell? _ _ (hHeld.2.2.2.2.2.2.2.2.2.2.2.2.1))).trans (hHeld.2.2.2.2.2.2.2.2.2.2.2.2.1)
       have HS13_:=(hb.cell (World.block_lt_of_cell? _ _ (hHeld.2.2.2.2.2.2.2.2.2.2.2.2.2))).trans (hHeld.2.2.2.2.2.2.2.2.2.2.2.2.2)
       replace HO_199000:=qK (Kd.R_below (rS HO_199000.out) hb)
       have BK209:=qK (hbox)
       have GW209:=qK ((gS hg:w.heap.size≤gb209))
       have GE209:=qK ((gS hg:w.heap.size≤gb209))
       replace HB:=qK (bS hb)
       have NB191_209:=qK ((nL hg BK191.out:gb191≠gb209))
       have NB209_191:=qK ((nG hg BK191.out:gb209≠gb191))
       replace BK191:=qK (bB BK191.out hb)
       have NB192_209:=qK ((nL hg BK192.out:gb192≠gb209))
       have NB209_192:=qK ((nG hg BK192.out:gb209≠gb192))
       replace BK192:=qK (bB BK192.out hb)
       have NB198_209:=qK ((nL hg BK198.out:gb198≠gb209))
       have NB209_198:=qK ((nG hg BK198.out:gb209≠gb198))
       replace BK198:=qK (bB BK198.out hb)
       clear hb hbox hg
       refine hK.out _ _ ⟨HS0_,HS1_,HS2_,HS3_,(hC HB.out hw202_0),HS5_,HS6_,HS7_,HS8_,(hC HB.out hw204_0),HS10_,HS11_,HS12_,HS13_⟩ (fun hHeld=>?_)
       clear hK K
       refine nP ?_
       refine oP 23 (some 75) HT_ (fun K hK=>?_)
       refine gO Try.func53 #[.agg #[.int .i64 ((rd_T50 x199000_2 (rd l1 x42_2)).f0.f0),.int .i64 ((rd_T50 x199000_2 (rd l1 x42_2)).f0.f1)],.agg #[.int .i64 (wrap64 ((rd l2 x42_2) - ((rd_T50 x199000_2 (rd l1 x42_2)).f2))),.int .i64 (wrap64 ((rd l2 x42_2)+((rd_T50 x199000_2 (rd l1 x42_2)).f2)))]] ?_
       with_reducible refine (orders_common.calls ((rd_T50 x199000_2 (rd l1 x42_2)).f0.f0) ((rd_T50 x199000_2 (rd l1 x42_2)).f0.f1) (wrap64 ((rd l2 x42_2) - ((rd_T50 x199000_2 (rd l1 x42_2)).f2))) (wrap64 ((rd l2 x42_2)+((rd_T50 x199000_2 (rd l1 x42_2)).f2))) t206 t207 true _ A33.out).mono ?_
       rintro e w42 ⟨rfl,hb⟩
       have HS0_:=(hb.cell (World.block_lt_of_cell? _ _ (hHeld.1))).trans (hHeld.1)
       have HS1_:=(hb.cell (World.block_lt_of_cell? _ _ (hHeld.2.1))).trans (hHeld.2.1)
       have HS2_:=(hb.cell (World.block_lt_of_cell? _ _ (hHeld.2.2.1))).trans (hHeld.2.2.1)
       have HS3_:=(hb.cell (World.block_lt_of_cell? _ _ (hHeld.2.2.2.1))).trans (hHeld.2.2.2.1)
       have HS5_:=(hb.cell (World.block_lt_of_cell? _ _ (hHeld.2.2.2.2.2.1))).trans (hHeld.2.2.2.2.2.1)
       have HS6_:=(hb.cell (World.block_lt_of_cell? _ _ (hHeld.2.2.2.2.2.2.1))).trans (hHeld.2.2.2.2.2.2.1)
       have HS7_:=(hb.cell (World.block_lt_of_cell? _ _ (hHeld.2.2.2.2.2.2.2.1))).trans (hHeld.2.2.2.2.2.2.2.1)
       have HS8_:=(hb.cell (World.block_lt_of_cell? _ _ (hHeld.2.2.2.2.2.2.2.2.1))).trans (hHeld.2.2.2.2.2.2.2.2.1)
       have HS10_:=(hb.cell (World.block_lt_of_cell? _ _ (hHeld.2.2.2.2.2.2.2.2.2.2.1))).trans (hHeld.2.2.2.2.2.2.2.2.2.2.1)
       have HS11_:=(hb.cell (World.block_lt_of_cell? _ _ (hHeld.2.2.2.2.2.2.2.2.2.2.2.1))).trans (hHeld.2.2.2.2.2.2.2.2.2.2.2.1)
       have HS12_:=(hb.cell (World.block_lt_of_cell? _ _ (hHeld.2.2.2.2.2.2.2.2.2.2.2.2.1))).trans (hHeld.2.2.2.2.2.2.2.2.2.2.2.2.1)
       have HS13_:=(hb.cell (World.block_lt_of_cell? _ _ (hHeld.2.2.2.2.2.2.2.2.2.2.2.2.2))).trans (hHeld.2.2.2.2.2.2.2.2.2.2.2.2.2)
       refine ⟨_,rfl,?_⟩
       replace HO_199000:=qK (Kd.R_below (rS HO_199000.out) hb)
       replace BK191:=qK (bB BK191.out hb)
       replace BK192:=qK (bB BK192.out hb)
       replace BK198:=qK (bB BK198.out hb)
       replace BK209:=qK (bB BK209.out hb)
       replace HB:=qK (bS hb)
       (try clear hb)
       (try clear hb2)
       (try clear hk)
       (try clear hi)
       refine hK.out _ _ ⟨HS0_,HS1_,HS2_,HS3_,(hC HB.out hw202_0),HS5_,HS6_,HS7_,HS8_,(hC HB.out hw204_0),HS10_,HS11_,HS12_,HS13_⟩ (fun hHeld=>?_)
       clear hK K
       refine nP ?_
       refine pP 24 (some 51) HT_ ?_
       refine pP 25 (some 76) HT_ ?_
       refine pP 26 (some 77) HT_ ?_
       exact norm_ (by simp only [putAll,Act.put,List.setIfInBounds_toArray,List.set_cons_zero,List.set_cons_succ]) (hCont (gb209) _ ⟨hHeld,(rS HO_199000.out),(bX BK191.out),(bX BK192.out),(bX BK198.out),(bX BK209.out),GW209.out,GE209.out,NB191_209.out,NB209_191.out,NB192_209.out,NB209_192.out,NB198_209.out,NB209_198.out,bA⟩)
     rintro gb209 w43 ⟨hS_,h0_,h1_,h2_,h3_,h4_,h5_,h6_,h7_,h8_,h9_,h10_,h11_,h12_,h13_⟩
     have n0_:Aside0 (Kd.R k50 50 w43 w.heap.size (fun _=>True) (.slice (some ad200) x199000_2.length co39) x199000_2):=⟨h0_⟩
     have n1_:Aside0 (w43.heap[gb191]? = some (.cells #[.slice A0_0 l0_0.length c0_0,.int .i64 a0_1,.int .i64 a0_2] 26 (0,0))):=⟨h1_⟩
     have n2_:Aside0 (w43.heap[gb192]? = some (.cells #[.slice none 0 0,.int .i64 x193001_2,.int .i64 x193002_2] 26 (0,0))):=⟨h2_⟩
     have n3_:Aside0 (w43.heap[gb198]? = some (.cells #[.slice (some ad200) x199000_2.length co39,.int .i64 a0_1,.int .i64 a0_2] 26 (0,0))):=⟨h3_⟩
     have n4_:Aside0 (w43.heap[gb209]? = some (.cells #[.int .i64 0,.int .i64 0] 24 (0,0))):=⟨h4_⟩
     have n5_:Aside0 (w.heap.size≤gb209):=⟨h5_⟩
     have n6_:Aside0 (w.heap.size≤gb209):=⟨h6_⟩
     have n7_:Aside0 (gb191≠gb209):=⟨h7_⟩
     have n8_:Aside0 (gb209≠gb191):=⟨h8_⟩
     have n9_:Aside0 (gb192≠gb209):=⟨h9_⟩
     have n10_:Aside0 (gb209≠gb192):=⟨h10_⟩
     have n11_:Aside0 (gb198≠gb209):=⟨h11_⟩
     have n12_:Aside0 (gb209≠gb198):=⟨h12_⟩
     have n13_:Aside0 (Below w.heap.size w w43):=⟨h13_⟩
     clear HO_199000
     clear BK191
     clear BK192
     clear BK198
     clear HB
     clear h0_ h1_ h2_ h3_ h4_ h5_ h6_ h7_ h8_ h9_ h10_ h11_ h12_ h13_
     have HO_199000:=n0_
     have BK191:=n1_
     have BK192:=n2_
     have BK198:=n3_
     have BK209:=n4_
     have GW209:=n5_
     have GE209:=n6_
     have NB191_209:=n7_
     have NB209_191:=n8_
     have NB192_209:=n9_
     have NB209_192:=n10_
     have NB198_209:=n11_
     have NB209_198:=n12_
     have HB:=n13_
     clear n0_ n1_ n2_ n3_ n4_ n5_ n6_ n7_ n8_ n9_ n10_ n11_ n12_ n13_
     have hHeld:w43.cell? (ad200.add (((rd l1 x42_2)).toNat*4))=some (.int .i64 ((rd_T50 x199000_2 (rd l1 x42_2)).f0.f0))∧w43.cell? ⟨(ad200.add (((rd l1 x42_2)).toNat*4)).block,(ad200.add (((rd l1 x42_2)).toNat*4)).off+1,none⟩=some (.int .i64 ((rd_T50 x199000_2 (rd l1 x42_2)).f0.f1))∧w43.cell? ⟨(ad200.add (((rd l1 x42_2)).toNat*4)).block,(ad200.add (((rd l1 x42_2)).toNat*4)).off+2,none⟩=some (.int .i64 ((rd_T50 x199000_2 (rd l1 x42_2)).f1))∧w43.cell? ⟨(ad200.add (((rd l1 x42_2)).toNat*4)).block,(ad200.add (((rd l1 x42_2)).toNat*4)).off+3,none⟩=some (.int .i64 ((rd_T50 x199000_2 (rd l1 x42_2)).f2))∧w43.cell? (ad202.add (x42_2).toNat)=some (.int .i64 (rd l2 x42_2))∧w43.cell? (ad200.add (((rd l1 x42_2)).toNat*4))=some (.int .i64 ((rd_T50 x199000_2 (rd l1 x42_2)).f0.f0))∧w43.cell? ⟨(ad200.add (((rd l1 x42_2)).toNat*4)).block,(ad200.add (((rd l1 x42_2)).toNat*4)).off+1,none⟩=some (.int .i64 ((rd_T50 x199000_2 (rd l1 x42_2)).f0.f1))∧w43.cell? ⟨(ad200.add (((rd l1 x42_2)).toNat*4)).block,(ad200.add (((rd l1 x42_2)).toNat*4)).off+2,none⟩=some (.int .i64 ((rd_T50 x199000_2 (rd l1 x42_2)).f1))∧w43.cell? ⟨(ad200.add (((rd l1 x42_2)).toNat*4)).block,(ad200.add (((rd l1 x42_2)).toNat*4)).off+3,none⟩=some (.int .i64 ((rd_T50 x199000_2 (rd l1 x42_2)).f2))∧w43.cell? (ad202.add (x42_2).toNat)=some (.int .i64 (rd l2 x42_2))∧w43.cell? (ad200.add (((rd l1 x42_2)).toNat*4))=some (.int .i64 ((rd_T50 x199000_2 (rd l1 x42_2)).f0.f0))∧w43.cell? ⟨(ad200.add (((rd l1 x42_2)).toNat*4)).block,(ad200.add (((rd l1 x42_2)).toNat*4)).off+1,none⟩=some (.int .i64 ((rd_T50 x199000_2 (rd l1 x42_2)).f0.f1))∧w43.cell? ⟨(ad200.add (((rd l1 x42_2)).toNat*4)).block,(ad200.add (((rd l1 x42_2)).toNat*4)).off+2,none⟩=some (.int .i64 ((rd_T50 x199000_2 (rd l1 x42_2)).f1))∧w43.cell? ⟨(ad200.add (((rd l1 x42_2)).toNat*4)).block,(ad200.add (((rd l1 x42_2)).toNat*4)).off+3,none⟩=some (.int .i64 ((rd_T50 x199000_2 (rd l1 x42_2)).f2)):=hS_
     refine norm_ (a':=?_) ?_ ?_
     rotate_left
     ·simp only [putAll,Act.put,List.setIfInBounds_toArray,List.set_cons_zero,List.set_cons_succ]
      rfl
     refine oP 28 none HT_ (fun K hK=>?_)
     have hs44:w43.cell? ⟨gb209,0,none⟩=some (.int .i64 0):=(blk_cell BK209.out 0).trans rfl
     have hfs44:=blk_frozen BK209.out 0
     have hns44_0:=NB191_209.out
     have hns44_1:=NB192_209.out
     have hns44_2:=NB198_209.out
     have hms44_0:=NB209_191.out
     have hms44_1:=NB209_192.out
     have hms44_2:=NB209_198.out
     have hs45:w43.cell? ⟨gb209,1,none⟩=some (.int .i64 0):=(blk_cell BK209.out 1).trans rfl
     have hfs45:=blk_frozen BK209.out 1
     have hns45_0:=NB191_209.out
     have hns45_1:=NB192_209.out
     have hns45_2:=NB198_209.out
     have hms45_0:=NB209_191.out
     have hms45_1:=NB209_192.out
     have hms45_2:=NB209_198.out
     refine skip_ (w1:=?_) (by rfl) rfl ?_ ?_
     rotate_left
     ·go_simp
      rfl
     refine hK.out _ _ ⟨((cell_far (p:=⟨gb209,_,none⟩) (oB (Kd.R_ne HO_199000.out BK209.out (by decide))) _).trans (((cell_far (p:=⟨gb209,_,none⟩) (oB (Kd.R_ne HO_199000.out BK209.out (by decide))) _).trans (hHeld.1)))),((cell_far (p:=⟨gb209,_,none⟩) (oB (Kd.R_ne HO_199000.out BK209.out (by decide))) _).trans (((cell_far (p:=⟨gb209,_,none⟩) (oB (Kd.R_ne HO_199000.out BK209.out (by decide))) _).trans (hHeld.2.1)))),((cell_far (p:=⟨gb209,_,none⟩) (oB (Kd.R_ne HO_199000.out BK209.out (by decide))) _).trans (((cell_far (p:=⟨gb209,_,none⟩) (oB (Kd.R_ne HO_199000.out BK209.out (by decide))) _).trans (hHeld.2.2.1)))),((cell_far (p:=⟨gb209,_,none⟩) (oB (Kd.R_ne HO_199000.out BK209.out (by decide))) _).trans (((cell_far (p:=⟨gb209,_,none⟩) (oB (Kd.R_ne HO_199000.out BK209.out (by decide))) _).trans (hHeld.2.2.2.1)))),((cell_far (p:=⟨gb209,_,none⟩) (by first|exact Nat.ne_of_lt (Nat.lt_of_lt_of_le (by have:=World.block_lt_of_cell? _ _ hw202_0;first|rwa [add_block] at this|exact this) GW209.out)|(rw [add_block];exact Nat.ne_of_lt (Nat.lt_of_lt_of_le (by have:=World.block_lt_of_cell? _ _ hw202_0;first|rwa [add_block] at this|exact this) GW209.out))|(show (Addr.add _ _).block≠_;rw [add_block];exact Nat.ne_of_lt (Nat.lt_of_lt_of_le (by have:=World.block_lt_of_cell? _ _ hw202_0;first|rwa [add_block] at this|exact this) GW209.out))|(dsimp only;exact Nat.ne_of_lt (Nat.lt_of_lt_of_le (by have:=World.block_lt_of_cell? _ _ hw202_0;first|rwa [add_block] at this|exact this) GW209.out))) _).trans (((cell_far (p:=⟨gb209,_,none⟩) (by first|exact Nat.ne_of_lt (Nat.lt_of_lt_of_le (by have:=World.block_lt_of_cell? _ _ hw202_0;first|rwa [add_block] at this|exact this) GW209.out)|(rw [add_block];exact Nat.ne_of_lt (Nat.lt_of_lt_of_le (by have:=World.block_lt_of_cell? _ _ hw202_0;first|rwa [add_block] at this|exact this) GW209.out))|(show (Addr.add _ _).block≠_;rw [add_block];exact Nat.ne_of_lt (Nat.lt_of_lt_of_le (by have:=World.block_lt_of_cell? _ _ hw202_0;first|rwa [add_block] at this|exact this) GW209.out))|(dsimp only;exact Nat.ne_of_lt (Nat.lt_of_lt_of_le (by have:=World.block_lt_of_cell? _ _ hw202_0;first|rwa [add_block] at this|exact this) GW209.out))) _).trans (hHeld.2.2.2.2.1)))),((cell_far (p:=⟨gb209,_,none⟩) (oB (Kd.R_ne HO_199000.out BK209.out (by decide))) _).trans (((cell_far (p:=⟨gb209,_,none⟩) (oB (Kd.R_ne HO_199000.out BK209.out (by decide))) _).trans (hHeld.2.2.2.2.2.1)))),((cell_far (p:=⟨gb209,_,none⟩) (oB (Kd.R_ne HO_199000.out BK209.out (by decide))) _).trans (((cell_far (p:=⟨gb209,_,none⟩) (oB (Kd.R_ne HO_199000.out BK209.out (by decide))) _).trans (hHeld.2.2.2.2.2.2.1)))),((cell_far (p:=⟨gb209,_,none⟩) (oB (Kd.R_ne HO_199000.out BK209.out (by decide))) _).trans (((cell_far (p:=⟨gb209,_,none⟩) (oB (Kd.R_ne HO_199000.out BK209.out (by decide))) _).trans (hHeld.2.2.2.2.2.2.2.1)))),((cell_far (p:=⟨gb209,_,none⟩) (oB (Kd.R_ne HO_199000.out BK209.out (by decide))) _).trans (((cell_far (p:=⟨gb209,_,none⟩) (oB (Kd.R_ne HO_199000.out BK209.out (by decide))) _).trans (hHeld.2.2.2.2.2.2.2.2.1)))),((cell_far (p:=⟨gb209,_,none⟩) (by first|exact Nat.ne_of_lt (Nat.lt_of_lt_of_le (by have:=World.block_lt_of_cell? _ _ hw204_0;first|rwa [add_block] at this|exact this) GW209.out)|(rw [add_block];exact Nat.ne_of_lt (Nat.lt_of_lt_of_le (by have:=World.block_lt_of_cell? _ _ hw204_0;first|rwa [add_block] at this|exact this) GW209.out))|(show (Addr.add _ _).block≠_;rw [add_block];exact Nat.ne_of_lt (Nat.lt_of_lt_of_le (by have:=World.block_lt_of_cell? _ _ hw204_0;first|rwa [add_block] at this|exact this) GW209.out))|(dsimp only;exact Nat.ne_of_lt (Nat.lt_of_lt_of_le (by have:=World.block_lt_of_cell? _ _ hw204_0;first|rwa [add_block] at this|exact this) GW209.out))) _).trans (((cell_far (p:=⟨gb209,_,none⟩) (by first|exact Nat.ne_of_lt (Nat.lt_of_lt_of_le (by have:=World.block_lt_of_cell? _ _ hw204_0;first|rwa [add_block] at this|exact this) GW209.out)|(rw [add_block];exact Nat.ne_of_lt (Nat.lt_of_lt_of_le (by have:=World.block_lt_of_cell? _ _ hw204_0;first|rwa [add_block] at this|exact this) GW209.out))|(show (Addr.add _ _).block≠_;rw [add_block];exact Nat.ne_of_lt (Nat.lt_of_lt_of_le (by have:=World.block_lt_of_cell? _ _ hw204_0;first|rwa [add_block] at this|exact this) GW209.out))|(dsimp only;exact Nat.ne_of_lt (Nat.lt_of_lt_of_le (by have:=World.block_lt_of_cell? _ _ hw204_0;first|rwa [add_block] at this|exact this) GW209.out))) _).trans (hHeld.2.2.2.2.2.2.2.2.2.1)))),((cell_far (p:=⟨gb209,_,none⟩) (oB (Kd.R_ne HO_199000.out BK209.out (by decide))) _).trans (((cell_far (p:=⟨gb209,_,none⟩) (oB (Kd.R_ne HO_199000.out BK209.out (by decide))) _).trans (hHeld.2.2.2.2.2.2.2.2.2.2.1)))),((cell_far (p:=⟨gb209,_,none⟩) (oB (Kd.R_ne HO_199000.out BK209.out (by decide))) _).trans (((cell_far (p:=⟨gb209,_,none⟩) (oB (Kd.R_ne HO_199000.out BK209.out (by decide))) _).trans (hHeld.2.2.2.2.2.2.2.2.2.2.2.1)))),((cell_far (p:=⟨gb209,_,none⟩) (oB (Kd.R_ne HO_199000.out BK209.out (by decide))) _).trans (((cell_far (p:=⟨gb209,_,none⟩) (oB (Kd.R_ne HO_199000.out BK209.out (by decide))) _).trans (hHeld.2.2.2.2.2.2.2.2.2.2.2.2.1)))),((cell_far (p:=⟨gb209,_,none⟩) (oB (Kd.R_ne HO_199000.out BK209.out (by decide))) _).trans (((cell_far (p:=⟨gb209,_,none⟩) (oB (Kd.R_ne HO_199000.out BK209.out (by decide))) _).trans (hHeld.2.2.2.2.2.2.2.2.2.2.2.2.2))))⟩ (fun hHeld=>?_)
     clear hK K
     refine pP 29 (some 14) HT_ ?_
     refine done_ (done_of HT_.out (by kernel_rfl)) ?_
     have n0_:Aside0 (Kd.R k50 50 ((w43.setCell ⟨gb209,0,none⟩ (.int .i64 t206)).setCell ⟨gb209,1,none⟩ (.int .i64 t207)) w.heap.size (fun _=>True) (.slice (some ad200) x199000_2.length co39) x199000_2):=⟨by (with_reducible repeat (first|apply Kd.R_alloc|apply Kd.R_drewN|apply Kd.R_drew));exact Kd.R_mono (Kd.R_far (p:=⟨gb209,1,none⟩) (Kd.R_far (p:=⟨gb209,0,none⟩) (Kd.R_types HO_199000.out BK209.out (by decide)) (fun _ hk=>hk.2) (.int .i64 t206)) (fun _ hk=>hk.2) (.int .i64 t207)) (fun _ hk=>trivial)⟩
     have n1_:Aside0 (((w43.setCell ⟨gb209,0,none⟩ (.int .i64 t206)).setCell ⟨gb209,1,none⟩ (.int .i64 t207)).heap[gb191]? = some (.cells #[.slice A0_0 l0_0.length c0_0,.int .i64 a0_1,.int .i64 a0_2] 26 (0,0))):=⟨by (with_reducible repeat (first|refine blk_drewN ?_ _|refine blk_drew ?_|refine blk_alloc ?_ _));refine blk_far ?_ NB191_209.out _;(with_reducible repeat (first|refine blk_drewN ?_ _|refine blk_drew ?_|refine blk_alloc ?_ _));refine blk_far ?_ NB191_209.out _;(with_reducible repeat (first|refine blk_drewN ?_ _|refine blk_drew ?_|refine blk_alloc ?_ _));exact BK191.out⟩
     have n2_:Aside0 (((w43.setCell ⟨gb209,0,none⟩ (.int .i64 t206)).setCell ⟨gb209,1,none⟩ (.int .i64 t207)).heap[gb192]? = some (.cells #[.slice none 0 0,.int .i64 x193001_2,.int .i64 x193002_2] 26 (0,0))):=⟨by (with_reducible repeat (first|refine blk_drewN ?_ _|refine blk_drew ?_|refine blk_alloc ?_ _));refine blk_far ?_ NB192_209.out _;(with_reducible repeat (first|refine blk_drewN ?_ _|refine blk_drew ?_|refine blk_alloc ?_ _));refine blk_far ?_ NB192_209.out _;(with_reducible repeat (first|refine blk_drewN ?_ _|refine blk_drew ?_|refine blk_alloc ?_ _));exact BK192.out⟩
     have n3_:Aside0 (((w43.setCell ⟨gb209,0,none⟩ (.int .i64 t206)).setCell ⟨gb209,1,none⟩ (.int .i64 t207)).heap[gb198]? = some (.cells #[.slice (some ad200) x199000_2.length co39,.int .i64 a0_1,.int .i64 a0_2] 26 (0,0))):=⟨by (with_reducible repeat (first|refine blk_drewN ?_ _|refine blk_drew ?_|refine blk_alloc ?_ _));refine blk_far ?_ NB198_209.out _;(with_reducible repeat (first|refine blk_drewN ?_ _|refine blk_drew ?_|refine blk_alloc ?_ _));refine blk_far ?_ NB198_209.out _;(with_reducible repeat (first|refine blk_drewN ?_ _|refine blk_drew ?_|refine blk_alloc ?_ _));exact BK198.out⟩
     have n4_:Aside0 (((w43.setCell ⟨gb209,0,none⟩ (.int .i64 t206)).setCell ⟨gb209,1,none⟩ (.int .i64 t207)).heap[gb209]? = some (.cells #[.int .i64 t206,.int .i64 t207] 24 (0,0))):=⟨by (with_reducible repeat (first|refine blk_drewN ?_ _|refine blk_drew ?_|refine blk_alloc ?_ _));refine blk_put (cs:=#[.int .i64 t206,.int .i64 0]) ?_ 1 _ rfl;(with_reducible repeat (first|refine blk_drewN ?_ _|refine blk_drew ?_|refine blk_alloc ?_ _));refine blk_put (cs:=#[.int .i64 0,.int .i64 0]) ?_ 0 _ rfl;(with_reducible repeat (first|refine blk_drewN ?_ _|refine blk_drew ?_|refine blk_alloc ?_ _));exact BK209.out⟩
     have n5_:Aside0 (Below w.heap.size w ((w43.setCell ⟨gb209,0,none⟩ (.int .i64 t206)).setCell ⟨gb209,1,none⟩ (.int .i64 t207))):=⟨bA⟩
     (try clear HO_199000)
     (try clear BK191)
     (try clear BK192)
     (try clear BK198)
     (try clear BK209)
     (try clear HB)
     generalize ((w43.setCell ⟨gb209,0,none⟩ (.int .i64 t206)).setCell ⟨gb209,1,none⟩ (.int .i64 t207))=w46 at n0_ n1_ n2_ n3_ n4_ n5_ ⊢
     have HO_199000:=n0_
     have BK191:=n1_
     have BK192:=n2_
     have BK198:=n3_
     have BK209:=n4_
     have HB:=n5_
     clear n0_ n1_ n2_ n3_ n4_ n5_
     have hnb47:=NB209_191.out
     have hnc47:=NB191_209.out
     have hnb48:=NB209_192.out
     have hnc48:=NB192_209.out
     have hnb49:=NB209_198.out
     have hnc49:=NB198_209.out
     obtain ⟨_,_,_,_⟩:=xC2 BK209.out
     have p35:0≤((rd l1 x42_2):Int):=dA
     have q35:((rd l1 x42_2):Int) < ((x199000_2.length:Int):Int):=dA
     obtain ⟨go35,co35,eo35,gb35,gl35,cl35,HG35⟩:=Kd.R_form HO_199000.out (by omega)
     (first|cases eo35|(injection eo35 with ea_ en_ ec_;(first|subst ea_|(injection ea_ with ea_;subst ea_));subst ec_;clear en_))
     have GB35:=Aside0.mk gb35
     have GG35:=Aside0.mk HG35
     clear gb35 gl35 HG35
     (first|simp only [add_plain] at hx200_0|skip)
     (first|simp only [add_plain] at hx200_1|skip)
     (first|simp only [add_plain] at hx200_2|skip)
     (first|simp only [add_plain] at hx200_3|skip)
     (first|simp only [add_plain] at hx201_0|skip)
     (first|simp only [add_plain] at hx201_1|skip)
     (first|simp only [add_plain] at hx201_2|skip)
     (first|simp only [add_plain] at hx201_3|skip)
     (first|simp only [add_plain] at hx203_0|skip)
     (first|simp only [add_plain] at hx203_1|skip)
     (first|simp only [add_plain] at hx203_2|skip)
     (first|simp only [add_plain] at hx203_3|skip)
     (first|simp only [add_plain] at hx205_0|skip)
     (first|simp only [add_plain] at hx205_1|skip)
     (first|simp only [add_plain] at hx205_2|skip)
     (first|simp only [add_plain] at hx205_3|skip)
     obtain ⟨ce35,hcl35,hM35,hcc35,hfr35⟩:=Kd.R_elem HO_199000.out z50 ((rd l1 x42_2):Int) p35 q35
     obtain rfl:=k50_openM hM35
     have hx35_0:w46.cell? ⟨go35,((rd l1 x42_2):Int).toNat*4,none⟩=some (.int .i64 ((rd_T50 x199000_2 (rd l1 x42_2)).f0.f0)):=hcc35 0 _ rfl
     have hx35_1:w46.cell? ⟨go35,((rd l1 x42_2):Int).toNat*4+1,none⟩=some (.int .i64 ((rd_T50 x199000_2 (rd l1 x42_2)).f0.f1)):=hcc35 1 _ rfl
     have hx35_2:w46.cell? ⟨go35,((rd l1 x42_2):Int).toNat*4+2,none⟩=some (.int .i64 ((rd_T50 x199000_2 (rd l1 x42_2)).f1)):=hcc35 2 _ rfl
     have hx35_3:w46.cell? ⟨go35,((rd l1 x42_2):Int).toNat*4+3,none⟩=some (.int .i64 ((rd_T50 x199000_2 (rd l1 x42_2)).f2)):=hcc35 3 _ rfl
     have hf35_0:w46.frozen? ⟨go35,((rd l1 x42_2):Int).toNat*4,none⟩=false:=hfr35 0
     have hf35_1:w46.frozen? ⟨go35,((rd l1 x42_2):Int).toNat*4+1,none⟩=false:=hfr35 1
     have hf35_2:w46.frozen? ⟨go35,((rd l1 x42_2):Int).toNat*4+2,none⟩=false:=hfr35 2
     have hf35_3:w46.frozen? ⟨go35,((rd l1 x42_2):Int).toNat*4+3,none⟩=false:=hfr35 3
     clear hcl35 hcc35 hfr35 hM35
     replace p35:=eq_true p35
     replace q35:=eq_true q35
     have HX51:=Aside0.mk (show Kd.R k50 50 w46 w.heap.size (fun _=>True) (.slice (some ⟨go35,0,none⟩) x199000_2.length co39) x199000_2 from (rS HO_199000.out))
     obtain ⟨ce51,hcl51,hM51,hcc51,hfr51⟩:=Kd.R_elem HX51.out z50 ((rd l1 x42_2):Int) (dA) (by have h_:((rd l1 x42_2):Int) < ((x199000_2.length:Int):Int):=dA;first|exact h_|(have e_:=(Kd.R_reads' HO_199000.out).1;omega)|simpa using h_)
     obtain rfl:=k50_openM hM51
     have HP51:=Kd.R_seg HX51.out ((rd l1 x42_2):Int) (dA) (by have h_:((rd l1 x42_2):Int) < ((x199000_2.length:Int):Int):=dA;first|exact h_|(have e_:=(Kd.R_reads' HO_199000.out).1;omega)|simpa using h_) (seg:=[.int .i64 t206,.int .i64 t207]) (j:=0) hcl51 hcc51 (show 2≤4 from by decide) (x':=(⟨(⟨t206,t207⟩:S24),(rd_T50 x199000_2 (rd l1 x42_2)).f1,(rd_T50 x199000_2 (rd l1 x42_2)).f2⟩:S50)) (k50_mkM _ _ _ (⟨(⟨t206,t207⟩:S24),(rd_T50 x199000_2 (rd l1 x42_2)).f1,(rd_T50 x199000_2 (rd l1 x42_2)).f2⟩:S50) ) (fun _ hk=>hk)
     have hx51_0:=hcc51 0 _ rfl
     (try simp only [show (k50).sz=4 from rfl,Nat.mul_one,Nat.add_zero] at hx51_0)
     have hf51_0:=hfr51 0
     (try simp only [show (k50).sz=4 from rfl,Nat.mul_one,Nat.add_zero] at hf51_0)
     have hx51_1:=hcc51 1 _ rfl
     (try simp only [show (k50).sz=4 from rfl,Nat.mul_one,Nat.add_zero] at hx51_1)
     have hf51_1:=hfr51 1
     (try simp only [show (k50).sz=4 from rfl,Nat.mul_one,Nat.add_zero] at hf51_1)
     clear hcl51 hcc51 hfr51 hM51
     try go_wp2_with (first|((with_reducible refine gate_store (t:=24) (p:=84) rfl ?_);refine store_event (t:=24) (p:=84) (v:=?vo_w52) (w1:=((w46.setCell ⟨go35,((rd l1 x42_2):Int).toNat*4,none⟩ (.int .i64 t206)).setCell ⟨go35,((rd l1 x42_2):Int).toNat*4+1,none⟩ (.int .i64 t207))) ?hg ?ho ?hn ?hr ?_;(case ho=>rfl);(case hg=>rfl);(case hn=>rfl);(case hr=>first|(go_simp;done)|(go_simp;rfl));intro w52 hw;have hg:w46.grownBy w52 (some go35):=(by rw [hw];exact HP51.2);have hp_:Kd.R k50 50 w52 w.heap.size (fun _=>True) (.slice (some ⟨go35,0,none⟩) x199000_2.length co39) y210:=(by rw [hw,Ny210.out];exact HP51.1);clear HP51;replace BK191:=qK (blk_grown (g:=gb191) (o:=.cells #[.slice A0_0 l0_0.length c0_0,.int .i64 a0_1,.int .i64 a0_2] 26 (0,0)) (bX BK191.out) hg (Kd.R_ne HO_199000.out BK191.out (by decide)));replace BK192:=qK (blk_grown (g:=gb192) (o:=.cells #[.slice none 0 0,.int .i64 x193001_2,.int .i64 x193002_2] 26 (0,0)) (bX BK192.out) hg (Kd.R_ne HO_199000.out BK192.out (by decide)));replace BK198:=qK (blk_grown (g:=gb198) (o:=.cells #[.slice (some ⟨go35,0,none⟩) x199000_2.length co39,.int .i64 a0_1,.int .i64 a0_2] 26 (0,0)) (bX BK198.out) hg (Kd.R_ne HO_199000.out BK198.out (by decide)));replace BK209:=qK (blk_grown (g:=gb209) (o:=.cells #[.int .i64 t206,.int .i64 t207] 24 (0,0)) (bX BK209.out) hg (Kd.R_ne HO_199000.out BK209.out (by decide)));replace HO_199000:=qK (hp_);replace HB:=qK ((by rw [hw];exact below_set (below_set (HB.out) GB35.out) GB35.out:Below w.heap.size w w52));clear hg hw hp_))
     go_roundg k2
     case measure=>have:=HJ5.out;have:=HK2.out;omega
     case rel=>exact ⟨(wrap64 (x42_2+1)),(x193001_2),(x193002_2),(y210),(.slice (some ⟨go35,0,none⟩) x199000_2.length co39),sA,H',⟨by have:=HJ5.out;have:=HK2.out;omega⟩,⟨by (with_reducible repeat (first|apply Kd.R_alloc|apply Kd.R_drewN|apply Kd.R_drew));exact HO_199000.out⟩,⟨by (with_reducible repeat (first|refine blk_drewN ?_ _|refine blk_drew ?_|refine blk_alloc ?_ _));exact BK191.out⟩,⟨by (with_reducible repeat (first|refine blk_drewN ?_ _|refine blk_drew ?_|refine blk_alloc ?_ _));exact BK192.out⟩,⟨by (with_reducible repeat (first|refine blk_drewN ?_ _|refine blk_drew ?_|refine blk_alloc ?_ _));exact BK198.out⟩,⟨bA⟩⟩
end Go.Proofs.Ythimaecnpkcmeaa.K
