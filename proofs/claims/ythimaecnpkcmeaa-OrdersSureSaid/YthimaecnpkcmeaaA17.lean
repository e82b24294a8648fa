/- Contracts of Go functions and lemmas for them: each theorem states what one function returns and what it leaves of memory; its conditions stand in its statement. -/
import Derived.Test.YthimaecnpkcmeaaA3
import Derived.Test.YthimaecnpkcmeaaA4
import Derived.Test.YthimaecnpkcmeaaA12
import Derived.Test.YthimaecnpkcmeaaA16
set_option linter.unusedVariables false
set_option linter.unusedSimpArgs false
namespace Go.Proofs.Ythimaecnpkcmeaa.K
open Go.RowKit Go.Proofs.YthimaecnpkcmeaaW.PrintWords Go.Proofs.YthimaecnpkcmeaaW.PrintLast Go.Proofs.YthimaecnpkcmeaaW.PrintMore
attribute [local go_sem] max2_int min2_int max_two min_two max_three min_three max_four min_four   -- for this text's walks alone
set_option linter.unusedVariables false
set_option linter.unusedSimpArgs false
attribute [local go_sem high] eqA64
def slices_Equal_int_int.l0:Nat→List Int→List Int→Int→Int→Option (Bool)
 | 0,_,_,_,_=>none
 | k+1,x0,x1,x12,x13=>if x13 < x12 then (if 0≤x13 then (if x13 < (x0.length:Int) then (if x13 < (x1.length:Int) then (if (rd x0 x13)=(rd x1 x13) then (slices_Equal_int_int.l0 k x0 x1 x12 (wrap64 (x13+1))) else (some false)) else (none)) else (none)) else (none)) else (some true)
def slices_Equal_int_int.f (k:Nat) (l0:List Int) (l1:List Int):Option (Bool):=if (l0.length:Int)=(l1.length:Int) then (slices_Equal_int_int.l0 k l0 l1 (l0.length:Int) 0) else (some false)
set_option maxHeartbeats 8000000 in
set_option maxRecDepth 100000 in
theorem slices_Equal_int_int.calls (k:Nat) (A0:Option Addr) (c0:Nat) (l0:List Int) (A1:Option Addr) (c1:Nat) (l1:List Int) (r:Bool) (w:World) (hr0:Kd.C (Kd.int .i64) w A0 l0.length l0) (hc0:l0.length≤c0) (hr1:Kd.C (Kd.int .i64) w A1 l1.length l1) (hc1:l1.length≤c1) (h:slices_Equal_int_int.f k l0 l1=some r) :
 Calls Try.prog 41 #[.slice A0 l0.length c0,.slice A1 l1.length c1] w fun e w'=>e= .returned (.bool r)∧Drawn0 w w':=by
 have HR0:=Aside0.mk hr0
 have HC0:=Aside0.mk hc0
 clear hr0 hc0
 have HR1:=Aside0.mk hr1
 have HC1:=Aside0.mk hc1
 clear hr1 hc1
 have H:(if (l0.length:Int)=(l1.length:Int) then (slices_Equal_int_int.l0 k l0 l1 (l0.length:Int) 0) else (some false))=some r:=h
 clear h
 by_cases c3:(l0.length:Int)=(l1.length:Int)
 rotate_left
 ·rw [if_neg c3] at H
  have c3b0:((l0.length:Int) == (l1.length:Int))=false:=beq_eq_false_iff_ne.mpr c3
  have c3b1:((l0.length:Int) != (l1.length:Int))=true:=bne_iff_ne.mpr c3
  have c3b2:(l0.length == l1.length)=false:=by first|simpa using c3|(simp at c3 ⊢;omega)
  obtain rfl:=Option.some.inj H
  go_enter Try.func41,Try.ntmps41
  go_wp2
  repeat (go_quiet (fail);try go_wp2)
  go_ret
  exact ⟨by first|rfl|(simp;done)|(simp [*];done),by repeat (first|exact Drawn0.refl _|apply Drawn0.step)⟩
 rw [if_pos c3] at H
 have c3b0:((l0.length:Int) == (l1.length:Int))=true:=beq_iff_eq.mpr c3
 have c3b1:((l0.length:Int) != (l1.length:Int))=false:=bne_eq_false_iff_eq.mpr c3
 have c3b2:(l0.length == l1.length)=true:=by first|simpa using c3|(simp at c3 ⊢;omega)
 clear c3
 have H':=Aside0.mk H
 clear H
 go_enter Try.func41,Try.ntmps41
 go_wp2
 repeat (go_quiet (fail);try go_wp2)
 go_loopg [13] k (fun kq v13 w'=>∃ (x13_1:Int),v13= .int .i64 x13_1∧Aside0 (slices_Equal_int_int.l0 kq l0 l1 (l0.length:Int) x13_1=some r)∧Aside0 (kq≤k)∧Drawn0 w w')
 case atStart=>exact ⟨(0),sA,H',⟨Nat.le_refl _⟩,by repeat (first|exact Drawn0.refl _|apply Drawn0.step)⟩
 case round =>
  clear H'
  try clear c1
  try clear p2
  try clear c3
  try clear c3b0
  try clear c3b1
  try clear c3b2
  obtain ⟨x13_1,rfl,HA,HK1,⟨m1,rfl⟩⟩:=hrel
  cases gk with
  | zero=>exact absurd HA.out (by simp [slices_Equal_int_int.l0])
  | succ k1 =>
   have H:=HA.out
   clear HA
   simp only [slices_Equal_int_int.l0] at H
   by_cases c4:x13_1 < (l0.length:Int)
   rotate_left
   ·rw [if_neg c4] at H
    have c4b0:decide (x13_1 < (l0.length:Int))=false:=decide_eq_false c4
    clear c4
    obtain rfl:=Option.some.inj H
    go_wp2
    repeat (go_quiet (fail);try go_wp2)
    go_ret
    exact ⟨by first|rfl|(simp;done)|(simp [*];done),by repeat (first|exact Drawn0.refl _|apply Drawn0.step)⟩
   rw [if_pos c4] at H
   have c4b0:decide (x13_1 < (l0.length:Int))=true:=decide_eq_true c4
   clear c4
   by_cases c5:0≤x13_1
   rotate_left
   ·rw [if_neg c5] at H
    exact absurd H (by simp)
   rw [if_pos c5] at H
   have c5b0:decide (0≤x13_1)=true:=decide_eq_true c5
   clear c5
   by_cases c6:x13_1 < (l0.length:Int)
   rotate_left
   ·rw [if_neg c6] at H
    exact absurd H (by simp)
   rw [if_pos c6] at H
   have c6b0:decide (x13_1 < (l0.length:Int))=true:=decide_eq_true c6
   clear c6
   by_cases c7:x13_1 < (l1.length:Int)
   rotate_left
   ·rw [if_neg c7] at H
    exact absurd H (by simp)
   rw [if_pos c7] at H
   have c7b0:decide (x13_1 < (l1.length:Int))=true:=decide_eq_true c7
   clear c7
   by_cases c8:(rd l0 x13_1)=(rd l1 x13_1)
   rotate_left
   ·rw [if_neg c8] at H
    have c8b0:((rd l0 x13_1) == (rd l1 x13_1))=false:=beq_eq_false_iff_ne.mpr c8
    have c8b1:((rd l0 x13_1) != (rd l1 x13_1))=true:=bne_iff_ne.mpr c8
    obtain rfl:=Option.some.inj H
    have p334:0≤(x13_1:Int):=dA
    have q334:x13_1 < (l0.length:Int):=dA
    obtain ⟨ad334,e334,hx334_0⟩:=Kd.at_int HR0.out x13_1 p334 q334
    cases e334
    replace p334:=eq_true p334
    replace q334:=eq_true q334
    have p335:0≤(x13_1:Int):=dA
    have q335:x13_1 < (l1.length:Int):=dA
    obtain ⟨ad335,e335,hx335_0⟩:=Kd.at_int HR1.out x13_1 p335 q335
    cases e335
    replace p335:=eq_true p335
    replace q335:=eq_true q335
    go_wp2
    repeat (go_quiet (fail);try go_wp2)
    go_ret
    exact ⟨by first|rfl|(simp;done)|(simp [*];done),by repeat (first|exact Drawn0.refl _|apply Drawn0.step)⟩
   rw [if_pos c8] at H
   have c8b0:((rd l0 x13_1) == (rd l1 x13_1))=true:=beq_iff_eq.mpr c8
   have c8b1:((rd l0 x13_1) != (rd l1 x13_1))=false:=bne_eq_false_iff_eq.mpr c8
   clear c8
   have H':=Aside0.mk H
   clear H
   have p334:0≤(x13_1:Int):=dA
   have q334:x13_1 < (l0.length:Int):=dA
   obtain ⟨ad334,e334,hx334_0⟩:=Kd.at_int HR0.out x13_1 p334 q334
   cases e334
   replace p334:=eq_true p334
   replace q334:=eq_true q334
   have p335:0≤(x13_1:Int):=dA
   have q335:x13_1 < (l1.length:Int):=dA
   obtain ⟨ad335,e335,hx335_0⟩:=Kd.at_int HR1.out x13_1 p335 q335
   cases e335
   replace p335:=eq_true p335
   replace q335:=eq_true q335
   go_wp2
   repeat (go_quiet (fail);try go_wp2)
   go_roundg k1
   case measure=>have:=HK1.out;omega
   case rel=>exact ⟨(wrap64 (x13_1+1)),sA,H',⟨by have:=HK1.out;omega⟩,by repeat (first|exact Drawn0.refl _|apply Drawn0.step)⟩
def acreageref08_SamePairs.l0:Nat→List (S64)→List (S64)→Int→Option (Bool)
 | 0,_,_,_=>none
 | k+1,x0,x1,x5=>if x5 < (x0.length:Int) then (if 0≤x5 then (if x5 < (x1.length:Int) then (if (!(((rd_T64 x0 x5).f0) == ((rd_T64 x1 x5).f0)) || (!(((rd_T64 x0 x5).f1) == ((rd_T64 x1 x5).f1))))=true then (some false) else (acreageref08_SamePairs.l0 k x0 x1 (wrap64 (x5+1)))) else (none)) else (none)) else (some true)
def acreageref08_SamePairs.f (k:Nat) (l0:List (S64)) (l1:List (S64)):Option (Bool):=if (l0.length:Int)=(l1.length:Int) then (acreageref08_SamePairs.l0 k l0 l1 0) else (some false)
set_option maxHeartbeats 8000000 in
set_option maxRecDepth 100000 in
theorem acreageref08_SamePairs.calls (k:Nat) (A0:Option Addr) (c0:Nat) (l0:List (S64)) (A1:Option Addr) (c1:Nat) (l1:List (S64)) (r:Bool) (w:World) (hr0:Kd.C k64 w A0 l0.length l0) (hc0:l0.length≤c0) (hr1:Kd.C k64 w A1 l1.length l1) (hc1:l1.length≤c1) (h:acreageref08_SamePairs.f k l0 l1=some r) :
 Calls Try.prog 42 #[.slice A0 l0.length c0,.slice A1 l1.length c1] w fun e w'=>e= .returned (.bool r)∧Drawn0 w w':=by
 have hu64:=Try.underlying64
 have HR0:=Aside0.mk hr0
 have HC0:=Aside0.mk hc0
 clear hr0 hc0
 have HR1:=Aside0.mk hr1
 have HC1:=Aside0.mk hc1
 clear hr1 hc1
 have H:(if (l0.length:Int)=(l1.length:Int) then (acreageref08_SamePairs.l0 k l0 l1 0) else (some false))=some r:=h
 clear h
 by_cases c3:(l0.length:Int)=(l1.length:Int)
 rotate_left
 ·rw [if_neg c3] at H
  have c3b0:((l0.length:Int) == (l1.length:Int))=false:=beq_eq_false_iff_ne.mpr c3
  have c3b1:((l0.length:Int) != (l1.length:Int))=true:=bne_iff_ne.mpr c3
  have c3b2:(l0.length == l1.length)=false:=by first|simpa using c3|(simp at c3 ⊢;omega)
  obtain rfl:=Option.some.inj H
  go_enter Try.func42,Try.ntmps42
  go_wp2
  repeat (go_quiet (fail);try go_wp2)
  go_ret
  exact ⟨by first|rfl|(simp;done)|(simp [*];done),by repeat (first|exact Drawn0.refl _|apply Drawn0.step)⟩
 rw [if_pos c3] at H
 have c3b0:((l0.length:Int) == (l1.length:Int))=true:=beq_iff_eq.mpr c3
 have c3b1:((l0.length:Int) != (l1.length:Int))=false:=bne_eq_false_iff_eq.mpr c3
 have c3b2:(l0.length == l1.length)=true:=by first|simpa using c3|(simp at c3 ⊢;omega)
 clear c3
 have H':=Aside0.mk H
 clear H
 go_enter Try.func42,Try.ntmps42
 go_wp2
 repeat (go_quiet (fail);try go_wp2)
 go_loopg [5] k (fun kq v5 w'=>∃ (x5_1:Int),v5= .int .i64 x5_1∧Aside0 (acreageref08_SamePairs.l0 kq l0 l1 x5_1=some r)∧Aside0 (kq≤k)∧Drawn0 w w')
 case atStart=>exact ⟨(0),sA,H',⟨Nat.le_refl _⟩,by repeat (first|exact Drawn0.refl _|apply Drawn0.step)⟩
 case round =>
  clear H'
  try clear c1
  try clear p2
  try clear c3
  try clear c3b0
  try clear c3b1
  try clear c3b2
  obtain ⟨x5_1,rfl,HA,HK1,⟨m1,rfl⟩⟩:=hrel
  cases gk with
  | zero=>exact absurd HA.out (by simp [acreageref08_SamePairs.l0])
  | succ k1 =>
   have H:=HA.out
   clear HA
   simp only [acreageref08_SamePairs.l0] at H
   by_cases c4:x5_1 < (l0.length:Int)
   rotate_left
   ·rw [if_neg c4] at H
    have c4b0:decide (x5_1 < (l0.length:Int))=false:=decide_eq_false c4
    clear c4
    obtain rfl:=Option.some.inj H
    go_wp2
    repeat (go_quiet (fail);try go_wp2)
    go_ret
    exact ⟨by first|rfl|(simp;done)|(simp [*];done),by repeat (first|exact Drawn0.refl _|apply Drawn0.step)⟩
   rw [if_pos c4] at H
   have c4b0:decide (x5_1 < (l0.length:Int))=true:=decide_eq_true c4
   clear c4
   by_cases c5:0≤x5_1
   rotate_left
   ·rw [if_neg c5] at H
    exact absurd H (by simp)
   rw [if_pos c5] at H
   have c5b0:decide (0≤x5_1)=true:=decide_eq_true c5
   clear c5
   by_cases c6:x5_1 < (l1.length:Int)
   rotate_left
   ·rw [if_neg c6] at H
    exact absurd H (by simp)
   rw [if_pos c6] at H
   have c6b0:decide (x5_1 < (l1.length:Int))=true:=decide_eq_true c6
   clear c6
   by_cases c7:(!(((rd_T64 l0 x5_1).f0) == ((rd_T64 l1 x5_1).f0)) || (!(((rd_T64 l0 x5_1).f1) == ((rd_T64 l1 x5_1).f1))))=true
   ·rw [if_pos c7] at H
    have c7b0:(!(((rd_T64 l0 x5_1).f0) == ((rd_T64 l1 x5_1).f0)) || (!(((rd_T64 l0 x5_1).f1) == ((rd_T64 l1 x5_1).f1))))=true:=c7
    clear c7
    obtain rfl:=Option.some.inj H
    have p336:0≤(x5_1:Int):=dA
    have q336:x5_1 < (l0.length:Int):=dA
    obtain ⟨ad336,e336,hx336_0,hx336_1⟩:=at_T64 HR0.out x5_1 p336 q336
    cases e336
    replace p336:=eq_true p336
    replace q336:=eq_true q336
    have p337:0≤(x5_1:Int):=dA
    have q337:x5_1 < (l1.length:Int):=dA
    obtain ⟨ad337,e337,hx337_0,hx337_1⟩:=at_T64 HR1.out x5_1 p337 q337
    cases e337
    replace p337:=eq_true p337
    replace q337:=eq_true q337
    go_wp2
    repeat (go_quiet (fail);try go_wp2)
    go_ret
    exact ⟨by first|rfl|(simp;done)|(simp [*];done),by repeat (first|exact Drawn0.refl _|apply Drawn0.step)⟩
   rw [if_neg c7] at H
   have c7b0:(!(((rd_T64 l0 x5_1).f0) == ((rd_T64 l1 x5_1).f0)) || (!(((rd_T64 l0 x5_1).f1) == ((rd_T64 l1 x5_1).f1))))=false:=by simpa using c7
   clear c7
   have H':=Aside0.mk H
   clear H
   have p336:0≤(x5_1:Int):=dA
   have q336:x5_1 < (l0.length:Int):=dA
   obtain ⟨ad336,e336,hx336_0,hx336_1⟩:=at_T64 HR0.out x5_1 p336 q336
   cases e336
   replace p336:=eq_true p336
   replace q336:=eq_true q336
   have p337:0≤(x5_1:Int):=dA
   have q337:x5_1 < (l1.length:Int):=dA
   obtain ⟨ad337,e337,hx337_0,hx337_1⟩:=at_T64 HR1.out x5_1 p337 q337
   cases e337
   replace p337:=eq_true p337
   replace q337:=eq_true q337
   go_wp2
   repeat (go_quiet (fail);try go_wp2)
   go_roundg k1
   case measure=>have:=HK1.out;omega
   case rel=>exact ⟨(wrap64 (x5_1+1)),sA,H',⟨by have:=HK1.out;omega⟩,by repeat (first|exact Drawn0.refl _|apply Drawn0.step)⟩
def acreageref08_SameFronts.l0:Nat→List (List (S64))→List (List (S64))→Int→Option (Bool)
 | 0,_,_,_=>none
 | k+1,x0,x1,x5=>if x5 < (x0.length:Int) then (if 0≤x5 then (if x5 < (x1.length:Int) then ((acreageref08_SamePairs.f k (rd_L6 x0 x5) (rd_L6 x1 x5)).bind fun t340=>(if t340=true then (acreageref08_SameFronts.l0 k x0 x1 (wrap64 (x5+1))) else (some false))) else (none)) else (none)) else (some true)
def acreageref08_SameFronts.f (k:Nat) (l0:List (List (S64))) (l1:List (List (S64))):Option (Bool):=if (l0.length:Int)=(l1.length:Int) then (acreageref08_SameFronts.l0 k l0 l1 0) else (some false)
set_option maxHeartbeats 8000000 in
set_option maxRecDepth 100000 in
theorem acreageref08_SameFronts.calls (k:Nat) (A0:Option Addr) (c0:Nat) (l0:List (List (S64))) (A1:Option Addr) (c1:Nat) (l1:List (List (S64))) (r:Bool) (w:World) (hr0:Kd.C (Kd.slice 64 k64) w A0 l0.length l0) (hc0:l0.length≤c0) (hr1:Kd.C (Kd.slice 64 k64) w A1 l1.length l1) (hc1:l1.length≤c1) (h:acreageref08_SameFronts.f k l0 l1=some r) :
 Calls Try.prog 43 #[.slice A0 l0.length c0,.slice A1 l1.length c1] w fun e w'=>e= .returned (.bool r)∧Drawn0 w w':=by
 have HR0:=Aside0.mk hr0
 have HC0:=Aside0.mk hc0
 clear hr0 hc0
 have HR1:=Aside0.mk hr1
 have HC1:=Aside0.mk hc1
 clear hr1 hc1
 have H:(if (l0.length:Int)=(l1.length:Int) then (acreageref08_SameFronts.l0 k l0 l1 0) else (some false))=some r:=h
 clear h
 by_cases c3:(l0.length:Int)=(l1.length:Int)
 rotate_left
 ·rw [if_neg c3] at H
  have c3b0:((l0.length:Int) == (l1.length:Int))=false:=beq_eq_false_iff_ne.mpr c3
  have c3b1:((l0.length:Int) != (l1.length:Int))=true:=bne_iff_ne.mpr c3
  have c3b2:(l0.length == l1.length)=false:=by first|simpa using c3|(simp at c3 ⊢;omega)
  obtain rfl:=Option.some.inj H
  go_enter Try.func43,Try.ntmps43
  go_wp2
  repeat (go_quiet (fail);try go_wp2)
  go_ret
  exact ⟨by first|rfl|(simp;done)|(simp [*];done),by repeat (first|exact Drawn0.refl _|apply Drawn0.step)⟩
 rw [if_pos c3] at H
 have c3b0:((l0.length:Int) == (l1.length:Int))=true:=beq_iff_eq.mpr c3
 have c3b1:((l0.length:Int) != (l1.length:Int))=false:=bne_eq_false_iff_eq.mpr c3
 have c3b2:(l0.length == l1.length)=true:=by first|simpa using c3|(simp at c3 ⊢;omega)
 clear c3
 have H':=Aside0.mk H
 clear H
 go_enter Try.func43,Try.ntmps43
 go_wp2
 repeat (go_quiet (fail);try go_wp2)
 go_loopg [5] k (fun kq v5 w'=>∃ (x5_1:Int),v5= .int .i64 x5_1∧Aside0 (acreageref08_SameFronts.l0 kq l0 l1 x5_1=some r)∧Aside0 (kq≤k)∧Drawn0 w w')
 case atStart=>exact ⟨(0),sA,H',⟨Nat.le_refl _⟩,by repeat (first|exact Drawn0.refl _|apply Drawn0.step)⟩
 case round =>
  clear H'
  try clear c1
  try clear p2
  try clear c3
  try clear c3b0
  try clear c3b1
  try clear c3b2
  obtain ⟨x5_1,rfl,HA,HK1,⟨m1,rfl⟩⟩:=hrel
  cases gk with
  | zero=>exact absurd HA.out (by simp [acreageref08_SameFronts.l0])
  | succ k1 =>
   have H:=HA.out
   clear HA
   simp only [acreageref08_SameFronts.l0] at H
   by_cases c4:x5_1 < (l0.length:Int)
   rotate_left
   ·rw [if_neg c4] at H
    have c4b0:decide (x5_1 < (l0.length:Int))=false:=decide_eq_false c4
    clear c4
    obtain rfl:=Option.some.inj H
    go_wp2
    repeat (go_quiet (fail);try go_wp2)
    go_ret
    exact ⟨by first|rfl|(simp;done)|(simp [*];done),by repeat (first|exact Drawn0.refl _|apply Drawn0.step)⟩
   rw [if_pos c4] at H
   have c4b0:decide (x5_1 < (l0.length:Int))=true:=decide_eq_true c4
   clear c4
   by_cases c5:0≤x5_1
   rotate_left
   ·rw [if_neg c5] at H
    exact absurd H (by simp)
   rw [if_pos c5] at H
   have c5b0:decide (0≤x5_1)=true:=decide_eq_true c5
   clear c5
   by_cases c6:x5_1 < (l1.length:Int)
   rotate_left
   ·rw [if_neg c6] at H
    exact absurd H (by simp)
   rw [if_pos c6] at H
   have c6b0:decide (x5_1 < (l1.length:Int))=true:=decide_eq_true c6
   clear c6
   replace H:=Option.bind_eq_some_iff.mp H
   obtain ⟨t340,A70,H⟩:=H
   replace H:(if t340=true then (acreageref08_SameFronts.l0 k1 l0 l1 (wrap64 (x5_1+1))) else (some false))=some r:=H
   have A7:=Aside0.mk A70
   clear A70
   by_cases c8:t340=true
   rotate_left
   ·replace c8:=Bool.eq_false_iff.mpr c8
    subst c8
    have H1:(some false)=some r:=by rw [if_neg (show ¬ (false=true) by decide)] at H;exact H
    clear H
    have H:=H1
    clear H1
    obtain rfl:=Option.some.inj H
    have p338:0≤(x5_1:Int):=dA
    have q338:x5_1 < (l0.length:Int):=dA
    obtain ⟨ad338,A338_0,c338_0,e338,hx338_0,hl338_0,hi338_0⟩:=at_L6 HR0.out x5_1 p338 q338
    cases e338
    have HR338_0:=Aside0.mk hi338_0
    have HC338_0:=Aside0.mk hl338_0
    clear hi338_0 hl338_0
    replace p338:=eq_true p338
    replace q338:=eq_true q338
    have p339:0≤(x5_1:Int):=dA
    have q339:x5_1 < (l1.length:Int):=dA
    obtain ⟨ad339,A339_0,c339_0,e339,hx339_0,hl339_0,hi339_0⟩:=at_L6 HR1.out x5_1 p339 q339
    cases e339
    have HR339_0:=Aside0.mk hi339_0
    have HC339_0:=Aside0.mk hl339_0
    clear hi339_0 hl339_0
    replace p339:=eq_true p339
    replace q339:=eq_true q339
    go_wp2_with (first|(go_at_call 42;(with_reducible refine (acreageref08_SamePairs.calls k1 _ _ (rd_L6 l0 x5_1) _ _ (rd_L6 l1 x5_1) false _ ?side1 ?side2 ?side3 ?side4 A7.out).mono ?_);(case side1=>repeat (first|exact HR338_0.out|(with_reducible refine Kd.C_alloc ?_ _)|(with_reducible refine Kd.C_drewN ?_ _)|(with_reducible refine Kd.C_drew ?_)));(case side2=>exact HC338_0.out);(case side3=>repeat (first|exact HR339_0.out|(with_reducible refine Kd.C_alloc ?_ _)|(with_reducible refine Kd.C_drewN ?_ _)|(with_reducible refine Kd.C_drew ?_)));(case side4=>exact HC339_0.out);rintro e w' ⟨rfl,⟨nd,rfl⟩⟩;(try first|exact ⟨rfl,_,World.drewN_drewN _ _ _⟩|exact ⟨rfl,_,Eq.trans (World.drewN_drewN _ _ _) (congrArg (World.drewN _) (Nat.add_assoc _ _ _))⟩)))
    repeat (go_quiet (first|(go_at_call 42;(with_reducible refine (acreageref08_SamePairs.calls k1 _ _ (rd_L6 l0 x5_1) _ _ (rd_L6 l1 x5_1) false _ ?side1 ?side2 ?side3 ?side4 A7.out).mono ?_);(case side1=>repeat (first|exact HR338_0.out|(with_reducible refine Kd.C_alloc ?_ _)|(with_reducible refine Kd.C_drewN ?_ _)|(with_reducible refine Kd.C_drew ?_)));(case side2=>exact HC338_0.out);(case side3=>repeat (first|exact HR339_0.out|(with_reducible refine Kd.C_alloc ?_ _)|(with_reducible refine Kd.C_drewN ?_ _)|(with_reducible refine Kd.C_drew ?_)));(case side4=>exact HC339_0.out);rintro e w' ⟨rfl,⟨nd,rfl⟩⟩;(try first|exact ⟨rfl,_,World.drewN_drewN _ _ _⟩|exact ⟨rfl,_,Eq.trans (World.drewN_drewN _ _ _) (congrArg (World.drewN _) (Nat.add_assoc _ _ _))⟩)));try go_wp2_with (first|(go_at_call 42;(with_reducible refine (acreageref08_SamePairs.calls k1 _ _ (rd_L6 l0 x5_1) _ _ (rd_L6 l1 x5_1) false _ ?side1 ?side2 ?side3 ?side4 A7.out).mono ?_);(case side1=>repeat (first|exact HR338_0.out|(with_reducible refine Kd.C_alloc ?_ _)|(with_reducible refine Kd.C_drewN ?_ _)|(with_reducible refine Kd.C_drew ?_)));(case side2=>exact HC338_0.out);(case side3=>repeat (first|exact HR339_0.out|(with_reducible refine Kd.C_alloc ?_ _)|(with_reducible refine Kd.C_drewN ?_ _)|(with_reducible refine Kd.C_drew ?_)));(case side4=>exact HC339_0.out);rintro e w' ⟨rfl,⟨nd,rfl⟩⟩;(try first|exact ⟨rfl,_,World.drewN_drewN _ _ _⟩|exact ⟨rfl,_,Eq.trans (World.drewN_drewN _ _ _) (congrArg (World.drewN _) (Nat.add_assoc _ _ _))⟩))))
    go_ret
    exact ⟨by first|rfl|(simp;done)|(simp [*];done),by repeat (first|exact Drawn0.refl _|apply Drawn0.step)⟩
   subst c8
   have H1:(acreageref08_SameFronts.l0 k1 l0 l1 (wrap64 (x5_1+1)))=some r:=by rw [if_pos rfl] at H;exact H
   clear H
   have H:=H1
   clear H1
   have H':=Aside0.mk H
   clear H
   have p338:0≤(x5_1:Int):=dA
   have q338:x5_1 < (l0.length:Int):=dA
   obtain ⟨ad338,A338_0,c338_0,e338,hx338_0,hl338_0,hi338_0⟩:=at_L6 HR0.out x5_1 p338 q338
   cases e338
   have HR338_0:=Aside0.mk hi338_0
   have HC338_0:=Aside0.mk hl338_0
   clear hi338_0 hl338_0
   replace p338:=eq_true p338
   replace q338:=eq_true q338
   have p339:0≤(x5_1:Int):=dA
   have q339:x5_1 < (l1.length:Int):=dA
   obtain ⟨ad339,A339_0,c339_0,e339,hx339_0,hl339_0,hi339_0⟩:=at_L6 HR1.out x5_1 p339 q339
   cases e339
   have HR339_0:=Aside0.mk hi339_0
   have HC339_0:=Aside0.mk hl339_0
   clear hi339_0 hl339_0
   replace p339:=eq_true p339
   replace q339:=eq_true q339
   go_wp2_with (first|(go_at_call 42;(with_reducible refine (acreageref08_SamePairs.calls k1 _ _ (rd_L6 l0 x5_1) _ _ (rd_L6 l1 x5_1) true _ ?side1 ?side2 ?side3 ?side4 A7.out).mono ?_);(case side1=>repeat (first|exact HR338_0.out|(with_reducible refine Kd.C_alloc ?_ _)|(with_reducible refine Kd.C_drewN ?_ _)|(with_reducible refine Kd.C_drew ?_)));(case side2=>exact HC338_0.out);(case side3=>repeat (first|exact HR339_0.out|(with_reducible refine Kd.C_alloc ?_ _)|(with_reducible refine Kd.C_drewN ?_ _)|(with_reducible refine Kd.C_drew ?_)));(case side4=>exact HC339_0.out);rintro e w' ⟨rfl,⟨nd,rfl⟩⟩;(try first|exact ⟨rfl,_,World.drewN_drewN _ _ _⟩|exact ⟨rfl,_,Eq.trans (World.drewN_drewN _ _ _) (congrArg (World.drewN _) (Nat.add_assoc _ _ _))⟩)))
   repeat (go_quiet (first|(go_at_call 42;(with_reducible refine (acreageref08_SamePairs.calls k1 _ _ (rd_L6 l0 x5_1) _ _ (rd_L6 l1 x5_1) true _ ?side1 ?side2 ?side3 ?side4 A7.out).mono ?_);(case side1=>repeat (first|exact HR338_0.out|(with_reducible refine Kd.C_alloc ?_ _)|(with_reducible refine Kd.C_drewN ?_ _)|(with_reducible refine Kd.C_drew ?_)));(case side2=>exact HC338_0.out);(case side3=>repeat (first|exact HR339_0.out|(with_reducible refine Kd.C_alloc ?_ _)|(with_reducible refine Kd.C_drewN ?_ _)|(with_reducible refine Kd.C_drew ?_)));(case side4=>exact HC339_0.out);rintro e w' ⟨rfl,⟨nd,rfl⟩⟩;(try first|exact ⟨rfl,_,World.drewN_drewN _ _ _⟩|exact ⟨rfl,_,Eq.trans (World.drewN_drewN _ _ _) (congrArg (World.drewN _) (Nat.add_assoc _ _ _))⟩)));try go_wp2_with (first|(go_at_call 42;(with_reducible refine (acreageref08_SamePairs.calls k1 _ _ (rd_L6 l0 x5_1) _ _ (rd_L6 l1 x5_1) true _ ?side1 ?side2 ?side3 ?side4 A7.out).mono ?_);(case side1=>repeat (first|exact HR338_0.out|(with_reducible refine Kd.C_alloc ?_ _)|(with_reducible refine Kd.C_drewN ?_ _)|(with_reducible refine Kd.C_drew ?_)));(case side2=>exact HC338_0.out);(case side3=>repeat (first|exact HR339_0.out|(with_reducible refine Kd.C_alloc ?_ _)|(with_reducible refine Kd.C_drewN ?_ _)|(with_reducible refine Kd.C_drew ?_)));(case side4=>exact HC339_0.out);rintro e w' ⟨rfl,⟨nd,rfl⟩⟩;(try first|exact ⟨rfl,_,World.drewN_drewN _ _ _⟩|exact ⟨rfl,_,Eq.trans (World.drewN_drewN _ _ _) (congrArg (World.drewN _) (Nat.add_assoc _ _ _))⟩))))
   go_roundg k1
   case measure=>have:=HK1.out;omega
   case rel=>exact ⟨(wrap64 (x5_1+1)),sA,H',⟨by have:=HK1.out;omega⟩,by repeat (first|exact Drawn0.refl _|apply Drawn0.step)⟩
def slices_Equal_2_int_2_int.l0:Nat→List (S64)→List (S64)→Int→Int→Option (Bool)
 | 0,_,_,_,_=>none
 | k+1,x0,x1,x12,x13=>if x13 < x12 then (if 0≤x13 then (if x13 < (x0.length:Int) then (if x13 < (x1.length:Int) then (if (!(((rd_T64 x0 x13).f0) == ((rd_T64 x1 x13).f0)) || (!(((rd_T64 x0 x13).f1) == ((rd_T64 x1 x13).f1))))=true then (some false) else (slices_Equal_2_int_2_int.l0 k x0 x1 x12 (wrap64 (x13+1)))) else (none)) else (none)) else (none)) else (some true)
def slices_Equal_2_int_2_int.f (k:Nat) (l0:List (S64)) (l1:List (S64)):Option (Bool):=if (l0.length:Int)=(l1.length:Int) then (slices_Equal_2_int_2_int.l0 k l0 l1 (l0.length:Int) 0) else (some false)
set_option maxHeartbeats 8000000 in
set_option maxRecDepth 100000 in
theorem slices_Equal_2_int_2_int.calls (k:Nat) (A0:Option Addr) (c0:Nat) (l0:List (S64)) (A1:Option Addr) (c1:Nat) (l1:List (S64)) (r:Bool) (w:World) (hr0:Kd.C k64 w A0 l0.length l0) (hc0:l0.length≤c0) (hr1:Kd.C k64 w A1 l1.length l1) (hc1:l1.length≤c1) (h:slices_Equal_2_int_2_int.f k l0 l1=some r) :
 Calls Try.prog 28 #[.slice A0 l0.length c0,.slice A1 l1.length c1] w fun e w'=>e= .returned (.bool r)∧Drawn0 w w':=by
 have hu64:=Try.underlying64
 have HR0:=Aside0.mk hr0
 have HC0:=Aside0.mk hc0
 clear hr0 hc0
 have HR1:=Aside0.mk hr1
 have HC1:=Aside0.mk hc1
 clear hr1 hc1
 have H:(if (l0.length:Int)=(l1.length:Int) then (slices_Equal_2_int_2_int.l0 k l0 l1 (l0.length:Int) 0) else (some false))=some r:=h
 clear h
 by_cases c3:(l0.length:Int)=(l1.length:Int)
 rotate_left
 ·rw [if_neg c3] at H
  have c3b0:((l0.length:Int) == (l1.length:Int))=false:=beq_eq_false_iff_ne.mpr c3
  have c3b1:((l0.length:Int) != (l1.length:Int))=true:=bne_iff_ne.mpr c3
  have c3b2:(l0.length == l1.length)=false:=by first|simpa using c3|(simp at c3 ⊢;omega)
  obtain rfl:=Option.some.inj H
  go_enter Try.func28,Try.ntmps28
  go_wp2
  repeat (go_quiet (fail);try go_wp2)
  go_ret
  exact ⟨by first|rfl|(simp;done)|(simp [*];done),by repeat (first|exact Drawn0.refl _|apply Drawn0.step)⟩
 rw [if_pos c3] at H
 have c3b0:((l0.length:Int) == (l1.length:Int))=true:=beq_iff_eq.mpr c3
 have c3b1:((l0.length:Int) != (l1.length:Int))=false:=bne_eq_false_iff_eq.mpr c3
 have c3b2:(l0.length == l1.length)=true:=by first|simpa using c3|(simp at c3 ⊢;omega)
 clear c3
 have H':=Aside0.mk H
 clear H
 go_enter Try.func28,Try.ntmps28
 go_wp2
 repeat (go_quiet (fail);try go_wp2)
 go_loopg [13] k (fun kq v13 w'=>∃ (x13_1:Int),v13= .int .i64 x13_1∧Aside0 (slices_Equal_2_int_2_int.l0 kq l0 l1 (l0.length:Int) x13_1=some r)∧Aside0 (kq≤k)∧Drawn0 w w')
 case atStart=>exact ⟨(0),sA,H',⟨Nat.le_refl _⟩,by repeat (first|exact Drawn0.refl _|apply Drawn0.step)⟩
 case round =>
  clear H'
  try clear c1
  try clear c2
  try clear p2
  try clear c3
  try clear c3b0
  try clear c3b1
  try clear c3b2
  obtain ⟨x13_1,rfl,HA,HK1,⟨m1,rfl⟩⟩:=hrel
  cases gk with
  | zero=>exact absurd HA.out (by simp [slices_Equal_2_int_2_int.l0])
  | succ k1 =>
   have H:=HA.out
   clear HA
   simp only [slices_Equal_2_int_2_int.l0] at H
   by_cases c4:x13_1 < (l0.length:Int)
   rotate_left
   ·rw [if_neg c4] at H
    have c4b0:decide (x13_1 < (l0.length:Int))=false:=decide_eq_false c4
    clear c4
    obtain rfl:=Option.some.inj H
    go_wp2
    repeat (go_quiet (fail);try go_wp2)
    go_ret
    exact ⟨by first|rfl|(simp;done)|(simp [*];done),by repeat (first|exact Drawn0.refl _|apply Drawn0.step)⟩
   rw [if_pos c4] at H
   have c4b0:decide (x13_1 < (l0.length:Int))=true:=decide_eq_true c4
   clear c4
   by_cases c5:0≤x13_1
   rotate_left
   ·rw [if_neg c5] at H
    exact absurd H (by simp)
   rw [if_pos c5] at H
   have c5b0:decide (0≤x13_1)=true:=decide_eq_true c5
   clear c5
   by_cases c6:x13_1 < (l0.length:Int)
   rotate_left
   ·rw [if_neg c6] at H
    exact absurd H (by simp)
   rw [if_pos c6] at H
   have c6b0:decide (x13_1 < (l0.length:Int))=true:=decide_eq_true c6
   clear c6
   by_cases c7:x13_1 < (l1.length:Int)
   rotate_left
   ·rw [if_neg c7] at H
    exact absurd H (by simp)
   rw [if_pos c7] at H
   have c7b0:decide (x13_1 < (l1.length:Int))=true:=decide_eq_true c7
   clear c7
   by_cases c8:(!(((rd_T64 l0 x13_1).f0) == ((rd_T64 l1 x13_1).f0)) || (!(((rd_T64 l0 x13_1).f1) == ((rd_T64 l1 x13_1).f1))))=true
   ·rw [if_pos c8] at H
    have c8b0:(!(((rd_T64 l0 x13_1).f0) == ((rd_T64 l1 x13_1).f0)) || (!(((rd_T64 l0 x13_1).f1) == ((rd_T64 l1 x13_1).f1))))=true:=c8
    clear c8
    obtain rfl:=Option.some.inj H
    have p341:0≤(x13_1:Int):=dA
    have q341:x13_1 < (l0.length:Int):=dA
    obtain ⟨ad341,e341,hx341_0,hx341_1⟩:=at_T64 HR0.out x13_1 p341 q341
    cases e341
    replace p341:=eq_true p341
    replace q341:=eq_true q341
    have p342:0≤(x13_1:Int):=dA
    have q342:x13_1 < (l1.length:Int):=dA
    obtain ⟨ad342,e342,hx342_0,hx342_1⟩:=at_T64 HR1.out x13_1 p342 q342
    cases e342
    replace p342:=eq_true p342
    replace q342:=eq_true q342
    go_wp2
    repeat (go_quiet (fail);try go_wp2)
    go_ret
    exact ⟨by first|rfl|(simp;done)|(simp [*];done),by repeat (first|exact Drawn0.refl _|apply Drawn0.step)⟩
   rw [if_neg c8] at H
   have c8b0:(!(((rd_T64 l0 x13_1).f0) == ((rd_T64 l1 x13_1).f0)) || (!(((rd_T64 l0 x13_1).f1) == ((rd_T64 l1 x13_1).f1))))=false:=by simpa using c8
   clear c8
   have H':=Aside0.mk H
   clear H
   have p341:0≤(x13_1:Int):=dA
   have q341:x13_1 < (l0.length:Int):=dA
   obtain ⟨ad341,e341,hx341_0,hx341_1⟩:=at_T64 HR0.out x13_1 p341 q341
   cases e341
   replace p341:=eq_true p341
   replace q341:=eq_true q341
   have p342:0≤(x13_1:Int):=dA
   have q342:x13_1 < (l1.length:Int):=dA
   obtain ⟨ad342,e342,hx342_0,hx342_1⟩:=at_T64 HR1.out x13_1 p342 q342
   cases e342
   replace p342:=eq_true p342
   replace q342:=eq_true q342
   go_wp2
   repeat (go_quiet (fail);try go_wp2)
   go_roundg k1
   case measure=>have:=HK1.out;omega
   case rel=>exact ⟨(wrap64 (x13_1+1)),sA,H',⟨by have:=HK1.out;omega⟩,by repeat (first|exact Drawn0.refl _|apply Drawn0.step)⟩
end Go.Proofs.Ythimaecnpkcmeaa.K
namespace Go.Proofs.Ythimaecnpkcmeaa.K
open Go.RowKit Go.Proofs.YthimaecnpkcmeaaW.PrintWords Go.Proofs.YthimaecnpkcmeaaW.PrintLast Go.Proofs.YthimaecnpkcmeaaW.PrintMore
attribute [local go_sem] max2_int min2_int max_two min_two max_three min_three max_four min_four   -- for this text's walks alone
set_option linter.unusedVariables false
set_option linter.unusedSimpArgs false
def pairOf (p:S64):Int × Int:=(p.f0,p.f1)
def samePairs (a b:List S64):Bool:=decide (a.map pairOf=b.map pairOf)
theorem equalPairs_l0 (a b:List S64) (hl:a.length=b.length) (hm:a.length≤9223372036854775807) : ∀ (d k:Nat) (i:Nat),i+d=a.length→d < k →
 slices_Equal_2_int_2_int.l0 k a b (a.length:Int) (i:Int)=some (decide ((a.drop i).map pairOf=(b.drop i).map pairOf)):=by
 intro d
 induction d with
 | zero =>
  intro k i hi hk
  obtain ⟨k,rfl⟩ : ∃ m,k=m+1:=⟨k - 1,by omega⟩
  simp only [slices_Equal_2_int_2_int.l0]
  rw [if_neg (by omega),List.drop_of_length_le (by omega),List.drop_of_length_le (by omega)]
  simp
 | succ d ih =>
  intro k i hi hk
  obtain ⟨k,rfl⟩ : ∃ m,k=m+1:=⟨k - 1,by omega⟩
  have h1:i < a.length:=by omega
  have h2:i < b.length:=by omega
  simp only [slices_Equal_2_int_2_int.l0]
  rw [if_pos (by omega),if_pos (by omega),if_pos (by omega),if_pos (by omega)]
  have e1:rd_T64 a (i:Int)=a[i]:=by unfold rd_T64;rw [Int.toNat_natCast,List.getD_eq_getElem?_getD,List.getElem?_eq_getElem h1];rfl
  have e2:rd_T64 b (i:Int)=b[i]:=by unfold rd_T64;rw [Int.toNat_natCast,List.getD_eq_getElem?_getD,List.getElem?_eq_getElem h2];rfl
  rw [e1,e2,List.drop_eq_getElem_cons h1,List.drop_eq_getElem_cons h2,List.map_cons,List.map_cons]
  have hw:wrap64 ((i:Int)+1)=((i+1:Nat):Int):=by unfold wrap64;omega
  rw [hw,ih k (i+1) (by omega) (by omega)]
  by_cases hp:pairOf a[i]=pairOf b[i]
  ·have hp':=hp
   unfold pairOf at hp'
   simp only [Prod.mk.injEq] at hp'
   rw [if_neg (by simp [hp'.1,hp'.2])]
   simp [hp]
  have hp' : ¬ (a[i].f0=b[i].f0∧a[i].f1=b[i].f1):=fun h=>hp (by unfold pairOf;rw [h.1,h.2])
  rw [if_pos (by simp;omega)]
  simp [hp]
theorem equalPairs (a b:List S64) (hm:a.length≤9223372036854775807):slices_Equal_2_int_2_int.f (a.length+1) a b=some (samePairs a b):=by
 unfold slices_Equal_2_int_2_int.f samePairs
 by_cases hl:a.length=b.length
 ·rw [if_pos (by omega)]
  have:=equalPairs_l0 a b hl hm a.length (a.length+1) 0 (by omega) (by omega)
  simpa using this
 rw [if_neg (by omega)]
 have : ¬ a.map pairOf=b.map pairOf:=fun h=>hl (by simpa using congrArg List.length h)
 simp [this]
set_option maxHeartbeats 800000 in
theorem equalPairs_calls (A0:Option Addr) (c0:Nat) (l0:List S64) (A1:Option Addr) (c1:Nat) (l1:List S64) (w:World) (hr0:Kd.C k64 w A0 l0.length l0) (hc0:l0.length≤c0) (hr1:Kd.C k64 w A1 l1.length l1) (hc1:l1.length≤c1) :
 Calls Try.prog 76 #[.slice A0 l0.length c0,.slice A1 l1.length c1] w fun e w'=>e= .returned (.bool (samePairs l0 l1))∧Drawn0 w w':=by
 have hc:Calls Try.prog 28 #[.slice A0 l0.length c0,.slice A1 l1.length c1] w fun e w'=>e= .returned (.bool (samePairs l0 l1))∧Drawn0 w w' :=
  slices_Equal_2_int_2_int.calls (l0.length+1) A0 c0 l0 A1 c1 l1 _ w hr0 hc0 hr1 hc1 (equalPairs l0 l1 hr0.2.1)
 go_enter Try.func76,Try.ntmps76
 go_wp2_with (go_at_call 28;refine hc.mono ?_;rintro e w' ⟨rfl,⟨nd,rfl⟩⟩)
 go_ret
 exact ⟨rfl,⟨_,rfl⟩⟩
def sameFronts (a b:List (List S64)):Bool:=decide (a.map (·.map pairOf)=b.map (·.map pairOf))
def slices_EqualFunc_CheckFronts.f (l0 l1:List (List S64)):Option Bool:=some (sameFronts l0 l1)
set_option maxHeartbeats 1600000 in
theorem slices_EqualFunc_CheckFronts.calls (A0:Option Addr) (c0:Nat) (l0:List (List S64)) (A1:Option Addr) (c1:Nat) (l1:List (List S64)) (r:Bool) (w:World) (hr0:Kd.C (Kd.slice 64 k64) w A0 l0.length l0) (hc0:l0.length≤c0) (hr1:Kd.C (Kd.slice 64 k64) w A1 l1.length l1) (hc1:l1.length≤c1) (h:slices_EqualFunc_CheckFronts.f l0 l1=some r) :
 Calls Try.prog 75 #[.slice A0 l0.length c0,.slice A1 l1.length c1,.func (.func 76) #[] #[]] w fun e w'=>e= .returned (.bool r)∧Below w.heap.size w w':=by
 obtain rfl:=Option.some.inj h
 clear h
 have HR0:=Aside0.mk hr0
 have HR1:=Aside0.mk hr1
 have hlen:l0.length≤9223372036854775807:=hr0.2.1
 clear hr0 hr1
 by_cases hl:l0.length=l1.length
 case neg =>
  have hne:((l0.length:Int) != (l1.length:Int))=true:=by rw [bne_iff_ne];omega
  have hne2:(l0.length == l1.length)=false:=by simpa using hl
  have hs:Aside0 (sameFronts l0 l1=false):=⟨by unfold sameFronts;rw [decide_eq_false_iff_not];exact fun h=>hl (by simpa using congrArg List.length h)⟩
  go_enter Try.func75,Try.ntmps75
  go_wp2
  go_ret
  exact ⟨by rw [hs.out];rfl,Below.refl _ _⟩
 case pos =>
 have hne2:(l0.length == l1.length)=true:=by simpa using hl
 have hne3:((l0.length:Int) != (l1.length:Int))=false:=by rw [bne_eq_false_iff_eq];omega
 have HL:=Aside0.mk hl
 clear hl
 go_enter Try.func75,Try.ntmps75
 go_wp2
 go_loopw [6,7,8,9,17] (fun v6 v7 v8 v9 v17 wr=>∃ k:Nat,k≤l0.length∧v17= .int .i64 k∧Aside0 ((l0.take k).map (·.map pairOf)=(l1.take k).map (·.map pairOf))∧Drawn0 w wr) (fun _ _ _ _ v17 _=>l0.length - (intOf v17).toNat)
 case atStart=>exact ⟨0,Nat.zero_le _,rfl,⟨by simp⟩,Drawn0.refl _⟩
 case round =>
  obtain ⟨k,hk,rfl,hpre,⟨nd,rfl⟩⟩:=hrel
  by_cases hlt:k < l0.length
  rotate_left
  ·go_wp2
   go_ret
   refine ⟨?_,pw_below_drewN (Below.refl _ _) _⟩
   have:=hpre.out
   have hle:=HL.out
   rw [List.take_of_length_le (by omega),List.take_of_length_le (by omega)] at this
   unfold sameFronts
   rw [decide_eq_true this];rfl
  have hlt1:k < l1.length:=by have:=HL.out;omega
  obtain ⟨ad,Aa,ca,rfl,hcell,hca,hCa⟩:=at_L6 HR0.out (k:Int) (by omega) (by omega)
  obtain ⟨ad1,Ab,cb,rfl,hcell1,hcb,hCb⟩:=at_L6 HR1.out (k:Int) (by omega) (by omega)
  rw [Int.toNat_natCast] at hcell hcell1
  have e1:rd_L6 l0 (k:Int)=l0[k]:=by unfold rd_L6;rw [Int.toNat_natCast,List.getD_eq_getElem?_getD,List.getElem?_eq_getElem hlt];rfl
  have e2:rd_L6 l1 (k:Int)=l1[k]:=by unfold rd_L6;rw [Int.toNat_natCast,List.getD_eq_getElem?_getD,List.getElem?_eq_getElem hlt1];rfl
  rw [e1] at hcell hca hCa
  rw [e2] at hcell1 hcb hCb
  clear e1 e2
  have htake:samePairs l0[k] l1[k]=true→(l0.take (k+1)).map (·.map pairOf)=(l1.take (k+1)).map (·.map pairOf):=fun h=>by
   rw [List.take_succ_eq_append_getElem hlt,List.take_succ_eq_append_getElem hlt1,List.map_append,List.map_append,hpre.out]
   unfold samePairs at h
   simp [of_decide_eq_true h]
  have hno:samePairs l0[k] l1[k]=false→sameFronts l0 l1=false:=fun h=>by
   unfold sameFronts
   rw [decide_eq_false_iff_not]
   intro he
   unfold samePairs at h
   apply of_decide_eq_false h
   have:=congrArg (fun l=>l[k]?) he
   simpa [hlt,hlt1] using this
  have hcalls:=fun n=>equalPairs_calls Aa ca l0[k] Ab cb l1[k] (w.drewN n) (Kd.C_drewN hCa n) hca (Kd.C_drewN hCb n) hcb
  generalize l0[k]=x at *
  generalize l1[k]=y at *
  have HT:=Aside0.mk htake;have HN:=Aside0.mk hno;have HC:=Aside0.mk hcalls
  clear htake hno hcalls hca hcb hCa hCb
  by_cases hb:samePairs x y=true
  ·go_wp2_with (go_at_call 76;refine (HC.out _).mono ?_;rintro e w' ⟨rfl,⟨nd2,rfl⟩⟩)
   go_roundw
   case rel=>exact ⟨k+1,by omega,by go_num,⟨HT.out hb⟩,⟨_,by first|rfl|exact World.drewN_drewN _ _ _⟩⟩
   case measure=>simp [intOf];omega
  have hb':samePairs x y=false:=by simpa using hb
  go_wp2_with (go_at_call 76;refine (HC.out _).mono ?_;rintro e w' ⟨rfl,⟨nd2,rfl⟩⟩)
  go_ret
  exact ⟨by rw [HN.out hb'];rfl,by first|exact pw_below_drewN (pw_below_drewN (Below.refl _ _) _) _|exact pw_below_drewN (Below.refl _ _) _⟩
end Go.Proofs.Ythimaecnpkcmeaa.K
namespace Go.Proofs.Ythimaecnpkcmeaa.K
open Go.RowKit Go.Proofs.YthimaecnpkcmeaaW.PrintWords Go.Proofs.YthimaecnpkcmeaaW.PrintLast Go.Proofs.YthimaecnpkcmeaaW.PrintMore
attribute [local go_sem] max2_int min2_int max_two min_two max_three min_three max_four min_four   -- for this text's walks alone
set_option linter.unusedVariables false
set_option linter.unusedSimpArgs false
def orders_CheckFronts.f (k:Nat) (l0_0:List (S50)) (a0_1:Int) (a0_2:Int) (l1:List (List (S64))):Option (Int):=(orders_Check.f k l0_0 a0_1 a0_2).bind fun t344=>(if t344=0 then ((orders_fronts.f k l0_0 a0_1 a0_2).bind fun t345=>((slices_EqualFunc_CheckFronts.f l1 t345).bind fun t348=>(if t348=true then (some 0) else (some 81)))) else (some t344))
set_option maxHeartbeats 8000000 in
set_option maxRecDepth 100000 in
theorem orders_CheckFronts.calls (k:Nat) (A0_0:Option Addr) (c0_0:Nat) (l0_0:List (S50)) (a0_1:Int) (a0_2:Int) (A1:Option Addr) (c1:Nat) (l1:List (List (S64))) (r:Int) (w:World) (hr0_0:Kd.C k50 w A0_0 l0_0.length l0_0) (hc0_0:l0_0.length≤c0_0) (hr1:Kd.C (Kd.slice 64 k64) w A1 l1.length l1) (hc1:l1.length≤c1) (h:orders_CheckFronts.f k l0_0 a0_1 a0_2 l1=some r) :
 Calls Try.prog 44 #[.agg #[.slice A0_0 l0_0.length c0_0,.int .i64 a0_1,.int .i64 a0_2],.slice A1 l1.length c1] w fun e w'=>e= .returned (.int .i64 r)∧Below w.heap.size w w':=by
 have hu26:=Try.underlying26
 have HR0_0:=Aside0.mk hr0_0
 have HC0_0:=Aside0.mk hc0_0
 clear hr0_0 hc0_0
 have HR1:=Aside0.mk hr1
 have HC1:=Aside0.mk hc1
 clear hr1 hc1
 have HB:=Aside0.mk (Below.refl w.heap.size w)
 have H:((orders_Check.f k l0_0 a0_1 a0_2).bind fun t344=>(if t344=0 then ((orders_fronts.f k l0_0 a0_1 a0_2).bind fun t345=>((slices_EqualFunc_CheckFronts.f l1 t345).bind fun t348=>(if t348=true then (some 0) else (some 81)))) else (some t344)))=some r:=h
 clear h
 replace H:=Option.bind_eq_some_iff.mp H
 obtain ⟨t344,A30,H⟩:=H
 replace H:(if t344=0 then ((orders_fronts.f k l0_0 a0_1 a0_2).bind fun t345=>((slices_EqualFunc_CheckFronts.f l1 t345).bind fun t348=>(if t348=true then (some 0) else (some 81)))) else (some t344))=some r:=H
 have A3:=Aside0.mk A30
 clear A30
 by_cases c4:t344=0
 rotate_left
 ·rw [if_neg c4] at H
  have c4b0:(t344 == 0)=false:=beq_eq_false_iff_ne.mpr c4
  have c4b1:(t344 != 0)=true:=bne_iff_ne.mpr c4
  obtain rfl:=Option.some.inj H
  go_enter Try.func44,Try.ntmps44
  go_wp2_with (first|((with_reducible refine gate_dst (N:=2) rfl ?_);refine bE #[.slice A0_0 l0_0.length c0_0,.int .i64 a0_1,.int .i64 a0_2] 26 ?_;intro gb343 hg w22 hbox hb;have BK343:=qK (hbox);have GW343:=qK ((gS hg:w.heap.size≤gb343));have GE343:=qK ((gS hg:w.heap.size≤gb343));replace HB:=qK (bS hb);clear hb hbox hg;obtain ⟨_,_,_,_,_,_⟩:=xC3 BK343.out)|((with_reducible refine gate_callee (f:=45) rfl ?_);refine gL (some 7) Try.func45 #[.agg #[.slice A0_0 l0_0.length c0_0,.int .i64 a0_1,.int .i64 a0_2]] ?_;(with_reducible refine (orders_Check.calls k _ _ l0_0 a0_1 a0_2 t344 _ ?side1 ?side2 A3.out).mono ?_);(case side1=>exact cS HR0_0.out);(case side2=>exact HC0_0.out);rintro e w24 ⟨rfl,hb⟩;refine ⟨_,rfl,?_⟩;replace BK343:=qK (bB BK343.out hb);replace HB:=qK (bS hb)))
  go_ret
  exact ⟨by first|rfl|(simp [errW_none,errW_some] <;> rfl)|(simp [*,errW_none,errW_some] <;> rfl),bA⟩
 rw [if_pos c4] at H
 have c4b0:(t344 == 0)=true:=beq_iff_eq.mpr c4
 have c4b1:(t344 != 0)=false:=bne_eq_false_iff_eq.mpr c4
 clear c4
 replace H:=Option.bind_eq_some_iff.mp H
 obtain ⟨t345,A50,H⟩:=H
 replace H:((slices_EqualFunc_CheckFronts.f l1 t345).bind fun t348=>(if t348=true then (some 0) else (some 81)))=some r:=H
 have A5:=Aside0.mk A50
 clear A50
 replace H:=Option.bind_eq_some_iff.mp H
 obtain ⟨t348,A60,H⟩:=H
 replace H:(if t348=true then (some 0) else (some 81))=some r:=H
 have A6:=Aside0.mk A60
 clear A60
 by_cases c7:t348=true
 ·subst c7
  have H1:(some 0)=some r:=by rw [if_pos rfl] at H;exact H
  clear H
  have H:=H1
  clear H1
  obtain rfl:=Option.some.inj H
  go_enter Try.func44,Try.ntmps44
  go_wp2_with (first|((with_reducible refine gate_dst (N:=2) rfl ?_);refine bE #[.slice A0_0 l0_0.length c0_0,.int .i64 a0_1,.int .i64 a0_2] 26 ?_;intro gb343 hg w8 hbox hb;have BK343:=qK (hbox);have GW343:=qK ((gS hg:w.heap.size≤gb343));have GE343:=qK ((gS hg:w.heap.size≤gb343));replace HB:=qK (bS hb);clear hb hbox hg;obtain ⟨_,_,_,_,_,_⟩:=xC3 BK343.out)|((with_reducible refine gate_callee (f:=45) rfl ?_);refine gL (some 7) Try.func45 #[.agg #[.slice A0_0 l0_0.length c0_0,.int .i64 a0_1,.int .i64 a0_2]] ?_;(with_reducible refine (orders_Check.calls k _ _ l0_0 a0_1 a0_2 t344 _ ?side1 ?side2 A3.out).mono ?_);(case side1=>exact cS HR0_0.out);(case side2=>exact HC0_0.out);rintro e w10 ⟨rfl,hb⟩;refine ⟨_,rfl,?_⟩;replace BK343:=qK (bB BK343.out hb);replace HB:=qK (bS hb);obtain ⟨_,_,_,_,_,_⟩:=xC3 BK343.out)|((with_reducible refine gate_callee (f:=67) rfl ?_);refine gL (some 13) Try.func67 #[.agg #[.slice A0_0 l0_0.length c0_0,.int .i64 a0_1,.int .i64 a0_2]] ?_;(with_reducible refine (orders_fronts.calls k _ _ l0_0 a0_1 a0_2 t345 _ ?side1 ?side2 A5.out).mono ?_);(case side1=>exact cS HR0_0.out);(case side2=>exact HC0_0.out);rintro e w12 ⟨v346,rfl,ho0,hb⟩;refine ⟨_,rfl,?_⟩;have HO347:=qK (Kd.N_lower (Kd.N_mono (ok':=fun k_=>k_≠gb343) ho0 (fun k_ hk_=>(Kd.freshB (g:=gb343) (o:=.cells #[.slice A0_0 l0_0.length c0_0,.int .i64 a0_1,.int .i64 a0_2] 26 (0,0)) (bX BK343.out) k_ hk_))) bZ);replace BK343:=qK (bB BK343.out hb);replace HB:=qK (bS hb);obtain ⟨Ao13,co13,eo13⟩:=Kd.N_slice HO347.out;subst eo13)|((with_reducible refine gate_callee (f:=75) rfl ?_);refine gL (some 14) Try.func75 #[.slice A1 l1.length c1,.slice Ao13 t345.length co13,.func (.func 76) #[] #[]] ?_;(with_reducible refine (slices_EqualFunc_CheckFronts.calls _ _ l1 _ _ t345 true _ ?side1 ?side2 ?side3 ?side4 A6.out).mono ?_);(case side1=>exact cS HR1.out);(case side2=>exact HC1.out);(case side3=>repeat (first|exact (Kd.N_reads' HO347.out).2.2|(with_reducible refine Kd.C_alloc ?_ _)|(with_reducible refine Kd.C_drewN ?_ _)|(with_reducible refine Kd.C_drew ?_)));(case side4=>exact (Kd.N_reads' HO347.out).2.1);rintro e w14 ⟨rfl,hb⟩;refine ⟨_,rfl,?_⟩;replace HO347:=qK (Kd.N_below (nS HO347.out) hb);replace BK343:=qK (bB BK343.out hb);replace HB:=qK (bS hb)))
  go_ret
  exact ⟨by first|rfl|(simp [errW_none,errW_some] <;> rfl)|(simp [*,errW_none,errW_some] <;> rfl),bA⟩
 replace c7:=Bool.eq_false_iff.mpr c7
 subst c7
 have H1:(some 81)=some r:=by rw [if_neg (show ¬ (false=true) by decide)] at H;exact H
 clear H
 have H:=H1
 clear H1
 obtain rfl:=Option.some.inj H
 go_enter Try.func44,Try.ntmps44
 go_wp2_with (first|((with_reducible refine gate_dst (N:=2) rfl ?_);refine bE #[.slice A0_0 l0_0.length c0_0,.int .i64 a0_1,.int .i64 a0_2] 26 ?_;intro gb343 hg w15 hbox hb;have BK343:=qK (hbox);have GW343:=qK ((gS hg:w.heap.size≤gb343));have GE343:=qK ((gS hg:w.heap.size≤gb343));replace HB:=qK (bS hb);clear hb hbox hg;obtain ⟨_,_,_,_,_,_⟩:=xC3 BK343.out)|((with_reducible refine gate_callee (f:=45) rfl ?_);refine gL (some 7) Try.func45 #[.agg #[.slice A0_0 l0_0.length c0_0,.int .i64 a0_1,.int .i64 a0_2]] ?_;(with_reducible refine (orders_Check.calls k _ _ l0_0 a0_1 a0_2 t344 _ ?side1 ?side2 A3.out).mono ?_);(case side1=>exact cS HR0_0.out);(case side2=>exact HC0_0.out);rintro e w17 ⟨rfl,hb⟩;refine ⟨_,rfl,?_⟩;replace BK343:=qK (bB BK343.out hb);replace HB:=qK (bS hb);obtain ⟨_,_,_,_,_,_⟩:=xC3 BK343.out)|((with_reducible refine gate_callee (f:=67) rfl ?_);refine gL (some 13) Try.func67 #[.agg #[.slice A0_0 l0_0.length c0_0,.int .i64 a0_1,.int .i64 a0_2]] ?_;(with_reducible refine (orders_fronts.calls k _ _ l0_0 a0_1 a0_2 t345 _ ?side1 ?side2 A5.out).mono ?_);(case side1=>exact cS HR0_0.out);(case side2=>exact HC0_0.out);rintro e w19 ⟨v346,rfl,ho0,hb⟩;refine ⟨_,rfl,?_⟩;have HO347:=qK (Kd.N_lower (Kd.N_mono (ok':=fun k_=>k_≠gb343) ho0 (fun k_ hk_=>(Kd.freshB (g:=gb343) (o:=.cells #[.slice A0_0 l0_0.length c0_0,.int .i64 a0_1,.int .i64 a0_2] 26 (0,0)) (bX BK343.out) k_ hk_))) bZ);replace BK343:=qK (bB BK343.out hb);replace HB:=qK (bS hb);obtain ⟨Ao20,co20,eo20⟩:=Kd.N_slice HO347.out;subst eo20)|((with_reducible refine gate_callee (f:=75) rfl ?_);refine gL (some 14) Try.func75 #[.slice A1 l1.length c1,.slice Ao20 t345.length co20,.func (.func 76) #[] #[]] ?_;(with_reducible refine (slices_EqualFunc_CheckFronts.calls _ _ l1 _ _ t345 false _ ?side1 ?side2 ?side3 ?side4 A6.out).mono ?_);(case side1=>exact cS HR1.out);(case side2=>exact HC1.out);(case side3=>repeat (first|exact (Kd.N_reads' HO347.out).2.2|(with_reducible refine Kd.C_alloc ?_ _)|(with_reducible refine Kd.C_drewN ?_ _)|(with_reducible refine Kd.C_drew ?_)));(case side4=>exact (Kd.N_reads' HO347.out).2.1);rintro e w21 ⟨rfl,hb⟩;refine ⟨_,rfl,?_⟩;replace HO347:=qK (Kd.N_below (nS HO347.out) hb);replace BK343:=qK (bB BK343.out hb);replace HB:=qK (bS hb)))
 go_ret
 exact ⟨by first|rfl|(simp [errW_none,errW_some] <;> rfl)|(simp [*,errW_none,errW_some] <;> rfl),bA⟩
end Go.Proofs.Ythimaecnpkcmeaa.K
