/- Contracts of Go functions and lemmas for them: each theorem states what one function returns and what it leaves of memory; its conditions stand in its statement. -/
import Derived.Test.YthimaecnpkcmeaaA3
import Derived.Test.YthimaecnpkcmeaaA4
import Derived.Test.YthimaecnpkcmeaaA5
import Derived.Test.YthimaecnpkcmeaaA9
import Derived.Test.YthimaecnpkcmeaaA13
set_option linter.unusedVariables false
set_option linter.unusedSimpArgs false
namespace Go.Proofs.Ythimaecnpkcmeaa.K
open Go.RowKit Go.Proofs.YthimaecnpkcmeaaW.PrintWords Go.Proofs.YthimaecnpkcmeaaW.PrintLast Go.Proofs.YthimaecnpkcmeaaW.PrintMore
attribute [local go_sem] max2_int min2_int max_two min_two max_three min_three max_four min_four   -- for this text's walks alone
set_option linter.unusedVariables false
set_option linter.unusedSimpArgs false
def orders_Part.f (k:Nat) (l0_0:List (S50)) (a0_1:Int) (a0_2:Int) (a1:Int):Option (Int × Int × Int):=(orders_Check.f k l0_0 a0_1 a0_2).bind fun t294=>(if t294=0 then ((orders_within.f a1 0 (wrap64 ((l0_0.length:Int) - 1))).bind fun t295=>(if t295=true then ((orders_part.f k l0_0 a0_1 a0_2 a1).bind fun bt296=>(some (bt296.1,bt296.2,0))) else (some (0,0,1)))) else (some (0,0,t294)))
set_option maxHeartbeats 8000000 in
set_option maxRecDepth 100000 in
theorem orders_Part.calls (k:Nat) (A0_0:Option Addr) (c0_0:Nat) (l0_0:List (S50)) (a0_1:Int) (a0_2:Int) (a1:Int) (r1:Int) (r2:Int) (r3:Int) (w:World) (hr0_0:Kd.C k50 w A0_0 l0_0.length l0_0) (hc0_0:l0_0.length≤c0_0) (h:orders_Part.f k l0_0 a0_1 a0_2 a1=some (r1,r2,r3)) :
 Calls Try.prog 32 #[.agg #[.slice A0_0 l0_0.length c0_0,.int .i64 a0_1,.int .i64 a0_2],.int .i64 a1] w fun e w'=>e= .returned (.tuple #[.agg #[.int .i64 r1,.int .i64 r2],.int .i64 r3])∧Below w.heap.size w w':=by
 have hu26:=Try.underlying26
 have hu24:=Try.underlying24
 have HR0_0:=Aside0.mk hr0_0
 have HC0_0:=Aside0.mk hc0_0
 clear hr0_0 hc0_0
 have HB:=Aside0.mk (Below.refl w.heap.size w)
 have H:((orders_Check.f k l0_0 a0_1 a0_2).bind fun t294=>(if t294=0 then ((orders_within.f a1 0 (wrap64 ((l0_0.length:Int) - 1))).bind fun t295=>(if t295=true then ((orders_part.f k l0_0 a0_1 a0_2 a1).bind fun bt296=>(some (bt296.1,bt296.2,0))) else (some (0,0,1)))) else (some (0,0,t294))))=some (r1,r2,r3):=h
 clear h
 replace H:=Option.bind_eq_some_iff.mp H
 obtain ⟨t294,A30,H⟩:=H
 replace H:(if t294=0 then ((orders_within.f a1 0 (wrap64 ((l0_0.length:Int) - 1))).bind fun t295=>(if t295=true then ((orders_part.f k l0_0 a0_1 a0_2 a1).bind fun bt296=>(some (bt296.1,bt296.2,0))) else (some (0,0,1)))) else (some (0,0,t294)))=some (r1,r2,r3):=H
 have A3:=Aside0.mk A30
 clear A30
 by_cases c4:t294=0
 rotate_left
 ·rw [if_neg c4] at H
  have c4b0:(t294 == 0)=false:=beq_eq_false_iff_ne.mpr c4
  have c4b1:(t294 != 0)=true:=bne_iff_ne.mpr c4
  simp only [Option.some.injEq,Prod.mk.injEq] at H
  obtain ⟨rfl,rfl,rfl⟩:=H
  go_enter Try.func32,Try.ntmps32
  go_wp2_with (first|((with_reducible refine gate_dst (N:=2) rfl ?_);refine bE #[.slice A0_0 l0_0.length c0_0,.int .i64 a0_1,.int .i64 a0_2] 26 ?_;intro gb292 hg w24 hbox hb;have BK292:=qK (hbox);have GW292:=qK ((gS hg:w.heap.size≤gb292));have GE292:=qK ((gS hg:w.heap.size≤gb292));replace HB:=qK (bS hb);clear hb hbox hg)|((with_reducible refine gate_dst (N:=4) rfl ?_);refine bE #[.int .i64 0,.int .i64 0] 24 ?_;intro gb293 hg w25 hbox hb;have BK293:=qK (hbox);have GW293:=qK ((gS hg:w.heap.size≤gb293));have GE293:=qK ((gS hg:w.heap.size≤gb293));replace HB:=qK (bS hb);have NB292_293:=qK ((nL hg BK292.out:gb292≠gb293));have NB293_292:=qK ((nG hg BK292.out:gb293≠gb292));replace BK292:=qK (bB BK292.out hb);clear hb hbox hg;have hnb26:=NB292_293.out;have hnc26:=NB293_292.out;obtain ⟨_,_,_,_,_,_⟩:=xC3 BK292.out)|((with_reducible refine gate_callee (f:=45) rfl ?_);refine gL (some 8) Try.func45 #[.agg #[.slice A0_0 l0_0.length c0_0,.int .i64 a0_1,.int .i64 a0_2]] ?_;(with_reducible refine (orders_Check.calls k _ _ l0_0 a0_1 a0_2 t294 _ ?side1 ?side2 A3.out).mono ?_);(case side1=>exact cS HR0_0.out);(case side2=>exact HC0_0.out);rintro e w28 ⟨rfl,hb⟩;refine ⟨_,rfl,?_⟩;replace BK292:=qK (bB BK292.out hb);replace BK293:=qK (bB BK293.out hb);replace HB:=qK (bS hb);obtain ⟨_,_,_,_⟩:=xC2 BK293.out))
  refine bodyPost_ret (results_ct rfl _ _ gb293 24 #[.int .i64 0,.int .i64 0] (0,0) _ rfl (by (with_reducible repeat (first|refine blk_drewN ?_ _|refine blk_drew ?_|refine blk_alloc ?_ _));refine blk_put (cs:=#[.int .i64 0,.int .i64 0]) ?_ 1 _ rfl;(with_reducible repeat (first|refine blk_drewN ?_ _|refine blk_drew ?_|refine blk_alloc ?_ _));refine blk_put (cs:=#[.int .i64 0,.int .i64 0]) ?_ 0 _ rfl;(with_reducible repeat (first|refine blk_drewN ?_ _|refine blk_drew ?_|refine blk_alloc ?_ _));exact BK293.out) Try.underlying24 rfl (by kernel_rfl)) rfl ?_
  exact ⟨by first|rfl|(simp [errW_none,errW_some] <;> rfl)|(simp [*,errW_none,errW_some] <;> rfl),bA⟩
 rw [if_pos c4] at H
 have c4b0:(t294 == 0)=true:=beq_iff_eq.mpr c4
 have c4b1:(t294 != 0)=false:=bne_eq_false_iff_eq.mpr c4
 clear c4
 replace H:=Option.bind_eq_some_iff.mp H
 obtain ⟨t295,A50,H⟩:=H
 replace H:(if t295=true then ((orders_part.f k l0_0 a0_1 a0_2 a1).bind fun bt296=>(some (bt296.1,bt296.2,0))) else (some (0,0,1)))=some (r1,r2,r3):=H
 have A5:=Aside0.mk A50
 clear A50
 by_cases c6:t295=true
 rotate_left
 ·replace c6:=Bool.eq_false_iff.mpr c6
  subst c6
  have H1:(some (0,0,1))=some (r1,r2,r3):=by rw [if_neg (show ¬ (false=true) by decide)] at H;exact H
  clear H
  have H:=H1
  clear H1
  simp only [Option.some.injEq,Prod.mk.injEq] at H
  obtain ⟨rfl,rfl,rfl⟩:=H
  go_enter Try.func32,Try.ntmps32
  go_wp2_with (first|((with_reducible refine gate_dst (N:=2) rfl ?_);refine bE #[.slice A0_0 l0_0.length c0_0,.int .i64 a0_1,.int .i64 a0_2] 26 ?_;intro gb292 hg w17 hbox hb;have BK292:=qK (hbox);have GW292:=qK ((gS hg:w.heap.size≤gb292));have GE292:=qK ((gS hg:w.heap.size≤gb292));replace HB:=qK (bS hb);clear hb hbox hg)|((with_reducible refine gate_dst (N:=4) rfl ?_);refine bE #[.int .i64 0,.int .i64 0] 24 ?_;intro gb293 hg w18 hbox hb;have BK293:=qK (hbox);have GW293:=qK ((gS hg:w.heap.size≤gb293));have GE293:=qK ((gS hg:w.heap.size≤gb293));replace HB:=qK (bS hb);have NB292_293:=qK ((nL hg BK292.out:gb292≠gb293));have NB293_292:=qK ((nG hg BK292.out:gb293≠gb292));replace BK292:=qK (bB BK292.out hb);clear hb hbox hg;have hnb19:=NB292_293.out;have hnc19:=NB293_292.out;obtain ⟨_,_,_,_,_,_⟩:=xC3 BK292.out)|((with_reducible refine gate_callee (f:=45) rfl ?_);refine gL (some 8) Try.func45 #[.agg #[.slice A0_0 l0_0.length c0_0,.int .i64 a0_1,.int .i64 a0_2]] ?_;(with_reducible refine (orders_Check.calls k _ _ l0_0 a0_1 a0_2 t294 _ ?side1 ?side2 A3.out).mono ?_);(case side1=>exact cS HR0_0.out);(case side2=>exact HC0_0.out);rintro e w21 ⟨rfl,hb⟩;refine ⟨_,rfl,?_⟩;replace BK292:=qK (bB BK292.out hb);replace BK293:=qK (bB BK293.out hb);replace HB:=qK (bS hb);obtain ⟨_,_,_,_,_,_⟩:=xC3 BK292.out)|((with_reducible refine gate_callee (f:=52) rfl ?_);refine gL (some 18) Try.func52 #[.int .i64 a1,.int .i64 0,.int .i64 (wrap64 ((l0_0.length:Int) - 1))] ?_;(with_reducible refine (orders_within.calls a1 0 (wrap64 ((l0_0.length:Int) - 1)) false _ A5.out).mono ?_);rintro e w' ⟨rfl,⟨nd,rfl⟩⟩;refine ⟨_,rfl,?_⟩;(try (rw [drewN_self w21];generalize hq_:World.drewN w21 _=w21;have n0_:Aside0 (w21.heap[gb292]? = some (.cells #[.slice A0_0 l0_0.length c0_0,.int .i64 a0_1,.int .i64 a0_2] 26 (0,0))):=⟨by rw [← hq_];exact (bX BK292.out)⟩;have n1_:Aside0 (w21.heap[gb293]? = some (.cells #[.int .i64 0,.int .i64 0] 24 (0,0))):=⟨by rw [← hq_];exact (bX BK293.out)⟩;have n2_:Aside0 (Below w.heap.size w w21):=⟨by rw [← hq_];exact bA⟩;clear BK292 BK293 HB hq_;have BK292:=n0_;have BK293:=n1_;have HB:=n2_;clear n0_ n1_ n2_));obtain ⟨_,_,_,_⟩:=xC2 BK293.out))
  refine bodyPost_ret (results_ct rfl _ _ gb293 24 #[.int .i64 0,.int .i64 0] (0,0) _ rfl (by (with_reducible repeat (first|refine blk_drewN ?_ _|refine blk_drew ?_|refine blk_alloc ?_ _));refine blk_put (cs:=#[.int .i64 0,.int .i64 0]) ?_ 1 _ rfl;(with_reducible repeat (first|refine blk_drewN ?_ _|refine blk_drew ?_|refine blk_alloc ?_ _));refine blk_put (cs:=#[.int .i64 0,.int .i64 0]) ?_ 0 _ rfl;(with_reducible repeat (first|refine blk_drewN ?_ _|refine blk_drew ?_|refine blk_alloc ?_ _));exact BK293.out) Try.underlying24 rfl (by kernel_rfl)) rfl ?_
  exact ⟨by first|rfl|(simp [errW_none,errW_some] <;> rfl)|(simp [*,errW_none,errW_some] <;> rfl),bA⟩
 subst c6
 have H1:((orders_part.f k l0_0 a0_1 a0_2 a1).bind fun bt296=>(some (bt296.1,bt296.2,0)))=some (r1,r2,r3):=by rw [if_pos rfl] at H;exact H
 clear H
 have H:=H1
 clear H1
 replace H:=Option.bind_eq_some_iff.mp H
 obtain ⟨⟨t296,t297⟩,A70,H⟩:=H
 replace H:(some (t296,t297,0))=some (r1,r2,r3):=H
 have A7:=Aside0.mk A70
 clear A70
 simp only [Option.some.injEq,Prod.mk.injEq] at H
 obtain ⟨rfl,rfl,rfl⟩:=H
 go_enter Try.func32,Try.ntmps32
 go_wp2_with (first|((with_reducible refine gate_dst (N:=2) rfl ?_);refine bE #[.slice A0_0 l0_0.length c0_0,.int .i64 a0_1,.int .i64 a0_2] 26 ?_;intro gb292 hg w8 hbox hb;have BK292:=qK (hbox);have GW292:=qK ((gS hg:w.heap.size≤gb292));have GE292:=qK ((gS hg:w.heap.size≤gb292));replace HB:=qK (bS hb);clear hb hbox hg)|((with_reducible refine gate_dst (N:=4) rfl ?_);refine bE #[.int .i64 0,.int .i64 0] 24 ?_;intro gb293 hg w9 hbox hb;have BK293:=qK (hbox);have GW293:=qK ((gS hg:w.heap.size≤gb293));have GE293:=qK ((gS hg:w.heap.size≤gb293));replace HB:=qK (bS hb);have NB292_293:=qK ((nL hg BK292.out:gb292≠gb293));have NB293_292:=qK ((nG hg BK292.out:gb293≠gb292));replace BK292:=qK (bB BK292.out hb);clear hb hbox hg;have hnb10:=NB292_293.out;have hnc10:=NB293_292.out;obtain ⟨_,_,_,_,_,_⟩:=xC3 BK292.out)|((with_reducible refine gate_callee (f:=45) rfl ?_);refine gL (some 8) Try.func45 #[.agg #[.slice A0_0 l0_0.length c0_0,.int .i64 a0_1,.int .i64 a0_2]] ?_;(with_reducible refine (orders_Check.calls k _ _ l0_0 a0_1 a0_2 t294 _ ?side1 ?side2 A3.out).mono ?_);(case side1=>exact cS HR0_0.out);(case side2=>exact HC0_0.out);rintro e w12 ⟨rfl,hb⟩;refine ⟨_,rfl,?_⟩;replace BK292:=qK (bB BK292.out hb);replace BK293:=qK (bB BK293.out hb);replace HB:=qK (bS hb);obtain ⟨_,_,_,_,_,_⟩:=xC3 BK292.out)|((with_reducible refine gate_callee (f:=52) rfl ?_);refine gL (some 18) Try.func52 #[.int .i64 a1,.int .i64 0,.int .i64 (wrap64 ((l0_0.length:Int) - 1))] ?_;(with_reducible refine (orders_within.calls a1 0 (wrap64 ((l0_0.length:Int) - 1)) true _ A5.out).mono ?_);rintro e w' ⟨rfl,⟨nd,rfl⟩⟩;refine ⟨_,rfl,?_⟩;(try (rw [drewN_self w12];generalize hq_:World.drewN w12 _=w12;have n0_:Aside0 (w12.heap[gb292]? = some (.cells #[.slice A0_0 l0_0.length c0_0,.int .i64 a0_1,.int .i64 a0_2] 26 (0,0))):=⟨by rw [← hq_];exact (bX BK292.out)⟩;have n1_:Aside0 (w12.heap[gb293]? = some (.cells #[.int .i64 0,.int .i64 0] 24 (0,0))):=⟨by rw [← hq_];exact (bX BK293.out)⟩;have n2_:Aside0 (Below w.heap.size w w12):=⟨by rw [← hq_];exact bA⟩;clear BK292 BK293 HB hq_;have BK292:=n0_;have BK293:=n1_;have HB:=n2_;clear n0_ n1_ n2_));obtain ⟨_,_,_,_,_,_⟩:=xC3 BK292.out)|((with_reducible refine gate_callee (f:=70) rfl ?_);refine gL (some 23) Try.func70 #[.agg #[.slice A0_0 l0_0.length c0_0,.int .i64 a0_1,.int .i64 a0_2],.int .i64 a1] ?_;(with_reducible refine (orders_part.calls k _ _ l0_0 a0_1 a0_2 a1 t296 t297 _ ?side1 ?side2 A7.out).mono ?_);(case side1=>exact cS HR0_0.out);(case side2=>exact HC0_0.out);rintro e w15 ⟨rfl,hb⟩;refine ⟨_,rfl,?_⟩;replace BK292:=qK (bB BK292.out hb);replace BK293:=qK (bB BK293.out hb);replace HB:=qK (bS hb);obtain ⟨_,_,_,_⟩:=xC2 BK293.out))
 refine bodyPost_ret (results_ct rfl _ _ gb293 24 #[.int .i64 t296,.int .i64 t297] (0,0) _ rfl (by (with_reducible repeat (first|refine blk_drewN ?_ _|refine blk_drew ?_|refine blk_alloc ?_ _));refine blk_put (cs:=#[.int .i64 t296,.int .i64 0]) ?_ 1 _ rfl;(with_reducible repeat (first|refine blk_drewN ?_ _|refine blk_drew ?_|refine blk_alloc ?_ _));refine blk_put (cs:=#[.int .i64 0,.int .i64 0]) ?_ 0 _ rfl;(with_reducible repeat (first|refine blk_drewN ?_ _|refine blk_drew ?_|refine blk_alloc ?_ _));exact BK293.out) Try.underlying24 rfl (by kernel_rfl)) rfl ?_
 exact ⟨by first|rfl|(simp [errW_none,errW_some] <;> rfl)|(simp [*,errW_none,errW_some] <;> rfl),bA⟩
def orders_CheckAreas.l0:Nat→Int→List Int→Int→Int→List (S50)→Int→Int→Option (Int)
 | 0,_,_,_,_,_,_,_=>none
 | k+1,x6,x21,x22,x23,x299000,x299001,x299002=>if x23 < x22 then (if 0≤x23 then (if x23 < (x21.length:Int) then (if x23 < (x299000.length:Int) then ((orders_within.f (rd x21 x23) ((rd_T50 x299000 x23).f0.f0) ((rd_T50 x299000 x23).f0.f1)).bind fun t303=>(if t303=true then (orders_CheckAreas.l0 k (wrap64 (x6+(rd x21 x23))) x21 x22 (wrap64 (x23+1)) x299000 x299001 x299002) else (some 80))) else (none)) else (none)) else (none)) else ((orders_within.f x6 x299001 x299002).bind fun t304=>(if t304=true then (some 0) else (some 80)))
def orders_CheckAreas.f (k:Nat) (l0_0:List (S50)) (a0_1:Int) (a0_2:Int) (l1:List Int):Option (Int):=(orders_Check.f k l0_0 a0_1 a0_2).bind fun t299=>(if t299=0 then (if (l1.length:Int)=(l0_0.length:Int) then (orders_CheckAreas.l0 k 0 l1 (l1.length:Int) 0 l0_0 a0_1 a0_2) else (some 80)) else (some t299))
set_option maxHeartbeats 8000000 in
set_option maxRecDepth 100000 in
theorem orders_CheckAreas.calls (k:Nat) (A0_0:Option Addr) (c0_0:Nat) (l0_0:List (S50)) (a0_1:Int) (a0_2:Int) (A1:Option Addr) (c1:Nat) (l1:List Int) (r:Int) (w:World) (hr0_0:Kd.C k50 w A0_0 l0_0.length l0_0) (hc0_0:l0_0.length≤c0_0) (hr1:Kd.C (Kd.int .i64) w A1 l1.length l1) (hc1:l1.length≤c1) (h:orders_CheckAreas.f k l0_0 a0_1 a0_2 l1=some r) :
 Calls Try.prog 35 #[.agg #[.slice A0_0 l0_0.length c0_0,.int .i64 a0_1,.int .i64 a0_2],.slice A1 l1.length c1] w fun e w'=>e= .returned (.int .i64 r)∧Below w.heap.size w w':=by
 have hu26:=Try.underlying26
 have hu24:=Try.underlying24
 have HR0_0:=Aside0.mk hr0_0
 have HC0_0:=Aside0.mk hc0_0
 clear hr0_0 hc0_0
 have HR1:=Aside0.mk hr1
 have HC1:=Aside0.mk hc1
 clear hr1 hc1
 have HB:=Aside0.mk (Below.refl w.heap.size w)
 have H:((orders_Check.f k l0_0 a0_1 a0_2).bind fun t299=>(if t299=0 then (if (l1.length:Int)=(l0_0.length:Int) then (orders_CheckAreas.l0 k 0 l1 (l1.length:Int) 0 l0_0 a0_1 a0_2) else (some 80)) else (some t299)))=some r:=h
 clear h
 replace H:=Option.bind_eq_some_iff.mp H
 obtain ⟨t299,A30,H⟩:=H
 replace H:(if t299=0 then (if (l1.length:Int)=(l0_0.length:Int) then (orders_CheckAreas.l0 k 0 l1 (l1.length:Int) 0 l0_0 a0_1 a0_2) else (some 80)) else (some t299))=some r:=H
 have A3:=Aside0.mk A30
 clear A30
 by_cases c4:t299=0
 rotate_left
 ·rw [if_neg c4] at H
  have c4b0:(t299 == 0)=false:=beq_eq_false_iff_ne.mpr c4
  have c4b1:(t299 != 0)=true:=bne_iff_ne.mpr c4
  obtain rfl:=Option.some.inj H
  go_enter Try.func35,Try.ntmps35
  go_wp2_with (first|((with_reducible refine gate_dst (N:=2) rfl ?_);refine bE #[.slice A0_0 l0_0.length c0_0,.int .i64 a0_1,.int .i64 a0_2] 26 ?_;intro gb298 hg w32 hbox hb;have BK298:=qK (hbox);have GW298:=qK ((gS hg:w.heap.size≤gb298));have GE298:=qK ((gS hg:w.heap.size≤gb298));replace HB:=qK (bS hb);clear hb hbox hg;obtain ⟨_,_,_,_,_,_⟩:=xC3 BK298.out)|((with_reducible refine gate_callee (f:=45) rfl ?_);refine gL (some 11) Try.func45 #[.agg #[.slice A0_0 l0_0.length c0_0,.int .i64 a0_1,.int .i64 a0_2]] ?_;(with_reducible refine (orders_Check.calls k _ _ l0_0 a0_1 a0_2 t299 _ ?side1 ?side2 A3.out).mono ?_);(case side1=>exact cS HR0_0.out);(case side2=>exact HC0_0.out);rintro e w34 ⟨rfl,hb⟩;refine ⟨_,rfl,?_⟩;replace BK298:=qK (bB BK298.out hb);replace HB:=qK (bS hb)))
  go_ret
  exact ⟨by first|rfl|(simp [errW_none,errW_some] <;> rfl)|(simp [*,errW_none,errW_some] <;> rfl),bA⟩
 rw [if_pos c4] at H
 have c4b0:(t299 == 0)=true:=beq_iff_eq.mpr c4
 have c4b1:(t299 != 0)=false:=bne_eq_false_iff_eq.mpr c4
 clear c4
 by_cases c5:(l1.length:Int)=(l0_0.length:Int)
 rotate_left
 ·rw [if_neg c5] at H
  have c5b0:((l1.length:Int) == (l0_0.length:Int))=false:=beq_eq_false_iff_ne.mpr c5
  have c5b1:((l1.length:Int) != (l0_0.length:Int))=true:=bne_iff_ne.mpr c5
  have c5b2:(l1.length == l0_0.length)=false:=by first|simpa using c5|(simp at c5 ⊢;omega)
  obtain rfl:=Option.some.inj H
  go_enter Try.func35,Try.ntmps35
  go_wp2_with (first|((with_reducible refine gate_dst (N:=2) rfl ?_);refine bE #[.slice A0_0 l0_0.length c0_0,.int .i64 a0_1,.int .i64 a0_2] 26 ?_;intro gb298 hg w28 hbox hb;have BK298:=qK (hbox);have GW298:=qK ((gS hg:w.heap.size≤gb298));have GE298:=qK ((gS hg:w.heap.size≤gb298));replace HB:=qK (bS hb);clear hb hbox hg;obtain ⟨_,_,_,_,_,_⟩:=xC3 BK298.out)|((with_reducible refine gate_callee (f:=45) rfl ?_);refine gL (some 11) Try.func45 #[.agg #[.slice A0_0 l0_0.length c0_0,.int .i64 a0_1,.int .i64 a0_2]] ?_;(with_reducible refine (orders_Check.calls k _ _ l0_0 a0_1 a0_2 t299 _ ?side1 ?side2 A3.out).mono ?_);(case side1=>exact cS HR0_0.out);(case side2=>exact HC0_0.out);rintro e w30 ⟨rfl,hb⟩;refine ⟨_,rfl,?_⟩;replace BK298:=qK (bB BK298.out hb);replace HB:=qK (bS hb);obtain ⟨_,_,_,_,_,_⟩:=xC3 BK298.out))
  go_ret
  exact ⟨by first|rfl|(simp [errW_none,errW_some] <;> rfl)|(simp [*,errW_none,errW_some] <;> rfl),bA⟩
 rw [if_pos c5] at H
 have c5b0:((l1.length:Int) == (l0_0.length:Int))=true:=beq_iff_eq.mpr c5
 have c5b1:((l1.length:Int) != (l0_0.length:Int))=false:=bne_eq_false_iff_eq.mpr c5
 have c5b2:(l1.length == l0_0.length)=true:=by first|simpa using c5|(simp at c5 ⊢;omega)
 clear c5
 have H':=Aside0.mk H
 clear H
 go_enter Try.func35,Try.ntmps35
 go_wp2_with (first|((with_reducible refine gate_dst (N:=2) rfl ?_);refine bE #[.slice A0_0 l0_0.length c0_0,.int .i64 a0_1,.int .i64 a0_2] 26 ?_;intro gb298 hg w6 hbox hb;have BK298:=qK (hbox);have GW298:=qK ((gS hg:w.heap.size≤gb298));have GE298:=qK ((gS hg:w.heap.size≤gb298));replace HB:=qK (bS hb);clear hb hbox hg;obtain ⟨hcz7_0,hcz7_1,hcz7_2,hfz7_0,hfz7_1,hfz7_2⟩:=xC3 BK298.out)|((with_reducible refine gate_callee (f:=45) rfl ?_);refine gL (some 11) Try.func45 #[.agg #[.slice A0_0 l0_0.length c0_0,.int .i64 a0_1,.int .i64 a0_2]] ?_;(with_reducible refine (orders_Check.calls k _ _ l0_0 a0_1 a0_2 t299 _ ?side1 ?side2 A3.out).mono ?_);(case side1=>exact cS HR0_0.out);(case side2=>exact HC0_0.out);rintro e w8 ⟨rfl,hb⟩;refine ⟨_,rfl,?_⟩;replace BK298:=qK (bB BK298.out hb);replace HB:=qK (bS hb);obtain ⟨hcz9_0,hcz9_1,hcz9_2,hfz9_0,hfz9_1,hfz9_2⟩:=xC3 BK298.out))
 go_loopg [6,23] k (fun kq v6 v23 w'=>∃ (x6_1:Int) (x23_1:Int),v6= .int .i64 x6_1∧v23= .int .i64 x23_1∧Aside0 (orders_CheckAreas.l0 kq x6_1 l1 (l1.length:Int) x23_1 l0_0 a0_1 a0_2=some r)∧Aside0 (kq≤k)∧Aside0 (w'.heap[gb298]? = some (.cells #[(.slice A0_0 l0_0.length c0_0),.int .i64 a0_1,.int .i64 a0_2] 26 (0,0)))∧Aside0 (Below w.heap.size w w'))
 case atStart=>exact ⟨(0),(0),sA,sA,H',⟨Nat.le_refl _⟩,⟨by (with_reducible repeat (first|refine blk_drewN ?_ _|refine blk_drew ?_|refine blk_alloc ?_ _));exact BK298.out⟩,⟨bA⟩⟩
 case round =>
  clear H'
  try clear c1
  try clear p2
  try clear c3
  try clear c4
  try clear c4b0
  try clear c4b1
  try clear c5
  try clear c5b0
  try clear c5b1
  try clear c5b2
  try clear hcz7_0
  try clear hcz7_1
  try clear hcz7_2
  try clear hcz9_0
  try clear hcz9_1
  try clear hcz9_2
  try clear hfz7_0
  try clear hfz7_1
  try clear hfz7_2
  try clear hfz9_0
  try clear hfz9_1
  try clear hfz9_2
  obtain ⟨x6_1,x23_1,rfl,rfl,HA,HK1,BK298,HB⟩:=hrel
  cases gk with
  | zero=>exact absurd HA.out (by simp [orders_CheckAreas.l0])
  | succ k1 =>
   have H:=HA.out
   clear HA
   simp only [orders_CheckAreas.l0] at H
   by_cases c10:x23_1 < (l1.length:Int)
   rotate_left
   ·rw [if_neg c10] at H
    have c10b0:decide (x23_1 < (l1.length:Int))=false:=decide_eq_false c10
    clear c10
    replace H:=Option.bind_eq_some_iff.mp H
    obtain ⟨t304,A240,H⟩:=H
    replace H:(if t304=true then (some 0) else (some 80))=some r:=H
    have A24:=Aside0.mk A240
    clear A240
    by_cases c25:t304=true
    ·subst c25
     have H1:(some 0)=some r:=by rw [if_pos rfl] at H;exact H
     clear H
     have H:=H1
     clear H1
     obtain rfl:=Option.some.inj H
     obtain ⟨_,_,_,_,_,_⟩:=xC3 BK298.out
     go_wp2_with (first|((with_reducible refine gate_callee (f:=52) rfl ?_);refine gL (some 52) Try.func52 #[.int .i64 x6_1,.int .i64 a0_1,.int .i64 a0_2] ?_;(with_reducible refine (orders_within.calls x6_1 a0_1 a0_2 true _ A24.out).mono ?_);rintro e w' ⟨rfl,⟨nd,rfl⟩⟩;refine ⟨_,rfl,?_⟩))
     go_ret
     exact ⟨by first|rfl|(simp [errW_none,errW_some] <;> rfl)|(simp [*,errW_none,errW_some] <;> rfl),bA⟩
    replace c25:=Bool.eq_false_iff.mpr c25
    subst c25
    have H1:(some 80)=some r:=by rw [if_neg (show ¬ (false=true) by decide)] at H;exact H
    clear H
    have H:=H1
    clear H1
    obtain rfl:=Option.some.inj H
    obtain ⟨_,_,_,_,_,_⟩:=xC3 BK298.out
    go_wp2_with (first|((with_reducible refine gate_callee (f:=52) rfl ?_);refine gL (some 52) Try.func52 #[.int .i64 x6_1,.int .i64 a0_1,.int .i64 a0_2] ?_;(with_reducible refine (orders_within.calls x6_1 a0_1 a0_2 false _ A24.out).mono ?_);rintro e w' ⟨rfl,⟨nd,rfl⟩⟩;refine ⟨_,rfl,?_⟩))
    go_ret
    exact ⟨by first|rfl|(simp [errW_none,errW_some] <;> rfl)|(simp [*,errW_none,errW_some] <;> rfl),bA⟩
   rw [if_pos c10] at H
   have c10b0:decide (x23_1 < (l1.length:Int))=true:=decide_eq_true c10
   clear c10
   by_cases c11:0≤x23_1
   rotate_left
   ·rw [if_neg c11] at H
    exact absurd H (by simp)
   rw [if_pos c11] at H
   have c11b0:decide (0≤x23_1)=true:=decide_eq_true c11
   clear c11
   by_cases c12:x23_1 < (l1.length:Int)
   rotate_left
   ·rw [if_neg c12] at H
    exact absurd H (by simp)
   rw [if_pos c12] at H
   have c12b0:decide (x23_1 < (l1.length:Int))=true:=decide_eq_true c12
   clear c12
   by_cases c13:x23_1 < (l0_0.length:Int)
   rotate_left
   ·rw [if_neg c13] at H
    exact absurd H (by simp)
   rw [if_pos c13] at H
   have c13b0:decide (x23_1 < (l0_0.length:Int))=true:=decide_eq_true c13
   clear c13
   replace H:=Option.bind_eq_some_iff.mp H
   obtain ⟨t303,A140,H⟩:=H
   replace H:(if t303=true then (orders_CheckAreas.l0 k1 (wrap64 (x6_1+(rd l1 x23_1))) l1 (l1.length:Int) (wrap64 (x23_1+1)) l0_0 a0_1 a0_2) else (some 80))=some r:=H
   have A14:=Aside0.mk A140
   clear A140
   by_cases c15:t303=true
   rotate_left
   ·replace c15:=Bool.eq_false_iff.mpr c15
    subst c15
    have H1:(some 80)=some r:=by rw [if_neg (show ¬ (false=true) by decide)] at H;exact H
    clear H
    have H:=H1
    clear H1
    obtain rfl:=Option.some.inj H
    have p300:0≤(x23_1:Int):=dA
    have q300:x23_1 < (l1.length:Int):=dA
    obtain ⟨ad300,e300,hx300_0⟩:=Kd.at_int HR1.out x23_1 p300 q300
    cases e300
    replace hx300_0:=hC HB.out hx300_0
    replace p300:=eq_true p300
    replace q300:=eq_true q300
    obtain ⟨_,_,_,_,_,_⟩:=xC3 BK298.out
    have p301:0≤(x23_1:Int):=dA
    have q301:x23_1 < (l0_0.length:Int):=dA
    obtain ⟨ad301,e301,hx301_0,hx301_1,hx301_2,hx301_3⟩:=at_T50 HR0_0.out x23_1 p301 q301
    cases e301
    replace hx301_0:=hC HB.out hx301_0
    replace hx301_1:=hC HB.out hx301_1
    replace hx301_2:=hC HB.out hx301_2
    replace hx301_3:=hC HB.out hx301_3
    replace p301:=eq_true p301
    replace q301:=eq_true q301
    go_wp2_with (first|((with_reducible refine gate_dst (N:=9) rfl ?_);refine bE #[.int .i64 0,.int .i64 0] 24 ?_;intro gb302 hg w21 hbox hb;have BK302:=qK (hbox);have GW302:=qK ((gS hg:w.heap.size≤gb302));have GE302:=qK ((gS hg:w.heap.size≤gb302));replace HB:=qK (bS hb);have NB298_302:=qK ((nL hg BK298.out:gb298≠gb302));have NB302_298:=qK ((nG hg BK298.out:gb302≠gb298));replace BK298:=qK (bB BK298.out hb);clear hb hbox hg;have hnb22:=NB302_298.out;have hnc22:=NB298_302.out;obtain ⟨_,_,_,_⟩:=xC2 BK302.out)|((with_reducible refine gate_callee (f:=52) rfl ?_);refine gL (some 39) Try.func52 #[.int .i64 (rd l1 x23_1),.int .i64 ((rd_T50 l0_0 x23_1).f0.f0),.int .i64 ((rd_T50 l0_0 x23_1).f0.f1)] ?_;(with_reducible refine (orders_within.calls (rd l1 x23_1) ((rd_T50 l0_0 x23_1).f0.f0) ((rd_T50 l0_0 x23_1).f0.f1) false _ A14.out).mono ?_);rintro e w' ⟨rfl,⟨nd,rfl⟩⟩;refine ⟨_,rfl,?_⟩))
    go_ret
    exact ⟨by first|rfl|(simp [errW_none,errW_some] <;> rfl)|(simp [*,errW_none,errW_some] <;> rfl),bA⟩
   subst c15
   have H1:(orders_CheckAreas.l0 k1 (wrap64 (x6_1+(rd l1 x23_1))) l1 (l1.length:Int) (wrap64 (x23_1+1)) l0_0 a0_1 a0_2)=some r:=by rw [if_pos rfl] at H;exact H
   clear H
   have H:=H1
   clear H1
   have H':=Aside0.mk H
   clear H
   have p300:0≤(x23_1:Int):=dA
   have q300:x23_1 < (l1.length:Int):=dA
   obtain ⟨ad300,e300,hx300_0⟩:=Kd.at_int HR1.out x23_1 p300 q300
   cases e300
   replace hx300_0:=hC HB.out hx300_0
   replace p300:=eq_true p300
   replace q300:=eq_true q300
   obtain ⟨_,_,_,_,_,_⟩:=xC3 BK298.out
   have p301:0≤(x23_1:Int):=dA
   have q301:x23_1 < (l0_0.length:Int):=dA
   obtain ⟨ad301,e301,hx301_0,hx301_1,hx301_2,hx301_3⟩:=at_T50 HR0_0.out x23_1 p301 q301
   cases e301
   replace hx301_0:=hC HB.out hx301_0
   replace hx301_1:=hC HB.out hx301_1
   replace hx301_2:=hC HB.out hx301_2
   replace hx301_3:=hC HB.out hx301_3
   replace p301:=eq_true p301
   replace q301:=eq_true q301
   go_wp2_with (first|((with_reducible refine gate_dst (N:=9) rfl ?_);refine bE #[.int .i64 0,.int .i64 0] 24 ?_;intro gb302 hg w17 hbox hb;have BK302:=qK (hbox);have GW302:=qK ((gS hg:w.heap.size≤gb302));have GE302:=qK ((gS hg:w.heap.size≤gb302));replace HB:=qK (bS hb);have NB298_302:=qK ((nL hg BK298.out:gb298≠gb302));have NB302_298:=qK ((nG hg BK298.out:gb302≠gb298));replace BK298:=qK (bB BK298.out hb);clear hb hbox hg;have hnb18:=NB302_298.out;have hnc18:=NB298_302.out;obtain ⟨_,_,_,_⟩:=xC2 BK302.out)|((with_reducible refine gate_callee (f:=52) rfl ?_);refine gL (some 39) Try.func52 #[.int .i64 (rd l1 x23_1),.int .i64 ((rd_T50 l0_0 x23_1).f0.f0),.int .i64 ((rd_T50 l0_0 x23_1).f0.f1)] ?_;(with_reducible refine (orders_within.calls (rd l1 x23_1) ((rd_T50 l0_0 x23_1).f0.f0) ((rd_T50 l0_0 x23_1).f0.f1) true _ A14.out).mono ?_);rintro e w' ⟨rfl,⟨nd,rfl⟩⟩;refine ⟨_,rfl,?_⟩))
   go_roundg k1
   case measure=>have:=HK1.out;omega
   case rel=>exact ⟨(wrap64 (x6_1+(rd l1 x23_1))),(wrap64 (x23_1+1)),sA,sA,H',⟨by have:=HK1.out;omega⟩,⟨by (with_reducible repeat (first|refine blk_drewN ?_ _|refine blk_drew ?_|refine blk_alloc ?_ _));refine blk_far ?_ NB298_302.out _;(with_reducible repeat (first|refine blk_drewN ?_ _|refine blk_drew ?_|refine blk_alloc ?_ _));refine blk_far ?_ NB298_302.out _;(with_reducible repeat (first|refine blk_drewN ?_ _|refine blk_drew ?_|refine blk_alloc ?_ _));exact BK298.out⟩,⟨bA⟩⟩
def acreagelaw08_example.f (a0:Int) (a1:Int):Option ((List (S50)) × Int × Int):=some ((([(⟨(⟨0,100⟩:S24),5,10⟩:S50),(⟨(⟨0,50⟩:S24),2,20⟩:S50)]:List (S50))),a0,a1)
set_option maxHeartbeats 8000000 in
set_option maxRecDepth 100000 in
theorem acreagelaw08_example.calls (a0:Int) (a1:Int) (r1:List (S50)) (r2:Int) (r3:Int) (w:World) (h:acreagelaw08_example.f a0 a1=some (r1,r2,r3)) :
 Calls Try.prog 37 #[.int .i64 a0,.int .i64 a1] w fun e w'=>∃ v0_:Value,e= .returned (.agg #[v0_,.int .i64 r2,.int .i64 r3])∧Kd.R k50 50 w' w.heap.size (fun _=>True) v0_ r1∧Below w.heap.size w w':=by
 have hu26:=Try.underlying26
 have hu24:=Try.underlying24
 have hu50:=Try.underlying50
 have HB:=Aside0.mk (Below.refl w.heap.size w)
 have H:(some ((([(⟨(⟨0,100⟩:S24),5,10⟩:S50),(⟨(⟨0,50⟩:S24),2,20⟩:S50)]:List (S50))),a0,a1))=some (r1,r2,r3):=h
 clear h
 obtain ⟨y306,hy306⟩ : ∃ y_:List (S50),y_=(([(⟨(⟨0,100⟩:S24),5,10⟩:S50),(⟨(⟨0,50⟩:S24),2,20⟩:S50)]:List (S50))):=⟨_,rfl⟩
 replace H:(some (y306,a0,a1))=some (r1,r2,r3):=by first|(rw [hy306];with_reducible exact H)|(have H2_:=(Option.bind_some _ _).symm.trans H;rw [hy306];with_reducible exact H2_)|(have H2_:=(Option.bind_some _ _).symm.trans H;with_reducible exact H2_)|with_reducible exact H|(rw [hy306];exact H)|exact H
 have Ny306:=Aside0.mk hy306
 clear hy306
 simp only [Option.some.injEq,Prod.mk.injEq] at H
 obtain ⟨rfl,rfl,rfl⟩:=H
 go_enter Try.func37,Try.ntmps37
 go_wp2_with (first|((with_reducible refine gate_dst (N:=4) rfl ?_);refine bE #[.slice none 0 0,.int .i64 0,.int .i64 0] 26 ?_;intro gb305 hg w3 hbox hb;have BK305:=qK (hbox);have GW305:=qK ((gS hg:w.heap.size≤gb305));have GE305:=qK ((gS hg:w.heap.size≤gb305));replace HB:=qK (bS hb);clear hb hbox hg)|((with_reducible refine gate_dst (N:=9) rfl ?_);refine Kd.R_lit k50 _ 50 ?hg (N:=9) ?hd (xs:=([(⟨(⟨0,100⟩:S24),5,10⟩:S50),(⟨(⟨0,50⟩:S24),2,20⟩:S50)]:List (S50))) (inner:=[.int .i64 0,.int .i64 100,.int .i64 5,.int .i64 10,.int .i64 0,.int .i64 50,.int .i64 2,.int .i64 20]) (ok:=fun _=>True) (okp:=fun _=>True) ?hr ?hp (fun _ hk=>hk) trivial (Below.refl _ _) (Nat.le_refl _) (by simp) ?_;(case hd=>rfl);(case hg=>rfl);(case hr=>exact rA);(case hp=>exact (Reps.c4 (show Kd.M k50 _ _ _ (⟨(⟨0,100⟩:S24),5,10⟩:S50) [.int .i64 0,.int .i64 100,.int .i64 5,.int .i64 10] from (k50_mkM _ _ _ (⟨(⟨0,100⟩:S24),5,10⟩:S50) )) (Reps.c4 (show Kd.M k50 _ _ _ (⟨(⟨0,50⟩:S24),2,20⟩:S50) [.int .i64 0,.int .i64 50,.int .i64 2,.int .i64 20] from (k50_mkM _ _ _ (⟨(⟨0,50⟩:S24),2,20⟩:S50) )) (Reps.none _ _))));intro v307 w4 ho5 hb hg_ hnew_;clear hg_ hnew_;(first|rw [← Ny306.out] at ho5|(simp only [Int.reduceToNat] at ho5;rw [← Ny306.out] at ho5));have HO308:=qK (Kd.R_lower ho5 bZ);replace BK305:=qK (bB BK305.out hb);replace HB:=qK (bS hb);clear hb ho5;obtain ⟨Ao6,co6,eo6⟩:=Kd.R_slice HO308.out;subst eo6;obtain ⟨hcz7_0,hcz7_1,hcz7_2,hfz7_0,hfz7_1,hfz7_2⟩:=xC3 BK305.out))
 refine bodyPost_ret (results_cell_row rfl _ _ gb305 26 #[.slice Ao6 y306.length co6,.int .i64 a0,.int .i64 a1] (0,0) _ rfl (by (with_reducible repeat (first|refine blk_drewN ?_ _|refine blk_drew ?_|refine blk_alloc ?_ _));refine blk_put (cs:=#[.slice Ao6 y306.length co6,.int .i64 a0,.int .i64 0]) ?_ 2 _ rfl;(with_reducible repeat (first|refine blk_drewN ?_ _|refine blk_drew ?_|refine blk_alloc ?_ _));refine blk_put (cs:=#[.slice Ao6 y306.length co6,.int .i64 0,.int .i64 0]) ?_ 1 _ rfl;(with_reducible repeat (first|refine blk_drewN ?_ _|refine blk_drew ?_|refine blk_alloc ?_ _));refine blk_put (cs:=#[.slice none 0 0,.int .i64 0,.int .i64 0]) ?_ 0 _ rfl;(with_reducible repeat (first|refine blk_drewN ?_ _|refine blk_drew ?_|refine blk_alloc ?_ _));exact BK305.out) Try.underlying26 rfl (by kernel_rfl)) rfl ?_
 exact ⟨_,by first|rfl|(simp [errW_none,errW_some] <;> rfl)|(simp [*,errW_none,errW_some] <;> rfl),by (with_reducible repeat (first|apply Kd.R_alloc|apply Kd.R_drewN|apply Kd.R_drew));exact Kd.R_mono (Kd.R_far (p:=⟨gb305,2,none⟩) (Kd.R_far (p:=⟨gb305,1,none⟩) (Kd.R_far (p:=⟨gb305,0,none⟩) (Kd.R_types HO308.out BK305.out (by decide)) (fun _ hk=>hk.2) (.slice Ao6 y306.length co6)) (fun _ hk=>hk.2) (.int .i64 a0)) (fun _ hk=>hk.2) (.int .i64 a1)) (fun _ hk=>trivial),bA⟩
def orders_Attain.f (k:Nat) (l0_0:List (S50)) (a0_1:Int) (a0_2:Int) (l1:List Int):Option (List Int × Int):=(orders_right.f k l0_0 a0_1 a0_2 l1).bind fun t310=>(if t310=0 then ((orders_gains.f k l0_0 a0_1 a0_2 l1).bind fun t311=>((orders_total.f k t311).bind fun t314=>((orders_windowOf.f k l0_0 a0_1 a0_2 t314).bind fun bt315=>((orders_window_widest.f k bt315.1 bt315.2.1 bt315.2.2.1 bt315.2.2.2.1 bt315.2.2.2.2).bind fun bt320=>((orders_shown.f k l0_0 a0_1 a0_2 l1 bt320.2).bind fun t322=>(some (t322,0))))))) else (some (([]:List Int),t310)))
def orders_Attain.T4:Bool × List (List Nat × List Nat):=(true,[([],[]),([],[]),([],[]),([1,2],[1,2]),([3,3],[3]),([0,4,4],[0,4]),([5,5],[5]),([6],[6]),([7],[7]),([7],[7]),([8,6,0,1,2,3,4,5,6,7,8],[8]),([9,10,0,1,2,3,4,5,6,7,8,9,10],[9])])
def orders_Attain.B4:List Nat:=[0,0,0,6,14,31,63,127,255,255,511,2047]
theorem orders_Attain.tab4:rtab .any (opsOf Try.f38 4)=orders_Attain.T4:=by kernel_rfl
theorem orders_Attain.bits4:waitsOk orders_Attain.T4.2 orders_Attain.B4=true:=by kernel_rfl
set_option maxHeartbeats 8000000 in
set_option maxRecDepth 100000 in
theorem orders_Attain.calls (k:Nat) (A0_0:Option Addr) (c0_0:Nat) (l0_0:List (S50)) (a0_1:Int) (a0_2:Int) (A1:Option Addr) (c1:Nat) (l1:List Int) (r1:List Int) (r2:Int) (w:World) (hr0_0:Kd.C k50 w A0_0 l0_0.length l0_0) (hc0_0:l0_0.length≤c0_0) (hr1:Kd.C (Kd.int .i64) w A1 l1.length l1) (hc1:l1.length≤c1) (h:orders_Attain.f k l0_0 a0_1 a0_2 l1=some (r1,r2)) :
 Calls Try.prog 38 #[.agg #[.slice A0_0 l0_0.length c0_0,.int .i64 a0_1,.int .i64 a0_2],.slice A1 l1.length c1] w fun e w'=>∃ v0_:Value,e= .returned (.tuple #[v0_,.int .i64 r2])∧Kd.R (Kd.int .i64) 3 w' w.heap.size (fun _=>True) v0_ r1∧Below w.heap.size w w':=by
 have hu26:=Try.underlying26
 have HR0_0:=Aside0.mk hr0_0
 have HC0_0:=Aside0.mk hc0_0
 clear hr0_0 hc0_0
 have HR1:=Aside0.mk hr1
 have HC1:=Aside0.mk hc1
 clear hr1 hc1
 have HB:=Aside0.mk (Below.refl w.heap.size w)
 have H:((orders_right.f k l0_0 a0_1 a0_2 l1).bind fun t310=>(if t310=0 then ((orders_gains.f k l0_0 a0_1 a0_2 l1).bind fun t311=>((orders_total.f k t311).bind fun t314=>((orders_windowOf.f k l0_0 a0_1 a0_2 t314).bind fun bt315=>((orders_window_widest.f k bt315.1 bt315.2.1 bt315.2.2.1 bt315.2.2.2.1 bt315.2.2.2.2).bind fun bt320=>((orders_shown.f k l0_0 a0_1 a0_2 l1 bt320.2).bind fun t322=>(some (t322,0))))))) else (some (([]:List Int),t310))))=some (r1,r2):=h
 clear h
 replace H:=Option.bind_eq_some_iff.mp H
 obtain ⟨t310,A30,H⟩:=H
 replace H:(if t310=0 then ((orders_gains.f k l0_0 a0_1 a0_2 l1).bind fun t311=>((orders_total.f k t311).bind fun t314=>((orders_windowOf.f k l0_0 a0_1 a0_2 t314).bind fun bt315=>((orders_window_widest.f k bt315.1 bt315.2.1 bt315.2.2.1 bt315.2.2.2.1 bt315.2.2.2.2).bind fun bt320=>((orders_shown.f k l0_0 a0_1 a0_2 l1 bt320.2).bind fun t322=>(some (t322,0))))))) else (some (([]:List Int),t310)))=some (r1,r2):=H
 have A3:=Aside0.mk A30
 clear A30
 by_cases c4:t310=0
 rotate_left
 ·rw [if_neg c4] at H
  have c4b0:(t310 == 0)=false:=beq_eq_false_iff_ne.mpr c4
  have c4b1:(t310 != 0)=true:=bne_iff_ne.mpr c4
  simp only [Option.some.injEq,Prod.mk.injEq] at H
  obtain ⟨rfl,rfl⟩:=H
  go_enter Try.func38,Try.ntmps38
  go_wp2_with (first|((with_reducible refine gate_dst (N:=2) rfl ?_);refine bE #[.slice A0_0 l0_0.length c0_0,.int .i64 a0_1,.int .i64 a0_2] 26 ?_;intro gb309 hg w20 hbox hb;have BK309:=qK (hbox);have GW309:=qK ((gS hg:w.heap.size≤gb309));have GE309:=qK ((gS hg:w.heap.size≤gb309));replace HB:=qK (bS hb);clear hb hbox hg;obtain ⟨_,_,_,_,_,_⟩:=xC3 BK309.out)|((with_reducible refine gate_callee (f:=49) rfl ?_);refine gL (some 11) Try.func49 #[.agg #[.slice A0_0 l0_0.length c0_0,.int .i64 a0_1,.int .i64 a0_2],.slice A1 l1.length c1] ?_;(with_reducible refine (orders_right.calls k _ _ l0_0 a0_1 a0_2 _ _ l1 t310 _ ?side1 ?side2 ?side3 ?side4 A3.out).mono ?_);(case side1=>exact cS HR0_0.out);(case side2=>exact HC0_0.out);(case side3=>exact cS HR1.out);(case side4=>exact HC1.out);rintro e w22 ⟨rfl,hb⟩;refine ⟨_,rfl,?_⟩;replace BK309:=qK (bB BK309.out hb);replace HB:=qK (bS hb)))
  go_ret2
  exact ⟨_,by first|rfl|(simp [errW_none,errW_some] <;> rfl)|(simp [*,errW_none,errW_some] <;> rfl),by first|exact Kd.R_nil _ _ _ _ _|exact Kd.N_nil _ _ _ _ _|exact Kd.V_nil _ _ _ _ _|exact Kd.Q_nil _ _ _ _ _|exact Kd.S_nil _ _ _ _ _,bA⟩
 rw [if_pos c4] at H
 have c4b0:(t310 == 0)=true:=beq_iff_eq.mpr c4
 have c4b1:(t310 != 0)=false:=bne_eq_false_iff_eq.mpr c4
 clear c4
 replace H:=Option.bind_eq_some_iff.mp H
 obtain ⟨t311,A50,H⟩:=H
 replace H:((orders_total.f k t311).bind fun t314=>((orders_windowOf.f k l0_0 a0_1 a0_2 t314).bind fun bt315=>((orders_window_widest.f k bt315.1 bt315.2.1 bt315.2.2.1 bt315.2.2.2.1 bt315.2.2.2.2).bind fun bt320=>((orders_shown.f k l0_0 a0_1 a0_2 l1 bt320.2).bind fun t322=>(some (t322,0))))))=some (r1,r2):=H
 have A5:=Aside0.mk A50
 clear A50
 replace H:=Option.bind_eq_some_iff.mp H
 obtain ⟨t314,A60,H⟩:=H
 replace H:((orders_windowOf.f k l0_0 a0_1 a0_2 t314).bind fun bt315=>((orders_window_widest.f k bt315.1 bt315.2.1 bt315.2.2.1 bt315.2.2.2.1 bt315.2.2.2.2).bind fun bt320=>((orders_shown.f k l0_0 a0_1 a0_2 l1 bt320.2).bind fun t322=>(some (t322,0)))))=some (r1,r2):=H
 have A6:=Aside0.mk A60
 clear A60
 replace H:=Option.bind_eq_some_iff.mp H
 obtain ⟨⟨t315,t316,t317,t318,t319⟩,A70,H⟩:=H
 replace H:((orders_window_widest.f k t315 t316 t317 t318 t319).bind fun bt320=>((orders_shown.f k l0_0 a0_1 a0_2 l1 bt320.2).bind fun t322=>(some (t322,0))))=some (r1,r2):=H
 have A7:=Aside0.mk A70
 clear A70
 replace H:=Option.bind_eq_some_iff.mp H
 obtain ⟨⟨t320,t321⟩,A80,H⟩:=H
 replace H:((orders_shown.f k l0_0 a0_1 a0_2 l1 t321).bind fun t322=>(some (t322,0)))=some (r1,r2):=H
 have A8:=Aside0.mk A80
 clear A80
 replace H:=Option.bind_eq_some_iff.mp H
 obtain ⟨t322,A90,H⟩:=H
 replace H:(some (t322,0))=some (r1,r2):=H
 have A9:=Aside0.mk A90
 clear A90
 simp only [Option.some.injEq,Prod.mk.injEq] at H
 obtain ⟨rfl,rfl⟩:=H
 go_enter Try.func38,Try.ntmps38
 try go_wp2_with (first|((with_reducible refine gate_dst (N:=2) rfl ?_);refine bE #[.slice A0_0 l0_0.length c0_0,.int .i64 a0_1,.int .i64 a0_2] 26 ?_;intro gb309 hg w10 hbox hb;have BK309:=qK (hbox);have GW309:=qK ((gS hg:w.heap.size≤gb309));have GE309:=qK ((gS hg:w.heap.size≤gb309));replace HB:=qK (bS hb);clear hb hbox hg;obtain ⟨_,_,_,_,_,_⟩:=xC3 BK309.out)|((with_reducible refine gate_callee (f:=49) rfl ?_);refine gL (some 11) Try.func49 #[.agg #[.slice A0_0 l0_0.length c0_0,.int .i64 a0_1,.int .i64 a0_2],.slice A1 l1.length c1] ?_;(with_reducible refine (orders_right.calls k _ _ l0_0 a0_1 a0_2 _ _ l1 t310 _ ?side1 ?side2 ?side3 ?side4 A3.out).mono ?_);(case side1=>exact cS HR0_0.out);(case side2=>exact HC0_0.out);(case side3=>exact cS HR1.out);(case side4=>exact HC1.out);rintro e w12 ⟨rfl,hb⟩;refine ⟨_,rfl,?_⟩;replace BK309:=qK (bB BK309.out hb);replace HB:=qK (bS hb)))
 replace BK309:=qK (blk_drew BK309.out)
 replace HB:=qK (below_drew1 HB.out)
 refine start_ (n:=12) (S:=fun w'=>w'.cell? ⟨gb309,0,none⟩=some (.slice A0_0 l0_0.length c0_0)∧w'.cell? ⟨gb309,1,none⟩=some (.int .i64 a0_1)∧w'.cell? ⟨gb309,2,none⟩=some (.int .i64 a0_2)) (ds:=[]) #[false,false,false,false,false,false,false,false,false,false,false,false] (by kernel_rfl) rfl rfl ⟨(blk_cell BK309.out 0).trans rfl,(blk_cell BK309.out 1).trans rfl,(blk_cell BK309.out 2).trans rfl⟩ (fun hHeld=>?_);refine with_tabW orders_Attain.tab4 orders_Attain.bits4 (fun HT_ HW_=>?_)
 generalize w12.drew=w13 at BK309 HB hHeld ⊢
 refine pP 2 (some 18) HT_ ?_
 refine tP 0 (some 16) HT_ HW_ hHeld ?_
 refine tP 1 (some 17) HT_ HW_ hHeld ?_
 refine oP 3 (some 19) HT_ (fun K hK=>?_)
 refine gO Try.func62 #[.agg #[.slice A0_0 l0_0.length c0_0,.int .i64 a0_1,.int .i64 a0_2],.slice A1 l1.length c1] ?_
 with_reducible refine (orders_gains.calls k _ _ l0_0 a0_1 a0_2 _ _ l1 t311 _ ?side1 ?side2 ?side3 ?side4 A5.out).mono ?_
 (case side1=>exact cS HR0_0.out)
 (case side2=>exact HC0_0.out)
 (case side3=>exact cS HR1.out)
 (case side4=>exact HC1.out)
 rintro e w14 ⟨v312,rfl,ho0,hb⟩
 refine ⟨_,rfl,?_⟩
 have HO313:=qK (Kd.R_lower ho0 bZ)
 replace BK309:=qK (bB BK309.out hb)
 replace HB:=qK (bS hb)
 (try clear hb)
 (try clear hb2)
 (try clear hk)
 (try clear hi)
 (try clear ho0)
 obtain ⟨Ao15,co15,eo15⟩:=Kd.R_slice HO313.out
 (first|subst eo15|(injection eo15 with f1_ f2_ f3_;have f4_:=f1_.symm;have f5_:=f3_.symm;clear f1_ f2_ f3_;subst f4_;subst f5_))
 refine hK.out _ _ ⟨(blk_cell BK309.out 0).trans rfl,(blk_cell BK309.out 1).trans rfl,(blk_cell BK309.out 2).trans rfl⟩ (fun hHeld=>?_)
 clear hK K
 refine nP ?_
 refine oP 4 (some 20) HT_ (fun K hK=>?_)
 refine gO Try.func66 #[.slice Ao15 t311.length co15] ?_
 with_reducible refine (orders_total.calls k _ _ t311 t314 _ ?side1 ?side2 A6.out).mono ?_
 (case side1=>exact cR (Kd.R_reads' HO313.out).2.2)
 (case side2=>exact (Kd.R_reads' HO313.out).2.1)
 rintro e w' ⟨rfl,⟨nd,rfl⟩⟩
 refine ⟨_,rfl,?_⟩
 refine hK.out _ _ ⟨(blk_cell BK309.out 0).trans rfl,(blk_cell BK309.out 1).trans rfl,(blk_cell BK309.out 2).trans rfl⟩ (fun hHeld=>?_)
 clear hK K
 refine nP ?_
 refine oP 5 (some 21) HT_ (fun K hK=>?_)
 refine gO Try.func64 #[.agg #[.slice A0_0 l0_0.length c0_0,.int .i64 a0_1,.int .i64 a0_2],.int .i64 t314] ?_
 with_reducible refine (orders_windowOf.calls k _ _ l0_0 a0_1 a0_2 t314 t315 t316 t317 t318 t319 _ ?side1 ?side2 A7.out).mono ?_
 (case side1=>repeat (first|exact (Kd.C_below HR0_0.out bA)|(with_reducible refine Kd.C_alloc ?_ _)|(with_reducible refine Kd.C_drewN ?_ _)|(with_reducible refine Kd.C_drew ?_)))
 (case side2=>exact HC0_0.out)
 rintro e w16 ⟨rfl,hb⟩
 refine ⟨_,rfl,?_⟩
 replace HO313:=qK (Kd.R_below (rS HO313.out) hb)
 replace BK309:=qK (bB BK309.out hb)
 replace HB:=qK (bS hb)
 (try clear hb)
 (try clear hb2)
 (try clear hk)
 (try clear hi)
 refine hK.out _ _ ⟨(blk_cell BK309.out 0).trans rfl,(blk_cell BK309.out 1).trans rfl,(blk_cell BK309.out 2).trans rfl⟩ (fun hHeld=>?_)
 clear hK K
 refine nP ?_
 refine oP 6 (some 22) HT_ (fun K hK=>?_)
 refine gO Try.func65 #[.agg #[.int .i64 t315,.int .i64 t316,.int .i64 t317,.int .i64 t318,.int .i64 t319]] ?_
 with_reducible refine (orders_window_widest.calls k t315 t316 t317 t318 t319 t320 t321 _ A8.out).mono ?_
 rintro e w17 ⟨rfl,hb⟩
 refine ⟨_,rfl,?_⟩
 replace HO313:=qK (Kd.R_below (rS HO313.out) hb)
 replace BK309:=qK (bB BK309.out hb)
 replace HB:=qK (bS hb)
 (try clear hb)
 (try clear hb2)
 (try clear hk)
 (try clear hi)
 refine hK.out _ _ ⟨(blk_cell BK309.out 0).trans rfl,(blk_cell BK309.out 1).trans rfl,(blk_cell BK309.out 2).trans rfl⟩ (fun hHeld=>?_)
 clear hK K
 refine nP ?_
 refine pP 7 (some 15) HT_ ?_
 refine pP 8 (some 23) HT_ ?_
 refine pP 9 (some 24) HT_ ?_
 refine pP 10 (some 7) HT_ ?_
 refine pP 11 (some 8) HT_ ?_
 refine done_ (done_of HT_.out (by kernel_rfl)) ?_
 obtain ⟨_,_,_,_,_,_⟩:=xC3 BK309.out
 try go_wp2_with (first|((with_reducible refine gate_callee (f:=71) rfl ?_);refine gL (some 28) Try.func71 #[.agg #[.slice A0_0 l0_0.length c0_0,.int .i64 a0_1,.int .i64 a0_2],.slice A1 l1.length c1,.int .i64 t321] ?_;(with_reducible refine (orders_shown.calls k _ _ l0_0 a0_1 a0_2 _ _ l1 t321 t322 _ ?side1 ?side2 ?side3 ?side4 A9.out).mono ?_);(case side1=>exact cS HR0_0.out);(case side2=>exact HC0_0.out);(case side3=>exact cS HR1.out);(case side4=>exact HC1.out);rintro e w19 ⟨v323,rfl,ho0,hb⟩;refine ⟨_,rfl,?_⟩;have HO324:=qK (Kd.R_lower (Kd.R_new' ho0 (Kd.R_lt (rS HO313.out))) bZ);replace HO313:=qK (Kd.R_elder' (rS HO313.out) (Kd.R_base ho0) hb);replace BK309:=qK (bB BK309.out hb);replace HB:=qK (bS hb)))
 go_ret2
 exact ⟨_,by first|rfl|(simp [errW_none,errW_some] <;> rfl)|(simp [*,errW_none,errW_some] <;> rfl),by (with_reducible repeat (first|apply Kd.R_alloc|apply Kd.R_drewN|apply Kd.R_drew));exact Kd.R_mono HO324.out (fun _ hk=>trivial),bA⟩
def orders_cost.l0:Nat→Int→List Int→Int→Int→List (S50)→Int→Int→Option (Int)
 | 0,_,_,_,_,_,_,_=>none
 | k+1,x5,x8,x9,x10,x326000,x326001,x326002=>if x10 < x9 then (if 0≤x10 then (if x10 < (x8.length:Int) then (if 0≤(rd x8 x10) then (if (rd x8 x10) < (x326000.length:Int) then (orders_cost.l0 k (wrap64 (x5+((rd_T50 x326000 (rd x8 x10)).f1))) x8 x9 (wrap64 (x10+1)) x326000 x326001 x326002) else (none)) else (none)) else (none)) else (none)) else (some x5)
def orders_cost.f (k:Nat) (l0_0:List (S50)) (a0_1:Int) (a0_2:Int) (l1:List Int):Option (Int):=orders_cost.l0 k 0 l1 (l1.length:Int) 0 l0_0 a0_1 a0_2
set_option maxHeartbeats 8000000 in
set_option maxRecDepth 100000 in
theorem orders_cost.calls (k:Nat) (A0_0:Option Addr) (c0_0:Nat) (l0_0:List (S50)) (a0_1:Int) (a0_2:Int) (A1:Option Addr) (c1:Nat) (l1:List Int) (r:Int) (w:World) (hr0_0:Kd.C k50 w A0_0 l0_0.length l0_0) (hc0_0:l0_0.length≤c0_0) (hr1:Kd.C (Kd.int .i64) w A1 l1.length l1) (hc1:l1.length≤c1) (h:orders_cost.f k l0_0 a0_1 a0_2 l1=some r) :
 Calls Try.prog 61 #[.agg #[.slice A0_0 l0_0.length c0_0,.int .i64 a0_1,.int .i64 a0_2],.slice A1 l1.length c1] w fun e w'=>e= .returned (.int .i64 r)∧Below w.heap.size w w':=by
 have hu26:=Try.underlying26
 have HR0_0:=Aside0.mk hr0_0
 have HC0_0:=Aside0.mk hc0_0
 clear hr0_0 hc0_0
 have HR1:=Aside0.mk hr1
 have HC1:=Aside0.mk hc1
 clear hr1 hc1
 have HB:=Aside0.mk (Below.refl w.heap.size w)
 have H:(orders_cost.l0 k 0 l1 (l1.length:Int) 0 l0_0 a0_1 a0_2)=some r:=h
 clear h
 have H':=Aside0.mk H
 clear H
 go_enter Try.func61,Try.ntmps61
 go_wp2_with (first|((with_reducible refine gate_dst (N:=2) rfl ?_);refine bE #[.slice A0_0 l0_0.length c0_0,.int .i64 a0_1,.int .i64 a0_2] 26 ?_;intro gb325 hg w3 hbox hb;have BK325:=qK (hbox);have GW325:=qK ((gS hg:w.heap.size≤gb325));have GE325:=qK ((gS hg:w.heap.size≤gb325));replace HB:=qK (bS hb);clear hb hbox hg))
 go_loopg [5,10] k (fun kq v5 v10 w'=>∃ (x5_1:Int) (x10_1:Int),v5= .int .i64 x5_1∧v10= .int .i64 x10_1∧Aside0 (orders_cost.l0 kq x5_1 l1 (l1.length:Int) x10_1 l0_0 a0_1 a0_2=some r)∧Aside0 (kq≤k)∧Aside0 (w'.heap[gb325]? = some (.cells #[(.slice A0_0 l0_0.length c0_0),.int .i64 a0_1,.int .i64 a0_2] 26 (0,0)))∧Aside0 (Below w.heap.size w w'))
 case atStart=>exact ⟨(0),(0),sA,sA,H',⟨Nat.le_refl _⟩,⟨by (with_reducible repeat (first|refine blk_drewN ?_ _|refine blk_drew ?_|refine blk_alloc ?_ _));exact BK325.out⟩,⟨bA⟩⟩
 case round =>
  clear H'
  try clear c1
  try clear p2
  obtain ⟨x5_1,x10_1,rfl,rfl,HA,HK1,BK325,HB⟩:=hrel
  cases gk with
  | zero=>exact absurd HA.out (by simp [orders_cost.l0])
  | succ k1 =>
   have H:=HA.out
   clear HA
   simp only [orders_cost.l0] at H
   by_cases c4:x10_1 < (l1.length:Int)
   rotate_left
   ·rw [if_neg c4] at H
    have c4b0:decide (x10_1 < (l1.length:Int))=false:=decide_eq_false c4
    clear c4
    obtain rfl:=Option.some.inj H
    go_wp2
    go_ret
    exact ⟨by first|rfl|(simp [errW_none,errW_some] <;> rfl)|(simp [*,errW_none,errW_some] <;> rfl),bA⟩
   rw [if_pos c4] at H
   have c4b0:decide (x10_1 < (l1.length:Int))=true:=decide_eq_true c4
   clear c4
   by_cases c5:0≤x10_1
   rotate_left
   ·rw [if_neg c5] at H
    exact absurd H (by simp)
   rw [if_pos c5] at H
   have c5b0:decide (0≤x10_1)=true:=decide_eq_true c5
   clear c5
   by_cases c6:x10_1 < (l1.length:Int)
   rotate_left
   ·rw [if_neg c6] at H
    exact absurd H (by simp)
   rw [if_pos c6] at H
   have c6b0:decide (x10_1 < (l1.length:Int))=true:=decide_eq_true c6
   clear c6
   by_cases c7:0≤(rd l1 x10_1)
   rotate_left
   ·rw [if_neg c7] at H
    exact absurd H (by simp)
   rw [if_pos c7] at H
   have c7b0:decide (0≤(rd l1 x10_1))=true:=decide_eq_true c7
   clear c7
   by_cases c8:(rd l1 x10_1) < (l0_0.length:Int)
   rotate_left
   ·rw [if_neg c8] at H
    exact absurd H (by simp)
   rw [if_pos c8] at H
   have c8b0:decide ((rd l1 x10_1) < (l0_0.length:Int))=true:=decide_eq_true c8
   clear c8
   have H':=Aside0.mk H
   clear H
   have p326:0≤(x10_1:Int):=dA
   have q326:x10_1 < (l1.length:Int):=dA
   obtain ⟨ad326,e326,hx326_0⟩:=Kd.at_int HR1.out x10_1 p326 q326
   cases e326
   replace hx326_0:=hC HB.out hx326_0
   replace p326:=eq_true p326
   replace q326:=eq_true q326
   obtain ⟨hcz9_0,hcz9_1,hcz9_2,hfz9_0,hfz9_1,hfz9_2⟩:=xC3 BK325.out
   have p327:0≤((rd l1 x10_1):Int):=dA
   have q327:(rd l1 x10_1) < (l0_0.length:Int):=dA
   obtain ⟨ad327,e327,hx327_0,hx327_1,hx327_2,hx327_3⟩:=at_T50 HR0_0.out (rd l1 x10_1) p327 q327
   cases e327
   replace hx327_0:=hC HB.out hx327_0
   replace hx327_1:=hC HB.out hx327_1
   replace hx327_2:=hC HB.out hx327_2
   replace hx327_3:=hC HB.out hx327_3
   replace p327:=eq_true p327
   replace q327:=eq_true q327
   go_wp2
   go_roundg k1
   case measure=>have:=HK1.out;omega
   case rel=>exact ⟨(wrap64 (x5_1+((rd_T50 l0_0 (rd l1 x10_1)).f1))),(wrap64 (x10_1+1)),sA,sA,H',⟨by have:=HK1.out;omega⟩,⟨by (with_reducible repeat (first|refine blk_drewN ?_ _|refine blk_drew ?_|refine blk_alloc ?_ _));exact BK325.out⟩,⟨bA⟩⟩
end Go.Proofs.Ythimaecnpkcmeaa.K
