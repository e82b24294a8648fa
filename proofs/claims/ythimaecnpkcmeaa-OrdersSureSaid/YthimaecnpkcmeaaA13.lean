/- Contracts of Go functions and lemmas for them: each theorem states what one function returns and what it leaves of memory; its conditions stand in its statement. -/
import Derived.Test.YthimaecnpkcmeaaA3
set_option linter.unusedVariables false
set_option linter.unusedSimpArgs false
namespace Go.Proofs.Ythimaecnpkcmeaa.K
open Go.RowKit Go.Proofs.YthimaecnpkcmeaaW.PrintWords Go.Proofs.YthimaecnpkcmeaaW.PrintLast Go.Proofs.YthimaecnpkcmeaaW.PrintMore
attribute [local go_sem] max2_int min2_int max_two min_two max_three min_three max_four min_four   -- for this text's walks alone
set_option linter.unusedVariables false
set_option linter.unusedSimpArgs false
def orders_part.f (k:Nat) (l0_0:List (S50)) (a0_1:Int) (a0_2:Int) (a1:Int):Option (Int × Int):=(orders_all.f k l0_0 a0_1 a0_2).bind fun bt284=>(if 0≤a1 then (if a1 < (l0_0.length:Int) then ((orders_common.f ((rd_T50 l0_0 a1).f0.f0) ((rd_T50 l0_0 a1).f0.f1) (wrap64 (a0_1 - (wrap64 (bt284.2 - ((rd_T50 l0_0 a1).f0.f1))))) (wrap64 (a0_2 - (wrap64 (bt284.1 - ((rd_T50 l0_0 a1).f0.f0)))))).bind fun bt289=>(some (bt289.1,bt289.2.1))) else (none)) else (none))
def orders_part.T1:Bool × List (List Nat × List Nat):=(true,[([],[]),([0],[0]),([],[]),([2],[2]),([],[]),([3,4],[3,4]),([5],[5]),([6],[6]),([],[]),([],[]),([8,1,1,0,1,8,9],[1,8]),([9,7,10,0,1,2,3,4,5,6,7,8,9,10],[7,9])])
def orders_part.B1:List Nat:=[0,1,0,4,0,28,60,124,0,0,771,2047]
theorem orders_part.tab1:rtab .any (opsOf Try.f70 1)=orders_part.T1:=by kernel_rfl
theorem orders_part.bits1:waitsOk orders_part.T1.2 orders_part.B1=true:=by kernel_rfl
set_option maxHeartbeats 8000000 in
set_option maxRecDepth 100000 in
theorem orders_part.calls (k:Nat) (A0_0:Option Addr) (c0_0:Nat) (l0_0:List (S50)) (a0_1:Int) (a0_2:Int) (a1:Int) (r1:Int) (r2:Int) (w:World) (hr0_0:Kd.C k50 w A0_0 l0_0.length l0_0) (hc0_0:l0_0.length≤c0_0) (h:orders_part.f k l0_0 a0_1 a0_2 a1=some (r1,r2)) :
 Calls Try.prog 70 #[.agg #[.slice A0_0 l0_0.length c0_0,.int .i64 a0_1,.int .i64 a0_2],.int .i64 a1] w fun e w'=>e= .returned (.agg #[.int .i64 r1,.int .i64 r2])∧Below w.heap.size w w':=by
 have hu26:=Try.underlying26
 have hu24:=Try.underlying24
 have HR0_0:=Aside0.mk hr0_0
 have HC0_0:=Aside0.mk hc0_0
 clear hr0_0 hc0_0
 have HB:=Aside0.mk (Below.refl w.heap.size w)
 have H:((orders_all.f k l0_0 a0_1 a0_2).bind fun bt284=>(if 0≤a1 then (if a1 < (l0_0.length:Int) then ((orders_common.f ((rd_T50 l0_0 a1).f0.f0) ((rd_T50 l0_0 a1).f0.f1) (wrap64 (a0_1 - (wrap64 (bt284.2 - ((rd_T50 l0_0 a1).f0.f1))))) (wrap64 (a0_2 - (wrap64 (bt284.1 - ((rd_T50 l0_0 a1).f0.f0)))))).bind fun bt289=>(some (bt289.1,bt289.2.1))) else (none)) else (none)))=some (r1,r2):=h
 clear h
 replace H:=Option.bind_eq_some_iff.mp H
 obtain ⟨⟨t284,t285⟩,A30,H⟩:=H
 replace H:(if 0≤a1 then (if a1 < (l0_0.length:Int) then ((orders_common.f ((rd_T50 l0_0 a1).f0.f0) ((rd_T50 l0_0 a1).f0.f1) (wrap64 (a0_1 - (wrap64 (t285 - ((rd_T50 l0_0 a1).f0.f1))))) (wrap64 (a0_2 - (wrap64 (t284 - ((rd_T50 l0_0 a1).f0.f0)))))).bind fun bt289=>(some (bt289.1,bt289.2.1))) else (none)) else (none))=some (r1,r2):=H
 have A3:=Aside0.mk A30
 clear A30
 by_cases c4:0≤a1
 rotate_left
 ·rw [if_neg c4] at H
  exact absurd H (by simp)
 rw [if_pos c4] at H
 have c4b0:decide (0≤a1)=true:=decide_eq_true c4
 clear c4
 by_cases c5:a1 < (l0_0.length:Int)
 rotate_left
 ·rw [if_neg c5] at H
  exact absurd H (by simp)
 rw [if_pos c5] at H
 have c5b0:decide (a1 < (l0_0.length:Int))=true:=decide_eq_true c5
 clear c5
 replace H:=Option.bind_eq_some_iff.mp H
 obtain ⟨⟨t289,t290,t291⟩,A60,H⟩:=H
 replace H:(some (t289,t290))=some (r1,r2):=H
 have A6:=Aside0.mk A60
 clear A60
 simp only [Option.some.injEq,Prod.mk.injEq] at H
 obtain ⟨rfl,rfl⟩:=H
 go_enter Try.func70,Try.ntmps70
 try go_wp2_with (first|((with_reducible refine gate_dst (N:=2) rfl ?_);refine bE #[.slice A0_0 l0_0.length c0_0,.int .i64 a0_1,.int .i64 a0_2] 26 ?_;intro gb282 hg w7 hbox hb;have BK282:=qK (hbox);have GW282:=qK ((gS hg:w.heap.size≤gb282));have GE282:=qK ((gS hg:w.heap.size≤gb282));replace HB:=qK (bS hb);clear hb hbox hg)|((with_reducible refine gate_dst (N:=4) rfl ?_);refine bE #[.int .i64 0,.int .i64 0] 24 ?_;intro gb283 hg w8 hbox hb;have BK283:=qK (hbox);have GW283:=qK ((gS hg:w.heap.size≤gb283));have GE283:=qK ((gS hg:w.heap.size≤gb283));replace HB:=qK (bS hb);have NB282_283:=qK ((nL hg BK282.out:gb282≠gb283));have NB283_282:=qK ((nG hg BK282.out:gb283≠gb282));replace BK282:=qK (bB BK282.out hb);clear hb hbox hg))
 replace BK282:=qK (blk_drew BK282.out)
 replace BK283:=qK (blk_drew BK283.out)
 replace HB:=qK (below_drew1 HB.out)
 have p286:0≤(a1:Int):=dA
 have q286:a1 < (l0_0.length:Int):=dA
 obtain ⟨ad286,e286,hx286_0,hx286_1,hx286_2,hx286_3⟩:=at_T50 HR0_0.out a1 p286 q286
 have hw286_3:=hx286_3
 have hw286_2:=hx286_2
 have hw286_1:=hx286_1
 have hw286_0:=hx286_0
 cases e286
 replace hx286_0:=hC HB.out hx286_0
 replace hx286_1:=hC HB.out hx286_1
 replace hx286_2:=hC HB.out hx286_2
 replace hx286_3:=hC HB.out hx286_3
 replace p286:=eq_true p286
 replace q286:=eq_true q286
 refine start_ (n:=12) (S:=fun w'=>w'.cell? ⟨gb282,0,none⟩=some (.slice (some ad286) l0_0.length c0_0)∧w'.cell? ⟨gb282,1,none⟩=some (.int .i64 a0_1)∧w'.cell? ⟨gb282,2,none⟩=some (.int .i64 a0_2)∧w'.cell? (ad286.add ((a1).toNat*4))=some (.int .i64 ((rd_T50 l0_0 a1).f0.f0))∧w'.cell? ⟨(ad286.add ((a1).toNat*4)).block,(ad286.add ((a1).toNat*4)).off+1,none⟩=some (.int .i64 ((rd_T50 l0_0 a1).f0.f1))∧w'.cell? ⟨(ad286.add ((a1).toNat*4)).block,(ad286.add ((a1).toNat*4)).off+2,none⟩=some (.int .i64 ((rd_T50 l0_0 a1).f1))∧w'.cell? ⟨(ad286.add ((a1).toNat*4)).block,(ad286.add ((a1).toNat*4)).off+3,none⟩=some (.int .i64 ((rd_T50 l0_0 a1).f2))) (ds:=[]) #[false,false,false,false,false,false,false,false,false,false,false,false] (by kernel_rfl) rfl rfl ⟨(blk_cell BK282.out 0).trans rfl,(blk_cell BK282.out 1).trans rfl,(blk_cell BK282.out 2).trans rfl,(hC HB.out hw286_0),(hC HB.out hw286_1),(hC HB.out hw286_2),(hC HB.out hw286_3)⟩ (fun hHeld=>?_);refine with_tabW orders_part.tab1 orders_part.bits1 (fun HT_ HW_=>?_)
 generalize w8.drew=w9 at BK282 BK283 HB hx286_0 hx286_1 hx286_2 hx286_3 hHeld ⊢
 refine pP 2 (some 9) HT_ ?_
 refine pP 4 (some 11) HT_ ?_
 refine tP 0 (some 7) HT_ HW_ hHeld ?_
 refine tP 3 (some 10) HT_ HW_ hHeld ?_
 refine pP 5 (some 12) HT_ ?_
 refine pP 6 (some 13) HT_ ?_
 refine tP 7 (some 14) HT_ HW_ hHeld ?_
 refine join_ (σ:=Nat × Nat) 2 #[true,true,true,true,true,true,true,true,true,true,false,false] (fun s_=>[(8,.agg #[.int .i64 t284,.int .i64 t285]),(5,.pointer (some ⟨s_.1,0,none⟩)),(6,.pointer (some ⟨s_.2,0,none⟩))]) (fun s_ w'=>(w'.cell? ⟨gb282,0,none⟩=some (.slice (some ad286) l0_0.length c0_0)∧w'.cell? ⟨gb282,1,none⟩=some (.int .i64 a0_1)∧w'.cell? ⟨gb282,2,none⟩=some (.int .i64 a0_2)∧w'.cell? (ad286.add ((a1).toNat*4))=some (.int .i64 ((rd_T50 l0_0 a1).f0.f0))∧w'.cell? ⟨(ad286.add ((a1).toNat*4)).block,(ad286.add ((a1).toNat*4)).off+1,none⟩=some (.int .i64 ((rd_T50 l0_0 a1).f0.f1))∧w'.cell? ⟨(ad286.add ((a1).toNat*4)).block,(ad286.add ((a1).toNat*4)).off+2,none⟩=some (.int .i64 ((rd_T50 l0_0 a1).f1))∧w'.cell? ⟨(ad286.add ((a1).toNat*4)).block,(ad286.add ((a1).toNat*4)).off+3,none⟩=some (.int .i64 ((rd_T50 l0_0 a1).f2)))∧(w'.heap[gb282]? = some (.cells #[.slice (some ad286) l0_0.length c0_0,.int .i64 a0_1,.int .i64 a0_2] 26 (0,0)))∧(w'.heap[gb283]? = some (.cells #[.int .i64 0,.int .i64 0] 24 (0,0)))∧(w'.heap[s_.1]? = some (.cells #[.int .i64 0,.int .i64 0] 24 (0,0)))∧(w'.heap[s_.2]? = some (.cells #[.int .i64 0,.int .i64 0] 24 (0,0)))∧(w.heap.size≤s_.1)∧(w.heap.size≤s_.1)∧(gb282≠s_.1)∧(s_.1≠gb282)∧(gb283≠s_.1)∧(s_.1≠gb283)∧(s_.2≠s_.1)∧(s_.1≠s_.2)∧(w.heap.size≤s_.2)∧(w.heap.size≤s_.2)∧(gb282≠s_.2)∧(s_.2≠gb282)∧(gb283≠s_.2)∧(s_.2≠gb283)∧(Below w.heap.size w w')) ?_ ?_
 rotate_left
 ·intro hJ1_8_9
  refine join_ (σ:=Nat) 3 #[true,true,true,true,true,true,true,true,true,false,false,false] (fun s_=>[(8,.agg #[.int .i64 t284,.int .i64 t285]),(5,.pointer (some ⟨s_,0,none⟩))]) (fun s_ w'=>(w'.cell? ⟨gb282,0,none⟩=some (.slice (some ad286) l0_0.length c0_0)∧w'.cell? ⟨gb282,1,none⟩=some (.int .i64 a0_1)∧w'.cell? ⟨gb282,2,none⟩=some (.int .i64 a0_2)∧w'.cell? (ad286.add ((a1).toNat*4))=some (.int .i64 ((rd_T50 l0_0 a1).f0.f0))∧w'.cell? ⟨(ad286.add ((a1).toNat*4)).block,(ad286.add ((a1).toNat*4)).off+1,none⟩=some (.int .i64 ((rd_T50 l0_0 a1).f0.f1))∧w'.cell? ⟨(ad286.add ((a1).toNat*4)).block,(ad286.add ((a1).toNat*4)).off+2,none⟩=some (.int .i64 ((rd_T50 l0_0 a1).f1))∧w'.cell? ⟨(ad286.add ((a1).toNat*4)).block,(ad286.add ((a1).toNat*4)).off+3,none⟩=some (.int .i64 ((rd_T50 l0_0 a1).f2)))∧(w'.heap[gb282]? = some (.cells #[.slice (some ad286) l0_0.length c0_0,.int .i64 a0_1,.int .i64 a0_2] 26 (0,0)))∧(w'.heap[gb283]? = some (.cells #[.int .i64 0,.int .i64 0] 24 (0,0)))∧(w'.heap[s_]? = some (.cells #[.int .i64 0,.int .i64 0] 24 (0,0)))∧(w.heap.size≤s_)∧(w.heap.size≤s_)∧(gb282≠s_)∧(s_≠gb282)∧(gb283≠s_)∧(s_≠gb283)∧(Below w.heap.size w w')) ?_ ?_
  rotate_left
  ·intro hJ1_8
   refine join_ (σ:=Nat) 3 #[true,true,true,true,true,true,true,true,false,true,false,false] (fun s_=>[(8,.agg #[.int .i64 t284,.int .i64 t285]),(6,.pointer (some ⟨s_,0,none⟩))]) (fun s_ w'=>(w'.cell? ⟨gb282,0,none⟩=some (.slice (some ad286) l0_0.length c0_0)∧w'.cell? ⟨gb282,1,none⟩=some (.int .i64 a0_1)∧w'.cell? ⟨gb282,2,none⟩=some (.int .i64 a0_2)∧w'.cell? (ad286.add ((a1).toNat*4))=some (.int .i64 ((rd_T50 l0_0 a1).f0.f0))∧w'.cell? ⟨(ad286.add ((a1).toNat*4)).block,(ad286.add ((a1).toNat*4)).off+1,none⟩=some (.int .i64 ((rd_T50 l0_0 a1).f0.f1))∧w'.cell? ⟨(ad286.add ((a1).toNat*4)).block,(ad286.add ((a1).toNat*4)).off+2,none⟩=some (.int .i64 ((rd_T50 l0_0 a1).f1))∧w'.cell? ⟨(ad286.add ((a1).toNat*4)).block,(ad286.add ((a1).toNat*4)).off+3,none⟩=some (.int .i64 ((rd_T50 l0_0 a1).f2)))∧(w'.heap[gb282]? = some (.cells #[.slice (some ad286) l0_0.length c0_0,.int .i64 a0_1,.int .i64 a0_2] 26 (0,0)))∧(w'.heap[gb283]? = some (.cells #[.int .i64 0,.int .i64 0] 24 (0,0)))∧(w'.heap[s_]? = some (.cells #[.int .i64 0,.int .i64 0] 24 (0,0)))∧(w.heap.size≤s_)∧(w.heap.size≤s_)∧(gb282≠s_)∧(s_≠gb282)∧(gb283≠s_)∧(s_≠gb283)∧(Below w.heap.size w w')) ?_ ?_
   rotate_left
   ·intro hJ1_9
    refine join_ (σ:=Nat × Nat) 3 #[true,false,true,true,true,true,true,true,true,true,false,false] (fun s_=>[(5,.pointer (some ⟨s_.1,0,none⟩)),(6,.pointer (some ⟨s_.2,0,none⟩))]) (fun s_ w'=>(w'.cell? ⟨gb282,0,none⟩=some (.slice (some ad286) l0_0.length c0_0)∧w'.cell? ⟨gb282,1,none⟩=some (.int .i64 a0_1)∧w'.cell? ⟨gb282,2,none⟩=some (.int .i64 a0_2)∧w'.cell? (ad286.add ((a1).toNat*4))=some (.int .i64 ((rd_T50 l0_0 a1).f0.f0))∧w'.cell? ⟨(ad286.add ((a1).toNat*4)).block,(ad286.add ((a1).toNat*4)).off+1,none⟩=some (.int .i64 ((rd_T50 l0_0 a1).f0.f1))∧w'.cell? ⟨(ad286.add ((a1).toNat*4)).block,(ad286.add ((a1).toNat*4)).off+2,none⟩=some (.int .i64 ((rd_T50 l0_0 a1).f1))∧w'.cell? ⟨(ad286.add ((a1).toNat*4)).block,(ad286.add ((a1).toNat*4)).off+3,none⟩=some (.int .i64 ((rd_T50 l0_0 a1).f2)))∧(w'.heap[gb282]? = some (.cells #[.slice (some ad286) l0_0.length c0_0,.int .i64 a0_1,.int .i64 a0_2] 26 (0,0)))∧(w'.heap[gb283]? = some (.cells #[.int .i64 0,.int .i64 0] 24 (0,0)))∧(w'.heap[s_.1]? = some (.cells #[.int .i64 0,.int .i64 0] 24 (0,0)))∧(w'.heap[s_.2]? = some (.cells #[.int .i64 0,.int .i64 0] 24 (0,0)))∧(w.heap.size≤s_.1)∧(w.heap.size≤s_.1)∧(gb282≠s_.1)∧(s_.1≠gb282)∧(gb283≠s_.1)∧(s_.1≠gb283)∧(s_.2≠s_.1)∧(s_.1≠s_.2)∧(w.heap.size≤s_.2)∧(w.heap.size≤s_.2)∧(gb282≠s_.2)∧(s_.2≠gb282)∧(gb283≠s_.2)∧(s_.2≠gb283)∧(Below w.heap.size w w')) ?_ ?_
    rotate_left
    ·intro hJ8_9
     refine join_ (σ:=Unit) 4 #[true,true,true,true,true,true,true,true,false,false,false,false] (fun s_=>[(8,.agg #[.int .i64 t284,.int .i64 t285])]) (fun s_ w'=>(w'.cell? ⟨gb282,0,none⟩=some (.slice (some ad286) l0_0.length c0_0)∧w'.cell? ⟨gb282,1,none⟩=some (.int .i64 a0_1)∧w'.cell? ⟨gb282,2,none⟩=some (.int .i64 a0_2)∧w'.cell? (ad286.add ((a1).toNat*4))=some (.int .i64 ((rd_T50 l0_0 a1).f0.f0))∧w'.cell? ⟨(ad286.add ((a1).toNat*4)).block,(ad286.add ((a1).toNat*4)).off+1,none⟩=some (.int .i64 ((rd_T50 l0_0 a1).f0.f1))∧w'.cell? ⟨(ad286.add ((a1).toNat*4)).block,(ad286.add ((a1).toNat*4)).off+2,none⟩=some (.int .i64 ((rd_T50 l0_0 a1).f1))∧w'.cell? ⟨(ad286.add ((a1).toNat*4)).block,(ad286.add ((a1).toNat*4)).off+3,none⟩=some (.int .i64 ((rd_T50 l0_0 a1).f2)))∧(w'.heap[gb282]? = some (.cells #[.slice (some ad286) l0_0.length c0_0,.int .i64 a0_1,.int .i64 a0_2] 26 (0,0)))∧(w'.heap[gb283]? = some (.cells #[.int .i64 0,.int .i64 0] 24 (0,0)))∧(Below w.heap.size w w')) ?_ ?_
     rotate_left
     ·intro hJ1
      refine join_ (σ:=Nat) 4 #[true,false,true,true,true,true,true,true,true,false,false,false] (fun s_=>[(5,.pointer (some ⟨s_,0,none⟩))]) (fun s_ w'=>(w'.cell? ⟨gb282,0,none⟩=some (.slice (some ad286) l0_0.length c0_0)∧w'.cell? ⟨gb282,1,none⟩=some (.int .i64 a0_1)∧w'.cell? ⟨gb282,2,none⟩=some (.int .i64 a0_2)∧w'.cell? (ad286.add ((a1).toNat*4))=some (.int .i64 ((rd_T50 l0_0 a1).f0.f0))∧w'.cell? ⟨(ad286.add ((a1).toNat*4)).block,(ad286.add ((a1).toNat*4)).off+1,none⟩=some (.int .i64 ((rd_T50 l0_0 a1).f0.f1))∧w'.cell? ⟨(ad286.add ((a1).toNat*4)).block,(ad286.add ((a1).toNat*4)).off+2,none⟩=some (.int .i64 ((rd_T50 l0_0 a1).f1))∧w'.cell? ⟨(ad286.add ((a1).toNat*4)).block,(ad286.add ((a1).toNat*4)).off+3,none⟩=some (.int .i64 ((rd_T50 l0_0 a1).f2)))∧(w'.heap[gb282]? = some (.cells #[.slice (some ad286) l0_0.length c0_0,.int .i64 a0_1,.int .i64 a0_2] 26 (0,0)))∧(w'.heap[gb283]? = some (.cells #[.int .i64 0,.int .i64 0] 24 (0,0)))∧(w'.heap[s_]? = some (.cells #[.int .i64 0,.int .i64 0] 24 (0,0)))∧(w.heap.size≤s_)∧(w.heap.size≤s_)∧(gb282≠s_)∧(s_≠gb282)∧(gb283≠s_)∧(s_≠gb283)∧(Below w.heap.size w w')) ?_ ?_
      rotate_left
      ·intro hJ8
       refine join_ (σ:=Nat) 4 #[true,false,true,true,true,true,true,true,false,true,false,false] (fun s_=>[(6,.pointer (some ⟨s_,0,none⟩))]) (fun s_ w'=>(w'.cell? ⟨gb282,0,none⟩=some (.slice (some ad286) l0_0.length c0_0)∧w'.cell? ⟨gb282,1,none⟩=some (.int .i64 a0_1)∧w'.cell? ⟨gb282,2,none⟩=some (.int .i64 a0_2)∧w'.cell? (ad286.add ((a1).toNat*4))=some (.int .i64 ((rd_T50 l0_0 a1).f0.f0))∧w'.cell? ⟨(ad286.add ((a1).toNat*4)).block,(ad286.add ((a1).toNat*4)).off+1,none⟩=some (.int .i64 ((rd_T50 l0_0 a1).f0.f1))∧w'.cell? ⟨(ad286.add ((a1).toNat*4)).block,(ad286.add ((a1).toNat*4)).off+2,none⟩=some (.int .i64 ((rd_T50 l0_0 a1).f1))∧w'.cell? ⟨(ad286.add ((a1).toNat*4)).block,(ad286.add ((a1).toNat*4)).off+3,none⟩=some (.int .i64 ((rd_T50 l0_0 a1).f2)))∧(w'.heap[gb282]? = some (.cells #[.slice (some ad286) l0_0.length c0_0,.int .i64 a0_1,.int .i64 a0_2] 26 (0,0)))∧(w'.heap[gb283]? = some (.cells #[.int .i64 0,.int .i64 0] 24 (0,0)))∧(w'.heap[s_]? = some (.cells #[.int .i64 0,.int .i64 0] 24 (0,0)))∧(w.heap.size≤s_)∧(w.heap.size≤s_)∧(gb282≠s_)∧(s_≠gb282)∧(gb283≠s_)∧(s_≠gb283)∧(Below w.heap.size w w')) ?_ ?_
       rotate_left
       ·intro hJ9
        refine three_ (i:=1) (j:=8) (k:=9) (Ni:=some 8) (Nj:=some 5) (Nk:=some 6) #[true,true,true,true,true,true,true,true,false,false,false,false] #[true,false,true,true,true,true,true,true,true,false,false,false] #[true,false,true,true,true,true,true,true,false,true,false,false] rfl rfl rfl rfl rfl rfl (three_of HT_.out (by kernel_rfl)) (by decide) (by decide) (by decide) (fun K hK=>?_) (fun K hK=>?_) (fun K hK=>?_)
        ·skip
         refine gO Try.func54 #[.agg #[.slice (some ad286) l0_0.length c0_0,.int .i64 a0_1,.int .i64 a0_2]] ?_
         with_reducible refine (orders_all.calls k _ _ l0_0 a0_1 a0_2 t284 t285 _ ?side1 ?side2 A3.out).mono ?_
         (case side1=>exact cS HR0_0.out)
         (case side2=>exact HC0_0.out)
         rintro e w10 ⟨rfl,hb⟩
         refine ⟨_,rfl,?_⟩
         replace BK282:=qK (bB BK282.out hb)
         replace BK283:=qK (bB BK283.out hb)
         replace HB:=qK (bS hb)
         (try clear hb)
         (try clear hb2)
         (try clear hk)
         (try clear hi)
         refine hK.out _ _ ⟨(blk_cell BK282.out 0).trans rfl,(blk_cell BK282.out 1).trans rfl,(blk_cell BK282.out 2).trans rfl,(hC HB.out hw286_0),(hC HB.out hw286_1),(hC HB.out hw286_2),(hC HB.out hw286_3)⟩ (fun hHeld=>?_)
         clear hK K
         refine nP ?_
         exact norm_ (by first|(simp only [putAll,Act.put,List.setIfInBounds_toArray,List.set_cons_zero,List.set_cons_succ];done)|(simp only [putAll,Act.put,List.setIfInBounds_toArray,List.set_cons_zero,List.set_cons_succ];rfl)) (hJ1 () _ ⟨hHeld,(bX BK282.out),(bX BK283.out),bA⟩)
        ·skip
         refine box_step ?hg (N:=5) ?hd (cs:=#[.int .i64 0,.int .i64 0]) (t:=24) ?hr ?_;(case hd=>rfl);(case hg=>rfl);(case hr=>first|(go_simp;done)|(go_simp;rfl))
         intro gb287 hg w10 hbox hb
         have BK287:=qK (hbox)
         have GW287:=qK ((gS hg:w.heap.size≤gb287))
         have GE287:=qK ((gS hg:w.heap.size≤gb287))
         replace HB:=qK (bS hb)
         have NB282_287:=qK ((nL hg BK282.out:gb282≠gb287))
         have NB287_282:=qK ((nG hg BK282.out:gb287≠gb282))
         replace BK282:=qK (bB BK282.out hb)
         have NB283_287:=qK ((nL hg BK283.out:gb283≠gb287))
         have NB287_283:=qK ((nG hg BK283.out:gb287≠gb283))
         replace BK283:=qK (bB BK283.out hb)
         clear hb hbox hg
         refine hK.out _ _ ⟨(blk_cell BK282.out 0).trans rfl,(blk_cell BK282.out 1).trans rfl,(blk_cell BK282.out 2).trans rfl,(hC HB.out hw286_0),(hC HB.out hw286_1),(hC HB.out hw286_2),(hC HB.out hw286_3)⟩ (fun hHeld=>?_)
         clear hK K
         refine nP ?_
         exact norm_ (by first|(simp only [putAll,Act.put,List.setIfInBounds_toArray,List.set_cons_zero,List.set_cons_succ];done)|(simp only [putAll,Act.put,List.setIfInBounds_toArray,List.set_cons_zero,List.set_cons_succ];rfl)) (hJ8 (gb287) _ ⟨hHeld,(bX BK282.out),(bX BK283.out),(bX BK287.out),GW287.out,GE287.out,NB282_287.out,NB287_282.out,NB283_287.out,NB287_283.out,bA⟩)
        ·skip
         refine box_step ?hg (N:=6) ?hd (cs:=#[.int .i64 0,.int .i64 0]) (t:=24) ?hr ?_;(case hd=>rfl);(case hg=>rfl);(case hr=>first|(go_simp;done)|(go_simp;rfl))
         intro gb288 hg w10 hbox hb
         have BK288:=qK (hbox)
         have GW288:=qK ((gS hg:w.heap.size≤gb288))
         have GE288:=qK ((gS hg:w.heap.size≤gb288))
         replace HB:=qK (bS hb)
         have NB282_288:=qK ((nL hg BK282.out:gb282≠gb288))
         have NB288_282:=qK ((nG hg BK282.out:gb288≠gb282))
         replace BK282:=qK (bB BK282.out hb)
         have NB283_288:=qK ((nL hg BK283.out:gb283≠gb288))
         have NB288_283:=qK ((nG hg BK283.out:gb288≠gb283))
         replace BK283:=qK (bB BK283.out hb)
         clear hb hbox hg
         refine hK.out _ _ ⟨(blk_cell BK282.out 0).trans rfl,(blk_cell BK282.out 1).trans rfl,(blk_cell BK282.out 2).trans rfl,(hC HB.out hw286_0),(hC HB.out hw286_1),(hC HB.out hw286_2),(hC HB.out hw286_3)⟩ (fun hHeld=>?_)
         clear hK K
         refine nP ?_
         exact norm_ (by first|(simp only [putAll,Act.put,List.setIfInBounds_toArray,List.set_cons_zero,List.set_cons_succ];done)|(simp only [putAll,Act.put,List.setIfInBounds_toArray,List.set_cons_zero,List.set_cons_succ];rfl)) (hJ9 (gb288) _ ⟨hHeld,(bX BK282.out),(bX BK283.out),(bX BK288.out),GW288.out,GE288.out,NB282_288.out,NB288_282.out,NB283_288.out,NB288_283.out,bA⟩)
       ·skip
        rintro gb288 w11 ⟨hS_,h0_,h1_,h2_,h3_,h4_,h5_,h6_,h7_,h8_,h9_⟩
        have n0_:Aside0 (w11.heap[gb282]? = some (.cells #[.slice (some ad286) l0_0.length c0_0,.int .i64 a0_1,.int .i64 a0_2] 26 (0,0))):=⟨h0_⟩
        have n1_:Aside0 (w11.heap[gb283]? = some (.cells #[.int .i64 0,.int .i64 0] 24 (0,0))):=⟨h1_⟩
        have n2_:Aside0 (w11.heap[gb288]? = some (.cells #[.int .i64 0,.int .i64 0] 24 (0,0))):=⟨h2_⟩
        have n3_:Aside0 (w.heap.size≤gb288):=⟨h3_⟩
        have n4_:Aside0 (w.heap.size≤gb288):=⟨h4_⟩
        have n5_:Aside0 (gb282≠gb288):=⟨h5_⟩
        have n6_:Aside0 (gb288≠gb282):=⟨h6_⟩
        have n7_:Aside0 (gb283≠gb288):=⟨h7_⟩
        have n8_:Aside0 (gb288≠gb283):=⟨h8_⟩
        have n9_:Aside0 (Below w.heap.size w w11):=⟨h9_⟩
        clear BK282
        clear BK283
        clear HB
        clear h0_ h1_ h2_ h3_ h4_ h5_ h6_ h7_ h8_ h9_
        have BK282:=n0_
        have BK283:=n1_
        have BK288:=n2_
        have GW288:=n3_
        have GE288:=n4_
        have NB282_288:=n5_
        have NB288_282:=n6_
        have NB283_288:=n7_
        have NB288_283:=n8_
        have HB:=n9_
        clear n0_ n1_ n2_ n3_ n4_ n5_ n6_ n7_ n8_ n9_
        have hHeld:w11.cell? ⟨gb282,0,none⟩=some (.slice (some ad286) l0_0.length c0_0)∧w11.cell? ⟨gb282,1,none⟩=some (.int .i64 a0_1)∧w11.cell? ⟨gb282,2,none⟩=some (.int .i64 a0_2)∧w11.cell? (ad286.add ((a1).toNat*4))=some (.int .i64 ((rd_T50 l0_0 a1).f0.f0))∧w11.cell? ⟨(ad286.add ((a1).toNat*4)).block,(ad286.add ((a1).toNat*4)).off+1,none⟩=some (.int .i64 ((rd_T50 l0_0 a1).f0.f1))∧w11.cell? ⟨(ad286.add ((a1).toNat*4)).block,(ad286.add ((a1).toNat*4)).off+2,none⟩=some (.int .i64 ((rd_T50 l0_0 a1).f1))∧w11.cell? ⟨(ad286.add ((a1).toNat*4)).block,(ad286.add ((a1).toNat*4)).off+3,none⟩=some (.int .i64 ((rd_T50 l0_0 a1).f2)):=hS_
        refine norm_ (a':=?_) ?_ ?_
        rotate_left
        ·simp only [putAll,Act.put,List.setIfInBounds_toArray,List.set_cons_zero,List.set_cons_succ]
         rfl
        refine two_ (i:=1) (j:=8) (Ni:=some 8) (Nj:=some 5) #[true,true,true,true,true,true,true,true,false,true,false,false] #[true,false,true,true,true,true,true,true,true,true,false,false] rfl rfl rfl rfl (two_of HT_.out (by kernel_rfl)) (by decide) (by decide) (fun K hK=>?_) (fun K hK=>?_)
        ·skip
         refine gO Try.func54 #[.agg #[.slice (some ad286) l0_0.length c0_0,.int .i64 a0_1,.int .i64 a0_2]] ?_
         with_reducible refine (orders_all.calls k _ _ l0_0 a0_1 a0_2 t284 t285 _ ?side1 ?side2 A3.out).mono ?_
         (case side1=>exact cS HR0_0.out)
         (case side2=>exact HC0_0.out)
         rintro e w12 ⟨rfl,hb⟩
         refine ⟨_,rfl,?_⟩
         replace BK282:=qK (bB BK282.out hb)
         replace BK283:=qK (bB BK283.out hb)
         replace BK288:=qK (bB BK288.out hb)
         replace HB:=qK (bS hb)
         (try clear hb)
         (try clear hb2)
         (try clear hk)
         (try clear hi)
         refine hK.out _ _ ⟨(blk_cell BK282.out 0).trans rfl,(blk_cell BK282.out 1).trans rfl,(blk_cell BK282.out 2).trans rfl,(hC HB.out hw286_0),(hC HB.out hw286_1),(hC HB.out hw286_2),(hC HB.out hw286_3)⟩ (fun hHeld=>?_)
         clear hK K
         refine nP ?_
         exact norm_ (by first|(simp only [putAll,Act.put,List.setIfInBounds_toArray,List.set_cons_zero,List.set_cons_succ];done)|(simp only [putAll,Act.put,List.setIfInBounds_toArray,List.set_cons_zero,List.set_cons_succ];rfl)) (hJ1_9 (gb288) _ ⟨hHeld,(bX BK282.out),(bX BK283.out),(bX BK288.out),GW288.out,GE288.out,NB282_288.out,NB288_282.out,NB283_288.out,NB288_283.out,bA⟩)
        ·skip
         refine box_step ?hg (N:=5) ?hd (cs:=#[.int .i64 0,.int .i64 0]) (t:=24) ?hr ?_;(case hd=>rfl);(case hg=>rfl);(case hr=>first|(go_simp;done)|(go_simp;rfl))
         intro gb287 hg w12 hbox hb
         have BK287:=qK (hbox)
         have GW287:=qK ((gS hg:w.heap.size≤gb287))
         have GE287:=qK ((gS hg:w.heap.size≤gb287))
         replace HB:=qK (bS hb)
         have NB282_287:=qK ((nL hg BK282.out:gb282≠gb287))
         have NB287_282:=qK ((nG hg BK282.out:gb287≠gb282))
         replace BK282:=qK (bB BK282.out hb)
         have NB283_287:=qK ((nL hg BK283.out:gb283≠gb287))
         have NB287_283:=qK ((nG hg BK283.out:gb287≠gb283))
         replace BK283:=qK (bB BK283.out hb)
         have NB288_287:=qK ((nL hg BK288.out:gb288≠gb287))
         have NB287_288:=qK ((nG hg BK288.out:gb287≠gb288))
         replace BK288:=qK (bB BK288.out hb)
         clear hb hbox hg
         refine hK.out _ _ ⟨(blk_cell BK282.out 0).trans rfl,(blk_cell BK282.out 1).trans rfl,(blk_cell BK282.out 2).trans rfl,(hC HB.out hw286_0),(hC HB.out hw286_1),(hC HB.out hw286_2),(hC HB.out hw286_3)⟩ (fun hHeld=>?_)
         clear hK K
         refine nP ?_
         exact norm_ (by first|(simp only [putAll,Act.put,List.setIfInBounds_toArray,List.set_cons_zero,List.set_cons_succ];done)|(simp only [putAll,Act.put,List.setIfInBounds_toArray,List.set_cons_zero,List.set_cons_succ];rfl)) (hJ8_9 (gb287,gb288) _ ⟨hHeld,(bX BK282.out),(bX BK283.out),(bX BK287.out),(bX BK288.out),GW287.out,GE287.out,NB282_287.out,NB287_282.out,NB283_287.out,NB287_283.out,NB288_287.out,NB287_288.out,GW288.out,GE288.out,NB282_288.out,NB288_282.out,NB283_288.out,NB288_283.out,bA⟩)
      ·skip
       rintro gb287 w11 ⟨hS_,h0_,h1_,h2_,h3_,h4_,h5_,h6_,h7_,h8_,h9_⟩
       have n0_:Aside0 (w11.heap[gb282]? = some (.cells #[.slice (some ad286) l0_0.length c0_0,.int .i64 a0_1,.int .i64 a0_2] 26 (0,0))):=⟨h0_⟩
       have n1_:Aside0 (w11.heap[gb283]? = some (.cells #[.int .i64 0,.int .i64 0] 24 (0,0))):=⟨h1_⟩
       have n2_:Aside0 (w11.heap[gb287]? = some (.cells #[.int .i64 0,.int .i64 0] 24 (0,0))):=⟨h2_⟩
       have n3_:Aside0 (w.heap.size≤gb287):=⟨h3_⟩
       have n4_:Aside0 (w.heap.size≤gb287):=⟨h4_⟩
       have n5_:Aside0 (gb282≠gb287):=⟨h5_⟩
       have n6_:Aside0 (gb287≠gb282):=⟨h6_⟩
       have n7_:Aside0 (gb283≠gb287):=⟨h7_⟩
       have n8_:Aside0 (gb287≠gb283):=⟨h8_⟩
       have n9_:Aside0 (Below w.heap.size w w11):=⟨h9_⟩
       clear BK282
       clear BK283
       clear HB
       clear h0_ h1_ h2_ h3_ h4_ h5_ h6_ h7_ h8_ h9_
       have BK282:=n0_
       have BK283:=n1_
       have BK287:=n2_
       have GW287:=n3_
       have GE287:=n4_
       have NB282_287:=n5_
       have NB287_282:=n6_
       have NB283_287:=n7_
       have NB287_283:=n8_
       have HB:=n9_
       clear n0_ n1_ n2_ n3_ n4_ n5_ n6_ n7_ n8_ n9_
       have hHeld:w11.cell? ⟨gb282,0,none⟩=some (.slice (some ad286) l0_0.length c0_0)∧w11.cell? ⟨gb282,1,none⟩=some (.int .i64 a0_1)∧w11.cell? ⟨gb282,2,none⟩=some (.int .i64 a0_2)∧w11.cell? (ad286.add ((a1).toNat*4))=some (.int .i64 ((rd_T50 l0_0 a1).f0.f0))∧w11.cell? ⟨(ad286.add ((a1).toNat*4)).block,(ad286.add ((a1).toNat*4)).off+1,none⟩=some (.int .i64 ((rd_T50 l0_0 a1).f0.f1))∧w11.cell? ⟨(ad286.add ((a1).toNat*4)).block,(ad286.add ((a1).toNat*4)).off+2,none⟩=some (.int .i64 ((rd_T50 l0_0 a1).f1))∧w11.cell? ⟨(ad286.add ((a1).toNat*4)).block,(ad286.add ((a1).toNat*4)).off+3,none⟩=some (.int .i64 ((rd_T50 l0_0 a1).f2)):=hS_
       refine norm_ (a':=?_) ?_ ?_
       rotate_left
       ·simp only [putAll,Act.put,List.setIfInBounds_toArray,List.set_cons_zero,List.set_cons_succ]
        rfl
       refine two_ (i:=1) (j:=9) (Ni:=some 8) (Nj:=some 6) #[true,true,true,true,true,true,true,true,true,false,false,false] #[true,false,true,true,true,true,true,true,true,true,false,false] rfl rfl rfl rfl (two_of HT_.out (by kernel_rfl)) (by decide) (by decide) (fun K hK=>?_) (fun K hK=>?_)
       ·skip
        refine gO Try.func54 #[.agg #[.slice (some ad286) l0_0.length c0_0,.int .i64 a0_1,.int .i64 a0_2]] ?_
        with_reducible refine (orders_all.calls k _ _ l0_0 a0_1 a0_2 t284 t285 _ ?side1 ?side2 A3.out).mono ?_
        (case side1=>exact cS HR0_0.out)
        (case side2=>exact HC0_0.out)
        rintro e w12 ⟨rfl,hb⟩
        refine ⟨_,rfl,?_⟩
        replace BK282:=qK (bB BK282.out hb)
        replace BK283:=qK (bB BK283.out hb)
        replace BK287:=qK (bB BK287.out hb)
        replace HB:=qK (bS hb)
        (try clear hb)
        (try clear hb2)
        (try clear hk)
        (try clear hi)
        refine hK.out _ _ ⟨(blk_cell BK282.out 0).trans rfl,(blk_cell BK282.out 1).trans rfl,(blk_cell BK282.out 2).trans rfl,(hC HB.out hw286_0),(hC HB.out hw286_1),(hC HB.out hw286_2),(hC HB.out hw286_3)⟩ (fun hHeld=>?_)
        clear hK K
        refine nP ?_
        exact norm_ (by first|(simp only [putAll,Act.put,List.setIfInBounds_toArray,List.set_cons_zero,List.set_cons_succ];done)|(simp only [putAll,Act.put,List.setIfInBounds_toArray,List.set_cons_zero,List.set_cons_succ];rfl)) (hJ1_8 (gb287) _ ⟨hHeld,(bX BK282.out),(bX BK283.out),(bX BK287.out),GW287.out,GE287.out,NB282_287.out,NB287_282.out,NB283_287.out,NB287_283.out,bA⟩)
       ·skip
        refine box_step ?hg (N:=6) ?hd (cs:=#[.int .i64 0,.int .i64 0]) (t:=24) ?hr ?_;(case hd=>rfl);(case hg=>rfl);(case hr=>first|(go_simp;done)|(go_simp;rfl))
        intro gb288 hg w12 hbox hb
        have BK288:=qK (hbox)
        have GW288:=qK ((gS hg:w.heap.size≤gb288))
        have GE288:=qK ((gS hg:w.heap.size≤gb288))
        replace HB:=qK (bS hb)
        have NB282_288:=qK ((nL hg BK282.out:gb282≠gb288))
        have NB288_282:=qK ((nG hg BK282.out:gb288≠gb282))
        replace BK282:=qK (bB BK282.out hb)
        have NB283_288:=qK ((nL hg BK283.out:gb283≠gb288))
        have NB288_283:=qK ((nG hg BK283.out:gb288≠gb283))
        replace BK283:=qK (bB BK283.out hb)
        have NB287_288:=qK ((nL hg BK287.out:gb287≠gb288))
        have NB288_287:=qK ((nG hg BK287.out:gb288≠gb287))
        replace BK287:=qK (bB BK287.out hb)
        clear hb hbox hg
        refine hK.out _ _ ⟨(blk_cell BK282.out 0).trans rfl,(blk_cell BK282.out 1).trans rfl,(blk_cell BK282.out 2).trans rfl,(hC HB.out hw286_0),(hC HB.out hw286_1),(hC HB.out hw286_2),(hC HB.out hw286_3)⟩ (fun hHeld=>?_)
        clear hK K
        refine nP ?_
        exact norm_ (by first|(simp only [putAll,Act.put,List.setIfInBounds_toArray,List.set_cons_zero,List.set_cons_succ];done)|(simp only [putAll,Act.put,List.setIfInBounds_toArray,List.set_cons_zero,List.set_cons_succ];rfl)) (hJ8_9 (gb287,gb288) _ ⟨hHeld,(bX BK282.out),(bX BK283.out),(bX BK287.out),(bX BK288.out),GW287.out,GE287.out,NB282_287.out,NB287_282.out,NB283_287.out,NB287_283.out,NB288_287.out,NB287_288.out,GW288.out,GE288.out,NB282_288.out,NB288_282.out,NB283_288.out,NB288_283.out,bA⟩)
     ·skip
      rintro _ w11 ⟨hS_,h0_,h1_,h2_⟩
      have n0_:Aside0 (w11.heap[gb282]? = some (.cells #[.slice (some ad286) l0_0.length c0_0,.int .i64 a0_1,.int .i64 a0_2] 26 (0,0))):=⟨h0_⟩
      have n1_:Aside0 (w11.heap[gb283]? = some (.cells #[.int .i64 0,.int .i64 0] 24 (0,0))):=⟨h1_⟩
      have n2_:Aside0 (Below w.heap.size w w11):=⟨h2_⟩
      clear BK282
      clear BK283
      clear HB
      clear h0_ h1_ h2_
      have BK282:=n0_
      have BK283:=n1_
      have HB:=n2_
      clear n0_ n1_ n2_
      have hHeld:w11.cell? ⟨gb282,0,none⟩=some (.slice (some ad286) l0_0.length c0_0)∧w11.cell? ⟨gb282,1,none⟩=some (.int .i64 a0_1)∧w11.cell? ⟨gb282,2,none⟩=some (.int .i64 a0_2)∧w11.cell? (ad286.add ((a1).toNat*4))=some (.int .i64 ((rd_T50 l0_0 a1).f0.f0))∧w11.cell? ⟨(ad286.add ((a1).toNat*4)).block,(ad286.add ((a1).toNat*4)).off+1,none⟩=some (.int .i64 ((rd_T50 l0_0 a1).f0.f1))∧w11.cell? ⟨(ad286.add ((a1).toNat*4)).block,(ad286.add ((a1).toNat*4)).off+2,none⟩=some (.int .i64 ((rd_T50 l0_0 a1).f1))∧w11.cell? ⟨(ad286.add ((a1).toNat*4)).block,(ad286.add ((a1).toNat*4)).off+3,none⟩=some (.int .i64 ((rd_T50 l0_0 a1).f2)):=hS_
      refine norm_ (a':=?_) ?_ ?_
      rotate_left
      ·simp only [putAll,Act.put,List.setIfInBounds_toArray,List.set_cons_zero,List.set_cons_succ]
       rfl
      refine two_ (i:=8) (j:=9) (Ni:=some 5) (Nj:=some 6) #[true,true,true,true,true,true,true,true,true,false,false,false] #[true,true,true,true,true,true,true,true,false,true,false,false] rfl rfl rfl rfl (two_of HT_.out (by kernel_rfl)) (by decide) (by decide) (fun K hK=>?_) (fun K hK=>?_)
      ·skip
       refine box_step ?hg (N:=5) ?hd (cs:=#[.int .i64 0,.int .i64 0]) (t:=24) ?hr ?_;(case hd=>rfl);(case hg=>rfl);(case hr=>first|(go_simp;done)|(go_simp;rfl))
       intro gb287 hg w12 hbox hb
       have BK287:=qK (hbox)
       have GW287:=qK ((gS hg:w.heap.size≤gb287))
       have GE287:=qK ((gS hg:w.heap.size≤gb287))
       replace HB:=qK (bS hb)
       have NB282_287:=qK ((nL hg BK282.out:gb282≠gb287))
       have NB287_282:=qK ((nG hg BK282.out:gb287≠gb282))
       replace BK282:=qK (bB BK282.out hb)
       have NB283_287:=qK ((nL hg BK283.out:gb283≠gb287))
       have NB287_283:=qK ((nG hg BK283.out:gb287≠gb283))
       replace BK283:=qK (bB BK283.out hb)
       clear hb hbox hg
       refine hK.out _ _ ⟨(blk_cell BK282.out 0).trans rfl,(blk_cell BK282.out 1).trans rfl,(blk_cell BK282.out 2).trans rfl,(hC HB.out hw286_0),(hC HB.out hw286_1),(hC HB.out hw286_2),(hC HB.out hw286_3)⟩ (fun hHeld=>?_)
       clear hK K
       refine nP ?_
       exact norm_ (by first|(simp only [putAll,Act.put,List.setIfInBounds_toArray,List.set_cons_zero,List.set_cons_succ];done)|(simp only [putAll,Act.put,List.setIfInBounds_toArray,List.set_cons_zero,List.set_cons_succ];rfl)) (hJ1_8 (gb287) _ ⟨hHeld,(bX BK282.out),(bX BK283.out),(bX BK287.out),GW287.out,GE287.out,NB282_287.out,NB287_282.out,NB283_287.out,NB287_283.out,bA⟩)
      ·skip
       refine box_step ?hg (N:=6) ?hd (cs:=#[.int .i64 0,.int .i64 0]) (t:=24) ?hr ?_;(case hd=>rfl);(case hg=>rfl);(case hr=>first|(go_simp;done)|(go_simp;rfl))
       intro gb288 hg w12 hbox hb
       have BK288:=qK (hbox)
       have GW288:=qK ((gS hg:w.heap.size≤gb288))
       have GE288:=qK ((gS hg:w.heap.size≤gb288))
       replace HB:=qK (bS hb)
       have NB282_288:=qK ((nL hg BK282.out:gb282≠gb288))
       have NB288_282:=qK ((nG hg BK282.out:gb288≠gb282))
       replace BK282:=qK (bB BK282.out hb)
       have NB283_288:=qK ((nL hg BK283.out:gb283≠gb288))
       have NB288_283:=qK ((nG hg BK283.out:gb288≠gb283))
       replace BK283:=qK (bB BK283.out hb)
       clear hb hbox hg
       refine hK.out _ _ ⟨(blk_cell BK282.out 0).trans rfl,(blk_cell BK282.out 1).trans rfl,(blk_cell BK282.out 2).trans rfl,(hC HB.out hw286_0),(hC HB.out hw286_1),(hC HB.out hw286_2),(hC HB.out hw286_3)⟩ (fun hHeld=>?_)
       clear hK K
       refine nP ?_
       exact norm_ (by first|(simp only [putAll,Act.put,List.setIfInBounds_toArray,List.set_cons_zero,List.set_cons_succ];done)|(simp only [putAll,Act.put,List.setIfInBounds_toArray,List.set_cons_zero,List.set_cons_succ];rfl)) (hJ1_9 (gb288) _ ⟨hHeld,(bX BK282.out),(bX BK283.out),(bX BK288.out),GW288.out,GE288.out,NB282_288.out,NB288_282.out,NB283_288.out,NB288_283.out,bA⟩)
    ·skip
     rintro ⟨gb287,gb288⟩ w12 ⟨hS_,h0_,h1_,h2_,h3_,h4_,h5_,h6_,h7_,h8_,h9_,h10_,h11_,h12_,h13_,h14_,h15_,h16_,h17_,h18_⟩
     have n0_:Aside0 (w12.heap[gb282]? = some (.cells #[.slice (some ad286) l0_0.length c0_0,.int .i64 a0_1,.int .i64 a0_2] 26 (0,0))):=⟨h0_⟩
     have n1_:Aside0 (w12.heap[gb283]? = some (.cells #[.int .i64 0,.int .i64 0] 24 (0,0))):=⟨h1_⟩
     have n2_:Aside0 (w12.heap[gb287]? = some (.cells #[.int .i64 0,.int .i64 0] 24 (0,0))):=⟨h2_⟩
     have n3_:Aside0 (w12.heap[gb288]? = some (.cells #[.int .i64 0,.int .i64 0] 24 (0,0))):=⟨h3_⟩
     have n4_:Aside0 (w.heap.size≤gb287):=⟨h4_⟩
     have n5_:Aside0 (w.heap.size≤gb287):=⟨h5_⟩
     have n6_:Aside0 (gb282≠gb287):=⟨h6_⟩
     have n7_:Aside0 (gb287≠gb282):=⟨h7_⟩
     have n8_:Aside0 (gb283≠gb287):=⟨h8_⟩
     have n9_:Aside0 (gb287≠gb283):=⟨h9_⟩
     have n10_:Aside0 (gb288≠gb287):=⟨h10_⟩
     have n11_:Aside0 (gb287≠gb288):=⟨h11_⟩
     have n12_:Aside0 (w.heap.size≤gb288):=⟨h12_⟩
     have n13_:Aside0 (w.heap.size≤gb288):=⟨h13_⟩
     have n14_:Aside0 (gb282≠gb288):=⟨h14_⟩
     have n15_:Aside0 (gb288≠gb282):=⟨h15_⟩
     have n16_:Aside0 (gb283≠gb288):=⟨h16_⟩
     have n17_:Aside0 (gb288≠gb283):=⟨h17_⟩
     have n18_:Aside0 (Below w.heap.size w w12):=⟨h18_⟩
     clear BK282
     clear BK283
     clear HB
     clear h0_ h1_ h2_ h3_ h4_ h5_ h6_ h7_ h8_ h9_ h10_ h11_ h12_ h13_ h14_ h15_ h16_ h17_ h18_
     have BK282:=n0_
     have BK283:=n1_
     have BK287:=n2_
     have BK288:=n3_
     have GW287:=n4_
     have GE287:=n5_
     have NB282_287:=n6_
     have NB287_282:=n7_
     have NB283_287:=n8_
     have NB287_283:=n9_
     have NB288_287:=n10_
     have NB287_288:=n11_
     have GW288:=n12_
     have GE288:=n13_
     have NB282_288:=n14_
     have NB288_282:=n15_
     have NB283_288:=n16_
     have NB288_283:=n17_
     have HB:=n18_
     clear n0_ n1_ n2_ n3_ n4_ n5_ n6_ n7_ n8_ n9_ n10_ n11_ n12_ n13_ n14_ n15_ n16_ n17_ n18_
     have hHeld:w12.cell? ⟨gb282,0,none⟩=some (.slice (some ad286) l0_0.length c0_0)∧w12.cell? ⟨gb282,1,none⟩=some (.int .i64 a0_1)∧w12.cell? ⟨gb282,2,none⟩=some (.int .i64 a0_2)∧w12.cell? (ad286.add ((a1).toNat*4))=some (.int .i64 ((rd_T50 l0_0 a1).f0.f0))∧w12.cell? ⟨(ad286.add ((a1).toNat*4)).block,(ad286.add ((a1).toNat*4)).off+1,none⟩=some (.int .i64 ((rd_T50 l0_0 a1).f0.f1))∧w12.cell? ⟨(ad286.add ((a1).toNat*4)).block,(ad286.add ((a1).toNat*4)).off+2,none⟩=some (.int .i64 ((rd_T50 l0_0 a1).f1))∧w12.cell? ⟨(ad286.add ((a1).toNat*4)).block,(ad286.add ((a1).toNat*4)).off+3,none⟩=some (.int .i64 ((rd_T50 l0_0 a1).f2)):=hS_
     refine norm_ (a':=?_) ?_ ?_
     rotate_left
     ·simp only [putAll,Act.put,List.setIfInBounds_toArray,List.set_cons_zero,List.set_cons_succ]
      rfl
     refine oP 1 (some 8) HT_ (fun K hK=>?_)
     refine gO Try.func54 #[.agg #[.slice (some ad286) l0_0.length c0_0,.int .i64 a0_1,.int .i64 a0_2]] ?_
     with_reducible refine (orders_all.calls k _ _ l0_0 a0_1 a0_2 t284 t285 _ ?side1 ?side2 A3.out).mono ?_
     (case side1=>exact cS HR0_0.out)
     (case side2=>exact HC0_0.out)
     rintro e w13 ⟨rfl,hb⟩
     refine ⟨_,rfl,?_⟩
     replace BK282:=qK (bB BK282.out hb)
     replace BK283:=qK (bB BK283.out hb)
     replace BK287:=qK (bB BK287.out hb)
     replace BK288:=qK (bB BK288.out hb)
     replace HB:=qK (bS hb)
     (try clear hb)
     (try clear hb2)
     (try clear hk)
     (try clear hi)
     refine hK.out _ _ ⟨(blk_cell BK282.out 0).trans rfl,(blk_cell BK282.out 1).trans rfl,(blk_cell BK282.out 2).trans rfl,(hC HB.out hw286_0),(hC HB.out hw286_1),(hC HB.out hw286_2),(hC HB.out hw286_3)⟩ (fun hHeld=>?_)
     clear hK K
     refine nP ?_
     exact norm_ (by first|(simp only [putAll,Act.put,List.setIfInBounds_toArray,List.set_cons_zero,List.set_cons_succ];done)|(simp only [putAll,Act.put,List.setIfInBounds_toArray,List.set_cons_zero,List.set_cons_succ];rfl)) (hJ1_8_9 (gb287,gb288) _ ⟨hHeld,(bX BK282.out),(bX BK283.out),(bX BK287.out),(bX BK288.out),GW287.out,GE287.out,NB282_287.out,NB287_282.out,NB283_287.out,NB287_283.out,NB288_287.out,NB287_288.out,GW288.out,GE288.out,NB282_288.out,NB288_282.out,NB283_288.out,NB288_283.out,bA⟩)
   ·skip
    rintro gb288 w12 ⟨hS_,h0_,h1_,h2_,h3_,h4_,h5_,h6_,h7_,h8_,h9_⟩
    have n0_:Aside0 (w12.heap[gb282]? = some (.cells #[.slice (some ad286) l0_0.length c0_0,.int .i64 a0_1,.int .i64 a0_2] 26 (0,0))):=⟨h0_⟩
    have n1_:Aside0 (w12.heap[gb283]? = some (.cells #[.int .i64 0,.int .i64 0] 24 (0,0))):=⟨h1_⟩
    have n2_:Aside0 (w12.heap[gb288]? = some (.cells #[.int .i64 0,.int .i64 0] 24 (0,0))):=⟨h2_⟩
    have n3_:Aside0 (w.heap.size≤gb288):=⟨h3_⟩
    have n4_:Aside0 (w.heap.size≤gb288):=⟨h4_⟩
    have n5_:Aside0 (gb282≠gb288):=⟨h5_⟩
    have n6_:Aside0 (gb288≠gb282):=⟨h6_⟩
    have n7_:Aside0 (gb283≠gb288):=⟨h7_⟩
    have n8_:Aside0 (gb288≠gb283):=⟨h8_⟩
    have n9_:Aside0 (Below w.heap.size w w12):=⟨h9_⟩
    clear BK282
    clear BK283
    clear HB
    clear h0_ h1_ h2_ h3_ h4_ h5_ h6_ h7_ h8_ h9_
    have BK282:=n0_
    have BK283:=n1_
    have BK288:=n2_
    have GW288:=n3_
    have GE288:=n4_
    have NB282_288:=n5_
    have NB288_282:=n6_
    have NB283_288:=n7_
    have NB288_283:=n8_
    have HB:=n9_
    clear n0_ n1_ n2_ n3_ n4_ n5_ n6_ n7_ n8_ n9_
    have hHeld:w12.cell? ⟨gb282,0,none⟩=some (.slice (some ad286) l0_0.length c0_0)∧w12.cell? ⟨gb282,1,none⟩=some (.int .i64 a0_1)∧w12.cell? ⟨gb282,2,none⟩=some (.int .i64 a0_2)∧w12.cell? (ad286.add ((a1).toNat*4))=some (.int .i64 ((rd_T50 l0_0 a1).f0.f0))∧w12.cell? ⟨(ad286.add ((a1).toNat*4)).block,(ad286.add ((a1).toNat*4)).off+1,none⟩=some (.int .i64 ((rd_T50 l0_0 a1).f0.f1))∧w12.cell? ⟨(ad286.add ((a1).toNat*4)).block,(ad286.add ((a1).toNat*4)).off+2,none⟩=some (.int .i64 ((rd_T50 l0_0 a1).f1))∧w12.cell? ⟨(ad286.add ((a1).toNat*4)).block,(ad286.add ((a1).toNat*4)).off+3,none⟩=some (.int .i64 ((rd_T50 l0_0 a1).f2)):=hS_
    refine norm_ (a':=?_) ?_ ?_
    rotate_left
    ·simp only [putAll,Act.put,List.setIfInBounds_toArray,List.set_cons_zero,List.set_cons_succ]
     rfl
    refine oP 8 (some 5) HT_ (fun K hK=>?_)
    refine box_step ?hg (N:=5) ?hd (cs:=#[.int .i64 0,.int .i64 0]) (t:=24) ?hr ?_;(case hd=>rfl);(case hg=>rfl);(case hr=>first|(go_simp;done)|(go_simp;rfl))
    intro gb287 hg w13 hbox hb
    have BK287:=qK (hbox)
    have GW287:=qK ((gS hg:w.heap.size≤gb287))
    have GE287:=qK ((gS hg:w.heap.size≤gb287))
    replace HB:=qK (bS hb)
    have NB282_287:=qK ((nL hg BK282.out:gb282≠gb287))
    have NB287_282:=qK ((nG hg BK282.out:gb287≠gb282))
    replace BK282:=qK (bB BK282.out hb)
    have NB283_287:=qK ((nL hg BK283.out:gb283≠gb287))
    have NB287_283:=qK ((nG hg BK283.out:gb287≠gb283))
    replace BK283:=qK (bB BK283.out hb)
    have NB288_287:=qK ((nL hg BK288.out:gb288≠gb287))
    have NB287_288:=qK ((nG hg BK288.out:gb287≠gb288))
    replace BK288:=qK (bB BK288.out hb)
    clear hb hbox hg
    refine hK.out _ _ ⟨(blk_cell BK282.out 0).trans rfl,(blk_cell BK282.out 1).trans rfl,(blk_cell BK282.out 2).trans rfl,(hC HB.out hw286_0),(hC HB.out hw286_1),(hC HB.out hw286_2),(hC HB.out hw286_3)⟩ (fun hHeld=>?_)
    clear hK K
    refine nP ?_
    exact norm_ (by first|(simp only [putAll,Act.put,List.setIfInBounds_toArray,List.set_cons_zero,List.set_cons_succ];done)|(simp only [putAll,Act.put,List.setIfInBounds_toArray,List.set_cons_zero,List.set_cons_succ];rfl)) (hJ1_8_9 (gb287,gb288) _ ⟨hHeld,(bX BK282.out),(bX BK283.out),(bX BK287.out),(bX BK288.out),GW287.out,GE287.out,NB282_287.out,NB287_282.out,NB283_287.out,NB287_283.out,NB288_287.out,NB287_288.out,GW288.out,GE288.out,NB282_288.out,NB288_282.out,NB283_288.out,NB288_283.out,bA⟩)
  ·skip
   rintro gb287 w12 ⟨hS_,h0_,h1_,h2_,h3_,h4_,h5_,h6_,h7_,h8_,h9_⟩
   have n0_:Aside0 (w12.heap[gb282]? = some (.cells #[.slice (some ad286) l0_0.length c0_0,.int .i64 a0_1,.int .i64 a0_2] 26 (0,0))):=⟨h0_⟩
   have n1_:Aside0 (w12.heap[gb283]? = some (.cells #[.int .i64 0,.int .i64 0] 24 (0,0))):=⟨h1_⟩
   have n2_:Aside0 (w12.heap[gb287]? = some (.cells #[.int .i64 0,.int .i64 0] 24 (0,0))):=⟨h2_⟩
   have n3_:Aside0 (w.heap.size≤gb287):=⟨h3_⟩
   have n4_:Aside0 (w.heap.size≤gb287):=⟨h4_⟩
   have n5_:Aside0 (gb282≠gb287):=⟨h5_⟩
   have n6_:Aside0 (gb287≠gb282):=⟨h6_⟩
   have n7_:Aside0 (gb283≠gb287):=⟨h7_⟩
   have n8_:Aside0 (gb287≠gb283):=⟨h8_⟩
   have n9_:Aside0 (Below w.heap.size w w12):=⟨h9_⟩
   clear BK282
   clear BK283
   clear HB
   clear h0_ h1_ h2_ h3_ h4_ h5_ h6_ h7_ h8_ h9_
   have BK282:=n0_
   have BK283:=n1_
   have BK287:=n2_
   have GW287:=n3_
   have GE287:=n4_
   have NB282_287:=n5_
   have NB287_282:=n6_
   have NB283_287:=n7_
   have NB287_283:=n8_
   have HB:=n9_
   clear n0_ n1_ n2_ n3_ n4_ n5_ n6_ n7_ n8_ n9_
   have hHeld:w12.cell? ⟨gb282,0,none⟩=some (.slice (some ad286) l0_0.length c0_0)∧w12.cell? ⟨gb282,1,none⟩=some (.int .i64 a0_1)∧w12.cell? ⟨gb282,2,none⟩=some (.int .i64 a0_2)∧w12.cell? (ad286.add ((a1).toNat*4))=some (.int .i64 ((rd_T50 l0_0 a1).f0.f0))∧w12.cell? ⟨(ad286.add ((a1).toNat*4)).block,(ad286.add ((a1).toNat*4)).off+1,none⟩=some (.int .i64 ((rd_T50 l0_0 a1).f0.f1))∧w12.cell? ⟨(ad286.add ((a1).toNat*4)).block,(ad286.add ((a1).toNat*4)).off+2,none⟩=some (.int .i64 ((rd_T50 l0_0 a1).f1))∧w12.cell? ⟨(ad286.add ((a1).toNat*4)).block,(ad286.add ((a1).toNat*4)).off+3,none⟩=some (.int .i64 ((rd_T50 l0_0 a1).f2)):=hS_
   refine norm_ (a':=?_) ?_ ?_
   rotate_left
   ·simp only [putAll,Act.put,List.setIfInBounds_toArray,List.set_cons_zero,List.set_cons_succ]
    rfl
   refine oP 9 (some 6) HT_ (fun K hK=>?_)
   refine box_step ?hg (N:=6) ?hd (cs:=#[.int .i64 0,.int .i64 0]) (t:=24) ?hr ?_;(case hd=>rfl);(case hg=>rfl);(case hr=>first|(go_simp;done)|(go_simp;rfl))
   intro gb288 hg w13 hbox hb
   have BK288:=qK (hbox)
   have GW288:=qK ((gS hg:w.heap.size≤gb288))
   have GE288:=qK ((gS hg:w.heap.size≤gb288))
   replace HB:=qK (bS hb)
   have NB282_288:=qK ((nL hg BK282.out:gb282≠gb288))
   have NB288_282:=qK ((nG hg BK282.out:gb288≠gb282))
   replace BK282:=qK (bB BK282.out hb)
   have NB283_288:=qK ((nL hg BK283.out:gb283≠gb288))
   have NB288_283:=qK ((nG hg BK283.out:gb288≠gb283))
   replace BK283:=qK (bB BK283.out hb)
   have NB287_288:=qK ((nL hg BK287.out:gb287≠gb288))
   have NB288_287:=qK ((nG hg BK287.out:gb288≠gb287))
   replace BK287:=qK (bB BK287.out hb)
   clear hb hbox hg
   refine hK.out _ _ ⟨(blk_cell BK282.out 0).trans rfl,(blk_cell BK282.out 1).trans rfl,(blk_cell BK282.out 2).trans rfl,(hC HB.out hw286_0),(hC HB.out hw286_1),(hC HB.out hw286_2),(hC HB.out hw286_3)⟩ (fun hHeld=>?_)
   clear hK K
   refine nP ?_
   exact norm_ (by first|(simp only [putAll,Act.put,List.setIfInBounds_toArray,List.set_cons_zero,List.set_cons_succ];done)|(simp only [putAll,Act.put,List.setIfInBounds_toArray,List.set_cons_zero,List.set_cons_succ];rfl)) (hJ1_8_9 (gb287,gb288) _ ⟨hHeld,(bX BK282.out),(bX BK283.out),(bX BK287.out),(bX BK288.out),GW287.out,GE287.out,NB282_287.out,NB287_282.out,NB283_287.out,NB287_283.out,NB288_287.out,NB287_288.out,GW288.out,GE288.out,NB282_288.out,NB288_282.out,NB283_288.out,NB288_283.out,bA⟩)
 rintro ⟨gb287,gb288⟩ w13 ⟨hS_,h0_,h1_,h2_,h3_,h4_,h5_,h6_,h7_,h8_,h9_,h10_,h11_,h12_,h13_,h14_,h15_,h16_,h17_,h18_⟩
 have n0_:Aside0 (w13.heap[gb282]? = some (.cells #[.slice (some ad286) l0_0.length c0_0,.int .i64 a0_1,.int .i64 a0_2] 26 (0,0))):=⟨h0_⟩
 have n1_:Aside0 (w13.heap[gb283]? = some (.cells #[.int .i64 0,.int .i64 0] 24 (0,0))):=⟨h1_⟩
 have n2_:Aside0 (w13.heap[gb287]? = some (.cells #[.int .i64 0,.int .i64 0] 24 (0,0))):=⟨h2_⟩
 have n3_:Aside0 (w13.heap[gb288]? = some (.cells #[.int .i64 0,.int .i64 0] 24 (0,0))):=⟨h3_⟩
 have n4_:Aside0 (w.heap.size≤gb287):=⟨h4_⟩
 have n5_:Aside0 (w.heap.size≤gb287):=⟨h5_⟩
 have n6_:Aside0 (gb282≠gb287):=⟨h6_⟩
 have n7_:Aside0 (gb287≠gb282):=⟨h7_⟩
 have n8_:Aside0 (gb283≠gb287):=⟨h8_⟩
 have n9_:Aside0 (gb287≠gb283):=⟨h9_⟩
 have n10_:Aside0 (gb288≠gb287):=⟨h10_⟩
 have n11_:Aside0 (gb287≠gb288):=⟨h11_⟩
 have n12_:Aside0 (w.heap.size≤gb288):=⟨h12_⟩
 have n13_:Aside0 (w.heap.size≤gb288):=⟨h13_⟩
 have n14_:Aside0 (gb282≠gb288):=⟨h14_⟩
 have n15_:Aside0 (gb288≠gb282):=⟨h15_⟩
 have n16_:Aside0 (gb283≠gb288):=⟨h16_⟩
 have n17_:Aside0 (gb288≠gb283):=⟨h17_⟩
 have n18_:Aside0 (Below w.heap.size w w13):=⟨h18_⟩
 clear BK282
 clear BK283
 clear HB
 clear h0_ h1_ h2_ h3_ h4_ h5_ h6_ h7_ h8_ h9_ h10_ h11_ h12_ h13_ h14_ h15_ h16_ h17_ h18_
 have BK282:=n0_
 have BK283:=n1_
 have BK287:=n2_
 have BK288:=n3_
 have GW287:=n4_
 have GE287:=n5_
 have NB282_287:=n6_
 have NB287_282:=n7_
 have NB283_287:=n8_
 have NB287_283:=n9_
 have NB288_287:=n10_
 have NB287_288:=n11_
 have GW288:=n12_
 have GE288:=n13_
 have NB282_288:=n14_
 have NB288_282:=n15_
 have NB283_288:=n16_
 have NB288_283:=n17_
 have HB:=n18_
 clear n0_ n1_ n2_ n3_ n4_ n5_ n6_ n7_ n8_ n9_ n10_ n11_ n12_ n13_ n14_ n15_ n16_ n17_ n18_
 have hHeld:w13.cell? ⟨gb282,0,none⟩=some (.slice (some ad286) l0_0.length c0_0)∧w13.cell? ⟨gb282,1,none⟩=some (.int .i64 a0_1)∧w13.cell? ⟨gb282,2,none⟩=some (.int .i64 a0_2)∧w13.cell? (ad286.add ((a1).toNat*4))=some (.int .i64 ((rd_T50 l0_0 a1).f0.f0))∧w13.cell? ⟨(ad286.add ((a1).toNat*4)).block,(ad286.add ((a1).toNat*4)).off+1,none⟩=some (.int .i64 ((rd_T50 l0_0 a1).f0.f1))∧w13.cell? ⟨(ad286.add ((a1).toNat*4)).block,(ad286.add ((a1).toNat*4)).off+2,none⟩=some (.int .i64 ((rd_T50 l0_0 a1).f1))∧w13.cell? ⟨(ad286.add ((a1).toNat*4)).block,(ad286.add ((a1).toNat*4)).off+3,none⟩=some (.int .i64 ((rd_T50 l0_0 a1).f2)):=hS_
 refine norm_ (a':=?_) ?_ ?_
 rotate_left
 ·simp only [putAll,Act.put,List.setIfInBounds_toArray,List.set_cons_zero,List.set_cons_succ]
  rfl
 refine oP 10 none HT_ (fun K hK=>?_)
 have hs14:w13.cell? ⟨gb287,0,none⟩=some (.int .i64 0):=(blk_cell BK287.out 0).trans rfl
 have hfs14:=blk_frozen BK287.out 0
 have hns14_0:=NB282_287.out
 have hns14_1:=NB283_287.out
 have hns14_3:=NB288_287.out
 have hms14_0:=NB287_282.out
 have hms14_1:=NB287_283.out
 have hms14_3:=NB287_288.out
 have hs15:w13.cell? ⟨gb287,1,none⟩=some (.int .i64 0):=(blk_cell BK287.out 1).trans rfl
 have hfs15:=blk_frozen BK287.out 1
 have hns15_0:=NB282_287.out
 have hns15_1:=NB283_287.out
 have hns15_3:=NB288_287.out
 have hms15_0:=NB287_282.out
 have hms15_1:=NB287_283.out
 have hms15_3:=NB287_288.out
 refine skip_ (w1:=?_) (by rfl) rfl ?_ ?_
 rotate_left
 ·go_simp
  rfl
 refine hK.out _ _ ⟨((cell_far (p:=⟨gb287,_,none⟩) NB282_287.out _).trans (((cell_far (p:=⟨gb287,_,none⟩) NB282_287.out _).trans (hHeld.1)))),((cell_far (p:=⟨gb287,_,none⟩) NB282_287.out _).trans (((cell_far (p:=⟨gb287,_,none⟩) NB282_287.out _).trans (hHeld.2.1)))),((cell_far (p:=⟨gb287,_,none⟩) NB282_287.out _).trans (((cell_far (p:=⟨gb287,_,none⟩) NB282_287.out _).trans (hHeld.2.2.1)))),((cell_far (p:=⟨gb287,_,none⟩) (by first|exact Nat.ne_of_lt (Nat.lt_of_lt_of_le (by have:=World.block_lt_of_cell? _ _ hw286_0;first|rwa [add_block] at this|exact this) GW287.out)|(rw [add_block];exact Nat.ne_of_lt (Nat.lt_of_lt_of_le (by have:=World.block_lt_of_cell? _ _ hw286_0;first|rwa [add_block] at this|exact this) GW287.out))|(show (Addr.add _ _).block≠_;rw [add_block];exact Nat.ne_of_lt (Nat.lt_of_lt_of_le (by have:=World.block_lt_of_cell? _ _ hw286_0;first|rwa [add_block] at this|exact this) GW287.out))|(dsimp only;exact Nat.ne_of_lt (Nat.lt_of_lt_of_le (by have:=World.block_lt_of_cell? _ _ hw286_0;first|rwa [add_block] at this|exact this) GW287.out))) _).trans (((cell_far (p:=⟨gb287,_,none⟩) (by first|exact Nat.ne_of_lt (Nat.lt_of_lt_of_le (by have:=World.block_lt_of_cell? _ _ hw286_0;first|rwa [add_block] at this|exact this) GW287.out)|(rw [add_block];exact Nat.ne_of_lt (Nat.lt_of_lt_of_le (by have:=World.block_lt_of_cell? _ _ hw286_0;first|rwa [add_block] at this|exact this) GW287.out))|(show (Addr.add _ _).block≠_;rw [add_block];exact Nat.ne_of_lt (Nat.lt_of_lt_of_le (by have:=World.block_lt_of_cell? _ _ hw286_0;first|rwa [add_block] at this|exact this) GW287.out))|(dsimp only;exact Nat.ne_of_lt (Nat.lt_of_lt_of_le (by have:=World.block_lt_of_cell? _ _ hw286_0;first|rwa [add_block] at this|exact this) GW287.out))) _).trans (hHeld.2.2.2.1)))),((cell_far (p:=⟨gb287,_,none⟩) (by first|exact Nat.ne_of_lt (Nat.lt_of_lt_of_le (by have:=World.block_lt_of_cell? _ _ hw286_1;first|rwa [add_block] at this|exact this) GW287.out)|(rw [add_block];exact Nat.ne_of_lt (Nat.lt_of_lt_of_le (by have:=World.block_lt_of_cell? _ _ hw286_1;first|rwa [add_block] at this|exact this) GW287.out))|(show (Addr.add _ _).block≠_;rw [add_block];exact Nat.ne_of_lt (Nat.lt_of_lt_of_le (by have:=World.block_lt_of_cell? _ _ hw286_1;first|rwa [add_block] at this|exact this) GW287.out))|(dsimp only;exact Nat.ne_of_lt (Nat.lt_of_lt_of_le (by have:=World.block_lt_of_cell? _ _ hw286_1;first|rwa [add_block] at this|exact this) GW287.out))) _).trans (((cell_far (p:=⟨gb287,_,none⟩) (by first|exact Nat.ne_of_lt (Nat.lt_of_lt_of_le (by have:=World.block_lt_of_cell? _ _ hw286_1;first|rwa [add_block] at this|exact this) GW287.out)|(rw [add_block];exact Nat.ne_of_lt (Nat.lt_of_lt_of_le (by have:=World.block_lt_of_cell? _ _ hw286_1;first|rwa [add_block] at this|exact this) GW287.out))|(show (Addr.add _ _).block≠_;rw [add_block];exact Nat.ne_of_lt (Nat.lt_of_lt_of_le (by have:=World.block_lt_of_cell? _ _ hw286_1;first|rwa [add_block] at this|exact this) GW287.out))|(dsimp only;exact Nat.ne_of_lt (Nat.lt_of_lt_of_le (by have:=World.block_lt_of_cell? _ _ hw286_1;first|rwa [add_block] at this|exact this) GW287.out))) _).trans (hHeld.2.2.2.2.1)))),((cell_far (p:=⟨gb287,_,none⟩) (by first|exact Nat.ne_of_lt (Nat.lt_of_lt_of_le (by have:=World.block_lt_of_cell? _ _ hw286_2;first|rwa [add_block] at this|exact this) GW287.out)|(rw [add_block];exact Nat.ne_of_lt (Nat.lt_of_lt_of_le (by have:=World.block_lt_of_cell? _ _ hw286_2;first|rwa [add_block] at this|exact this) GW287.out))|(show (Addr.add _ _).block≠_;rw [add_block];exact Nat.ne_of_lt (Nat.lt_of_lt_of_le (by have:=World.block_lt_of_cell? _ _ hw286_2;first|rwa [add_block] at this|exact this) GW287.out))|(dsimp only;exact Nat.ne_of_lt (Nat.lt_of_lt_of_le (by have:=World.block_lt_of_cell? _ _ hw286_2;first|rwa [add_block] at this|exact this) GW287.out))) _).trans (((cell_far (p:=⟨gb287,_,none⟩) (by first|exact Nat.ne_of_lt (Nat.lt_of_lt_of_le (by have:=World.block_lt_of_cell? _ _ hw286_2;first|rwa [add_block] at this|exact this) GW287.out)|(rw [add_block];exact Nat.ne_of_lt (Nat.lt_of_lt_of_le (by have:=World.block_lt_of_cell? _ _ hw286_2;first|rwa [add_block] at this|exact this) GW287.out))|(show (Addr.add _ _).block≠_;rw [add_block];exact Nat.ne_of_lt (Nat.lt_of_lt_of_le (by have:=World.block_lt_of_cell? _ _ hw286_2;first|rwa [add_block] at this|exact this) GW287.out))|(dsimp only;exact Nat.ne_of_lt (Nat.lt_of_lt_of_le (by have:=World.block_lt_of_cell? _ _ hw286_2;first|rwa [add_block] at this|exact this) GW287.out))) _).trans (hHeld.2.2.2.2.2.1)))),((cell_far (p:=⟨gb287,_,none⟩) (by first|exact Nat.ne_of_lt (Nat.lt_of_lt_of_le (by have:=World.block_lt_of_cell? _ _ hw286_3;first|rwa [add_block] at this|exact this) GW287.out)|(rw [add_block];exact Nat.ne_of_lt (Nat.lt_of_lt_of_le (by have:=World.block_lt_of_cell? _ _ hw286_3;first|rwa [add_block] at this|exact this) GW287.out))|(show (Addr.add _ _).block≠_;rw [add_block];exact Nat.ne_of_lt (Nat.lt_of_lt_of_le (by have:=World.block_lt_of_cell? _ _ hw286_3;first|rwa [add_block] at this|exact this) GW287.out))|(dsimp only;exact Nat.ne_of_lt (Nat.lt_of_lt_of_le (by have:=World.block_lt_of_cell? _ _ hw286_3;first|rwa [add_block] at this|exact this) GW287.out))) _).trans (((cell_far (p:=⟨gb287,_,none⟩) (by first|exact Nat.ne_of_lt (Nat.lt_of_lt_of_le (by have:=World.block_lt_of_cell? _ _ hw286_3;first|rwa [add_block] at this|exact this) GW287.out)|(rw [add_block];exact Nat.ne_of_lt (Nat.lt_of_lt_of_le (by have:=World.block_lt_of_cell? _ _ hw286_3;first|rwa [add_block] at this|exact this) GW287.out))|(show (Addr.add _ _).block≠_;rw [add_block];exact Nat.ne_of_lt (Nat.lt_of_lt_of_le (by have:=World.block_lt_of_cell? _ _ hw286_3;first|rwa [add_block] at this|exact this) GW287.out))|(dsimp only;exact Nat.ne_of_lt (Nat.lt_of_lt_of_le (by have:=World.block_lt_of_cell? _ _ hw286_3;first|rwa [add_block] at this|exact this) GW287.out))) _).trans (hHeld.2.2.2.2.2.2))))⟩ (fun hHeld=>?_)
 clear hK K
 refine oP 11 none HT_ (fun K hK=>?_)
 have hs16:w13.cell? ⟨gb288,0,none⟩=some (.int .i64 0):=(blk_cell BK288.out 0).trans rfl
 have hfs16:=blk_frozen BK288.out 0
 have hns16_0:=NB282_288.out
 have hns16_1:=NB283_288.out
 have hns16_2:=NB287_288.out
 have hms16_0:=NB288_282.out
 have hms16_1:=NB288_283.out
 have hms16_2:=NB288_287.out
 have hs17:w13.cell? ⟨gb288,1,none⟩=some (.int .i64 0):=(blk_cell BK288.out 1).trans rfl
 have hfs17:=blk_frozen BK288.out 1
 have hns17_0:=NB282_288.out
 have hns17_1:=NB283_288.out
 have hns17_2:=NB287_288.out
 have hms17_0:=NB288_282.out
 have hms17_1:=NB288_283.out
 have hms17_2:=NB288_287.out
 refine skip_ (w1:=?_) (by rfl) rfl ?_ ?_
 rotate_left
 ·go_simp
  rfl
 refine hK.out _ _ ⟨((cell_far (p:=⟨gb288,_,none⟩) NB282_288.out _).trans (((cell_far (p:=⟨gb288,_,none⟩) NB282_288.out _).trans (hHeld.1)))),((cell_far (p:=⟨gb288,_,none⟩) NB282_288.out _).trans (((cell_far (p:=⟨gb288,_,none⟩) NB282_288.out _).trans (hHeld.2.1)))),((cell_far (p:=⟨gb288,_,none⟩) NB282_288.out _).trans (((cell_far (p:=⟨gb288,_,none⟩) NB282_288.out _).trans (hHeld.2.2.1)))),((cell_far (p:=⟨gb288,_,none⟩) (by first|exact Nat.ne_of_lt (Nat.lt_of_lt_of_le (by have:=World.block_lt_of_cell? _ _ hw286_0;first|rwa [add_block] at this|exact this) GW288.out)|(rw [add_block];exact Nat.ne_of_lt (Nat.lt_of_lt_of_le (by have:=World.block_lt_of_cell? _ _ hw286_0;first|rwa [add_block] at this|exact this) GW288.out))|(show (Addr.add _ _).block≠_;rw [add_block];exact Nat.ne_of_lt (Nat.lt_of_lt_of_le (by have:=World.block_lt_of_cell? _ _ hw286_0;first|rwa [add_block] at this|exact this) GW288.out))|(dsimp only;exact Nat.ne_of_lt (Nat.lt_of_lt_of_le (by have:=World.block_lt_of_cell? _ _ hw286_0;first|rwa [add_block] at this|exact this) GW288.out))) _).trans (((cell_far (p:=⟨gb288,_,none⟩) (by first|exact Nat.ne_of_lt (Nat.lt_of_lt_of_le (by have:=World.block_lt_of_cell? _ _ hw286_0;first|rwa [add_block] at this|exact this) GW288.out)|(rw [add_block];exact Nat.ne_of_lt (Nat.lt_of_lt_of_le (by have:=World.block_lt_of_cell? _ _ hw286_0;first|rwa [add_block] at this|exact this) GW288.out))|(show (Addr.add _ _).block≠_;rw [add_block];exact Nat.ne_of_lt (Nat.lt_of_lt_of_le (by have:=World.block_lt_of_cell? _ _ hw286_0;first|rwa [add_block] at this|exact this) GW288.out))|(dsimp only;exact Nat.ne_of_lt (Nat.lt_of_lt_of_le (by have:=World.block_lt_of_cell? _ _ hw286_0;first|rwa [add_block] at this|exact this) GW288.out))) _).trans (hHeld.2.2.2.1)))),((cell_far (p:=⟨gb288,_,none⟩) (by first|exact Nat.ne_of_lt (Nat.lt_of_lt_of_le (by have:=World.block_lt_of_cell? _ _ hw286_1;first|rwa [add_block] at this|exact this) GW288.out)|(rw [add_block];exact Nat.ne_of_lt (Nat.lt_of_lt_of_le (by have:=World.block_lt_of_cell? _ _ hw286_1;first|rwa [add_block] at this|exact this) GW288.out))|(show (Addr.add _ _).block≠_;rw [add_block];exact Nat.ne_of_lt (Nat.lt_of_lt_of_le (by have:=World.block_lt_of_cell? _ _ hw286_1;first|rwa [add_block] at this|exact this) GW288.out))|(dsimp only;exact Nat.ne_of_lt (Nat.lt_of_lt_of_le (by have:=World.block_lt_of_cell? _ _ hw286_1;first|rwa [add_block] at this|exact this) GW288.out))) _).trans (((cell_far (p:=⟨gb288,_,none⟩) (by first|exact Nat.ne_of_lt (Nat.lt_of_lt_of_le (by have:=World.block_lt_of_cell? _ _ hw286_1;first|rwa [add_block] at this|exact this) GW288.out)|(rw [add_block];exact Nat.ne_of_lt (Nat.lt_of_lt_of_le (by have:=World.block_lt_of_cell? _ _ hw286_1;first|rwa [add_block] at this|exact this) GW288.out))|(show (Addr.add _ _).block≠_;rw [add_block];exact Nat.ne_of_lt (Nat.lt_of_lt_of_le (by have:=World.block_lt_of_cell? _ _ hw286_1;first|rwa [add_block] at this|exact this) GW288.out))|(dsimp only;exact Nat.ne_of_lt (Nat.lt_of_lt_of_le (by have:=World.block_lt_of_cell? _ _ hw286_1;first|rwa [add_block] at this|exact this) GW288.out))) _).trans (hHeld.2.2.2.2.1)))),((cell_far (p:=⟨gb288,_,none⟩) (by first|exact Nat.ne_of_lt (Nat.lt_of_lt_of_le (by have:=World.block_lt_of_cell? _ _ hw286_2;first|rwa [add_block] at this|exact this) GW288.out)|(rw [add_block];exact Nat.ne_of_lt (Nat.lt_of_lt_of_le (by have:=World.block_lt_of_cell? _ _ hw286_2;first|rwa [add_block] at this|exact this) GW288.out))|(show (Addr.add _ _).block≠_;rw [add_block];exact Nat.ne_of_lt (Nat.lt_of_lt_of_le (by have:=World.block_lt_of_cell? _ _ hw286_2;first|rwa [add_block] at this|exact this) GW288.out))|(dsimp only;exact Nat.ne_of_lt (Nat.lt_of_lt_of_le (by have:=World.block_lt_of_cell? _ _ hw286_2;first|rwa [add_block] at this|exact this) GW288.out))) _).trans (((cell_far (p:=⟨gb288,_,none⟩) (by first|exact Nat.ne_of_lt (Nat.lt_of_lt_of_le (by have:=World.block_lt_of_cell? _ _ hw286_2;first|rwa [add_block] at this|exact this) GW288.out)|(rw [add_block];exact Nat.ne_of_lt (Nat.lt_of_lt_of_le (by have:=World.block_lt_of_cell? _ _ hw286_2;first|rwa [add_block] at this|exact this) GW288.out))|(show (Addr.add _ _).block≠_;rw [add_block];exact Nat.ne_of_lt (Nat.lt_of_lt_of_le (by have:=World.block_lt_of_cell? _ _ hw286_2;first|rwa [add_block] at this|exact this) GW288.out))|(dsimp only;exact Nat.ne_of_lt (Nat.lt_of_lt_of_le (by have:=World.block_lt_of_cell? _ _ hw286_2;first|rwa [add_block] at this|exact this) GW288.out))) _).trans (hHeld.2.2.2.2.2.1)))),((cell_far (p:=⟨gb288,_,none⟩) (by first|exact Nat.ne_of_lt (Nat.lt_of_lt_of_le (by have:=World.block_lt_of_cell? _ _ hw286_3;first|rwa [add_block] at this|exact this) GW288.out)|(rw [add_block];exact Nat.ne_of_lt (Nat.lt_of_lt_of_le (by have:=World.block_lt_of_cell? _ _ hw286_3;first|rwa [add_block] at this|exact this) GW288.out))|(show (Addr.add _ _).block≠_;rw [add_block];exact Nat.ne_of_lt (Nat.lt_of_lt_of_le (by have:=World.block_lt_of_cell? _ _ hw286_3;first|rwa [add_block] at this|exact this) GW288.out))|(dsimp only;exact Nat.ne_of_lt (Nat.lt_of_lt_of_le (by have:=World.block_lt_of_cell? _ _ hw286_3;first|rwa [add_block] at this|exact this) GW288.out))) _).trans (((cell_far (p:=⟨gb288,_,none⟩) (by first|exact Nat.ne_of_lt (Nat.lt_of_lt_of_le (by have:=World.block_lt_of_cell? _ _ hw286_3;first|rwa [add_block] at this|exact this) GW288.out)|(rw [add_block];exact Nat.ne_of_lt (Nat.lt_of_lt_of_le (by have:=World.block_lt_of_cell? _ _ hw286_3;first|rwa [add_block] at this|exact this) GW288.out))|(show (Addr.add _ _).block≠_;rw [add_block];exact Nat.ne_of_lt (Nat.lt_of_lt_of_le (by have:=World.block_lt_of_cell? _ _ hw286_3;first|rwa [add_block] at this|exact this) GW288.out))|(dsimp only;exact Nat.ne_of_lt (Nat.lt_of_lt_of_le (by have:=World.block_lt_of_cell? _ _ hw286_3;first|rwa [add_block] at this|exact this) GW288.out))) _).trans (hHeld.2.2.2.2.2.2))))⟩ (fun hHeld=>?_)
 clear hK K
 refine done_ (done_of HT_.out (by kernel_rfl)) ?_
 have hnb18:=NB288_282.out
 have hnc18:=NB282_288.out
 have hnb19:=NB288_283.out
 have hnc19:=NB283_288.out
 have hnb20:=NB288_287.out
 have hnc20:=NB287_288.out
 obtain ⟨_,_,_,_⟩:=xC2 BK288.out
 have hnb22:=NB282_283.out
 have hnc22:=NB283_282.out
 have hnb23:=NB282_287.out
 have hnc23:=NB287_282.out
 obtain ⟨_,_,_,_,_,_⟩:=xC3 BK282.out
 have hnb25:=NB287_283.out
 have hnc25:=NB283_287.out
 obtain ⟨_,_,_,_⟩:=xC2 BK287.out
 try go_wp2_with (first|((with_reducible refine gate_callee (f:=53) rfl ?_);refine gL (some 36) Try.func53 #[.agg #[.int .i64 ((rd_T50 l0_0 a1).f0.f0),.int .i64 ((rd_T50 l0_0 a1).f0.f1)],.agg #[.int .i64 (wrap64 (a0_1 - (wrap64 (t285 - ((rd_T50 l0_0 a1).f0.f1))))),.int .i64 (wrap64 (a0_2 - (wrap64 (t284 - ((rd_T50 l0_0 a1).f0.f0)))))]] ?_;(with_reducible refine (orders_common.calls ((rd_T50 l0_0 a1).f0.f0) ((rd_T50 l0_0 a1).f0.f1) (wrap64 (a0_1 - (wrap64 (t285 - ((rd_T50 l0_0 a1).f0.f1))))) (wrap64 (a0_2 - (wrap64 (t284 - ((rd_T50 l0_0 a1).f0.f0))))) t289 t290 t291 _ A6.out).mono ?_);rintro e w27 ⟨rfl,hb⟩;refine ⟨_,rfl,?_⟩;replace BK282:=qK (blk_below (g:=gb282) (o:=.cells #[.slice (some ad286) l0_0.length c0_0,.int .i64 a0_1,.int .i64 a0_2] 26 (0,0)) (by (with_reducible repeat (first|refine blk_drewN ?_ _|refine blk_drew ?_|refine blk_alloc ?_ _));refine blk_far ?_ NB282_288.out _;(with_reducible repeat (first|refine blk_drewN ?_ _|refine blk_drew ?_|refine blk_alloc ?_ _));refine blk_far ?_ NB282_288.out _;(with_reducible repeat (first|refine blk_drewN ?_ _|refine blk_drew ?_|refine blk_alloc ?_ _));refine blk_far ?_ NB282_287.out _;(with_reducible repeat (first|refine blk_drewN ?_ _|refine blk_drew ?_|refine blk_alloc ?_ _));refine blk_far ?_ NB282_287.out _;(with_reducible repeat (first|refine blk_drewN ?_ _|refine blk_drew ?_|refine blk_alloc ?_ _));exact BK282.out) hb);replace BK283:=qK (blk_below (g:=gb283) (o:=.cells #[.int .i64 0,.int .i64 0] 24 (0,0)) (by (with_reducible repeat (first|refine blk_drewN ?_ _|refine blk_drew ?_|refine blk_alloc ?_ _));refine blk_far ?_ NB283_288.out _;(with_reducible repeat (first|refine blk_drewN ?_ _|refine blk_drew ?_|refine blk_alloc ?_ _));refine blk_far ?_ NB283_288.out _;(with_reducible repeat (first|refine blk_drewN ?_ _|refine blk_drew ?_|refine blk_alloc ?_ _));refine blk_far ?_ NB283_287.out _;(with_reducible repeat (first|refine blk_drewN ?_ _|refine blk_drew ?_|refine blk_alloc ?_ _));refine blk_far ?_ NB283_287.out _;(with_reducible repeat (first|refine blk_drewN ?_ _|refine blk_drew ?_|refine blk_alloc ?_ _));exact BK283.out) hb);replace BK287:=qK (blk_below (g:=gb287) (o:=.cells #[.int .i64 t284,.int .i64 t285] 24 (0,0)) (by (with_reducible repeat (first|refine blk_drewN ?_ _|refine blk_drew ?_|refine blk_alloc ?_ _));refine blk_far ?_ NB287_288.out _;(with_reducible repeat (first|refine blk_drewN ?_ _|refine blk_drew ?_|refine blk_alloc ?_ _));refine blk_far ?_ NB287_288.out _;(with_reducible repeat (first|refine blk_drewN ?_ _|refine blk_drew ?_|refine blk_alloc ?_ _));refine blk_put (cs:=#[.int .i64 t284,.int .i64 0]) ?_ 1 _ rfl;(with_reducible repeat (first|refine blk_drewN ?_ _|refine blk_drew ?_|refine blk_alloc ?_ _));refine blk_put (cs:=#[.int .i64 0,.int .i64 0]) ?_ 0 _ rfl;(with_reducible repeat (first|refine blk_drewN ?_ _|refine blk_drew ?_|refine blk_alloc ?_ _));exact BK287.out) hb);replace BK288:=qK (blk_below (g:=gb288) (o:=.cells #[.int .i64 ((rd_T50 l0_0 a1).f0.f0),.int .i64 ((rd_T50 l0_0 a1).f0.f1)] 24 (0,0)) (by (with_reducible repeat (first|refine blk_drewN ?_ _|refine blk_drew ?_|refine blk_alloc ?_ _));refine blk_put (cs:=#[.int .i64 ((rd_T50 l0_0 a1).f0.f0),.int .i64 0]) ?_ 1 _ rfl;(with_reducible repeat (first|refine blk_drewN ?_ _|refine blk_drew ?_|refine blk_alloc ?_ _));refine blk_put (cs:=#[.int .i64 0,.int .i64 0]) ?_ 0 _ rfl;(with_reducible repeat (first|refine blk_drewN ?_ _|refine blk_drew ?_|refine blk_alloc ?_ _));refine blk_far ?_ NB288_287.out _;(with_reducible repeat (first|refine blk_drewN ?_ _|refine blk_drew ?_|refine blk_alloc ?_ _));refine blk_far ?_ NB288_287.out _;(with_reducible repeat (first|refine blk_drewN ?_ _|refine blk_drew ?_|refine blk_alloc ?_ _));exact BK288.out) hb);replace HB:=qK (bS hb);obtain ⟨_,_,_,_⟩:=xC2 BK287.out;obtain ⟨_,_,_,_⟩:=xC2 BK283.out))
 refine bodyPost_ret (results_cell_row rfl _ _ gb283 24 #[.int .i64 t289,.int .i64 t290] (0,0) _ rfl (by (with_reducible repeat (first|refine blk_drewN ?_ _|refine blk_drew ?_|refine blk_alloc ?_ _));refine blk_put (cs:=#[.int .i64 t289,.int .i64 0]) ?_ 1 _ rfl;(with_reducible repeat (first|refine blk_drewN ?_ _|refine blk_drew ?_|refine blk_alloc ?_ _));refine blk_put (cs:=#[.int .i64 0,.int .i64 0]) ?_ 0 _ rfl;(with_reducible repeat (first|refine blk_drewN ?_ _|refine blk_drew ?_|refine blk_alloc ?_ _));refine blk_far ?_ NB283_287.out _;(with_reducible repeat (first|refine blk_drewN ?_ _|refine blk_drew ?_|refine blk_alloc ?_ _));refine blk_far ?_ NB283_287.out _;(with_reducible repeat (first|refine blk_drewN ?_ _|refine blk_drew ?_|refine blk_alloc ?_ _));exact BK283.out) Try.underlying24 rfl (by kernel_rfl)) rfl ?_
 exact ⟨by first|rfl|(simp [errW_none,errW_some] <;> rfl)|(simp [*,errW_none,errW_some] <;> rfl),bA⟩
end Go.Proofs.Ythimaecnpkcmeaa.K
