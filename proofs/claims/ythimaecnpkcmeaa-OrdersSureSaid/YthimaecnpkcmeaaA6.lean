/- Contracts of Go functions and lemmas for them: each theorem states what one function returns and what it leaves of memory; its conditions stand in its statement. -/
import Derived.Test.YthimaecnpkcmeaaA3
import Derived.Test.YthimaecnpkcmeaaA5
set_option linter.unusedVariables false
set_option linter.unusedSimpArgs false
namespace Go.Proofs.Ythimaecnpkcmeaa.K
open Go.RowKit Go.Proofs.YthimaecnpkcmeaaW.PrintWords Go.Proofs.YthimaecnpkcmeaaW.PrintLast Go.Proofs.YthimaecnpkcmeaaW.PrintMore
attribute [local go_sem] max2_int min2_int max_two min_two max_three min_three max_four min_four   -- for this text's walks alone
set_option linter.unusedVariables false
set_option linter.unusedSimpArgs false
def orders_open.f (k:Nat) (l0_0:List (S50)) (a0_1:Int) (a0_2:Int) (l1:List Int) (a2:Int) (a3:Int):Option (List Int × Bool):=(orders_gains.f k l0_0 a0_1 a0_2 l1).bind fun t161=>((orders_total.f k t161).bind fun t164=>((orders_windowOf.f k l0_0 a0_1 a0_2 t164).bind fun bt165=>((orders_window_ends.f bt165.1 bt165.2.1 bt165.2.2.1 bt165.2.2.2.1 bt165.2.2.2.2).bind fun bt171=>(if (mx bt171.1 (wrap64 ((wrap64 (a2+1)) - bt165.2.1))) > bt171.2 then (some (([]:List Int),false)) else ((orders_window_seen.f bt165.1 bt165.2.1 bt165.2.2.1 bt165.2.2.2.1 bt165.2.2.2.2 (mx bt171.1 (wrap64 ((wrap64 (a2+1)) - bt165.2.1)))).bind fun bt173=>(if bt173.1≥a3 then (some (([]:List Int),false)) else (if bt173.2≤a2 then (some (([]:List Int),false)) else ((orders_shown.f k l0_0 a0_1 a0_2 l1 (mx bt171.1 (wrap64 ((wrap64 (a2+1)) - bt165.2.1)))).bind fun t176=>(some (t176,true))))))))))
def orders_open.T1:Bool × List (List Nat × List Nat):=(true,[([],[]),([],[]),([],[]),([1,2],[1,2]),([3,3],[3]),([0,4,4],[0,4]),([],[]),([6,5,5,0,1,2,3,4,5,6],[5,6])])
def orders_open.B1:List Nat:=[0,0,0,6,14,31,0,127]
theorem orders_open.tab1:rtab .any (opsOf Try.f48 1)=orders_open.T1:=by kernel_rfl
theorem orders_open.bits1:waitsOk orders_open.T1.2 orders_open.B1=true:=by kernel_rfl
set_option maxHeartbeats 8000000 in
set_option maxRecDepth 100000 in
theorem orders_open.calls (k:Nat) (A0_0:Option Addr) (c0_0:Nat) (l0_0:List (S50)) (a0_1:Int) (a0_2:Int) (A1:Option Addr) (c1:Nat) (l1:List Int) (a2:Int) (a3:Int) (r1:List Int) (r2:Bool) (w:World) (hr0_0:Kd.C k50 w A0_0 l0_0.length l0_0) (hc0_0:l0_0.length≤c0_0) (hr1:Kd.C (Kd.int .i64) w A1 l1.length l1) (hc1:l1.length≤c1) (h:orders_open.f k l0_0 a0_1 a0_2 l1 a2 a3=some (r1,r2)) :
 Calls Try.prog 48 #[.agg #[.slice A0_0 l0_0.length c0_0,.int .i64 a0_1,.int .i64 a0_2],.slice A1 l1.length c1,.int .i64 a2,.int .i64 a3] w fun e w'=>∃ v0_:Value,e= .returned (.tuple #[v0_,.bool r2])∧Kd.R (Kd.int .i64) 3 w' w.heap.size (fun _=>True) v0_ r1∧Below w.heap.size w w':=by
 have hu26:=Try.underlying26
 have hu105:=Try.underlying105
 have hu24:=Try.underlying24
 have HR0_0:=Aside0.mk hr0_0
 have HC0_0:=Aside0.mk hc0_0
 clear hr0_0 hc0_0
 have HR1:=Aside0.mk hr1
 have HC1:=Aside0.mk hc1
 clear hr1 hc1
 have HB:=Aside0.mk (Below.refl w.heap.size w)
 have H:((orders_gains.f k l0_0 a0_1 a0_2 l1).bind fun t161=>((orders_total.f k t161).bind fun t164=>((orders_windowOf.f k l0_0 a0_1 a0_2 t164).bind fun bt165=>((orders_window_ends.f bt165.1 bt165.2.1 bt165.2.2.1 bt165.2.2.2.1 bt165.2.2.2.2).bind fun bt171=>(if (mx bt171.1 (wrap64 ((wrap64 (a2+1)) - bt165.2.1))) > bt171.2 then (some (([]:List Int),false)) else ((orders_window_seen.f bt165.1 bt165.2.1 bt165.2.2.1 bt165.2.2.2.1 bt165.2.2.2.2 (mx bt171.1 (wrap64 ((wrap64 (a2+1)) - bt165.2.1)))).bind fun bt173=>(if bt173.1≥a3 then (some (([]:List Int),false)) else (if bt173.2≤a2 then (some (([]:List Int),false)) else ((orders_shown.f k l0_0 a0_1 a0_2 l1 (mx bt171.1 (wrap64 ((wrap64 (a2+1)) - bt165.2.1)))).bind fun t176=>(some (t176,true)))))))))))=some (r1,r2):=h
 clear h
 replace H:=Option.bind_eq_some_iff.mp H
 obtain ⟨t161,A50,H⟩:=H
 replace H:((orders_total.f k t161).bind fun t164=>((orders_windowOf.f k l0_0 a0_1 a0_2 t164).bind fun bt165=>((orders_window_ends.f bt165.1 bt165.2.1 bt165.2.2.1 bt165.2.2.2.1 bt165.2.2.2.2).bind fun bt171=>(if (mx bt171.1 (wrap64 ((wrap64 (a2+1)) - bt165.2.1))) > bt171.2 then (some (([]:List Int),false)) else ((orders_window_seen.f bt165.1 bt165.2.1 bt165.2.2.1 bt165.2.2.2.1 bt165.2.2.2.2 (mx bt171.1 (wrap64 ((wrap64 (a2+1)) - bt165.2.1)))).bind fun bt173=>(if bt173.1≥a3 then (some (([]:List Int),false)) else (if bt173.2≤a2 then (some (([]:List Int),false)) else ((orders_shown.f k l0_0 a0_1 a0_2 l1 (mx bt171.1 (wrap64 ((wrap64 (a2+1)) - bt165.2.1)))).bind fun t176=>(some (t176,true))))))))))=some (r1,r2):=H
 have A5:=Aside0.mk A50
 clear A50
 replace H:=Option.bind_eq_some_iff.mp H
 obtain ⟨t164,A60,H⟩:=H
 replace H:((orders_windowOf.f k l0_0 a0_1 a0_2 t164).bind fun bt165=>((orders_window_ends.f bt165.1 bt165.2.1 bt165.2.2.1 bt165.2.2.2.1 bt165.2.2.2.2).bind fun bt171=>(if (mx bt171.1 (wrap64 ((wrap64 (a2+1)) - bt165.2.1))) > bt171.2 then (some (([]:List Int),false)) else ((orders_window_seen.f bt165.1 bt165.2.1 bt165.2.2.1 bt165.2.2.2.1 bt165.2.2.2.2 (mx bt171.1 (wrap64 ((wrap64 (a2+1)) - bt165.2.1)))).bind fun bt173=>(if bt173.1≥a3 then (some (([]:List Int),false)) else (if bt173.2≤a2 then (some (([]:List Int),false)) else ((orders_shown.f k l0_0 a0_1 a0_2 l1 (mx bt171.1 (wrap64 ((wrap64 (a2+1)) - bt165.2.1)))).bind fun t176=>(some (t176,true)))))))))=some (r1,r2):=H
 have A6:=Aside0.mk A60
 clear A60
 replace H:=Option.bind_eq_some_iff.mp H
 obtain ⟨⟨t165,t166,t167,t168,t169⟩,A70,H⟩:=H
 replace H:((orders_window_ends.f t165 t166 t167 t168 t169).bind fun bt171=>(if (mx bt171.1 (wrap64 ((wrap64 (a2+1)) - t166))) > bt171.2 then (some (([]:List Int),false)) else ((orders_window_seen.f t165 t166 t167 t168 t169 (mx bt171.1 (wrap64 ((wrap64 (a2+1)) - t166)))).bind fun bt173=>(if bt173.1≥a3 then (some (([]:List Int),false)) else (if bt173.2≤a2 then (some (([]:List Int),false)) else ((orders_shown.f k l0_0 a0_1 a0_2 l1 (mx bt171.1 (wrap64 ((wrap64 (a2+1)) - t166)))).bind fun t176=>(some (t176,true))))))))=some (r1,r2):=H
 have A7:=Aside0.mk A70
 clear A70
 replace H:=Option.bind_eq_some_iff.mp H
 obtain ⟨⟨t171,t172⟩,A80,H⟩:=H
 replace H:(if (mx t171 (wrap64 ((wrap64 (a2+1)) - t166))) > t172 then (some (([]:List Int),false)) else ((orders_window_seen.f t165 t166 t167 t168 t169 (mx t171 (wrap64 ((wrap64 (a2+1)) - t166)))).bind fun bt173=>(if bt173.1≥a3 then (some (([]:List Int),false)) else (if bt173.2≤a2 then (some (([]:List Int),false)) else ((orders_shown.f k l0_0 a0_1 a0_2 l1 (mx t171 (wrap64 ((wrap64 (a2+1)) - t166)))).bind fun t176=>(some (t176,true)))))))=some (r1,r2):=H
 have A8:=Aside0.mk A80
 clear A80
 obtain ⟨ji9,hji9⟩ : ∃ j_:Int,(mx t171 (wrap64 ((wrap64 (a2+1)) - t166)))=j_:=⟨_,rfl⟩
 replace H:(if (ji9) > t172 then (some (([]:List Int),false)) else ((orders_window_seen.f t165 t166 t167 t168 t169 (ji9)).bind fun bt173=>(if bt173.1≥a3 then (some (([]:List Int),false)) else (if bt173.2≤a2 then (some (([]:List Int),false)) else ((orders_shown.f k l0_0 a0_1 a0_2 l1 (ji9)).bind fun t176=>(some (t176,true)))))))=some (r1,r2):=by first|(rw [hji9] at H;exact H)|(simp only [hji9] at H ⊢;exact H)
 (try rw [hji9] at A5)
 (try rw [hji9] at A6)
 (try rw [hji9] at A7)
 (try rw [hji9] at A8)
 have hji9_:(if t171 < (wrap64 ((wrap64 (a2+1)) - t166)) then (wrap64 ((wrap64 (a2+1)) - t166)) else t171)=ji9:=hji9
 by_cases c10:(ji9) > t172
 ·rw [if_pos c10] at H
  have c10b0:decide (t172 < (ji9))=true:=decide_eq_true c10
  clear c10
  simp only [Option.some.injEq,Prod.mk.injEq] at H
  obtain ⟨rfl,rfl⟩:=H
  go_enter Try.func48,Try.ntmps48
  try go_wp2_with (first|((with_reducible refine gate_dst (N:=4) rfl ?_);refine bE #[.slice A0_0 l0_0.length c0_0,.int .i64 a0_1,.int .i64 a0_2] 26 ?_;intro gb160 hg w11 hbox hb;have BK160:=qK (hbox);have GW160:=qK ((gS hg:w.heap.size≤gb160));have GE160:=qK ((gS hg:w.heap.size≤gb160));replace HB:=qK (bS hb);clear hb hbox hg))
  replace BK160:=qK (blk_drew BK160.out)
  replace HB:=qK (below_drew1 HB.out)
  refine start_ (n:=8) (S:=fun w'=>w'.cell? ⟨gb160,0,none⟩=some (.slice A0_0 l0_0.length c0_0)∧w'.cell? ⟨gb160,1,none⟩=some (.int .i64 a0_1)∧w'.cell? ⟨gb160,2,none⟩=some (.int .i64 a0_2)) (ds:=[]) #[false,false,false,false,false,false,false,false] (by kernel_rfl) rfl rfl ⟨(blk_cell BK160.out 0).trans rfl,(blk_cell BK160.out 1).trans rfl,(blk_cell BK160.out 2).trans rfl⟩ (fun hHeld=>?_);refine with_tabW orders_open.tab1 orders_open.bits1 (fun HT_ HW_=>?_)
  generalize w11.drew=w12 at BK160 HB hHeld ⊢
  refine pP 2 (some 17) HT_ ?_
  refine tP 0 (some 15) HT_ HW_ hHeld ?_
  refine tP 1 (some 16) HT_ HW_ hHeld ?_
  refine join_ (σ:=Value × Nat) 1 #[true,true,true,true,true,true,true,false] (fun s_=>[(18,s_.1),(19,.int .i64 t164),(20,.agg #[.int .i64 t165,.int .i64 t166,.int .i64 t167,.int .i64 t168,.int .i64 t169]),(10,.pointer (some ⟨s_.2,0,none⟩))]) (fun s_ w'=>(w'.cell? ⟨gb160,0,none⟩=some (.slice A0_0 l0_0.length c0_0)∧w'.cell? ⟨gb160,1,none⟩=some (.int .i64 a0_1)∧w'.cell? ⟨gb160,2,none⟩=some (.int .i64 a0_2))∧(Kd.R (Kd.int .i64) 3 w' w.heap.size (fun _=>True) s_.1 t161)∧(w'.heap[gb160]? = some (.cells #[.slice A0_0 l0_0.length c0_0,.int .i64 a0_1,.int .i64 a0_2] 26 (0,0)))∧(w'.heap[s_.2]? = some (.cells #[.int .i64 0,.int .i64 0,.int .i64 0,.int .i64 0,.int .i64 0] 105 (0,0)))∧(w.heap.size≤s_.2)∧(w.heap.size≤s_.2)∧(gb160≠s_.2)∧(s_.2≠gb160)∧(Below w.heap.size w w')) ?_ ?_
  rotate_left
  ·intro hCont
   refine two_ (i:=3) (j:=6) (Ni:=some 18) (Nj:=some 10) #[true,true,true,true,false,false,false,false] #[true,true,true,false,false,false,true,false] rfl rfl rfl rfl (two_of HT_.out (by kernel_rfl)) (by decide) (by decide) (fun K hK=>?_) (fun K hK=>?_)
   ·skip
    refine gO Try.func62 #[.agg #[.slice A0_0 l0_0.length c0_0,.int .i64 a0_1,.int .i64 a0_2],.slice A1 l1.length c1] ?_
    with_reducible refine (orders_gains.calls k _ _ l0_0 a0_1 a0_2 _ _ l1 t161 _ ?side1 ?side2 ?side3 ?side4 A5.out).mono ?_
    (case side1=>exact cS HR0_0.out)
    (case side2=>exact HC0_0.out)
    (case side3=>exact cS HR1.out)
    (case side4=>exact HC1.out)
    rintro e w13 ⟨v162,rfl,ho0,hb⟩
    refine ⟨_,rfl,?_⟩
    have HO163:=qK (Kd.R_lower ho0 bZ)
    replace BK160:=qK (bB BK160.out hb)
    replace HB:=qK (bS hb)
    (try clear hb)
    (try clear hb2)
    (try clear hk)
    (try clear hi)
    (try clear ho0)
    obtain ⟨Ao14,co14,eo14⟩:=Kd.R_slice HO163.out
    (first|subst eo14|(injection eo14 with f1_ f2_ f3_;have f4_:=f1_.symm;have f5_:=f3_.symm;clear f1_ f2_ f3_;subst f4_;subst f5_))
    refine hK.out _ _ ⟨(blk_cell BK160.out 0).trans rfl,(blk_cell BK160.out 1).trans rfl,(blk_cell BK160.out 2).trans rfl⟩ (fun hHeld=>?_)
    clear hK K
    refine nP ?_
    refine two_ (i:=4) (j:=6) (Ni:=some 19) (Nj:=some 10) #[true,true,true,true,true,false,false,false] #[true,true,true,true,false,false,true,false] rfl rfl rfl rfl (two_of HT_.out (by kernel_rfl)) (by decide) (by decide) (fun K hK=>?_) (fun K hK=>?_)
    ·skip
     refine gO Try.func66 #[.slice Ao14 t161.length co14] ?_
     with_reducible refine (orders_total.calls k _ _ t161 t164 _ ?side1 ?side2 A6.out).mono ?_
     (case side1=>exact cR (Kd.R_reads' HO163.out).2.2)
     (case side2=>exact (Kd.R_reads' HO163.out).2.1)
     rintro e w' ⟨rfl,⟨nd,rfl⟩⟩
     refine ⟨_,rfl,?_⟩
     refine hK.out _ _ ⟨(blk_cell BK160.out 0).trans rfl,(blk_cell BK160.out 1).trans rfl,(blk_cell BK160.out 2).trans rfl⟩ (fun hHeld=>?_)
     clear hK K
     refine nP ?_
     refine two_ (i:=5) (j:=6) (Ni:=some 20) (Nj:=some 10) #[true,true,true,true,true,true,false,false] #[true,true,true,true,true,false,true,false] rfl rfl rfl rfl (two_of HT_.out (by kernel_rfl)) (by decide) (by decide) (fun K hK=>?_) (fun K hK=>?_)
     ·skip
      refine gO Try.func64 #[.agg #[.slice A0_0 l0_0.length c0_0,.int .i64 a0_1,.int .i64 a0_2],.int .i64 t164] ?_
      with_reducible refine (orders_windowOf.calls k _ _ l0_0 a0_1 a0_2 t164 t165 t166 t167 t168 t169 _ ?side1 ?side2 A7.out).mono ?_
      (case side1=>repeat (first|exact (Kd.C_below HR0_0.out bA)|(with_reducible refine Kd.C_alloc ?_ _)|(with_reducible refine Kd.C_drewN ?_ _)|(with_reducible refine Kd.C_drew ?_)))
      (case side2=>exact HC0_0.out)
      rintro e w15 ⟨rfl,hb⟩
      refine ⟨_,rfl,?_⟩
      replace HO163:=qK (Kd.R_below (rS HO163.out) hb)
      replace BK160:=qK (bB BK160.out hb)
      replace HB:=qK (bS hb)
      (try clear hb)
      (try clear hb2)
      (try clear hk)
      (try clear hi)
      refine hK.out _ _ ⟨(blk_cell BK160.out 0).trans rfl,(blk_cell BK160.out 1).trans rfl,(blk_cell BK160.out 2).trans rfl⟩ (fun hHeld=>?_)
      clear hK K
      refine nP ?_
      refine oP 6 (some 10) HT_ (fun K hK=>?_)
      refine box_step ?hg (N:=10) ?hd (cs:=#[.int .i64 0,.int .i64 0,.int .i64 0,.int .i64 0,.int .i64 0]) (t:=105) ?hr ?_;(case hd=>rfl);(case hg=>rfl);(case hr=>first|(go_simp;done)|(go_simp;rfl))
      intro gb170 hg w16 hbox hb
      replace HO163:=qK (Kd.R_below (rS HO163.out) hb)
      have BK170:=qK (hbox)
      have GW170:=qK ((gS hg:w.heap.size≤gb170))
      have GE170:=qK ((gS hg:w.heap.size≤gb170))
      replace HB:=qK (bS hb)
      have NB160_170:=qK ((nL hg BK160.out:gb160≠gb170))
      have NB170_160:=qK ((nG hg BK160.out:gb170≠gb160))
      replace BK160:=qK (bB BK160.out hb)
      clear hb hbox hg
      refine hK.out _ _ ⟨(blk_cell BK160.out 0).trans rfl,(blk_cell BK160.out 1).trans rfl,(blk_cell BK160.out 2).trans rfl⟩ (fun hHeld=>?_)
      clear hK K
      refine nP ?_
      exact norm_ (by simp only [putAll,Act.put,List.setIfInBounds_toArray,List.set_cons_zero,List.set_cons_succ]) (hCont (.slice Ao14 t161.length co14,gb170) _ ⟨hHeld,(rS HO163.out),(bX BK160.out),(bX BK170.out),GW170.out,GE170.out,NB160_170.out,NB170_160.out,bA⟩)
     ·skip
      refine box_step ?hg (N:=10) ?hd (cs:=#[.int .i64 0,.int .i64 0,.int .i64 0,.int .i64 0,.int .i64 0]) (t:=105) ?hr ?_;(case hd=>rfl);(case hg=>rfl);(case hr=>first|(go_simp;done)|(go_simp;rfl))
      intro gb170 hg w15 hbox hb
      replace HO163:=qK (Kd.R_below (rS HO163.out) hb)
      have BK170:=qK (hbox)
      have GW170:=qK ((gS hg:w.heap.size≤gb170))
      have GE170:=qK ((gS hg:w.heap.size≤gb170))
      replace HB:=qK (bS hb)
      have NB160_170:=qK ((nL hg BK160.out:gb160≠gb170))
      have NB170_160:=qK ((nG hg BK160.out:gb170≠gb160))
      replace BK160:=qK (bB BK160.out hb)
      clear hb hbox hg
      refine hK.out _ _ ⟨(blk_cell BK160.out 0).trans rfl,(blk_cell BK160.out 1).trans rfl,(blk_cell BK160.out 2).trans rfl⟩ (fun hHeld=>?_)
      clear hK K
      refine nP ?_
      refine oP 5 (some 20) HT_ (fun K hK=>?_)
      refine gO Try.func64 #[.agg #[.slice A0_0 l0_0.length c0_0,.int .i64 a0_1,.int .i64 a0_2],.int .i64 t164] ?_
      with_reducible refine (orders_windowOf.calls k _ _ l0_0 a0_1 a0_2 t164 t165 t166 t167 t168 t169 _ ?side1 ?side2 A7.out).mono ?_
      (case side1=>exact cS HR0_0.out)
      (case side2=>exact HC0_0.out)
      rintro e w16 ⟨rfl,hb⟩
      refine ⟨_,rfl,?_⟩
      replace HO163:=qK (Kd.R_below (rS HO163.out) hb)
      replace BK160:=qK (bB BK160.out hb)
      replace BK170:=qK (bB BK170.out hb)
      replace HB:=qK (bS hb)
      (try clear hb)
      (try clear hb2)
      (try clear hk)
      (try clear hi)
      refine hK.out _ _ ⟨(blk_cell BK160.out 0).trans rfl,(blk_cell BK160.out 1).trans rfl,(blk_cell BK160.out 2).trans rfl⟩ (fun hHeld=>?_)
      clear hK K
      refine nP ?_
      exact norm_ (by simp only [putAll,Act.put,List.setIfInBounds_toArray,List.set_cons_zero,List.set_cons_succ]) (hCont (.slice Ao14 t161.length co14,gb170) _ ⟨hHeld,(rS HO163.out),(bX BK160.out),(bX BK170.out),GW170.out,GE170.out,NB160_170.out,NB170_160.out,bA⟩)
    ·skip
     refine box_step ?hg (N:=10) ?hd (cs:=#[.int .i64 0,.int .i64 0,.int .i64 0,.int .i64 0,.int .i64 0]) (t:=105) ?hr ?_;(case hd=>rfl);(case hg=>rfl);(case hr=>first|(go_simp;done)|(go_simp;rfl))
     intro gb170 hg w14 hbox hb
     replace HO163:=qK (Kd.R_below (rS HO163.out) hb)
     have BK170:=qK (hbox)
     have GW170:=qK ((gS hg:w.heap.size≤gb170))
     have GE170:=qK ((gS hg:w.heap.size≤gb170))
     replace HB:=qK (bS hb)
     have NB160_170:=qK ((nL hg BK160.out:gb160≠gb170))
     have NB170_160:=qK ((nG hg BK160.out:gb170≠gb160))
     replace BK160:=qK (bB BK160.out hb)
     clear hb hbox hg
     obtain ⟨Ao15,co15,eo15⟩:=Kd.R_slice HO163.out
     (first|subst eo15|(injection eo15 with f1_ f2_ f3_;have f4_:=f1_.symm;have f5_:=f3_.symm;clear f1_ f2_ f3_;subst f4_;subst f5_))
     refine hK.out _ _ ⟨(blk_cell BK160.out 0).trans rfl,(blk_cell BK160.out 1).trans rfl,(blk_cell BK160.out 2).trans rfl⟩ (fun hHeld=>?_)
     clear hK K
     refine nP ?_
     refine oP 4 (some 19) HT_ (fun K hK=>?_)
     refine gO Try.func66 #[.slice Ao15 t161.length co15] ?_
     with_reducible refine (orders_total.calls k _ _ t161 t164 _ ?side1 ?side2 A6.out).mono ?_
     (case side1=>exact cR (Kd.R_reads' HO163.out).2.2)
     (case side2=>exact (Kd.R_reads' HO163.out).2.1)
     rintro e w' ⟨rfl,⟨nd,rfl⟩⟩
     refine ⟨_,rfl,?_⟩
     refine hK.out _ _ ⟨(blk_cell BK160.out 0).trans rfl,(blk_cell BK160.out 1).trans rfl,(blk_cell BK160.out 2).trans rfl⟩ (fun hHeld=>?_)
     clear hK K
     refine nP ?_
     refine oP 5 (some 20) HT_ (fun K hK=>?_)
     refine gO Try.func64 #[.agg #[.slice A0_0 l0_0.length c0_0,.int .i64 a0_1,.int .i64 a0_2],.int .i64 t164] ?_
     with_reducible refine (orders_windowOf.calls k _ _ l0_0 a0_1 a0_2 t164 t165 t166 t167 t168 t169 _ ?side1 ?side2 A7.out).mono ?_
     (case side1=>repeat (first|exact (Kd.C_below HR0_0.out bA)|(with_reducible refine Kd.C_alloc ?_ _)|(with_reducible refine Kd.C_drewN ?_ _)|(with_reducible refine Kd.C_drew ?_)))
     (case side2=>exact HC0_0.out)
     rintro e w16 ⟨rfl,hb⟩
     refine ⟨_,rfl,?_⟩
     replace HO163:=qK (Kd.R_below (rS HO163.out) hb)
     replace BK160:=qK (bB BK160.out hb)
     replace BK170:=qK (bB BK170.out hb)
     replace HB:=qK (bS hb)
     (try clear hb)
     (try clear hb2)
     (try clear hk)
     (try clear hi)
     refine hK.out _ _ ⟨(blk_cell BK160.out 0).trans rfl,(blk_cell BK160.out 1).trans rfl,(blk_cell BK160.out 2).trans rfl⟩ (fun hHeld=>?_)
     clear hK K
     refine nP ?_
     exact norm_ (by simp only [putAll,Act.put,List.setIfInBounds_toArray,List.set_cons_zero,List.set_cons_succ]) (hCont (.slice Ao15 t161.length co15,gb170) _ ⟨hHeld,(rS HO163.out),(bX BK160.out),(bX BK170.out),GW170.out,GE170.out,NB160_170.out,NB170_160.out,bA⟩)
   ·skip
    refine box_step ?hg (N:=10) ?hd (cs:=#[.int .i64 0,.int .i64 0,.int .i64 0,.int .i64 0,.int .i64 0]) (t:=105) ?hr ?_;(case hd=>rfl);(case hg=>rfl);(case hr=>first|(go_simp;done)|(go_simp;rfl))
    intro gb170 hg w13 hbox hb
    have BK170:=qK (hbox)
    have GW170:=qK ((gS hg:w.heap.size≤gb170))
    have GE170:=qK ((gS hg:w.heap.size≤gb170))
    replace HB:=qK (bS hb)
    have NB160_170:=qK ((nL hg BK160.out:gb160≠gb170))
    have NB170_160:=qK ((nG hg BK160.out:gb170≠gb160))
    replace BK160:=qK (bB BK160.out hb)
    clear hb hbox hg
    refine hK.out _ _ ⟨(blk_cell BK160.out 0).trans rfl,(blk_cell BK160.out 1).trans rfl,(blk_cell BK160.out 2).trans rfl⟩ (fun hHeld=>?_)
    clear hK K
    refine nP ?_
    refine oP 3 (some 18) HT_ (fun K hK=>?_)
    refine gO Try.func62 #[.agg #[.slice A0_0 l0_0.length c0_0,.int .i64 a0_1,.int .i64 a0_2],.slice A1 l1.length c1] ?_
    with_reducible refine (orders_gains.calls k _ _ l0_0 a0_1 a0_2 _ _ l1 t161 _ ?side1 ?side2 ?side3 ?side4 A5.out).mono ?_
    (case side1=>exact cS HR0_0.out)
    (case side2=>exact HC0_0.out)
    (case side3=>exact cS HR1.out)
    (case side4=>exact HC1.out)
    rintro e w14 ⟨v162,rfl,ho0,hb⟩
    refine ⟨_,rfl,?_⟩
    have HO163:=qK (Kd.R_lower ho0 bZ)
    replace BK160:=qK (bB BK160.out hb)
    replace BK170:=qK (bB BK170.out hb)
    replace HB:=qK (bS hb)
    (try clear hb)
    (try clear hb2)
    (try clear hk)
    (try clear hi)
    (try clear ho0)
    obtain ⟨Ao15,co15,eo15⟩:=Kd.R_slice HO163.out
    (first|subst eo15|(injection eo15 with f1_ f2_ f3_;have f4_:=f1_.symm;have f5_:=f3_.symm;clear f1_ f2_ f3_;subst f4_;subst f5_))
    refine hK.out _ _ ⟨(blk_cell BK160.out 0).trans rfl,(blk_cell BK160.out 1).trans rfl,(blk_cell BK160.out 2).trans rfl⟩ (fun hHeld=>?_)
    clear hK K
    refine nP ?_
    refine oP 4 (some 19) HT_ (fun K hK=>?_)
    refine gO Try.func66 #[.slice Ao15 t161.length co15] ?_
    with_reducible refine (orders_total.calls k _ _ t161 t164 _ ?side1 ?side2 A6.out).mono ?_
    (case side1=>exact cR (Kd.R_reads' HO163.out).2.2)
    (case side2=>exact (Kd.R_reads' HO163.out).2.1)
    rintro e w' ⟨rfl,⟨nd,rfl⟩⟩
    refine ⟨_,rfl,?_⟩
    refine hK.out _ _ ⟨(blk_cell BK160.out 0).trans rfl,(blk_cell BK160.out 1).trans rfl,(blk_cell BK160.out 2).trans rfl⟩ (fun hHeld=>?_)
    clear hK K
    refine nP ?_
    refine oP 5 (some 20) HT_ (fun K hK=>?_)
    refine gO Try.func64 #[.agg #[.slice A0_0 l0_0.length c0_0,.int .i64 a0_1,.int .i64 a0_2],.int .i64 t164] ?_
    with_reducible refine (orders_windowOf.calls k _ _ l0_0 a0_1 a0_2 t164 t165 t166 t167 t168 t169 _ ?side1 ?side2 A7.out).mono ?_
    (case side1=>repeat (first|exact (Kd.C_below HR0_0.out bA)|(with_reducible refine Kd.C_alloc ?_ _)|(with_reducible refine Kd.C_drewN ?_ _)|(with_reducible refine Kd.C_drew ?_)))
    (case side2=>exact HC0_0.out)
    rintro e w16 ⟨rfl,hb⟩
    refine ⟨_,rfl,?_⟩
    replace HO163:=qK (Kd.R_below (rS HO163.out) hb)
    replace BK160:=qK (bB BK160.out hb)
    replace BK170:=qK (bB BK170.out hb)
    replace HB:=qK (bS hb)
    (try clear hb)
    (try clear hb2)
    (try clear hk)
    (try clear hi)
    refine hK.out _ _ ⟨(blk_cell BK160.out 0).trans rfl,(blk_cell BK160.out 1).trans rfl,(blk_cell BK160.out 2).trans rfl⟩ (fun hHeld=>?_)
    clear hK K
    refine nP ?_
    exact norm_ (by simp only [putAll,Act.put,List.setIfInBounds_toArray,List.set_cons_zero,List.set_cons_succ]) (hCont (.slice Ao15 t161.length co15,gb170) _ ⟨hHeld,(rS HO163.out),(bX BK160.out),(bX BK170.out),GW170.out,GE170.out,NB160_170.out,NB170_160.out,bA⟩)
  rintro ⟨v162,gb170⟩ w17 ⟨hS_,h0_,h1_,h2_,h3_,h4_,h5_,h6_,h7_⟩
  have n0_:Aside0 (Kd.R (Kd.int .i64) 3 w17 w.heap.size (fun _=>True) v162 t161):=⟨h0_⟩
  have n1_:Aside0 (w17.heap[gb160]? = some (.cells #[.slice A0_0 l0_0.length c0_0,.int .i64 a0_1,.int .i64 a0_2] 26 (0,0))):=⟨h1_⟩
  have n2_:Aside0 (w17.heap[gb170]? = some (.cells #[.int .i64 0,.int .i64 0,.int .i64 0,.int .i64 0,.int .i64 0] 105 (0,0))):=⟨h2_⟩
  have n3_:Aside0 (w.heap.size≤gb170):=⟨h3_⟩
  have n4_:Aside0 (w.heap.size≤gb170):=⟨h4_⟩
  have n5_:Aside0 (gb160≠gb170):=⟨h5_⟩
  have n6_:Aside0 (gb170≠gb160):=⟨h6_⟩
  have n7_:Aside0 (Below w.heap.size w w17):=⟨h7_⟩
  clear BK160
  clear HB
  clear h0_ h1_ h2_ h3_ h4_ h5_ h6_ h7_
  have HO163:=n0_
  have BK160:=n1_
  have BK170:=n2_
  have GW170:=n3_
  have GE170:=n4_
  have NB160_170:=n5_
  have NB170_160:=n6_
  have HB:=n7_
  clear n0_ n1_ n2_ n3_ n4_ n5_ n6_ n7_
  have hHeld:w17.cell? ⟨gb160,0,none⟩=some (.slice A0_0 l0_0.length c0_0)∧w17.cell? ⟨gb160,1,none⟩=some (.int .i64 a0_1)∧w17.cell? ⟨gb160,2,none⟩=some (.int .i64 a0_2):=hS_
  refine norm_ (a':=?_) ?_ ?_
  rotate_left
  ·simp only [putAll,Act.put,List.setIfInBounds_toArray,List.set_cons_zero,List.set_cons_succ]
   rfl
  refine oP 7 none HT_ (fun K hK=>?_)
  have hs18:w17.cell? ⟨gb170,0,none⟩=some (.int .i64 0):=(blk_cell BK170.out 0).trans rfl
  have hfs18:=blk_frozen BK170.out 0
  have hns18_0:=NB160_170.out
  have hms18_0:=NB170_160.out
  have hs19:w17.cell? ⟨gb170,1,none⟩=some (.int .i64 0):=(blk_cell BK170.out 1).trans rfl
  have hfs19:=blk_frozen BK170.out 1
  have hns19_0:=NB160_170.out
  have hms19_0:=NB170_160.out
  have hs20:w17.cell? ⟨gb170,2,none⟩=some (.int .i64 0):=(blk_cell BK170.out 2).trans rfl
  have hfs20:=blk_frozen BK170.out 2
  have hns20_0:=NB160_170.out
  have hms20_0:=NB170_160.out
  have hs21:w17.cell? ⟨gb170,3,none⟩=some (.int .i64 0):=(blk_cell BK170.out 3).trans rfl
  have hfs21:=blk_frozen BK170.out 3
  have hns21_0:=NB160_170.out
  have hms21_0:=NB170_160.out
  have hs22:w17.cell? ⟨gb170,4,none⟩=some (.int .i64 0):=(blk_cell BK170.out 4).trans rfl
  have hfs22:=blk_frozen BK170.out 4
  have hns22_0:=NB160_170.out
  have hms22_0:=NB170_160.out
  refine skip_ (w1:=?_) (by rfl) rfl ?_ ?_
  rotate_left
  ·go_simp
   rfl
  refine hK.out _ _ ⟨((cell_far (p:=⟨gb170,_,none⟩) NB160_170.out _).trans (((cell_far (p:=⟨gb170,_,none⟩) NB160_170.out _).trans (((cell_far (p:=⟨gb170,_,none⟩) NB160_170.out _).trans (((cell_far (p:=⟨gb170,_,none⟩) NB160_170.out _).trans (((cell_far (p:=⟨gb170,_,none⟩) NB160_170.out _).trans (hHeld.1)))))))))),((cell_far (p:=⟨gb170,_,none⟩) NB160_170.out _).trans (((cell_far (p:=⟨gb170,_,none⟩) NB160_170.out _).trans (((cell_far (p:=⟨gb170,_,none⟩) NB160_170.out _).trans (((cell_far (p:=⟨gb170,_,none⟩) NB160_170.out _).trans (((cell_far (p:=⟨gb170,_,none⟩) NB160_170.out _).trans (hHeld.2.1)))))))))),((cell_far (p:=⟨gb170,_,none⟩) NB160_170.out _).trans (((cell_far (p:=⟨gb170,_,none⟩) NB160_170.out _).trans (((cell_far (p:=⟨gb170,_,none⟩) NB160_170.out _).trans (((cell_far (p:=⟨gb170,_,none⟩) NB160_170.out _).trans (((cell_far (p:=⟨gb170,_,none⟩) NB160_170.out _).trans (hHeld.2.2))))))))))⟩ (fun hHeld=>?_)
  clear hK K
  refine done_ (done_of HT_.out (by kernel_rfl)) ?_
  have hnb23:=NB170_160.out
  have hnc23:=NB160_170.out
  obtain ⟨_,_,_,_,_,_,_,_,_,_⟩:=xC5 BK170.out
  try go_wp2_with (first|((with_reducible refine gate_callee (f:=78) rfl ?_);refine gL (some 23) Try.func78 #[.agg #[.int .i64 t165,.int .i64 t166,.int .i64 t167,.int .i64 t168,.int .i64 t169]] ?_;(with_reducible refine (orders_window_ends.calls t165 t166 t167 t168 t169 t171 t172 _ A8.out).mono ?_);rintro e w25 ⟨rfl,hb⟩;refine ⟨_,rfl,?_⟩;replace HO163:=qK (Kd.R_below (rS ((Kd.R_mono (Kd.R_far (p:=⟨gb170,4,none⟩) (Kd.R_far (p:=⟨gb170,3,none⟩) (Kd.R_far (p:=⟨gb170,2,none⟩) (Kd.R_far (p:=⟨gb170,1,none⟩) (Kd.R_far (p:=⟨gb170,0,none⟩) (Kd.R_types HO163.out BK170.out (by decide)) (fun _ hk=>hk.2) (.int .i64 t165)) (fun _ hk=>hk.2) (.int .i64 t166)) (fun _ hk=>hk.2) (.int .i64 t167)) (fun _ hk=>hk.2) (.int .i64 t168)) (fun _ hk=>hk.2) (.int .i64 t169)) (fun _ h_=>h_.1)))) hb);replace BK160:=qK (blk_below (g:=gb160) (o:=.cells #[.slice A0_0 l0_0.length c0_0,.int .i64 a0_1,.int .i64 a0_2] 26 (0,0)) (by (with_reducible repeat (first|refine blk_drewN ?_ _|refine blk_drew ?_|refine blk_alloc ?_ _));refine blk_far ?_ NB160_170.out _;(with_reducible repeat (first|refine blk_drewN ?_ _|refine blk_drew ?_|refine blk_alloc ?_ _));refine blk_far ?_ NB160_170.out _;(with_reducible repeat (first|refine blk_drewN ?_ _|refine blk_drew ?_|refine blk_alloc ?_ _));refine blk_far ?_ NB160_170.out _;(with_reducible repeat (first|refine blk_drewN ?_ _|refine blk_drew ?_|refine blk_alloc ?_ _));refine blk_far ?_ NB160_170.out _;(with_reducible repeat (first|refine blk_drewN ?_ _|refine blk_drew ?_|refine blk_alloc ?_ _));refine blk_far ?_ NB160_170.out _;(with_reducible repeat (first|refine blk_drewN ?_ _|refine blk_drew ?_|refine blk_alloc ?_ _));exact BK160.out) hb);replace BK170:=qK (blk_below (g:=gb170) (o:=.cells #[.int .i64 t165,.int .i64 t166,.int .i64 t167,.int .i64 t168,.int .i64 t169] 105 (0,0)) (by (with_reducible repeat (first|refine blk_drewN ?_ _|refine blk_drew ?_|refine blk_alloc ?_ _));refine blk_put (cs:=#[.int .i64 t165,.int .i64 t166,.int .i64 t167,.int .i64 t168,.int .i64 0]) ?_ 4 _ rfl;(with_reducible repeat (first|refine blk_drewN ?_ _|refine blk_drew ?_|refine blk_alloc ?_ _));refine blk_put (cs:=#[.int .i64 t165,.int .i64 t166,.int .i64 t167,.int .i64 0,.int .i64 0]) ?_ 3 _ rfl;(with_reducible repeat (first|refine blk_drewN ?_ _|refine blk_drew ?_|refine blk_alloc ?_ _));refine blk_put (cs:=#[.int .i64 t165,.int .i64 t166,.int .i64 0,.int .i64 0,.int .i64 0]) ?_ 2 _ rfl;(with_reducible repeat (first|refine blk_drewN ?_ _|refine blk_drew ?_|refine blk_alloc ?_ _));refine blk_put (cs:=#[.int .i64 t165,.int .i64 0,.int .i64 0,.int .i64 0,.int .i64 0]) ?_ 1 _ rfl;(with_reducible repeat (first|refine blk_drewN ?_ _|refine blk_drew ?_|refine blk_alloc ?_ _));refine blk_put (cs:=#[.int .i64 0,.int .i64 0,.int .i64 0,.int .i64 0,.int .i64 0]) ?_ 0 _ rfl;(with_reducible repeat (first|refine blk_drewN ?_ _|refine blk_drew ?_|refine blk_alloc ?_ _));exact BK170.out) hb);replace HB:=qK (bS hb);obtain ⟨_,_,_,_,_,_,_,_,_,_⟩:=xC5 BK170.out))
  go_ret2
  exact ⟨_,by first|rfl|(simp [errW_none,errW_some] <;> rfl)|(simp only [← hji9];first|rfl|(simp [errW_none,errW_some] <;> rfl))|(simp [*,errW_none,errW_some] <;> rfl),by first|exact Kd.R_nil _ _ _ _ _|exact Kd.N_nil _ _ _ _ _|exact Kd.V_nil _ _ _ _ _|exact Kd.Q_nil _ _ _ _ _|exact Kd.S_nil _ _ _ _ _,bA⟩
 rw [if_neg c10] at H
 have c10b0:decide (t172 < (ji9))=false:=decide_eq_false c10
 clear c10
 replace H:=Option.bind_eq_some_iff.mp H
 obtain ⟨⟨t173,t174⟩,A270,H⟩:=H
 replace H:(if t173≥a3 then (some (([]:List Int),false)) else (if t174≤a2 then (some (([]:List Int),false)) else ((orders_shown.f k l0_0 a0_1 a0_2 l1 (ji9)).bind fun t176=>(some (t176,true)))))=some (r1,r2):=H
 have A27:=Aside0.mk A270
 clear A270
 by_cases c28:t173≥a3
 ·rw [if_pos c28] at H
  have c28b0:decide (a3≤t173)=true:=decide_eq_true c28
  clear c28
  simp only [Option.some.injEq,Prod.mk.injEq] at H
  obtain ⟨rfl,rfl⟩:=H
  go_enter Try.func48,Try.ntmps48
  try go_wp2_with (first|((with_reducible refine gate_dst (N:=4) rfl ?_);refine bE #[.slice A0_0 l0_0.length c0_0,.int .i64 a0_1,.int .i64 a0_2] 26 ?_;intro gb160 hg w29 hbox hb;have BK160:=qK (hbox);have GW160:=qK ((gS hg:w.heap.size≤gb160));have GE160:=qK ((gS hg:w.heap.size≤gb160));replace HB:=qK (bS hb);clear hb hbox hg))
  replace BK160:=qK (blk_drew BK160.out)
  replace HB:=qK (below_drew1 HB.out)
  refine start_ (n:=8) (S:=fun w'=>w'.cell? ⟨gb160,0,none⟩=some (.slice A0_0 l0_0.length c0_0)∧w'.cell? ⟨gb160,1,none⟩=some (.int .i64 a0_1)∧w'.cell? ⟨gb160,2,none⟩=some (.int .i64 a0_2)) (ds:=[]) #[false,false,false,false,false,false,false,false] (by kernel_rfl) rfl rfl ⟨(blk_cell BK160.out 0).trans rfl,(blk_cell BK160.out 1).trans rfl,(blk_cell BK160.out 2).trans rfl⟩ (fun hHeld=>?_);refine with_tabW orders_open.tab1 orders_open.bits1 (fun HT_ HW_=>?_)
  generalize w29.drew=w30 at BK160 HB hHeld ⊢
  refine pP 2 (some 17) HT_ ?_
  refine tP 0 (some 15) HT_ HW_ hHeld ?_
  refine tP 1 (some 16) HT_ HW_ hHeld ?_
  refine join_ (σ:=Value × Nat) 1 #[true,true,true,true,true,true,true,false] (fun s_=>[(18,s_.1),(19,.int .i64 t164),(20,.agg #[.int .i64 t165,.int .i64 t166,.int .i64 t167,.int .i64 t168,.int .i64 t169]),(10,.pointer (some ⟨s_.2,0,none⟩))]) (fun s_ w'=>(w'.cell? ⟨gb160,0,none⟩=some (.slice A0_0 l0_0.length c0_0)∧w'.cell? ⟨gb160,1,none⟩=some (.int .i64 a0_1)∧w'.cell? ⟨gb160,2,none⟩=some (.int .i64 a0_2))∧(Kd.R (Kd.int .i64) 3 w' w.heap.size (fun _=>True) s_.1 t161)∧(w'.heap[gb160]? = some (.cells #[.slice A0_0 l0_0.length c0_0,.int .i64 a0_1,.int .i64 a0_2] 26 (0,0)))∧(w'.heap[s_.2]? = some (.cells #[.int .i64 0,.int .i64 0,.int .i64 0,.int .i64 0,.int .i64 0] 105 (0,0)))∧(w.heap.size≤s_.2)∧(w.heap.size≤s_.2)∧(gb160≠s_.2)∧(s_.2≠gb160)∧(Below w.heap.size w w')) ?_ ?_
  rotate_left
  ·intro hCont
   refine two_ (i:=3) (j:=6) (Ni:=some 18) (Nj:=some 10) #[true,true,true,true,false,false,false,false] #[true,true,true,false,false,false,true,false] rfl rfl rfl rfl (two_of HT_.out (by kernel_rfl)) (by decide) (by decide) (fun K hK=>?_) (fun K hK=>?_)
   ·skip
    refine gO Try.func62 #[.agg #[.slice A0_0 l0_0.length c0_0,.int .i64 a0_1,.int .i64 a0_2],.slice A1 l1.length c1] ?_
    with_reducible refine (orders_gains.calls k _ _ l0_0 a0_1 a0_2 _ _ l1 t161 _ ?side1 ?side2 ?side3 ?side4 A5.out).mono ?_
    (case side1=>exact cS HR0_0.out)
    (case side2=>exact HC0_0.out)
    (case side3=>exact cS HR1.out)
    (case side4=>exact HC1.out)
    rintro e w31 ⟨v162,rfl,ho0,hb⟩
    refine ⟨_,rfl,?_⟩
    have HO163:=qK (Kd.R_lower ho0 bZ)
    replace BK160:=qK (bB BK160.out hb)
    replace HB:=qK (bS hb)
    (try clear hb)
    (try clear hb2)
    (try clear hk)
    (try clear hi)
    (try clear ho0)
    obtain ⟨Ao32,co32,eo32⟩:=Kd.R_slice HO163.out
    (first|subst eo32|(injection eo32 with f1_ f2_ f3_;have f4_:=f1_.symm;have f5_:=f3_.symm;clear f1_ f2_ f3_;subst f4_;subst f5_))
    refine hK.out _ _ ⟨(blk_cell BK160.out 0).trans rfl,(blk_cell BK160.out 1).trans rfl,(blk_cell BK160.out 2).trans rfl⟩ (fun hHeld=>?_)
    clear hK K
    refine nP ?_
    refine two_ (i:=4) (j:=6) (Ni:=some 19) (Nj:=some 10) #[true,true,true,true,true,false,false,false] #[true,true,true,true,false,false,true,false] rfl rfl rfl rfl (two_of HT_.out (by kernel_rfl)) (by decide) (by decide) (fun K hK=>?_) (fun K hK=>?_)
    ·skip
     refine gO Try.func66 #[.slice Ao32 t161.length co32] ?_
     with_reducible refine (orders_total.calls k _ _ t161 t164 _ ?side1 ?side2 A6.out).mono ?_
     (case side1=>exact cR (Kd.R_reads' HO163.out).2.2)
     (case side2=>exact (Kd.R_reads' HO163.out).2.1)
     rintro e w' ⟨rfl,⟨nd,rfl⟩⟩
     refine ⟨_,rfl,?_⟩
     refine hK.out _ _ ⟨(blk_cell BK160.out 0).trans rfl,(blk_cell BK160.out 1).trans rfl,(blk_cell BK160.out 2).trans rfl⟩ (fun hHeld=>?_)
     clear hK K
     refine nP ?_
     refine two_ (i:=5) (j:=6) (Ni:=some 20) (Nj:=some 10) #[true,true,true,true,true,true,false,false] #[true,true,true,true,true,false,true,false] rfl rfl rfl rfl (two_of HT_.out (by kernel_rfl)) (by decide) (by decide) (fun K hK=>?_) (fun K hK=>?_)
     ·skip
      refine gO Try.func64 #[.agg #[.slice A0_0 l0_0.length c0_0,.int .i64 a0_1,.int .i64 a0_2],.int .i64 t164] ?_
      with_reducible refine (orders_windowOf.calls k _ _ l0_0 a0_1 a0_2 t164 t165 t166 t167 t168 t169 _ ?side1 ?side2 A7.out).mono ?_
      (case side1=>repeat (first|exact (Kd.C_below HR0_0.out bA)|(with_reducible refine Kd.C_alloc ?_ _)|(with_reducible refine Kd.C_drewN ?_ _)|(with_reducible refine Kd.C_drew ?_)))
      (case side2=>exact HC0_0.out)
      rintro e w33 ⟨rfl,hb⟩
      refine ⟨_,rfl,?_⟩
      replace HO163:=qK (Kd.R_below (rS HO163.out) hb)
      replace BK160:=qK (bB BK160.out hb)
      replace HB:=qK (bS hb)
      (try clear hb)
      (try clear hb2)
      (try clear hk)
      (try clear hi)
      refine hK.out _ _ ⟨(blk_cell BK160.out 0).trans rfl,(blk_cell BK160.out 1).trans rfl,(blk_cell BK160.out 2).trans rfl⟩ (fun hHeld=>?_)
      clear hK K
      refine nP ?_
      refine oP 6 (some 10) HT_ (fun K hK=>?_)
      refine box_step ?hg (N:=10) ?hd (cs:=#[.int .i64 0,.int .i64 0,.int .i64 0,.int .i64 0,.int .i64 0]) (t:=105) ?hr ?_;(case hd=>rfl);(case hg=>rfl);(case hr=>first|(go_simp;done)|(go_simp;rfl))
      intro gb170 hg w34 hbox hb
      replace HO163:=qK (Kd.R_below (rS HO163.out) hb)
      have BK170:=qK (hbox)
      have GW170:=qK ((gS hg:w.heap.size≤gb170))
      have GE170:=qK ((gS hg:w.heap.size≤gb170))
      replace HB:=qK (bS hb)
      have NB160_170:=qK ((nL hg BK160.out:gb160≠gb170))
      have NB170_160:=qK ((nG hg BK160.out:gb170≠gb160))
      replace BK160:=qK (bB BK160.out hb)
      clear hb hbox hg
      refine hK.out _ _ ⟨(blk_cell BK160.out 0).trans rfl,(blk_cell BK160.out 1).trans rfl,(blk_cell BK160.out 2).trans rfl⟩ (fun hHeld=>?_)
      clear hK K
      refine nP ?_
      exact norm_ (by simp only [putAll,Act.put,List.setIfInBounds_toArray,List.set_cons_zero,List.set_cons_succ]) (hCont (.slice Ao32 t161.length co32,gb170) _ ⟨hHeld,(rS HO163.out),(bX BK160.out),(bX BK170.out),GW170.out,GE170.out,NB160_170.out,NB170_160.out,bA⟩)
     ·skip
      refine box_step ?hg (N:=10) ?hd (cs:=#[.int .i64 0,.int .i64 0,.int .i64 0,.int .i64 0,.int .i64 0]) (t:=105) ?hr ?_;(case hd=>rfl);(case hg=>rfl);(case hr=>first|(go_simp;done)|(go_simp;rfl))
      intro gb170 hg w33 hbox hb
      replace HO163:=qK (Kd.R_below (rS HO163.out) hb)
      have BK170:=qK (hbox)
      have GW170:=qK ((gS hg:w.heap.size≤gb170))
      have GE170:=qK ((gS hg:w.heap.size≤gb170))
      replace HB:=qK (bS hb)
      have NB160_170:=qK ((nL hg BK160.out:gb160≠gb170))
      have NB170_160:=qK ((nG hg BK160.out:gb170≠gb160))
      replace BK160:=qK (bB BK160.out hb)
      clear hb hbox hg
      refine hK.out _ _ ⟨(blk_cell BK160.out 0).trans rfl,(blk_cell BK160.out 1).trans rfl,(blk_cell BK160.out 2).trans rfl⟩ (fun hHeld=>?_)
      clear hK K
      refine nP ?_
      refine oP 5 (some 20) HT_ (fun K hK=>?_)
      refine gO Try.func64 #[.agg #[.slice A0_0 l0_0.length c0_0,.int .i64 a0_1,.int .i64 a0_2],.int .i64 t164] ?_
      with_reducible refine (orders_windowOf.calls k _ _ l0_0 a0_1 a0_2 t164 t165 t166 t167 t168 t169 _ ?side1 ?side2 A7.out).mono ?_
      (case side1=>exact cS HR0_0.out)
      (case side2=>exact HC0_0.out)
      rintro e w34 ⟨rfl,hb⟩
      refine ⟨_,rfl,?_⟩
      replace HO163:=qK (Kd.R_below (rS HO163.out) hb)
      replace BK160:=qK (bB BK160.out hb)
      replace BK170:=qK (bB BK170.out hb)
      replace HB:=qK (bS hb)
      (try clear hb)
      (try clear hb2)
      (try clear hk)
      (try clear hi)
      refine hK.out _ _ ⟨(blk_cell BK160.out 0).trans rfl,(blk_cell BK160.out 1).trans rfl,(blk_cell BK160.out 2).trans rfl⟩ (fun hHeld=>?_)
      clear hK K
      refine nP ?_
      exact norm_ (by simp only [putAll,Act.put,List.setIfInBounds_toArray,List.set_cons_zero,List.set_cons_succ]) (hCont (.slice Ao32 t161.length co32,gb170) _ ⟨hHeld,(rS HO163.out),(bX BK160.out),(bX BK170.out),GW170.out,GE170.out,NB160_170.out,NB170_160.out,bA⟩)
    ·skip
     refine box_step ?hg (N:=10) ?hd (cs:=#[.int .i64 0,.int .i64 0,.int .i64 0,.int .i64 0,.int .i64 0]) (t:=105) ?hr ?_;(case hd=>rfl);(case hg=>rfl);(case hr=>first|(go_simp;done)|(go_simp;rfl))
     intro gb170 hg w32 hbox hb
     replace HO163:=qK (Kd.R_below (rS HO163.out) hb)
     have BK170:=qK (hbox)
     have GW170:=qK ((gS hg:w.heap.size≤gb170))
     have GE170:=qK ((gS hg:w.heap.size≤gb170))
     replace HB:=qK (bS hb)
     have NB160_170:=qK ((nL hg BK160.out:gb160≠gb170))
     have NB170_160:=qK ((nG hg BK160.out:gb170≠gb160))
     replace BK160:=qK (bB BK160.out hb)
     clear hb hbox hg
     obtain ⟨Ao33,co33,eo33⟩:=Kd.R_slice HO163.out
     (first|subst eo33|(injection eo33 with f1_ f2_ f3_;have f4_:=f1_.symm;have f5_:=f3_.symm;clear f1_ f2_ f3_;subst f4_;subst f5_))
     refine hK.out _ _ ⟨(blk_cell BK160.out 0).trans rfl,(blk_cell BK160.out 1).trans rfl,(blk_cell BK160.out 2).trans rfl⟩ (fun hHeld=>?_)
     clear hK K
     refine nP ?_
     refine oP 4 (some 19) HT_ (fun K hK=>?_)
     refine gO Try.func66 #[.slice Ao33 t161.length co33] ?_
     with_reducible refine (orders_total.calls k _ _ t161 t164 _ ?side1 ?side2 A6.out).mono ?_
     (case side1=>exact cR (Kd.R_reads' HO163.out).2.2)
     (case side2=>exact (Kd.R_reads' HO163.out).2.1)
     rintro e w' ⟨rfl,⟨nd,rfl⟩⟩
     refine ⟨_,rfl,?_⟩
     refine hK.out _ _ ⟨(blk_cell BK160.out 0).trans rfl,(blk_cell BK160.out 1).trans rfl,(blk_cell BK160.out 2).trans rfl⟩ (fun hHeld=>?_)
     clear hK K
     refine nP ?_
     refine oP 5 (some 20) HT_ (fun K hK=>?_)
     refine gO Try.func64 #[.agg #[.slice A0_0 l0_0.length c0_0,.int .i64 a0_1,.int .i64 a0_2],.int .i64 t164] ?_
     with_reducible refine (orders_windowOf.calls k _ _ l0_0 a0_1 a0_2 t164 t165 t166 t167 t168 t169 _ ?side1 ?side2 A7.out).mono ?_
     (case side1=>repeat (first|exact (Kd.C_below HR0_0.out bA)|(with_reducible refine Kd.C_alloc ?_ _)|(with_reducible refine Kd.C_drewN ?_ _)|(with_reducible refine Kd.C_drew ?_)))
     (case side2=>exact HC0_0.out)
     rintro e w34 ⟨rfl,hb⟩
     refine ⟨_,rfl,?_⟩
     replace HO163:=qK (Kd.R_below (rS HO163.out) hb)
     replace BK160:=qK (bB BK160.out hb)
     replace BK170:=qK (bB BK170.out hb)
     replace HB:=qK (bS hb)
     (try clear hb)
     (try clear hb2)
     (try clear hk)
     (try clear hi)
     refine hK.out _ _ ⟨(blk_cell BK160.out 0).trans rfl,(blk_cell BK160.out 1).trans rfl,(blk_cell BK160.out 2).trans rfl⟩ (fun hHeld=>?_)
     clear hK K
     refine nP ?_
     exact norm_ (by simp only [putAll,Act.put,List.setIfInBounds_toArray,List.set_cons_zero,List.set_cons_succ]) (hCont (.slice Ao33 t161.length co33,gb170) _ ⟨hHeld,(rS HO163.out),(bX BK160.out),(bX BK170.out),GW170.out,GE170.out,NB160_170.out,NB170_160.out,bA⟩)
   ·skip
    refine box_step ?hg (N:=10) ?hd (cs:=#[.int .i64 0,.int .i64 0,.int .i64 0,.int .i64 0,.int .i64 0]) (t:=105) ?hr ?_;(case hd=>rfl);(case hg=>rfl);(case hr=>first|(go_simp;done)|(go_simp;rfl))
    intro gb170 hg w31 hbox hb
    have BK170:=qK (hbox)
    have GW170:=qK ((gS hg:w.heap.size≤gb170))
    have GE170:=qK ((gS hg:w.heap.size≤gb170))
    replace HB:=qK (bS hb)
    have NB160_170:=qK ((nL hg BK160.out:gb160≠gb170))
    have NB170_160:=qK ((nG hg BK160.out:gb170≠gb160))
    replace BK160:=qK (bB BK160.out hb)
    clear hb hbox hg
    refine hK.out _ _ ⟨(blk_cell BK160.out 0).trans rfl,(blk_cell BK160.out 1).trans rfl,(blk_cell BK160.out 2).trans rfl⟩ (fun hHeld=>?_)
    clear hK K
    refine nP ?_
    refine oP 3 (some 18) HT_ (fun K hK=>?_)
    refine gO Try.func62 #[.agg #[.slice A0_0 l0_0.length c0_0,.int .i64 a0_1,.int .i64 a0_2],.slice A1 l1.length c1] ?_
    with_reducible refine (orders_gains.calls k _ _ l0_0 a0_1 a0_2 _ _ l1 t161 _ ?side1 ?side2 ?side3 ?side4 A5.out).mono ?_
    (case side1=>exact cS HR0_0.out)
    (case side2=>exact HC0_0.out)
    (case side3=>exact cS HR1.out)
    (case side4=>exact HC1.out)
    rintro e w32 ⟨v162,rfl,ho0,hb⟩
    refine ⟨_,rfl,?_⟩
    have HO163:=qK (Kd.R_lower ho0 bZ)
    replace BK160:=qK (bB BK160.out hb)
    replace BK170:=qK (bB BK170.out hb)
    replace HB:=qK (bS hb)
    (try clear hb)
    (try clear hb2)
    (try clear hk)
    (try clear hi)
    (try clear ho0)
    obtain ⟨Ao33,co33,eo33⟩:=Kd.R_slice HO163.out
    (first|subst eo33|(injection eo33 with f1_ f2_ f3_;have f4_:=f1_.symm;have f5_:=f3_.symm;clear f1_ f2_ f3_;subst f4_;subst f5_))
    refine hK.out _ _ ⟨(blk_cell BK160.out 0).trans rfl,(blk_cell BK160.out 1).trans rfl,(blk_cell BK160.out 2).trans rfl⟩ (fun hHeld=>?_)
    clear hK K
    refine nP ?_
    refine oP 4 (some 19) HT_ (fun K hK=>?_)
    refine gO Try.func66 #[.slice Ao33 t161.length co33] ?_
    with_reducible refine (orders_total.calls k _ _ t161 t164 _ ?side1 ?side2 A6.out).mono ?_
    (case side1=>exact cR (Kd.R_reads' HO163.out).2.2)
    (case side2=>exact (Kd.R_reads' HO163.out).2.1)
    rintro e w' ⟨rfl,⟨nd,rfl⟩⟩
    refine ⟨_,rfl,?_⟩
    refine hK.out _ _ ⟨(blk_cell BK160.out 0).trans rfl,(blk_cell BK160.out 1).trans rfl,(blk_cell BK160.out 2).trans rfl⟩ (fun hHeld=>?_)
    clear hK K
    refine nP ?_
    refine oP 5 (some 20) HT_ (fun K hK=>?_)
    refine gO Try.func64 #[.agg #[.slice A0_0 l0_0.length c0_0,.int .i64 a0_1,.int .i64 a0_2],.int .i64 t164] ?_
    with_reducible refine (orders_windowOf.calls k _ _ l0_0 a0_1 a0_2 t164 t165 t166 t167 t168 t169 _ ?side1 ?side2 A7.out).mono ?_
    (case side1=>repeat (first|exact (Kd.C_below HR0_0.out bA)|(with_reducible refine Kd.C_alloc ?_ _)|(with_reducible refine Kd.C_drewN ?_ _)|(with_reducible refine Kd.C_drew ?_)))
    (case side2=>exact HC0_0.out)
    rintro e w34 ⟨rfl,hb⟩
    refine ⟨_,rfl,?_⟩
    replace HO163:=qK (Kd.R_below (rS HO163.out) hb)
    replace BK160:=qK (bB BK160.out hb)
    replace BK170:=qK (bB BK170.out hb)
    replace HB:=qK (bS hb)
    (try clear hb)
    (try clear hb2)
    (try clear hk)
    (try clear hi)
    refine hK.out _ _ ⟨(blk_cell BK160.out 0).trans rfl,(blk_cell BK160.out 1).trans rfl,(blk_cell BK160.out 2).trans rfl⟩ (fun hHeld=>?_)
    clear hK K
    refine nP ?_
    exact norm_ (by simp only [putAll,Act.put,List.setIfInBounds_toArray,List.set_cons_zero,List.set_cons_succ]) (hCont (.slice Ao33 t161.length co33,gb170) _ ⟨hHeld,(rS HO163.out),(bX BK160.out),(bX BK170.out),GW170.out,GE170.out,NB160_170.out,NB170_160.out,bA⟩)
  rintro ⟨v162,gb170⟩ w35 ⟨hS_,h0_,h1_,h2_,h3_,h4_,h5_,h6_,h7_⟩
  have n0_:Aside0 (Kd.R (Kd.int .i64) 3 w35 w.heap.size (fun _=>True) v162 t161):=⟨h0_⟩
  have n1_:Aside0 (w35.heap[gb160]? = some (.cells #[.slice A0_0 l0_0.length c0_0,.int .i64 a0_1,.int .i64 a0_2] 26 (0,0))):=⟨h1_⟩
  have n2_:Aside0 (w35.heap[gb170]? = some (.cells #[.int .i64 0,.int .i64 0,.int .i64 0,.int .i64 0,.int .i64 0] 105 (0,0))):=⟨h2_⟩
  have n3_:Aside0 (w.heap.size≤gb170):=⟨h3_⟩
  have n4_:Aside0 (w.heap.size≤gb170):=⟨h4_⟩
  have n5_:Aside0 (gb160≠gb170):=⟨h5_⟩
  have n6_:Aside0 (gb170≠gb160):=⟨h6_⟩
  have n7_:Aside0 (Below w.heap.size w w35):=⟨h7_⟩
  clear BK160
  clear HB
  clear h0_ h1_ h2_ h3_ h4_ h5_ h6_ h7_
  have HO163:=n0_
  have BK160:=n1_
  have BK170:=n2_
  have GW170:=n3_
  have GE170:=n4_
  have NB160_170:=n5_
  have NB170_160:=n6_
  have HB:=n7_
  clear n0_ n1_ n2_ n3_ n4_ n5_ n6_ n7_
  have hHeld:w35.cell? ⟨gb160,0,none⟩=some (.slice A0_0 l0_0.length c0_0)∧w35.cell? ⟨gb160,1,none⟩=some (.int .i64 a0_1)∧w35.cell? ⟨gb160,2,none⟩=some (.int .i64 a0_2):=hS_
  refine norm_ (a':=?_) ?_ ?_
  rotate_left
  ·simp only [putAll,Act.put,List.setIfInBounds_toArray,List.set_cons_zero,List.set_cons_succ]
   rfl
  refine oP 7 none HT_ (fun K hK=>?_)
  have hs36:w35.cell? ⟨gb170,0,none⟩=some (.int .i64 0):=(blk_cell BK170.out 0).trans rfl
  have hfs36:=blk_frozen BK170.out 0
  have hns36_0:=NB160_170.out
  have hms36_0:=NB170_160.out
  have hs37:w35.cell? ⟨gb170,1,none⟩=some (.int .i64 0):=(blk_cell BK170.out 1).trans rfl
  have hfs37:=blk_frozen BK170.out 1
  have hns37_0:=NB160_170.out
  have hms37_0:=NB170_160.out
  have hs38:w35.cell? ⟨gb170,2,none⟩=some (.int .i64 0):=(blk_cell BK170.out 2).trans rfl
  have hfs38:=blk_frozen BK170.out 2
  have hns38_0:=NB160_170.out
  have hms38_0:=NB170_160.out
  have hs39:w35.cell? ⟨gb170,3,none⟩=some (.int .i64 0):=(blk_cell BK170.out 3).trans rfl
  have hfs39:=blk_frozen BK170.out 3
  have hns39_0:=NB160_170.out
  have hms39_0:=NB170_160.out
  have hs40:w35.cell? ⟨gb170,4,none⟩=some (.int .i64 0):=(blk_cell BK170.out 4).trans rfl
  have hfs40:=blk_frozen BK170.out 4
  have hns40_0:=NB160_170.out
  have hms40_0:=NB170_160.out
  refine skip_ (w1:=?_) (by rfl) rfl ?_ ?_
  rotate_left
  ·go_simp
   rfl
  refine hK.out _ _ ⟨((cell_far (p:=⟨gb170,_,none⟩) NB160_170.out _).trans (((cell_far (p:=⟨gb170,_,none⟩) NB160_170.out _).trans (((cell_far (p:=⟨gb170,_,none⟩) NB160_170.out _).trans (((cell_far (p:=⟨gb170,_,none⟩) NB160_170.out _).trans (((cell_far (p:=⟨gb170,_,none⟩) NB160_170.out _).trans (hHeld.1)))))))))),((cell_far (p:=⟨gb170,_,none⟩) NB160_170.out _).trans (((cell_far (p:=⟨gb170,_,none⟩) NB160_170.out _).trans (((cell_far (p:=⟨gb170,_,none⟩) NB160_170.out _).trans (((cell_far (p:=⟨gb170,_,none⟩) NB160_170.out _).trans (((cell_far (p:=⟨gb170,_,none⟩) NB160_170.out _).trans (hHeld.2.1)))))))))),((cell_far (p:=⟨gb170,_,none⟩) NB160_170.out _).trans (((cell_far (p:=⟨gb170,_,none⟩) NB160_170.out _).trans (((cell_far (p:=⟨gb170,_,none⟩) NB160_170.out _).trans (((cell_far (p:=⟨gb170,_,none⟩) NB160_170.out _).trans (((cell_far (p:=⟨gb170,_,none⟩) NB160_170.out _).trans (hHeld.2.2))))))))))⟩ (fun hHeld=>?_)
  clear hK K
  refine done_ (done_of HT_.out (by kernel_rfl)) ?_
  have hnb41:=NB170_160.out
  have hnc41:=NB160_170.out
  obtain ⟨_,_,_,_,_,_,_,_,_,_⟩:=xC5 BK170.out
  try go_wp2_with (first|((with_reducible refine gate_callee (f:=78) rfl ?_);refine gL (some 23) Try.func78 #[.agg #[.int .i64 t165,.int .i64 t166,.int .i64 t167,.int .i64 t168,.int .i64 t169]] ?_;(with_reducible refine (orders_window_ends.calls t165 t166 t167 t168 t169 t171 t172 _ A8.out).mono ?_);rintro e w43 ⟨rfl,hb⟩;refine ⟨_,rfl,?_⟩;replace HO163:=qK (Kd.R_below (rS ((Kd.R_mono (Kd.R_far (p:=⟨gb170,4,none⟩) (Kd.R_far (p:=⟨gb170,3,none⟩) (Kd.R_far (p:=⟨gb170,2,none⟩) (Kd.R_far (p:=⟨gb170,1,none⟩) (Kd.R_far (p:=⟨gb170,0,none⟩) (Kd.R_types HO163.out BK170.out (by decide)) (fun _ hk=>hk.2) (.int .i64 t165)) (fun _ hk=>hk.2) (.int .i64 t166)) (fun _ hk=>hk.2) (.int .i64 t167)) (fun _ hk=>hk.2) (.int .i64 t168)) (fun _ hk=>hk.2) (.int .i64 t169)) (fun _ h_=>h_.1)))) hb);replace BK160:=qK (blk_below (g:=gb160) (o:=.cells #[.slice A0_0 l0_0.length c0_0,.int .i64 a0_1,.int .i64 a0_2] 26 (0,0)) (by (with_reducible repeat (first|refine blk_drewN ?_ _|refine blk_drew ?_|refine blk_alloc ?_ _));refine blk_far ?_ NB160_170.out _;(with_reducible repeat (first|refine blk_drewN ?_ _|refine blk_drew ?_|refine blk_alloc ?_ _));refine blk_far ?_ NB160_170.out _;(with_reducible repeat (first|refine blk_drewN ?_ _|refine blk_drew ?_|refine blk_alloc ?_ _));refine blk_far ?_ NB160_170.out _;(with_reducible repeat (first|refine blk_drewN ?_ _|refine blk_drew ?_|refine blk_alloc ?_ _));refine blk_far ?_ NB160_170.out _;(with_reducible repeat (first|refine blk_drewN ?_ _|refine blk_drew ?_|refine blk_alloc ?_ _));refine blk_far ?_ NB160_170.out _;(with_reducible repeat (first|refine blk_drewN ?_ _|refine blk_drew ?_|refine blk_alloc ?_ _));exact BK160.out) hb);replace BK170:=qK (blk_below (g:=gb170) (o:=.cells #[.int .i64 t165,.int .i64 t166,.int .i64 t167,.int .i64 t168,.int .i64 t169] 105 (0,0)) (by (with_reducible repeat (first|refine blk_drewN ?_ _|refine blk_drew ?_|refine blk_alloc ?_ _));refine blk_put (cs:=#[.int .i64 t165,.int .i64 t166,.int .i64 t167,.int .i64 t168,.int .i64 0]) ?_ 4 _ rfl;(with_reducible repeat (first|refine blk_drewN ?_ _|refine blk_drew ?_|refine blk_alloc ?_ _));refine blk_put (cs:=#[.int .i64 t165,.int .i64 t166,.int .i64 t167,.int .i64 0,.int .i64 0]) ?_ 3 _ rfl;(with_reducible repeat (first|refine blk_drewN ?_ _|refine blk_drew ?_|refine blk_alloc ?_ _));refine blk_put (cs:=#[.int .i64 t165,.int .i64 t166,.int .i64 0,.int .i64 0,.int .i64 0]) ?_ 2 _ rfl;(with_reducible repeat (first|refine blk_drewN ?_ _|refine blk_drew ?_|refine blk_alloc ?_ _));refine blk_put (cs:=#[.int .i64 t165,.int .i64 0,.int .i64 0,.int .i64 0,.int .i64 0]) ?_ 1 _ rfl;(with_reducible repeat (first|refine blk_drewN ?_ _|refine blk_drew ?_|refine blk_alloc ?_ _));refine blk_put (cs:=#[.int .i64 0,.int .i64 0,.int .i64 0,.int .i64 0,.int .i64 0]) ?_ 0 _ rfl;(with_reducible repeat (first|refine blk_drewN ?_ _|refine blk_drew ?_|refine blk_alloc ?_ _));exact BK170.out) hb);replace HB:=qK (bS hb);obtain ⟨_,_,_,_,_,_,_,_,_,_⟩:=xC5 BK170.out)|((with_reducible refine gate_callee (f:=79) rfl ?_);refine goesL_ (some 39) rfl rfl Try.func79 (by kernel_rfl) rfl #[.agg #[.int .i64 t165,.int .i64 t166,.int .i64 t167,.int .i64 t168,.int .i64 t169],.int .i64 ji9] rfl (by (try simp only [List.map_toArray,List.map_cons,List.map_nil]);first|done|(simp only [hji9];rfl)|rfl|(simp only [List.length_drop,List.length_take];rfl)) ?_;(with_reducible refine (orders_window_seen.calls t165 t166 t167 t168 t169 ji9 t173 t174 _ A27.out).mono ?_);rintro e w45 ⟨rfl,hb⟩;refine ⟨_,rfl,?_⟩;replace HO163:=qK (Kd.R_below (rS HO163.out) hb);replace BK160:=qK (bB BK160.out hb);replace BK170:=qK (bB BK170.out hb);replace HB:=qK (bS hb))|((with_reducible refine gate_dst (N:=14) rfl ?_);refine bE #[.int .i64 0,.int .i64 0] 24 ?_;intro gb175 hg w46 hbox hb;replace HO163:=qK (Kd.R_below (rS HO163.out) hb);have BK175:=qK (hbox);have GW175:=qK ((gS hg:w.heap.size≤gb175));have GE175:=qK ((gS hg:w.heap.size≤gb175));replace HB:=qK (bS hb);have NB160_175:=qK ((nL hg BK160.out:gb160≠gb175));have NB175_160:=qK ((nG hg BK160.out:gb175≠gb160));replace BK160:=qK (bB BK160.out hb);have NB170_175:=qK ((nL hg BK170.out:gb170≠gb175));have NB175_170:=qK ((nG hg BK170.out:gb175≠gb170));replace BK170:=qK (bB BK170.out hb);clear hb hbox hg;have hnb47:=NB175_160.out;have hnc47:=NB160_175.out;have hnb48:=NB175_170.out;have hnc48:=NB170_175.out;obtain ⟨_,_,_,_⟩:=xC2 BK175.out))
  go_ret2
  exact ⟨_,by first|rfl|(simp [errW_none,errW_some] <;> rfl)|(simp only [← hji9];first|rfl|(simp [errW_none,errW_some] <;> rfl))|(simp [*,errW_none,errW_some] <;> rfl),by first|exact Kd.R_nil _ _ _ _ _|exact Kd.N_nil _ _ _ _ _|exact Kd.V_nil _ _ _ _ _|exact Kd.Q_nil _ _ _ _ _|exact Kd.S_nil _ _ _ _ _,bA⟩
 rw [if_neg c28] at H
 have c28b0:decide (a3≤t173)=false:=decide_eq_false c28
 clear c28
 by_cases c50:t174≤a2
 ·rw [if_pos c50] at H
  have c50b0:decide (t174≤a2)=true:=decide_eq_true c50
  clear c50
  simp only [Option.some.injEq,Prod.mk.injEq] at H
  obtain ⟨rfl,rfl⟩:=H
  go_enter Try.func48,Try.ntmps48
  try go_wp2_with (first|((with_reducible refine gate_dst (N:=4) rfl ?_);refine bE #[.slice A0_0 l0_0.length c0_0,.int .i64 a0_1,.int .i64 a0_2] 26 ?_;intro gb160 hg w51 hbox hb;have BK160:=qK (hbox);have GW160:=qK ((gS hg:w.heap.size≤gb160));have GE160:=qK ((gS hg:w.heap.size≤gb160));replace HB:=qK (bS hb);clear hb hbox hg))
  replace BK160:=qK (blk_drew BK160.out)
  replace HB:=qK (below_drew1 HB.out)
  refine start_ (n:=8) (S:=fun w'=>w'.cell? ⟨gb160,0,none⟩=some (.slice A0_0 l0_0.length c0_0)∧w'.cell? ⟨gb160,1,none⟩=some (.int .i64 a0_1)∧w'.cell? ⟨gb160,2,none⟩=some (.int .i64 a0_2)) (ds:=[]) #[false,false,false,false,false,false,false,false] (by kernel_rfl) rfl rfl ⟨(blk_cell BK160.out 0).trans rfl,(blk_cell BK160.out 1).trans rfl,(blk_cell BK160.out 2).trans rfl⟩ (fun hHeld=>?_);refine with_tabW orders_open.tab1 orders_open.bits1 (fun HT_ HW_=>?_)
  generalize w51.drew=w52 at BK160 HB hHeld ⊢
  refine pP 2 (some 17) HT_ ?_
  refine tP 0 (some 15) HT_ HW_ hHeld ?_
  refine tP 1 (some 16) HT_ HW_ hHeld ?_
  refine join_ (σ:=Value × Nat) 1 #[true,true,true,true,true,true,true,false] (fun s_=>[(18,s_.1),(19,.int .i64 t164),(20,.agg #[.int .i64 t165,.int .i64 t166,.int .i64 t167,.int .i64 t168,.int .i64 t169]),(10,.pointer (some ⟨s_.2,0,none⟩))]) (fun s_ w'=>(w'.cell? ⟨gb160,0,none⟩=some (.slice A0_0 l0_0.length c0_0)∧w'.cell? ⟨gb160,1,none⟩=some (.int .i64 a0_1)∧w'.cell? ⟨gb160,2,none⟩=some (.int .i64 a0_2))∧(Kd.R (Kd.int .i64) 3 w' w.heap.size (fun _=>True) s_.1 t161)∧(w'.heap[gb160]? = some (.cells #[.slice A0_0 l0_0.length c0_0,.int .i64 a0_1,.int .i64 a0_2] 26 (0,0)))∧(w'.heap[s_.2]? = some (.cells #[.int .i64 0,.int .i64 0,.int .i64 0,.int .i64 0,.int .i64 0] 105 (0,0)))∧(w.heap.size≤s_.2)∧(w.heap.size≤s_.2)∧(gb160≠s_.2)∧(s_.2≠gb160)∧(Below w.heap.size w w')) ?_ ?_
  rotate_left
  ·intro hCont
   refine two_ (i:=3) (j:=6) (Ni:=some 18) (Nj:=some 10) #[true,true,true,true,false,false,false,false] #[true,true,true,false,false,false,true,false] rfl rfl rfl rfl (two_of HT_.out (by kernel_rfl)) (by decide) (by decide) (fun K hK=>?_) (fun K hK=>?_)
   ·skip
    refine gO Try.func62 #[.agg #[.slice A0_0 l0_0.length c0_0,.int .i64 a0_1,.int .i64 a0_2],.slice A1 l1.length c1] ?_
    with_reducible refine (orders_gains.calls k _ _ l0_0 a0_1 a0_2 _ _ l1 t161 _ ?side1 ?side2 ?side3 ?side4 A5.out).mono ?_
    (case side1=>exact cS HR0_0.out)
    (case side2=>exact HC0_0.out)
    (case side3=>exact cS HR1.out)
    (case side4=>exact HC1.out)
    rintro e w53 ⟨v162,rfl,ho0,hb⟩
    refine ⟨_,rfl,?_⟩
    have HO163:=qK (Kd.R_lower ho0 bZ)
    replace BK160:=qK (bB BK160.out hb)
    replace HB:=qK (bS hb)
    (try clear hb)
    (try clear hb2)
    (try clear hk)
    (try clear hi)
    (try clear ho0)
    obtain ⟨Ao54,co54,eo54⟩:=Kd.R_slice HO163.out
    (first|subst eo54|(injection eo54 with f1_ f2_ f3_;have f4_:=f1_.symm;have f5_:=f3_.symm;clear f1_ f2_ f3_;subst f4_;subst f5_))
    refine hK.out _ _ ⟨(blk_cell BK160.out 0).trans rfl,(blk_cell BK160.out 1).trans rfl,(blk_cell BK160.out 2).trans rfl⟩ (fun hHeld=>?_)
    clear hK K
    refine nP ?_
    refine two_ (i:=4) (j:=6) (Ni:=some 19) (Nj:=some 10) #[true,true,true,true,true,false,false,false] #[true,true,true,true,false,false,true,false] rfl rfl rfl rfl (two_of HT_.out (by kernel_rfl)) (by decide) (by decide) (fun K hK=>?_) (fun K hK=>?_)
    ·skip
     refine gO Try.func66 #[.slice Ao54 t161.length co54] ?_
     with_reducible refine (orders_total.calls k _ _ t161 t164 _ ?side1 ?side2 A6.out).mono ?_
     (case side1=>exact cR (Kd.R_reads' HO163.out).2.2)
     (case side2=>exact (Kd.R_reads' HO163.out).2.1)
     rintro e w' ⟨rfl,⟨nd,rfl⟩⟩
     refine ⟨_,rfl,?_⟩
     refine hK.out _ _ ⟨(blk_cell BK160.out 0).trans rfl,(blk_cell BK160.out 1).trans rfl,(blk_cell BK160.out 2).trans rfl⟩ (fun hHeld=>?_)
     clear hK K
     refine nP ?_
     refine two_ (i:=5) (j:=6) (Ni:=some 20) (Nj:=some 10) #[true,true,true,true,true,true,false,false] #[true,true,true,true,true,false,true,false] rfl rfl rfl rfl (two_of HT_.out (by kernel_rfl)) (by decide) (by decide) (fun K hK=>?_) (fun K hK=>?_)
     ·skip
      refine gO Try.func64 #[.agg #[.slice A0_0 l0_0.length c0_0,.int .i64 a0_1,.int .i64 a0_2],.int .i64 t164] ?_
      with_reducible refine (orders_windowOf.calls k _ _ l0_0 a0_1 a0_2 t164 t165 t166 t167 t168 t169 _ ?side1 ?side2 A7.out).mono ?_
      (case side1=>repeat (first|exact (Kd.C_below HR0_0.out bA)|(with_reducible refine Kd.C_alloc ?_ _)|(with_reducible refine Kd.C_drewN ?_ _)|(with_reducible refine Kd.C_drew ?_)))
      (case side2=>exact HC0_0.out)
      rintro e w55 ⟨rfl,hb⟩
      refine ⟨_,rfl,?_⟩
      replace HO163:=qK (Kd.R_below (rS HO163.out) hb)
      replace BK160:=qK (bB BK160.out hb)
      replace HB:=qK (bS hb)
      (try clear hb)
      (try clear hb2)
      (try clear hk)
      (try clear hi)
      refine hK.out _ _ ⟨(blk_cell BK160.out 0).trans rfl,(blk_cell BK160.out 1).trans rfl,(blk_cell BK160.out 2).trans rfl⟩ (fun hHeld=>?_)
      clear hK K
      refine nP ?_
      refine oP 6 (some 10) HT_ (fun K hK=>?_)
      refine box_step ?hg (N:=10) ?hd (cs:=#[.int .i64 0,.int .i64 0,.int .i64 0,.int .i64 0,.int .i64 0]) (t:=105) ?hr ?_;(case hd=>rfl);(case hg=>rfl);(case hr=>first|(go_simp;done)|(go_simp;rfl))
      intro gb170 hg w56 hbox hb
      replace HO163:=qK (Kd.R_below (rS HO163.out) hb)
      have BK170:=qK (hbox)
      have GW170:=qK ((gS hg:w.heap.size≤gb170))
      have GE170:=qK ((gS hg:w.heap.size≤gb170))
      replace HB:=qK (bS hb)
      have NB160_170:=qK ((nL hg BK160.out:gb160≠gb170))
      have NB170_160:=qK ((nG hg BK160.out:gb170≠gb160))
      replace BK160:=qK (bB BK160.out hb)
      clear hb hbox hg
      refine hK.out _ _ ⟨(blk_cell BK160.out 0).trans rfl,(blk_cell BK160.out 1).trans rfl,(blk_cell BK160.out 2).trans rfl⟩ (fun hHeld=>?_)
      clear hK K
      refine nP ?_
      exact norm_ (by simp only [putAll,Act.put,List.setIfInBounds_toArray,List.set_cons_zero,List.set_cons_succ]) (hCont (.slice Ao54 t161.length co54,gb170) _ ⟨hHeld,(rS HO163.out),(bX BK160.out),(bX BK170.out),GW170.out,GE170.out,NB160_170.out,NB170_160.out,bA⟩)
     ·skip
      refine box_step ?hg (N:=10) ?hd (cs:=#[.int .i64 0,.int .i64 0,.int .i64 0,.int .i64 0,.int .i64 0]) (t:=105) ?hr ?_;(case hd=>rfl);(case hg=>rfl);(case hr=>first|(go_simp;done)|(go_simp;rfl))
      intro gb170 hg w55 hbox hb
      replace HO163:=qK (Kd.R_below (rS HO163.out) hb)
      have BK170:=qK (hbox)
      have GW170:=qK ((gS hg:w.heap.size≤gb170))
      have GE170:=qK ((gS hg:w.heap.size≤gb170))
      replace HB:=qK (bS hb)
      have NB160_170:=qK ((nL hg BK160.out:gb160≠gb170))
      have NB170_160:=qK ((nG hg BK160.out:gb170≠gb160))
      replace BK160:=qK (bB BK160.out hb)
      clear hb hbox hg
      refine hK.out _ _ ⟨(blk_cell BK160.out 0).trans rfl,(blk_cell BK160.out 1).trans rfl,(blk_cell BK160.out 2).trans rfl⟩ (fun hHeld=>?_)
      clear hK K
      refine nP ?_
      refine oP 5 (some 20) HT_ (fun K hK=>?_)
      refine gO Try.func64 #[.agg #[.slice A0_0 l0_0.length c0_0,.int .i64 a0_1,.int .i64 a0_2],.int .i64 t164] ?_
      with_reducible refine (orders_windowOf.calls k _ _ l0_0 a0_1 a0_2 t164 t165 t166 t167 t168 t169 _ ?side1 ?side2 A7.out).mono ?_
      (case side1=>exact cS HR0_0.out)
      (case side2=>exact HC0_0.out)
      rintro e w56 ⟨rfl,hb⟩
      refine ⟨_,rfl,?_⟩
      replace HO163:=qK (Kd.R_below (rS HO163.out) hb)
      replace BK160:=qK (bB BK160.out hb)
      replace BK170:=qK (bB BK170.out hb)
      replace HB:=qK (bS hb)
      (try clear hb)
      (try clear hb2)
      (try clear hk)
      (try clear hi)
      refine hK.out _ _ ⟨(blk_cell BK160.out 0).trans rfl,(blk_cell BK160.out 1).trans rfl,(blk_cell BK160.out 2).trans rfl⟩ (fun hHeld=>?_)
      clear hK K
      refine nP ?_
      exact norm_ (by simp only [putAll,Act.put,List.setIfInBounds_toArray,List.set_cons_zero,List.set_cons_succ]) (hCont (.slice Ao54 t161.length co54,gb170) _ ⟨hHeld,(rS HO163.out),(bX BK160.out),(bX BK170.out),GW170.out,GE170.out,NB160_170.out,NB170_160.out,bA⟩)
    ·skip
     refine box_step ?hg (N:=10) ?hd (cs:=#[.int .i64 0,.int .i64 0,.int .i64 0,.int .i64 0,.int .i64 0]) (t:=105) ?hr ?_;(case hd=>rfl);(case hg=>rfl);(case hr=>first|(go_simp;done)|(go_simp;rfl))
     intro gb170 hg w54 hbox hb
     replace HO163:=qK (Kd.R_below (rS HO163.out) hb)
     have BK170:=qK (hbox)
     have GW170:=qK ((gS hg:w.heap.size≤gb170))
     have GE170:=qK ((gS hg:w.heap.size≤gb170))
     replace HB:=qK (bS hb)
     have NB160_170:=qK ((nL hg BK160.out:gb160≠gb170))
     have NB170_160:=qK ((nG hg BK160.out:gb170≠gb160))
     replace BK160:=qK (bB BK160.out hb)
     clear hb hbox hg
     obtain ⟨Ao55,co55,eo55⟩:=Kd.R_slice HO163.out
     (first|subst eo55|(injection eo55 with f1_ f2_ f3_;have f4_:=f1_.symm;have f5_:=f3_.symm;clear f1_ f2_ f3_;subst f4_;subst f5_))
     refine hK.out _ _ ⟨(blk_cell BK160.out 0).trans rfl,(blk_cell BK160.out 1).trans rfl,(blk_cell BK160.out 2).trans rfl⟩ (fun hHeld=>?_)
     clear hK K
     refine nP ?_
     refine oP 4 (some 19) HT_ (fun K hK=>?_)
     refine gO Try.func66 #[.slice Ao55 t161.length co55] ?_
     with_reducible refine (orders_total.calls k _ _ t161 t164 _ ?side1 ?side2 A6.out).mono ?_
     (case side1=>exact cR (Kd.R_reads' HO163.out).2.2)
     (case side2=>exact (Kd.R_reads' HO163.out).2.1)
     rintro e w' ⟨rfl,⟨nd,rfl⟩⟩
     refine ⟨_,rfl,?_⟩
     refine hK.out _ _ ⟨(blk_cell BK160.out 0).trans rfl,(blk_cell BK160.out 1).trans rfl,(blk_cell BK160.out 2).trans rfl⟩ (fun hHeld=>?_)
     clear hK K
     refine nP ?_
     refine oP 5 (some 20) HT_ (fun K hK=>?_)
     refine gO Try.func64 #[.agg #[.slice A0_0 l0_0.length c0_0,.int .i64 a0_1,.int .i64 a0_2],.int .i64 t164] ?_
     with_reducible refine (orders_windowOf.calls k _ _ l0_0 a0_1 a0_2 t164 t165 t166 t167 t168 t169 _ ?side1 ?side2 A7.out).mono ?_
     (case side1=>repeat (first|exact (Kd.C_below HR0_0.out bA)|(with_reducible refine Kd.C_alloc ?_ _)|(with_reducible refine Kd.C_drewN ?_ _)|(with_reducible refine Kd.C_drew ?_)))
     (case side2=>exact HC0_0.out)
     rintro e w56 ⟨rfl,hb⟩
     refine ⟨_,rfl,?_⟩
     replace HO163:=qK (Kd.R_below (rS HO163.out) hb)
     replace BK160:=qK (bB BK160.out hb)
     replace BK170:=qK (bB BK170.out hb)
     replace HB:=qK (bS hb)
     (try clear hb)
     (try clear hb2)
     (try clear hk)
     (try clear hi)
     refine hK.out _ _ ⟨(blk_cell BK160.out 0).trans rfl,(blk_cell BK160.out 1).trans rfl,(blk_cell BK160.out 2).trans rfl⟩ (fun hHeld=>?_)
     clear hK K
     refine nP ?_
     exact norm_ (by simp only [putAll,Act.put,List.setIfInBounds_toArray,List.set_cons_zero,List.set_cons_succ]) (hCont (.slice Ao55 t161.length co55,gb170) _ ⟨hHeld,(rS HO163.out),(bX BK160.out),(bX BK170.out),GW170.out,GE170.out,NB160_170.out,NB170_160.out,bA⟩)
   ·skip
    refine box_step ?hg (N:=10) ?hd (cs:=#[.int .i64 0,.int .i64 0,.int .i64 0,.int .i64 0,.int .i64 0]) (t:=105) ?hr ?_;(case hd=>rfl);(case hg=>rfl);(case hr=>first|(go_simp;done)|(go_simp;rfl))
    intro gb170 hg w53 hbox hb
    have BK170:=qK (hbox)
    have GW170:=qK ((gS hg:w.heap.size≤gb170))
    have GE170:=qK ((gS hg:w.heap.size≤gb170))
    replace HB:=qK (bS hb)
    have NB160_170:=qK ((nL hg BK160.out:gb160≠gb170))
    have NB170_160:=qK ((nG hg BK160.out:gb170≠gb160))
    replace BK160:=qK (bB BK160.out hb)
    clear hb hbox hg
    refine hK.out _ _ ⟨(blk_cell BK160.out 0).trans rfl,(blk_cell BK160.out 1).trans rfl,(blk_cell BK160.out 2).trans rfl⟩ (fun hHeld=>?_)
    clear hK K
    refine nP ?_
    refine oP 3 (some 18) HT_ (fun K hK=>?_)
    refine gO Try.func62 #[.agg #[.slice A0_0 l0_0.length c0_0,.int .i64 a0_1,.int .i64 a0_2],.slice A1 l1.length c1] ?_
    with_reducible refine (orders_gains.calls k _ _ l0_0 a0_1 a0_2 _ _ l1 t161 _ ?side1 ?side2 ?side3 ?side4 A5.out).mono ?_
    (case side1=>exact cS HR0_0.out)
    (case side2=>exact HC0_0.out)
    (case side3=>exact cS HR1.out)
    (case side4=>exact HC1.out)
    rintro e w54 ⟨v162,rfl,ho0,hb⟩
    refine ⟨_,rfl,?_⟩
    have HO163:=qK (Kd.R_lower ho0 bZ)
    replace BK160:=qK (bB BK160.out hb)
    replace BK170:=qK (bB BK170.out hb)
    replace HB:=qK (bS hb)
    (try clear hb)
    (try clear hb2)
    (try clear hk)
    (try clear hi)
    (try clear ho0)
    obtain ⟨Ao55,co55,eo55⟩:=Kd.R_slice HO163.out
    (first|subst eo55|(injection eo55 with f1_ f2_ f3_;have f4_:=f1_.symm;have f5_:=f3_.symm;clear f1_ f2_ f3_;subst f4_;subst f5_))
    refine hK.out _ _ ⟨(blk_cell BK160.out 0).trans rfl,(blk_cell BK160.out 1).trans rfl,(blk_cell BK160.out 2).trans rfl⟩ (fun hHeld=>?_)
    clear hK K
    refine nP ?_
    refine oP 4 (some 19) HT_ (fun K hK=>?_)
    refine gO Try.func66 #[.slice Ao55 t161.length co55] ?_
    with_reducible refine (orders_total.calls k _ _ t161 t164 _ ?side1 ?side2 A6.out).mono ?_
    (case side1=>exact cR (Kd.R_reads' HO163.out).2.2)
    (case side2=>exact (Kd.R_reads' HO163.out).2.1)
    rintro e w' ⟨rfl,⟨nd,rfl⟩⟩
    refine ⟨_,rfl,?_⟩
    refine hK.out _ _ ⟨(blk_cell BK160.out 0).trans rfl,(blk_cell BK160.out 1).trans rfl,(blk_cell BK160.out 2).trans rfl⟩ (fun hHeld=>?_)
    clear hK K
    refine nP ?_
    refine oP 5 (some 20) HT_ (fun K hK=>?_)
    refine gO Try.func64 #[.agg #[.slice A0_0 l0_0.length c0_0,.int .i64 a0_1,.int .i64 a0_2],.int .i64 t164] ?_
    with_reducible refine (orders_windowOf.calls k _ _ l0_0 a0_1 a0_2 t164 t165 t166 t167 t168 t169 _ ?side1 ?side2 A7.out).mono ?_
    (case side1=>repeat (first|exact (Kd.C_below HR0_0.out bA)|(with_reducible refine Kd.C_alloc ?_ _)|(with_reducible refine Kd.C_drewN ?_ _)|(with_reducible refine Kd.C_drew ?_)))
    (case side2=>exact HC0_0.out)
    rintro e w56 ⟨rfl,hb⟩
    refine ⟨_,rfl,?_⟩
    replace HO163:=qK (Kd.R_below (rS HO163.out) hb)
    replace BK160:=qK (bB BK160.out hb)
    replace BK170:=qK (bB BK170.out hb)
    replace HB:=qK (bS hb)
    (try clear hb)
    (try clear hb2)
    (try clear hk)
    (try clear hi)
    refine hK.out _ _ ⟨(blk_cell BK160.out 0).trans rfl,(blk_cell BK160.out 1).trans rfl,(blk_cell BK160.out 2).trans rfl⟩ (fun hHeld=>?_)
    clear hK K
    refine nP ?_
    exact norm_ (by simp only [putAll,Act.put,List.setIfInBounds_toArray,List.set_cons_zero,List.set_cons_succ]) (hCont (.slice Ao55 t161.length co55,gb170) _ ⟨hHeld,(rS HO163.out),(bX BK160.out),(bX BK170.out),GW170.out,GE170.out,NB160_170.out,NB170_160.out,bA⟩)
  rintro ⟨v162,gb170⟩ w57 ⟨hS_,h0_,h1_,h2_,h3_,h4_,h5_,h6_,h7_⟩
  have n0_:Aside0 (Kd.R (Kd.int .i64) 3 w57 w.heap.size (fun _=>True) v162 t161):=⟨h0_⟩
  have n1_:Aside0 (w57.heap[gb160]? = some (.cells #[.slice A0_0 l0_0.length c0_0,.int .i64 a0_1,.int .i64 a0_2] 26 (0,0))):=⟨h1_⟩
  have n2_:Aside0 (w57.heap[gb170]? = some (.cells #[.int .i64 0,.int .i64 0,.int .i64 0,.int .i64 0,.int .i64 0] 105 (0,0))):=⟨h2_⟩
  have n3_:Aside0 (w.heap.size≤gb170):=⟨h3_⟩
  have n4_:Aside0 (w.heap.size≤gb170):=⟨h4_⟩
  have n5_:Aside0 (gb160≠gb170):=⟨h5_⟩
  have n6_:Aside0 (gb170≠gb160):=⟨h6_⟩
  have n7_:Aside0 (Below w.heap.size w w57):=⟨h7_⟩
  clear BK160
  clear HB
  clear h0_ h1_ h2_ h3_ h4_ h5_ h6_ h7_
  have HO163:=n0_
  have BK160:=n1_
  have BK170:=n2_
  have GW170:=n3_
  have GE170:=n4_
  have NB160_170:=n5_
  have NB170_160:=n6_
  have HB:=n7_
  clear n0_ n1_ n2_ n3_ n4_ n5_ n6_ n7_
  have hHeld:w57.cell? ⟨gb160,0,none⟩=some (.slice A0_0 l0_0.length c0_0)∧w57.cell? ⟨gb160,1,none⟩=some (.int .i64 a0_1)∧w57.cell? ⟨gb160,2,none⟩=some (.int .i64 a0_2):=hS_
  refine norm_ (a':=?_) ?_ ?_
  rotate_left
  ·simp only [putAll,Act.put,List.setIfInBounds_toArray,List.set_cons_zero,List.set_cons_succ]
   rfl
  refine oP 7 none HT_ (fun K hK=>?_)
  have hs58:w57.cell? ⟨gb170,0,none⟩=some (.int .i64 0):=(blk_cell BK170.out 0).trans rfl
  have hfs58:=blk_frozen BK170.out 0
  have hns58_0:=NB160_170.out
  have hms58_0:=NB170_160.out
  have hs59:w57.cell? ⟨gb170,1,none⟩=some (.int .i64 0):=(blk_cell BK170.out 1).trans rfl
  have hfs59:=blk_frozen BK170.out 1
  have hns59_0:=NB160_170.out
  have hms59_0:=NB170_160.out
  have hs60:w57.cell? ⟨gb170,2,none⟩=some (.int .i64 0):=(blk_cell BK170.out 2).trans rfl
  have hfs60:=blk_frozen BK170.out 2
  have hns60_0:=NB160_170.out
  have hms60_0:=NB170_160.out
  have hs61:w57.cell? ⟨gb170,3,none⟩=some (.int .i64 0):=(blk_cell BK170.out 3).trans rfl
  have hfs61:=blk_frozen BK170.out 3
  have hns61_0:=NB160_170.out
  have hms61_0:=NB170_160.out
  have hs62:w57.cell? ⟨gb170,4,none⟩=some (.int .i64 0):=(blk_cell BK170.out 4).trans rfl
  have hfs62:=blk_frozen BK170.out 4
  have hns62_0:=NB160_170.out
  have hms62_0:=NB170_160.out
  refine skip_ (w1:=?_) (by rfl) rfl ?_ ?_
  rotate_left
  ·go_simp
   rfl
  refine hK.out _ _ ⟨((cell_far (p:=⟨gb170,_,none⟩) NB160_170.out _).trans (((cell_far (p:=⟨gb170,_,none⟩) NB160_170.out _).trans (((cell_far (p:=⟨gb170,_,none⟩) NB160_170.out _).trans (((cell_far (p:=⟨gb170,_,none⟩) NB160_170.out _).trans (((cell_far (p:=⟨gb170,_,none⟩) NB160_170.out _).trans (hHeld.1)))))))))),((cell_far (p:=⟨gb170,_,none⟩) NB160_170.out _).trans (((cell_far (p:=⟨gb170,_,none⟩) NB160_170.out _).trans (((cell_far (p:=⟨gb170,_,none⟩) NB160_170.out _).trans (((cell_far (p:=⟨gb170,_,none⟩) NB160_170.out _).trans (((cell_far (p:=⟨gb170,_,none⟩) NB160_170.out _).trans (hHeld.2.1)))))))))),((cell_far (p:=⟨gb170,_,none⟩) NB160_170.out _).trans (((cell_far (p:=⟨gb170,_,none⟩) NB160_170.out _).trans (((cell_far (p:=⟨gb170,_,none⟩) NB160_170.out _).trans (((cell_far (p:=⟨gb170,_,none⟩) NB160_170.out _).trans (((cell_far (p:=⟨gb170,_,none⟩) NB160_170.out _).trans (hHeld.2.2))))))))))⟩ (fun hHeld=>?_)
  clear hK K
  refine done_ (done_of HT_.out (by kernel_rfl)) ?_
  have hnb63:=NB170_160.out
  have hnc63:=NB160_170.out
  obtain ⟨_,_,_,_,_,_,_,_,_,_⟩:=xC5 BK170.out
  try go_wp2_with (first|((with_reducible refine gate_callee (f:=78) rfl ?_);refine gL (some 23) Try.func78 #[.agg #[.int .i64 t165,.int .i64 t166,.int .i64 t167,.int .i64 t168,.int .i64 t169]] ?_;(with_reducible refine (orders_window_ends.calls t165 t166 t167 t168 t169 t171 t172 _ A8.out).mono ?_);rintro e w65 ⟨rfl,hb⟩;refine ⟨_,rfl,?_⟩;replace HO163:=qK (Kd.R_below (rS ((Kd.R_mono (Kd.R_far (p:=⟨gb170,4,none⟩) (Kd.R_far (p:=⟨gb170,3,none⟩) (Kd.R_far (p:=⟨gb170,2,none⟩) (Kd.R_far (p:=⟨gb170,1,none⟩) (Kd.R_far (p:=⟨gb170,0,none⟩) (Kd.R_types HO163.out BK170.out (by decide)) (fun _ hk=>hk.2) (.int .i64 t165)) (fun _ hk=>hk.2) (.int .i64 t166)) (fun _ hk=>hk.2) (.int .i64 t167)) (fun _ hk=>hk.2) (.int .i64 t168)) (fun _ hk=>hk.2) (.int .i64 t169)) (fun _ h_=>h_.1)))) hb);replace BK160:=qK (blk_below (g:=gb160) (o:=.cells #[.slice A0_0 l0_0.length c0_0,.int .i64 a0_1,.int .i64 a0_2] 26 (0,0)) (by (with_reducible repeat (first|refine blk_drewN ?_ _|refine blk_drew ?_|refine blk_alloc ?_ _));refine blk_far ?_ NB160_170.out _;(with_reducible repeat (first|refine blk_drewN ?_ _|refine blk_drew ?_|refine blk_alloc ?_ _));refine blk_far ?_ NB160_170.out _;(with_reducible repeat (first|refine blk_drewN ?_ _|refine blk_drew ?_|refine blk_alloc ?_ _));refine blk_far ?_ NB160_170.out _;(with_reducible repeat (first|refine blk_drewN ?_ _|refine blk_drew ?_|refine blk_alloc ?_ _));refine blk_far ?_ NB160_170.out _;(with_reducible repeat (first|refine blk_drewN ?_ _|refine blk_drew ?_|refine blk_alloc ?_ _));refine blk_far ?_ NB160_170.out _;(with_reducible repeat (first|refine blk_drewN ?_ _|refine blk_drew ?_|refine blk_alloc ?_ _));exact BK160.out) hb);replace BK170:=qK (blk_below (g:=gb170) (o:=.cells #[.int .i64 t165,.int .i64 t166,.int .i64 t167,.int .i64 t168,.int .i64 t169] 105 (0,0)) (by (with_reducible repeat (first|refine blk_drewN ?_ _|refine blk_drew ?_|refine blk_alloc ?_ _));refine blk_put (cs:=#[.int .i64 t165,.int .i64 t166,.int .i64 t167,.int .i64 t168,.int .i64 0]) ?_ 4 _ rfl;(with_reducible repeat (first|refine blk_drewN ?_ _|refine blk_drew ?_|refine blk_alloc ?_ _));refine blk_put (cs:=#[.int .i64 t165,.int .i64 t166,.int .i64 t167,.int .i64 0,.int .i64 0]) ?_ 3 _ rfl;(with_reducible repeat (first|refine blk_drewN ?_ _|refine blk_drew ?_|refine blk_alloc ?_ _));refine blk_put (cs:=#[.int .i64 t165,.int .i64 t166,.int .i64 0,.int .i64 0,.int .i64 0]) ?_ 2 _ rfl;(with_reducible repeat (first|refine blk_drewN ?_ _|refine blk_drew ?_|refine blk_alloc ?_ _));refine blk_put (cs:=#[.int .i64 t165,.int .i64 0,.int .i64 0,.int .i64 0,.int .i64 0]) ?_ 1 _ rfl;(with_reducible repeat (first|refine blk_drewN ?_ _|refine blk_drew ?_|refine blk_alloc ?_ _));refine blk_put (cs:=#[.int .i64 0,.int .i64 0,.int .i64 0,.int .i64 0,.int .i64 0]) ?_ 0 _ rfl;(with_reducible repeat (first|refine blk_drewN ?_ _|refine blk_drew ?_|refine blk_alloc ?_ _));exact BK170.out) hb);replace HB:=qK (bS hb);obtain ⟨_,_,_,_,_,_,_,_,_,_⟩:=xC5 BK170.out)|((with_reducible refine gate_callee (f:=79) rfl ?_);refine goesL_ (some 39) rfl rfl Try.func79 (by kernel_rfl) rfl #[.agg #[.int .i64 t165,.int .i64 t166,.int .i64 t167,.int .i64 t168,.int .i64 t169],.int .i64 ji9] rfl (by (try simp only [List.map_toArray,List.map_cons,List.map_nil]);first|done|(simp only [hji9];rfl)|rfl|(simp only [List.length_drop,List.length_take];rfl)) ?_;(with_reducible refine (orders_window_seen.calls t165 t166 t167 t168 t169 ji9 t173 t174 _ A27.out).mono ?_);rintro e w67 ⟨rfl,hb⟩;refine ⟨_,rfl,?_⟩;replace HO163:=qK (Kd.R_below (rS HO163.out) hb);replace BK160:=qK (bB BK160.out hb);replace BK170:=qK (bB BK170.out hb);replace HB:=qK (bS hb))|((with_reducible refine gate_dst (N:=14) rfl ?_);refine bE #[.int .i64 0,.int .i64 0] 24 ?_;intro gb175 hg w68 hbox hb;replace HO163:=qK (Kd.R_below (rS HO163.out) hb);have BK175:=qK (hbox);have GW175:=qK ((gS hg:w.heap.size≤gb175));have GE175:=qK ((gS hg:w.heap.size≤gb175));replace HB:=qK (bS hb);have NB160_175:=qK ((nL hg BK160.out:gb160≠gb175));have NB175_160:=qK ((nG hg BK160.out:gb175≠gb160));replace BK160:=qK (bB BK160.out hb);have NB170_175:=qK ((nL hg BK170.out:gb170≠gb175));have NB175_170:=qK ((nG hg BK170.out:gb175≠gb170));replace BK170:=qK (bB BK170.out hb);clear hb hbox hg;have hnb69:=NB175_160.out;have hnc69:=NB160_175.out;have hnb70:=NB175_170.out;have hnc70:=NB170_175.out;obtain ⟨_,_,_,_⟩:=xC2 BK175.out))
  go_ret2
  exact ⟨_,by first|rfl|(simp [errW_none,errW_some] <;> rfl)|(simp only [← hji9];first|rfl|(simp [errW_none,errW_some] <;> rfl))|(simp [*,errW_none,errW_some] <;> rfl),by first|exact Kd.R_nil _ _ _ _ _|exact Kd.N_nil _ _ _ _ _|exact Kd.V_nil _ _ _ _ _|exact Kd.Q_nil _ _ _ _ _|exact Kd.S_nil _ _ _ _ _,bA⟩
 rw [if_neg c50] at H
 have c50b0:decide (t174≤a2)=false:=decide_eq_false c50
 clear c50
 replace H:=Option.bind_eq_some_iff.mp H
 obtain ⟨t176,A720,H⟩:=H
 replace H:(some (t176,true))=some (r1,r2):=H
 have A72:=Aside0.mk A720
 clear A720
 simp only [Option.some.injEq,Prod.mk.injEq] at H
 obtain ⟨rfl,rfl⟩:=H
 go_enter Try.func48,Try.ntmps48
 try go_wp2_with (first|((with_reducible refine gate_dst (N:=4) rfl ?_);refine bE #[.slice A0_0 l0_0.length c0_0,.int .i64 a0_1,.int .i64 a0_2] 26 ?_;intro gb160 hg w73 hbox hb;have BK160:=qK (hbox);have GW160:=qK ((gS hg:w.heap.size≤gb160));have GE160:=qK ((gS hg:w.heap.size≤gb160));replace HB:=qK (bS hb);clear hb hbox hg))
 replace BK160:=qK (blk_drew BK160.out)
 replace HB:=qK (below_drew1 HB.out)
 refine start_ (n:=8) (S:=fun w'=>w'.cell? ⟨gb160,0,none⟩=some (.slice A0_0 l0_0.length c0_0)∧w'.cell? ⟨gb160,1,none⟩=some (.int .i64 a0_1)∧w'.cell? ⟨gb160,2,none⟩=some (.int .i64 a0_2)) (ds:=[]) #[false,false,false,false,false,false,false,false] (by kernel_rfl) rfl rfl ⟨(blk_cell BK160.out 0).trans rfl,(blk_cell BK160.out 1).trans rfl,(blk_cell BK160.out 2).trans rfl⟩ (fun hHeld=>?_);refine with_tabW orders_open.tab1 orders_open.bits1 (fun HT_ HW_=>?_)
 generalize w73.drew=w74 at BK160 HB hHeld ⊢
 refine pP 2 (some 17) HT_ ?_
 refine tP 0 (some 15) HT_ HW_ hHeld ?_
 refine tP 1 (some 16) HT_ HW_ hHeld ?_
 refine join_ (σ:=Value × Nat) 1 #[true,true,true,true,true,true,true,false] (fun s_=>[(18,s_.1),(19,.int .i64 t164),(20,.agg #[.int .i64 t165,.int .i64 t166,.int .i64 t167,.int .i64 t168,.int .i64 t169]),(10,.pointer (some ⟨s_.2,0,none⟩))]) (fun s_ w'=>(w'.cell? ⟨gb160,0,none⟩=some (.slice A0_0 l0_0.length c0_0)∧w'.cell? ⟨gb160,1,none⟩=some (.int .i64 a0_1)∧w'.cell? ⟨gb160,2,none⟩=some (.int .i64 a0_2))∧(Kd.R (Kd.int .i64) 3 w' w.heap.size (fun _=>True) s_.1 t161)∧(w'.heap[gb160]? = some (.cells #[.slice A0_0 l0_0.length c0_0,.int .i64 a0_1,.int .i64 a0_2] 26 (0,0)))∧(w'.heap[s_.2]? = some (.cells #[.int .i64 0,.int .i64 0,.int .i64 0,.int .i64 0,.int .i64 0] 105 (0,0)))∧(w.heap.size≤s_.2)∧(w.heap.size≤s_.2)∧(gb160≠s_.2)∧(s_.2≠gb160)∧(Below w.heap.size w w')) ?_ ?_
 rotate_left
 ·intro hCont
  refine two_ (i:=3) (j:=6) (Ni:=some 18) (Nj:=some 10) #[true,true,true,true,false,false,false,false] #[true,true,true,false,false,false,true,false] rfl rfl rfl rfl (two_of HT_.out (by kernel_rfl)) (by decide) (by decide) (fun K hK=>?_) (fun K hK=>?_)
  ·skip
   refine gO Try.func62 #[.agg #[.slice A0_0 l0_0.length c0_0,.int .i64 a0_1,.int .i64 a0_2],.slice A1 l1.length c1] ?_
   with_reducible refine (orders_gains.calls k _ _ l0_0 a0_1 a0_2 _ _ l1 t161 _ ?side1 ?side2 ?side3 ?side4 A5.out).mono ?_
   (case side1=>exact cS HR0_0.out)
   (case side2=>exact HC0_0.out)
   (case side3=>exact cS HR1.out)
   (case side4=>exact HC1.out)
   rintro e w75 ⟨v162,rfl,ho0,hb⟩
   refine ⟨_,rfl,?_⟩
   have HO163:=qK (Kd.R_lower ho0 bZ)
   replace BK160:=qK (bB BK160.out hb)
   replace HB:=qK (bS hb)
   (try clear hb)
   (try clear hb2)
   (try clear hk)
   (try clear hi)
   (try clear ho0)
   obtain ⟨Ao76,co76,eo76⟩:=Kd.R_slice HO163.out
   (first|subst eo76|(injection eo76 with f1_ f2_ f3_;have f4_:=f1_.symm;have f5_:=f3_.symm;clear f1_ f2_ f3_;subst f4_;subst f5_))
   refine hK.out _ _ ⟨(blk_cell BK160.out 0).trans rfl,(blk_cell BK160.out 1).trans rfl,(blk_cell BK160.out 2).trans rfl⟩ (fun hHeld=>?_)
   clear hK K
   refine nP ?_
   refine two_ (i:=4) (j:=6) (Ni:=some 19) (Nj:=some 10) #[true,true,true,true,true,false,false,false] #[true,true,true,true,false,false,true,false] rfl rfl rfl rfl (two_of HT_.out (by kernel_rfl)) (by decide) (by decide) (fun K hK=>?_) (fun K hK=>?_)
   ·skip
    refine gO Try.func66 #[.slice Ao76 t161.length co76] ?_
    with_reducible refine (orders_total.calls k _ _ t161 t164 _ ?side1 ?side2 A6.out).mono ?_
    (case side1=>exact cR (Kd.R_reads' HO163.out).2.2)
    (case side2=>exact (Kd.R_reads' HO163.out).2.1)
    rintro e w' ⟨rfl,⟨nd,rfl⟩⟩
    refine ⟨_,rfl,?_⟩
    refine hK.out _ _ ⟨(blk_cell BK160.out 0).trans rfl,(blk_cell BK160.out 1).trans rfl,(blk_cell BK160.out 2).trans rfl⟩ (fun hHeld=>?_)
    clear hK K
    refine nP ?_
    refine two_ (i:=5) (j:=6) (Ni:=some 20) (Nj:=some 10) #[true,true,true,true,true,true,false,false] #[true,true,true,true,true,false,true,false] rfl rfl rfl rfl (two_of HT_.out (by kernel_rfl)) (by decide) (by decide) (fun K hK=>?_) (fun K hK=>?_)
    ·skip
     refine gO Try.func64 #[.agg #[.slice A0_0 l0_0.length c0_0,.int .i64 a0_1,.int .i64 a0_2],.int .i64 t164] ?_
     with_reducible refine (orders_windowOf.calls k _ _ l0_0 a0_1 a0_2 t164 t165 t166 t167 t168 t169 _ ?side1 ?side2 A7.out).mono ?_
     (case side1=>repeat (first|exact (Kd.C_below HR0_0.out bA)|(with_reducible refine Kd.C_alloc ?_ _)|(with_reducible refine Kd.C_drewN ?_ _)|(with_reducible refine Kd.C_drew ?_)))
     (case side2=>exact HC0_0.out)
     rintro e w77 ⟨rfl,hb⟩
     refine ⟨_,rfl,?_⟩
     replace HO163:=qK (Kd.R_below (rS HO163.out) hb)
     replace BK160:=qK (bB BK160.out hb)
     replace HB:=qK (bS hb)
     (try clear hb)
     (try clear hb2)
     (try clear hk)
     (try clear hi)
     refine hK.out _ _ ⟨(blk_cell BK160.out 0).trans rfl,(blk_cell BK160.out 1).trans rfl,(blk_cell BK160.out 2).trans rfl⟩ (fun hHeld=>?_)
     clear hK K
     refine nP ?_
     refine oP 6 (some 10) HT_ (fun K hK=>?_)
     refine box_step ?hg (N:=10) ?hd (cs:=#[.int .i64 0,.int .i64 0,.int .i64 0,.int .i64 0,.int .i64 0]) (t:=105) ?hr ?_;(case hd=>rfl);(case hg=>rfl);(case hr=>first|(go_simp;done)|(go_simp;rfl))
     intro gb170 hg w78 hbox hb
     replace HO163:=qK (Kd.R_below (rS HO163.out) hb)
     have BK170:=qK (hbox)
     have GW170:=qK ((gS hg:w.heap.size≤gb170))
     have GE170:=qK ((gS hg:w.heap.size≤gb170))
     replace HB:=qK (bS hb)
     have NB160_170:=qK ((nL hg BK160.out:gb160≠gb170))
     have NB170_160:=qK ((nG hg BK160.out:gb170≠gb160))
     replace BK160:=qK (bB BK160.out hb)
     clear hb hbox hg
     refine hK.out _ _ ⟨(blk_cell BK160.out 0).trans rfl,(blk_cell BK160.out 1).trans rfl,(blk_cell BK160.out 2).trans rfl⟩ (fun hHeld=>?_)
     clear hK K
     refine nP ?_
     exact norm_ (by simp only [putAll,Act.put,List.setIfInBounds_toArray,List.set_cons_zero,List.set_cons_succ]) (hCont (.slice Ao76 t161.length co76,gb170) _ ⟨hHeld,(rS HO163.out),(bX BK160.out),(bX BK170.out),GW170.out,GE170.out,NB160_170.out,NB170_160.out,bA⟩)
    ·skip
     refine box_step ?hg (N:=10) ?hd (cs:=#[.int .i64 0,.int .i64 0,.int .i64 0,.int .i64 0,.int .i64 0]) (t:=105) ?hr ?_;(case hd=>rfl);(case hg=>rfl);(case hr=>first|(go_simp;done)|(go_simp;rfl))
     intro gb170 hg w77 hbox hb
     replace HO163:=qK (Kd.R_below (rS HO163.out) hb)
     have BK170:=qK (hbox)
     have GW170:=qK ((gS hg:w.heap.size≤gb170))
     have GE170:=qK ((gS hg:w.heap.size≤gb170))
     replace HB:=qK (bS hb)
     have NB160_170:=qK ((nL hg BK160.out:gb160≠gb170))
     have NB170_160:=qK ((nG hg BK160.out:gb170≠gb160))
     replace BK160:=qK (bB BK160.out hb)
     clear hb hbox hg
     refine hK.out _ _ ⟨(blk_cell BK160.out 0).trans rfl,(blk_cell BK160.out 1).trans rfl,(blk_cell BK160.out 2).trans rfl⟩ (fun hHeld=>?_)
     clear hK K
     refine nP ?_
     refine oP 5 (some 20) HT_ (fun K hK=>?_)
     refine gO Try.func64 #[.agg #[.slice A0_0 l0_0.length c0_0,.int .i64 a0_1,.int .i64 a0_2],.int .i64 t164] ?_
     with_reducible refine (orders_windowOf.calls k _ _ l0_0 a0_1 a0_2 t164 t165 t166 t167 t168 t169 _ ?side1 ?side2 A7.out).mono ?_
     (case side1=>exact cS HR0_0.out)
     (case side2=>exact HC0_0.out)
     rintro e w78 ⟨rfl,hb⟩
     refine ⟨_,rfl,?_⟩
     replace HO163:=qK (Kd.R_below (rS HO163.out) hb)
     replace BK160:=qK (bB BK160.out hb)
     replace BK170:=qK (bB BK170.out hb)
     replace HB:=qK (bS hb)
     (try clear hb)
     (try clear hb2)
     (try clear hk)
     (try clear hi)
     refine hK.out _ _ ⟨(blk_cell BK160.out 0).trans rfl,(blk_cell BK160.out 1).trans rfl,(blk_cell BK160.out 2).trans rfl⟩ (fun hHeld=>?_)
     clear hK K
     refine nP ?_
     exact norm_ (by simp only [putAll,Act.put,List.setIfInBounds_toArray,List.set_cons_zero,List.set_cons_succ]) (hCont (.slice Ao76 t161.length co76,gb170) _ ⟨hHeld,(rS HO163.out),(bX BK160.out),(bX BK170.out),GW170.out,GE170.out,NB160_170.out,NB170_160.out,bA⟩)
   ·skip
    refine box_step ?hg (N:=10) ?hd (cs:=#[.int .i64 0,.int .i64 0,.int .i64 0,.int .i64 0,.int .i64 0]) (t:=105) ?hr ?_;(case hd=>rfl);(case hg=>rfl);(case hr=>first|(go_simp;done)|(go_simp;rfl))
    intro gb170 hg w76 hbox hb
    replace HO163:=qK (Kd.R_below (rS HO163.out) hb)
    have BK170:=qK (hbox)
    have GW170:=qK ((gS hg:w.heap.size≤gb170))
    have GE170:=qK ((gS hg:w.heap.size≤gb170))
    replace HB:=qK (bS hb)
    have NB160_170:=qK ((nL hg BK160.out:gb160≠gb170))
    have NB170_160:=qK ((nG hg BK160.out:gb170≠gb160))
    replace BK160:=qK (bB BK160.out hb)
    clear hb hbox hg
    obtain ⟨Ao77,co77,eo77⟩:=Kd.R_slice HO163.out
    (first|subst eo77|(injection eo77 with f1_ f2_ f3_;have f4_:=f1_.symm;have f5_:=f3_.symm;clear f1_ f2_ f3_;subst f4_;subst f5_))
    refine hK.out _ _ ⟨(blk_cell BK160.out 0).trans rfl,(blk_cell BK160.out 1).trans rfl,(blk_cell BK160.out 2).trans rfl⟩ (fun hHeld=>?_)
    clear hK K
    refine nP ?_
    refine oP 4 (some 19) HT_ (fun K hK=>?_)
    refine gO Try.func66 #[.slice Ao77 t161.length co77] ?_
    with_reducible refine (orders_total.calls k _ _ t161 t164 _ ?side1 ?side2 A6.out).mono ?_
    (case side1=>exact cR (Kd.R_reads' HO163.out).2.2)
    (case side2=>exact (Kd.R_reads' HO163.out).2.1)
    rintro e w' ⟨rfl,⟨nd,rfl⟩⟩
    refine ⟨_,rfl,?_⟩
    refine hK.out _ _ ⟨(blk_cell BK160.out 0).trans rfl,(blk_cell BK160.out 1).trans rfl,(blk_cell BK160.out 2).trans rfl⟩ (fun hHeld=>?_)
    clear hK K
    refine nP ?_
    refine oP 5 (some 20) HT_ (fun K hK=>?_)
    refine gO Try.func64 #[.agg #[.slice A0_0 l0_0.length c0_0,.int .i64 a0_1,.int .i64 a0_2],.int .i64 t164] ?_
    with_reducible refine (orders_windowOf.calls k _ _ l0_0 a0_1 a0_2 t164 t165 t166 t167 t168 t169 _ ?side1 ?side2 A7.out).mono ?_
    (case side1=>repeat (first|exact (Kd.C_below HR0_0.out bA)|(with_reducible refine Kd.C_alloc ?_ _)|(with_reducible refine Kd.C_drewN ?_ _)|(with_reducible refine Kd.C_drew ?_)))
    (case side2=>exact HC0_0.out)
    rintro e w78 ⟨rfl,hb⟩
    refine ⟨_,rfl,?_⟩
    replace HO163:=qK (Kd.R_below (rS HO163.out) hb)
    replace BK160:=qK (bB BK160.out hb)
    replace BK170:=qK (bB BK170.out hb)
    replace HB:=qK (bS hb)
    (try clear hb)
    (try clear hb2)
    (try clear hk)
    (try clear hi)
    refine hK.out _ _ ⟨(blk_cell BK160.out 0).trans rfl,(blk_cell BK160.out 1).trans rfl,(blk_cell BK160.out 2).trans rfl⟩ (fun hHeld=>?_)
    clear hK K
    refine nP ?_
    exact norm_ (by simp only [putAll,Act.put,List.setIfInBounds_toArray,List.set_cons_zero,List.set_cons_succ]) (hCont (.slice Ao77 t161.length co77,gb170) _ ⟨hHeld,(rS HO163.out),(bX BK160.out),(bX BK170.out),GW170.out,GE170.out,NB160_170.out,NB170_160.out,bA⟩)
  ·skip
   refine box_step ?hg (N:=10) ?hd (cs:=#[.int .i64 0,.int .i64 0,.int .i64 0,.int .i64 0,.int .i64 0]) (t:=105) ?hr ?_;(case hd=>rfl);(case hg=>rfl);(case hr=>first|(go_simp;done)|(go_simp;rfl))
   intro gb170 hg w75 hbox hb
   have BK170:=qK (hbox)
   have GW170:=qK ((gS hg:w.heap.size≤gb170))
   have GE170:=qK ((gS hg:w.heap.size≤gb170))
   replace HB:=qK (bS hb)
   have NB160_170:=qK ((nL hg BK160.out:gb160≠gb170))
   have NB170_160:=qK ((nG hg BK160.out:gb170≠gb160))
   replace BK160:=qK (bB BK160.out hb)
   clear hb hbox hg
   refine hK.out _ _ ⟨(blk_cell BK160.out 0).trans rfl,(blk_cell BK160.out 1).trans rfl,(blk_cell BK160.out 2).trans rfl⟩ (fun hHeld=>?_)
   clear hK K
   refine nP ?_
   refine oP 3 (some 18) HT_ (fun K hK=>?_)
   refine gO Try.func62 #[.agg #[.slice A0_0 l0_0.length c0_0,.int .i64 a0_1,.int .i64 a0_2],.slice A1 l1.length c1] ?_
   with_reducible refine (orders_gains.calls k _ _ l0_0 a0_1 a0_2 _ _ l1 t161 _ ?side1 ?side2 ?side3 ?side4 A5.out).mono ?_
   (case side1=>exact cS HR0_0.out)
   (case side2=>exact HC0_0.out)
   (case side3=>exact cS HR1.out)
   (case side4=>exact HC1.out)
   rintro e w76 ⟨v162,rfl,ho0,hb⟩
   refine ⟨_,rfl,?_⟩
   have HO163:=qK (Kd.R_lower ho0 bZ)
   replace BK160:=qK (bB BK160.out hb)
   replace BK170:=qK (bB BK170.out hb)
   replace HB:=qK (bS hb)
   (try clear hb)
   (try clear hb2)
   (try clear hk)
   (try clear hi)
   (try clear ho0)
   obtain ⟨Ao77,co77,eo77⟩:=Kd.R_slice HO163.out
   (first|subst eo77|(injection eo77 with f1_ f2_ f3_;have f4_:=f1_.symm;have f5_:=f3_.symm;clear f1_ f2_ f3_;subst f4_;subst f5_))
   refine hK.out _ _ ⟨(blk_cell BK160.out 0).trans rfl,(blk_cell BK160.out 1).trans rfl,(blk_cell BK160.out 2).trans rfl⟩ (fun hHeld=>?_)
   clear hK K
   refine nP ?_
   refine oP 4 (some 19) HT_ (fun K hK=>?_)
   refine gO Try.func66 #[.slice Ao77 t161.length co77] ?_
   with_reducible refine (orders_total.calls k _ _ t161 t164 _ ?side1 ?side2 A6.out).mono ?_
   (case side1=>exact cR (Kd.R_reads' HO163.out).2.2)
   (case side2=>exact (Kd.R_reads' HO163.out).2.1)
   rintro e w' ⟨rfl,⟨nd,rfl⟩⟩
   refine ⟨_,rfl,?_⟩
   refine hK.out _ _ ⟨(blk_cell BK160.out 0).trans rfl,(blk_cell BK160.out 1).trans rfl,(blk_cell BK160.out 2).trans rfl⟩ (fun hHeld=>?_)
   clear hK K
   refine nP ?_
   refine oP 5 (some 20) HT_ (fun K hK=>?_)
   refine gO Try.func64 #[.agg #[.slice A0_0 l0_0.length c0_0,.int .i64 a0_1,.int .i64 a0_2],.int .i64 t164] ?_
   with_reducible refine (orders_windowOf.calls k _ _ l0_0 a0_1 a0_2 t164 t165 t166 t167 t168 t169 _ ?side1 ?side2 A7.out).mono ?_
   (case side1=>repeat (first|exact (Kd.C_below HR0_0.out bA)|(with_reducible refine Kd.C_alloc ?_ _)|(with_reducible refine Kd.C_drewN ?_ _)|(with_reducible refine Kd.C_drew ?_)))
   (case side2=>exact HC0_0.out)
   rintro e w78 ⟨rfl,hb⟩
   refine ⟨_,rfl,?_⟩
   replace HO163:=qK (Kd.R_below (rS HO163.out) hb)
   replace BK160:=qK (bB BK160.out hb)
   replace BK170:=qK (bB BK170.out hb)
   replace HB:=qK (bS hb)
   (try clear hb)
   (try clear hb2)
   (try clear hk)
   (try clear hi)
   refine hK.out _ _ ⟨(blk_cell BK160.out 0).trans rfl,(blk_cell BK160.out 1).trans rfl,(blk_cell BK160.out 2).trans rfl⟩ (fun hHeld=>?_)
   clear hK K
   refine nP ?_
   exact norm_ (by simp only [putAll,Act.put,List.setIfInBounds_toArray,List.set_cons_zero,List.set_cons_succ]) (hCont (.slice Ao77 t161.length co77,gb170) _ ⟨hHeld,(rS HO163.out),(bX BK160.out),(bX BK170.out),GW170.out,GE170.out,NB160_170.out,NB170_160.out,bA⟩)
 rintro ⟨v162,gb170⟩ w79 ⟨hS_,h0_,h1_,h2_,h3_,h4_,h5_,h6_,h7_⟩
 have n0_:Aside0 (Kd.R (Kd.int .i64) 3 w79 w.heap.size (fun _=>True) v162 t161):=⟨h0_⟩
 have n1_:Aside0 (w79.heap[gb160]? = some (.cells #[.slice A0_0 l0_0.length c0_0,.int .i64 a0_1,.int .i64 a0_2] 26 (0,0))):=⟨h1_⟩
 have n2_:Aside0 (w79.heap[gb170]? = some (.cells #[.int .i64 0,.int .i64 0,.int .i64 0,.int .i64 0,.int .i64 0] 105 (0,0))):=⟨h2_⟩
 have n3_:Aside0 (w.heap.size≤gb170):=⟨h3_⟩
 have n4_:Aside0 (w.heap.size≤gb170):=⟨h4_⟩
 have n5_:Aside0 (gb160≠gb170):=⟨h5_⟩
 have n6_:Aside0 (gb170≠gb160):=⟨h6_⟩
 have n7_:Aside0 (Below w.heap.size w w79):=⟨h7_⟩
 clear BK160
 clear HB
 clear h0_ h1_ h2_ h3_ h4_ h5_ h6_ h7_
 have HO163:=n0_
 have BK160:=n1_
 have BK170:=n2_
 have GW170:=n3_
 have GE170:=n4_
 have NB160_170:=n5_
 have NB170_160:=n6_
 have HB:=n7_
 clear n0_ n1_ n2_ n3_ n4_ n5_ n6_ n7_
 have hHeld:w79.cell? ⟨gb160,0,none⟩=some (.slice A0_0 l0_0.length c0_0)∧w79.cell? ⟨gb160,1,none⟩=some (.int .i64 a0_1)∧w79.cell? ⟨gb160,2,none⟩=some (.int .i64 a0_2):=hS_
 refine norm_ (a':=?_) ?_ ?_
 rotate_left
 ·simp only [putAll,Act.put,List.setIfInBounds_toArray,List.set_cons_zero,List.set_cons_succ]
  rfl
 refine oP 7 none HT_ (fun K hK=>?_)
 have hs80:w79.cell? ⟨gb170,0,none⟩=some (.int .i64 0):=(blk_cell BK170.out 0).trans rfl
 have hfs80:=blk_frozen BK170.out 0
 have hns80_0:=NB160_170.out
 have hms80_0:=NB170_160.out
 have hs81:w79.cell? ⟨gb170,1,none⟩=some (.int .i64 0):=(blk_cell BK170.out 1).trans rfl
 have hfs81:=blk_frozen BK170.out 1
 have hns81_0:=NB160_170.out
 have hms81_0:=NB170_160.out
 have hs82:w79.cell? ⟨gb170,2,none⟩=some (.int .i64 0):=(blk_cell BK170.out 2).trans rfl
 have hfs82:=blk_frozen BK170.out 2
 have hns82_0:=NB160_170.out
 have hms82_0:=NB170_160.out
 have hs83:w79.cell? ⟨gb170,3,none⟩=some (.int .i64 0):=(blk_cell BK170.out 3).trans rfl
 have hfs83:=blk_frozen BK170.out 3
 have hns83_0:=NB160_170.out
 have hms83_0:=NB170_160.out
 have hs84:w79.cell? ⟨gb170,4,none⟩=some (.int .i64 0):=(blk_cell BK170.out 4).trans rfl
 have hfs84:=blk_frozen BK170.out 4
 have hns84_0:=NB160_170.out
 have hms84_0:=NB170_160.out
 refine skip_ (w1:=?_) (by rfl) rfl ?_ ?_
 rotate_left
 ·go_simp
  rfl
 refine hK.out _ _ ⟨((cell_far (p:=⟨gb170,_,none⟩) NB160_170.out _).trans (((cell_far (p:=⟨gb170,_,none⟩) NB160_170.out _).trans (((cell_far (p:=⟨gb170,_,none⟩) NB160_170.out _).trans (((cell_far (p:=⟨gb170,_,none⟩) NB160_170.out _).trans (((cell_far (p:=⟨gb170,_,none⟩) NB160_170.out _).trans (hHeld.1)))))))))),((cell_far (p:=⟨gb170,_,none⟩) NB160_170.out _).trans (((cell_far (p:=⟨gb170,_,none⟩) NB160_170.out _).trans (((cell_far (p:=⟨gb170,_,none⟩) NB160_170.out _).trans (((cell_far (p:=⟨gb170,_,none⟩) NB160_170.out _).trans (((cell_far (p:=⟨gb170,_,none⟩) NB160_170.out _).trans (hHeld.2.1)))))))))),((cell_far (p:=⟨gb170,_,none⟩) NB160_170.out _).trans (((cell_far (p:=⟨gb170,_,none⟩) NB160_170.out _).trans (((cell_far (p:=⟨gb170,_,none⟩) NB160_170.out _).trans (((cell_far (p:=⟨gb170,_,none⟩) NB160_170.out _).trans (((cell_far (p:=⟨gb170,_,none⟩) NB160_170.out _).trans (hHeld.2.2))))))))))⟩ (fun hHeld=>?_)
 clear hK K
 refine done_ (done_of HT_.out (by kernel_rfl)) ?_
 have hnb85:=NB170_160.out
 have hnc85:=NB160_170.out
 obtain ⟨_,_,_,_,_,_,_,_,_,_⟩:=xC5 BK170.out
 try go_wp2_with (first|((with_reducible refine gate_callee (f:=78) rfl ?_);refine gL (some 23) Try.func78 #[.agg #[.int .i64 t165,.int .i64 t166,.int .i64 t167,.int .i64 t168,.int .i64 t169]] ?_;(with_reducible refine (orders_window_ends.calls t165 t166 t167 t168 t169 t171 t172 _ A8.out).mono ?_);rintro e w87 ⟨rfl,hb⟩;refine ⟨_,rfl,?_⟩;replace HO163:=qK (Kd.R_below (rS ((Kd.R_mono (Kd.R_far (p:=⟨gb170,4,none⟩) (Kd.R_far (p:=⟨gb170,3,none⟩) (Kd.R_far (p:=⟨gb170,2,none⟩) (Kd.R_far (p:=⟨gb170,1,none⟩) (Kd.R_far (p:=⟨gb170,0,none⟩) (Kd.R_types HO163.out BK170.out (by decide)) (fun _ hk=>hk.2) (.int .i64 t165)) (fun _ hk=>hk.2) (.int .i64 t166)) (fun _ hk=>hk.2) (.int .i64 t167)) (fun _ hk=>hk.2) (.int .i64 t168)) (fun _ hk=>hk.2) (.int .i64 t169)) (fun _ h_=>h_.1)))) hb);replace BK160:=qK (blk_below (g:=gb160) (o:=.cells #[.slice A0_0 l0_0.length c0_0,.int .i64 a0_1,.int .i64 a0_2] 26 (0,0)) (by (with_reducible repeat (first|refine blk_drewN ?_ _|refine blk_drew ?_|refine blk_alloc ?_ _));refine blk_far ?_ NB160_170.out _;(with_reducible repeat (first|refine blk_drewN ?_ _|refine blk_drew ?_|refine blk_alloc ?_ _));refine blk_far ?_ NB160_170.out _;(with_reducible repeat (first|refine blk_drewN ?_ _|refine blk_drew ?_|refine blk_alloc ?_ _));refine blk_far ?_ NB160_170.out _;(with_reducible repeat (first|refine blk_drewN ?_ _|refine blk_drew ?_|refine blk_alloc ?_ _));refine blk_far ?_ NB160_170.out _;(with_reducible repeat (first|refine blk_drewN ?_ _|refine blk_drew ?_|refine blk_alloc ?_ _));refine blk_far ?_ NB160_170.out _;(with_reducible repeat (first|refine blk_drewN ?_ _|refine blk_drew ?_|refine blk_alloc ?_ _));exact BK160.out) hb);replace BK170:=qK (blk_below (g:=gb170) (o:=.cells #[.int .i64 t165,.int .i64 t166,.int .i64 t167,.int .i64 t168,.int .i64 t169] 105 (0,0)) (by (with_reducible repeat (first|refine blk_drewN ?_ _|refine blk_drew ?_|refine blk_alloc ?_ _));refine blk_put (cs:=#[.int .i64 t165,.int .i64 t166,.int .i64 t167,.int .i64 t168,.int .i64 0]) ?_ 4 _ rfl;(with_reducible repeat (first|refine blk_drewN ?_ _|refine blk_drew ?_|refine blk_alloc ?_ _));refine blk_put (cs:=#[.int .i64 t165,.int .i64 t166,.int .i64 t167,.int .i64 0,.int .i64 0]) ?_ 3 _ rfl;(with_reducible repeat (first|refine blk_drewN ?_ _|refine blk_drew ?_|refine blk_alloc ?_ _));refine blk_put (cs:=#[.int .i64 t165,.int .i64 t166,.int .i64 0,.int .i64 0,.int .i64 0]) ?_ 2 _ rfl;(with_reducible repeat (first|refine blk_drewN ?_ _|refine blk_drew ?_|refine blk_alloc ?_ _));refine blk_put (cs:=#[.int .i64 t165,.int .i64 0,.int .i64 0,.int .i64 0,.int .i64 0]) ?_ 1 _ rfl;(with_reducible repeat (first|refine blk_drewN ?_ _|refine blk_drew ?_|refine blk_alloc ?_ _));refine blk_put (cs:=#[.int .i64 0,.int .i64 0,.int .i64 0,.int .i64 0,.int .i64 0]) ?_ 0 _ rfl;(with_reducible repeat (first|refine blk_drewN ?_ _|refine blk_drew ?_|refine blk_alloc ?_ _));exact BK170.out) hb);replace HB:=qK (bS hb);obtain ⟨_,_,_,_,_,_,_,_,_,_⟩:=xC5 BK170.out)|((with_reducible refine gate_callee (f:=79) rfl ?_);refine goesL_ (some 39) rfl rfl Try.func79 (by kernel_rfl) rfl #[.agg #[.int .i64 t165,.int .i64 t166,.int .i64 t167,.int .i64 t168,.int .i64 t169],.int .i64 ji9] rfl (by (try simp only [List.map_toArray,List.map_cons,List.map_nil]);first|done|(simp only [hji9];rfl)|rfl|(simp only [List.length_drop,List.length_take];rfl)) ?_;(with_reducible refine (orders_window_seen.calls t165 t166 t167 t168 t169 ji9 t173 t174 _ A27.out).mono ?_);rintro e w89 ⟨rfl,hb⟩;refine ⟨_,rfl,?_⟩;replace HO163:=qK (Kd.R_below (rS HO163.out) hb);replace BK160:=qK (bB BK160.out hb);replace BK170:=qK (bB BK170.out hb);replace HB:=qK (bS hb))|((with_reducible refine gate_dst (N:=14) rfl ?_);refine bE #[.int .i64 0,.int .i64 0] 24 ?_;intro gb175 hg w90 hbox hb;replace HO163:=qK (Kd.R_below (rS HO163.out) hb);have BK175:=qK (hbox);have GW175:=qK ((gS hg:w.heap.size≤gb175));have GE175:=qK ((gS hg:w.heap.size≤gb175));replace HB:=qK (bS hb);have NB160_175:=qK ((nL hg BK160.out:gb160≠gb175));have NB175_160:=qK ((nG hg BK160.out:gb175≠gb160));replace BK160:=qK (bB BK160.out hb);have NB170_175:=qK ((nL hg BK170.out:gb170≠gb175));have NB175_170:=qK ((nG hg BK170.out:gb175≠gb170));replace BK170:=qK (bB BK170.out hb);clear hb hbox hg;have hnb91:=NB175_160.out;have hnc91:=NB160_175.out;have hnb92:=NB175_170.out;have hnc92:=NB170_175.out;obtain ⟨_,_,_,_⟩:=xC2 BK175.out;obtain ⟨_,_,_,_,_,_⟩:=xC3 BK160.out)|((with_reducible refine gate_callee (f:=71) rfl ?_);refine goesL_ (some 53) rfl rfl Try.func71 (by kernel_rfl) rfl #[.agg #[.slice A0_0 l0_0.length c0_0,.int .i64 a0_1,.int .i64 a0_2],.slice A1 l1.length c1,.int .i64 ji9] rfl (by (try simp only [List.map_toArray,List.map_cons,List.map_nil]);first|done|(simp only [hji9];rfl)|rfl|(simp only [List.length_drop,List.length_take];rfl)) ?_;(with_reducible refine (orders_shown.calls k _ _ l0_0 a0_1 a0_2 _ _ l1 ji9 t176 _ ?side1 ?side2 ?side3 ?side4 A72.out).mono ?_);(case side1=>exact Kd.C_below HR0_0.out bA);(case side2=>exact HC0_0.out);(case side3=>exact Kd.C_below HR1.out bA);(case side4=>exact HC1.out);rintro e w95 ⟨v177,rfl,ho0,hb⟩;refine ⟨_,rfl,?_⟩;have HO178:=qK (Kd.R_lower (Kd.R_new' ho0 (Kd.R_lt (rS ((Kd.R_mono (Kd.R_far (p:=⟨gb175,1,none⟩) (Kd.R_far (p:=⟨gb175,0,none⟩) (Kd.R_types HO163.out BK175.out (by decide)) (fun _ hk=>hk.2) (.int .i64 t173)) (fun _ hk=>hk.2) (.int .i64 t174)) (fun _ h_=>h_.1)))))) bZ);replace HO163:=qK (Kd.R_elder' (rS ((Kd.R_mono (Kd.R_far (p:=⟨gb175,1,none⟩) (Kd.R_far (p:=⟨gb175,0,none⟩) (Kd.R_types HO163.out BK175.out (by decide)) (fun _ hk=>hk.2) (.int .i64 t173)) (fun _ hk=>hk.2) (.int .i64 t174)) (fun _ h_=>h_.1)))) (Kd.R_base ho0) hb);replace BK160:=qK (blk_below (g:=gb160) (o:=.cells #[.slice A0_0 l0_0.length c0_0,.int .i64 a0_1,.int .i64 a0_2] 26 (0,0)) (by (with_reducible repeat (first|refine blk_drewN ?_ _|refine blk_drew ?_|refine blk_alloc ?_ _));refine blk_far ?_ NB160_175.out _;(with_reducible repeat (first|refine blk_drewN ?_ _|refine blk_drew ?_|refine blk_alloc ?_ _));refine blk_far ?_ NB160_175.out _;(with_reducible repeat (first|refine blk_drewN ?_ _|refine blk_drew ?_|refine blk_alloc ?_ _));exact BK160.out) hb);replace BK170:=qK (blk_below (g:=gb170) (o:=.cells #[.int .i64 t165,.int .i64 t166,.int .i64 t167,.int .i64 t168,.int .i64 t169] 105 (0,0)) (by (with_reducible repeat (first|refine blk_drewN ?_ _|refine blk_drew ?_|refine blk_alloc ?_ _));refine blk_far ?_ NB170_175.out _;(with_reducible repeat (first|refine blk_drewN ?_ _|refine blk_drew ?_|refine blk_alloc ?_ _));refine blk_far ?_ NB170_175.out _;(with_reducible repeat (first|refine blk_drewN ?_ _|refine blk_drew ?_|refine blk_alloc ?_ _));exact BK170.out) hb);replace BK175:=qK (blk_below (g:=gb175) (o:=.cells #[.int .i64 t173,.int .i64 t174] 24 (0,0)) (by (with_reducible repeat (first|refine blk_drewN ?_ _|refine blk_drew ?_|refine blk_alloc ?_ _));refine blk_put (cs:=#[.int .i64 t173,.int .i64 0]) ?_ 1 _ rfl;(with_reducible repeat (first|refine blk_drewN ?_ _|refine blk_drew ?_|refine blk_alloc ?_ _));refine blk_put (cs:=#[.int .i64 0,.int .i64 0]) ?_ 0 _ rfl;(with_reducible repeat (first|refine blk_drewN ?_ _|refine blk_drew ?_|refine blk_alloc ?_ _));exact BK175.out) hb);replace HB:=qK (bS hb)))
 go_ret2
 exact ⟨_,by first|rfl|(simp [errW_none,errW_some] <;> rfl)|(simp only [← hji9];first|rfl|(simp [errW_none,errW_some] <;> rfl))|(simp [*,errW_none,errW_some] <;> rfl),by (with_reducible repeat (first|apply Kd.R_alloc|apply Kd.R_drewN|apply Kd.R_drew));exact Kd.R_mono HO178.out (fun _ hk=>trivial),bA⟩
end Go.Proofs.Ythimaecnpkcmeaa.K
