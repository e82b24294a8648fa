/- Contracts of Go functions and lemmas for them: each theorem states what one function returns and what it leaves of memory; its conditions stand in its statement. -/
import Derived.Test.YthimaecnpkcmeaaA3
import Derived.Test.YthimaecnpkcmeaaA4
import Derived.Test.YthimaecnpkcmeaaA19
set_option linter.unusedVariables false
set_option linter.unusedSimpArgs false
namespace Go.Proofs.Ythimaecnpkcmeaa.K
open Go.RowKit Go.Proofs.YthimaecnpkcmeaaW.PrintWords Go.Proofs.YthimaecnpkcmeaaW.PrintLast Go.Proofs.YthimaecnpkcmeaaW.PrintMore
attribute [local go_sem] max2_int min2_int max_two min_two max_three min_three max_four min_four   -- for this text's walks alone
set_option linter.unusedVariables false
set_option linter.unusedSimpArgs false
def orders_Sum.f (k:Nat) (l0_0:List (S50)) (a0_1:Int) (a0_2:Int):Option (Int × Int × Int):=(orders_Check.f k l0_0 a0_1 a0_2).bind fun t488=>(if t488=0 then ((orders_all.f k l0_0 a0_1 a0_2).bind fun bt489=>((orders_common.f bt489.1 bt489.2 a0_1 a0_2).bind fun bt491=>(some (bt491.1,bt491.2.1,0)))) else (some (0,0,t488)))
def orders_Sum.T4:Bool × List (List Nat × List Nat):=(true,[([],[]),([0],[0]),([],[]),([2],[2]),([1,3,1],[1,3]),([4],[4]),([5],[5]),([5],[5]),([],[]),([8,6,4,0,1,2,3,4,5,6,8],[6,8]),([7,9,0,1,2,3,4,5,6,7,8,9],[7])])
def orders_Sum.B4:List Nat:=[0,1,0,4,15,31,63,63,0,383,1023]
theorem orders_Sum.tab4:rtab .any (opsOf Try.f15 4)=orders_Sum.T4:=by kernel_rfl
theorem orders_Sum.bits4:waitsOk orders_Sum.T4.2 orders_Sum.B4=true:=by kernel_rfl
set_option maxHeartbeats 8000000 in
set_option maxRecDepth 100000 in
theorem orders_Sum.calls (k:Nat) (A0_0:Option Addr) (c0_0:Nat) (l0_0:List (S50)) (a0_1:Int) (a0_2:Int) (r1:Int) (r2:Int) (r3:Int) (w:World) (hr0_0:Kd.C k50 w A0_0 l0_0.length l0_0) (hc0_0:l0_0.length≤c0_0) (h:orders_Sum.f k l0_0 a0_1 a0_2=some (r1,r2,r3)) :
 Calls Try.prog 15 #[.agg #[.slice A0_0 l0_0.length c0_0,.int .i64 a0_1,.int .i64 a0_2]] w fun e w'=>e= .returned (.tuple #[.agg #[.int .i64 r1,.int .i64 r2],.int .i64 r3])∧Below w.heap.size w w':=by
 have hu26:=Try.underlying26
 have hu24:=Try.underlying24
 have HR0_0:=Aside0.mk hr0_0
 have HC0_0:=Aside0.mk hc0_0
 clear hr0_0 hc0_0
 have HB:=Aside0.mk (Below.refl w.heap.size w)
 have H:((orders_Check.f k l0_0 a0_1 a0_2).bind fun t488=>(if t488=0 then ((orders_all.f k l0_0 a0_1 a0_2).bind fun bt489=>((orders_common.f bt489.1 bt489.2 a0_1 a0_2).bind fun bt491=>(some (bt491.1,bt491.2.1,0)))) else (some (0,0,t488))))=some (r1,r2,r3):=h
 clear h
 replace H:=Option.bind_eq_some_iff.mp H
 obtain ⟨t488,A20,H⟩:=H
 replace H:(if t488=0 then ((orders_all.f k l0_0 a0_1 a0_2).bind fun bt489=>((orders_common.f bt489.1 bt489.2 a0_1 a0_2).bind fun bt491=>(some (bt491.1,bt491.2.1,0)))) else (some (0,0,t488)))=some (r1,r2,r3):=H
 have A2:=Aside0.mk A20
 clear A20
 by_cases c3:t488=0
 rotate_left
 ·rw [if_neg c3] at H
  have c3b0:(t488 == 0)=false:=beq_eq_false_iff_ne.mpr c3
  have c3b1:(t488 != 0)=true:=bne_iff_ne.mpr c3
  simp only [Option.some.injEq,Prod.mk.injEq] at H
  obtain ⟨rfl,rfl,rfl⟩:=H
  go_enter Try.func15,Try.ntmps15
  go_wp2_with (first|((with_reducible refine gate_dst (N:=1) rfl ?_);refine bE #[.slice A0_0 l0_0.length c0_0,.int .i64 a0_1,.int .i64 a0_2] 26 ?_;intro gb486 hg w22 hbox hb;have BK486:=qK (hbox);have GW486:=qK ((gS hg:w.heap.size≤gb486));have GE486:=qK ((gS hg:w.heap.size≤gb486));replace HB:=qK (bS hb);clear hb hbox hg)|((with_reducible refine gate_dst (N:=2) rfl ?_);refine bE #[.int .i64 0,.int .i64 0] 24 ?_;intro gb487 hg w23 hbox hb;have BK487:=qK (hbox);have GW487:=qK ((gS hg:w.heap.size≤gb487));have GE487:=qK ((gS hg:w.heap.size≤gb487));replace HB:=qK (bS hb);have NB486_487:=qK ((nL hg BK486.out:gb486≠gb487));have NB487_486:=qK ((nG hg BK486.out:gb487≠gb486));replace BK486:=qK (bB BK486.out hb);clear hb hbox hg;have hnb24:=NB486_487.out;have hnc24:=NB487_486.out;obtain ⟨_,_,_,_,_,_⟩:=xC3 BK486.out)|((with_reducible refine gate_callee (f:=45) rfl ?_);refine gL (some 8) Try.func45 #[.agg #[.slice A0_0 l0_0.length c0_0,.int .i64 a0_1,.int .i64 a0_2]] ?_;(with_reducible refine (orders_Check.calls k _ _ l0_0 a0_1 a0_2 t488 _ ?side1 ?side2 A2.out).mono ?_);(case side1=>exact cS HR0_0.out);(case side2=>exact HC0_0.out);rintro e w26 ⟨rfl,hb⟩;refine ⟨_,rfl,?_⟩;replace BK486:=qK (bB BK486.out hb);replace BK487:=qK (bB BK487.out hb);replace HB:=qK (bS hb);obtain ⟨_,_,_,_⟩:=xC2 BK487.out))
  refine bodyPost_ret (results_ct rfl _ _ gb487 24 #[.int .i64 0,.int .i64 0] (0,0) _ rfl (by (with_reducible repeat (first|refine blk_drewN ?_ _|refine blk_drew ?_|refine blk_alloc ?_ _));refine blk_put (cs:=#[.int .i64 0,.int .i64 0]) ?_ 1 _ rfl;(with_reducible repeat (first|refine blk_drewN ?_ _|refine blk_drew ?_|refine blk_alloc ?_ _));refine blk_put (cs:=#[.int .i64 0,.int .i64 0]) ?_ 0 _ rfl;(with_reducible repeat (first|refine blk_drewN ?_ _|refine blk_drew ?_|refine blk_alloc ?_ _));exact BK487.out) Try.underlying24 rfl (by kernel_rfl)) rfl ?_
  exact ⟨by first|rfl|(simp [errW_none,errW_some] <;> rfl)|(simp [*,errW_none,errW_some] <;> rfl),bA⟩
 rw [if_pos c3] at H
 have c3b0:(t488 == 0)=true:=beq_iff_eq.mpr c3
 have c3b1:(t488 != 0)=false:=bne_eq_false_iff_eq.mpr c3
 clear c3
 replace H:=Option.bind_eq_some_iff.mp H
 obtain ⟨⟨t489,t490⟩,A40,H⟩:=H
 replace H:((orders_common.f t489 t490 a0_1 a0_2).bind fun bt491=>(some (bt491.1,bt491.2.1,0)))=some (r1,r2,r3):=H
 have A4:=Aside0.mk A40
 clear A40
 replace H:=Option.bind_eq_some_iff.mp H
 obtain ⟨⟨t491,t492,t493⟩,A50,H⟩:=H
 replace H:(some (t491,t492,0))=some (r1,r2,r3):=H
 have A5:=Aside0.mk A50
 clear A50
 simp only [Option.some.injEq,Prod.mk.injEq] at H
 obtain ⟨rfl,rfl,rfl⟩:=H
 go_enter Try.func15,Try.ntmps15
 try go_wp2_with (first|((with_reducible refine gate_dst (N:=1) rfl ?_);refine bE #[.slice A0_0 l0_0.length c0_0,.int .i64 a0_1,.int .i64 a0_2] 26 ?_;intro gb486 hg w6 hbox hb;have BK486:=qK (hbox);have GW486:=qK ((gS hg:w.heap.size≤gb486));have GE486:=qK ((gS hg:w.heap.size≤gb486));replace HB:=qK (bS hb);clear hb hbox hg)|((with_reducible refine gate_dst (N:=2) rfl ?_);refine bE #[.int .i64 0,.int .i64 0] 24 ?_;intro gb487 hg w7 hbox hb;have BK487:=qK (hbox);have GW487:=qK ((gS hg:w.heap.size≤gb487));have GE487:=qK ((gS hg:w.heap.size≤gb487));replace HB:=qK (bS hb);have NB486_487:=qK ((nL hg BK486.out:gb486≠gb487));have NB487_486:=qK ((nG hg BK486.out:gb487≠gb486));replace BK486:=qK (bB BK486.out hb);clear hb hbox hg;have hnb8:=NB486_487.out;have hnc8:=NB487_486.out;obtain ⟨_,_,_,_,_,_⟩:=xC3 BK486.out)|((with_reducible refine gate_callee (f:=45) rfl ?_);refine gL (some 8) Try.func45 #[.agg #[.slice A0_0 l0_0.length c0_0,.int .i64 a0_1,.int .i64 a0_2]] ?_;(with_reducible refine (orders_Check.calls k _ _ l0_0 a0_1 a0_2 t488 _ ?side1 ?side2 A2.out).mono ?_);(case side1=>exact cS HR0_0.out);(case side2=>exact HC0_0.out);rintro e w10 ⟨rfl,hb⟩;refine ⟨_,rfl,?_⟩;replace BK486:=qK (bB BK486.out hb);replace BK487:=qK (bB BK487.out hb);replace HB:=qK (bS hb)))
 replace BK486:=qK (blk_drew BK486.out)
 replace BK487:=qK (blk_drew BK487.out)
 replace HB:=qK (below_drew1 HB.out)
 refine start_ (n:=11) (S:=fun w'=>w'.cell? ⟨gb486,0,none⟩=some (.slice A0_0 l0_0.length c0_0)∧w'.cell? ⟨gb486,1,none⟩=some (.int .i64 a0_1)∧w'.cell? ⟨gb486,2,none⟩=some (.int .i64 a0_2)) (ds:=[]) #[false,false,false,false,false,false,false,false,false,false,false] (by kernel_rfl) rfl rfl ⟨(blk_cell BK486.out 0).trans rfl,(blk_cell BK486.out 1).trans rfl,(blk_cell BK486.out 2).trans rfl⟩ (fun hHeld=>?_);refine with_tabW orders_Sum.tab4 orders_Sum.bits4 (fun HT_ HW_=>?_)
 generalize w10.drew=w11 at BK486 BK487 HB hHeld ⊢
 refine pP 2 (some 16) HT_ ?_
 refine tP 0 (some 14) HT_ HW_ hHeld ?_
 refine tP 3 (some 17) HT_ HW_ hHeld ?_
 refine join_ (σ:=Nat) 2 #[true,true,true,true,true,true,true,true,true,false,false] (fun s_=>[(15,.agg #[.int .i64 t489,.int .i64 t490]),(18,.tuple #[.agg #[.int .i64 t491,.int .i64 t492],.bool t493]),(5,.pointer (some ⟨s_,0,none⟩)),(13,.tuple #[.agg #[.int .i64 t491,.int .i64 t492],.bool t493]),(19,.agg #[.int .i64 t491,.int .i64 t492]),(20,.bool t493)]) (fun s_ w'=>(w'.cell? ⟨gb486,0,none⟩=some (.slice A0_0 l0_0.length c0_0)∧w'.cell? ⟨gb486,1,none⟩=some (.int .i64 a0_1)∧w'.cell? ⟨gb486,2,none⟩=some (.int .i64 a0_2))∧(w'.heap[gb486]? = some (.cells #[.slice A0_0 l0_0.length c0_0,.int .i64 a0_1,.int .i64 a0_2] 26 (0,0)))∧(w'.heap[gb487]? = some (.cells #[.int .i64 0,.int .i64 0] 24 (0,0)))∧(w'.heap[s_]? = some (.cells #[.int .i64 0,.int .i64 0] 24 (0,0)))∧(w.heap.size≤s_)∧(w.heap.size≤s_)∧(gb486≠s_)∧(s_≠gb486)∧(gb487≠s_)∧(s_≠gb487)∧(Below w.heap.size w w')) ?_ ?_
 rotate_left
 ·intro hCont
  refine two_ (i:=1) (j:=8) (Ni:=some 15) (Nj:=some 5) #[true,true,true,true,false,false,false,false,false,false,false] #[true,false,true,true,false,false,false,false,true,false,false] rfl rfl rfl rfl (two_of HT_.out (by kernel_rfl)) (by decide) (by decide) (fun K hK=>?_) (fun K hK=>?_)
  ·skip
   refine gO Try.func54 #[.agg #[.slice A0_0 l0_0.length c0_0,.int .i64 a0_1,.int .i64 a0_2]] ?_
   with_reducible refine (orders_all.calls k _ _ l0_0 a0_1 a0_2 t489 t490 _ ?side1 ?side2 A4.out).mono ?_
   (case side1=>exact cS HR0_0.out)
   (case side2=>exact HC0_0.out)
   rintro e w12 ⟨rfl,hb⟩
   refine ⟨_,rfl,?_⟩
   replace BK486:=qK (bB BK486.out hb)
   replace BK487:=qK (bB BK487.out hb)
   replace HB:=qK (bS hb)
   (try clear hb)
   (try clear hb2)
   (try clear hk)
   (try clear hi)
   refine hK.out _ _ ⟨(blk_cell BK486.out 0).trans rfl,(blk_cell BK486.out 1).trans rfl,(blk_cell BK486.out 2).trans rfl⟩ (fun hHeld=>?_)
   clear hK K
   refine nP ?_
   refine two_ (i:=4) (j:=8) (Ni:=some 18) (Nj:=some 5) #[true,true,true,true,true,false,false,false,false,false,false] #[true,true,true,true,false,false,false,false,true,false,false] rfl rfl rfl rfl (two_of HT_.out (by kernel_rfl)) (by decide) (by decide) (fun K hK=>?_) (fun K hK=>?_)
   ·skip
    refine gO Try.func53 #[.agg #[.int .i64 t489,.int .i64 t490],.agg #[.int .i64 a0_1,.int .i64 a0_2]] ?_
    with_reducible refine (orders_common.calls t489 t490 a0_1 a0_2 t491 t492 t493 _ A5.out).mono ?_
    rintro e w13 ⟨rfl,hb⟩
    refine ⟨_,rfl,?_⟩
    replace BK486:=qK (bB BK486.out hb)
    replace BK487:=qK (bB BK487.out hb)
    replace HB:=qK (bS hb)
    (try clear hb)
    (try clear hb2)
    (try clear hk)
    (try clear hi)
    refine hK.out _ _ ⟨(blk_cell BK486.out 0).trans rfl,(blk_cell BK486.out 1).trans rfl,(blk_cell BK486.out 2).trans rfl⟩ (fun hHeld=>?_)
    clear hK K
    refine nP ?_
    refine pP 5 (some 13) HT_ ?_
    refine pP 6 (some 19) HT_ ?_
    refine pP 7 (some 20) HT_ ?_
    refine oP 8 (some 5) HT_ (fun K hK=>?_)
    refine box_step ?hg (N:=5) ?hd (cs:=#[.int .i64 0,.int .i64 0]) (t:=24) ?hr ?_;(case hd=>rfl);(case hg=>rfl);(case hr=>first|(go_simp;done)|(go_simp;rfl))
    intro gb494 hg w14 hbox hb
    have BK494:=qK (hbox)
    have GW494:=qK ((gS hg:w.heap.size≤gb494))
    have GE494:=qK ((gS hg:w.heap.size≤gb494))
    replace HB:=qK (bS hb)
    have NB486_494:=qK ((nL hg BK486.out:gb486≠gb494))
    have NB494_486:=qK ((nG hg BK486.out:gb494≠gb486))
    replace BK486:=qK (bB BK486.out hb)
    have NB487_494:=qK ((nL hg BK487.out:gb487≠gb494))
    have NB494_487:=qK ((nG hg BK487.out:gb494≠gb487))
    replace BK487:=qK (bB BK487.out hb)
    clear hb hbox hg
    refine hK.out _ _ ⟨(blk_cell BK486.out 0).trans rfl,(blk_cell BK486.out 1).trans rfl,(blk_cell BK486.out 2).trans rfl⟩ (fun hHeld=>?_)
    clear hK K
    refine nP ?_
    exact norm_ (by simp only [putAll,Act.put,List.setIfInBounds_toArray,List.set_cons_zero,List.set_cons_succ]) (hCont (gb494) _ ⟨hHeld,(bX BK486.out),(bX BK487.out),(bX BK494.out),GW494.out,GE494.out,NB486_494.out,NB494_486.out,NB487_494.out,NB494_487.out,bA⟩)
   ·skip
    refine box_step ?hg (N:=5) ?hd (cs:=#[.int .i64 0,.int .i64 0]) (t:=24) ?hr ?_;(case hd=>rfl);(case hg=>rfl);(case hr=>first|(go_simp;done)|(go_simp;rfl))
    intro gb494 hg w13 hbox hb
    have BK494:=qK (hbox)
    have GW494:=qK ((gS hg:w.heap.size≤gb494))
    have GE494:=qK ((gS hg:w.heap.size≤gb494))
    replace HB:=qK (bS hb)
    have NB486_494:=qK ((nL hg BK486.out:gb486≠gb494))
    have NB494_486:=qK ((nG hg BK486.out:gb494≠gb486))
    replace BK486:=qK (bB BK486.out hb)
    have NB487_494:=qK ((nL hg BK487.out:gb487≠gb494))
    have NB494_487:=qK ((nG hg BK487.out:gb494≠gb487))
    replace BK487:=qK (bB BK487.out hb)
    clear hb hbox hg
    refine hK.out _ _ ⟨(blk_cell BK486.out 0).trans rfl,(blk_cell BK486.out 1).trans rfl,(blk_cell BK486.out 2).trans rfl⟩ (fun hHeld=>?_)
    clear hK K
    refine nP ?_
    refine oP 4 (some 18) HT_ (fun K hK=>?_)
    refine gO Try.func53 #[.agg #[.int .i64 t489,.int .i64 t490],.agg #[.int .i64 a0_1,.int .i64 a0_2]] ?_
    with_reducible refine (orders_common.calls t489 t490 a0_1 a0_2 t491 t492 t493 _ A5.out).mono ?_
    rintro e w14 ⟨rfl,hb⟩
    refine ⟨_,rfl,?_⟩
    replace BK486:=qK (bB BK486.out hb)
    replace BK487:=qK (bB BK487.out hb)
    replace BK494:=qK (bB BK494.out hb)
    replace HB:=qK (bS hb)
    (try clear hb)
    (try clear hb2)
    (try clear hk)
    (try clear hi)
    refine hK.out _ _ ⟨(blk_cell BK486.out 0).trans rfl,(blk_cell BK486.out 1).trans rfl,(blk_cell BK486.out 2).trans rfl⟩ (fun hHeld=>?_)
    clear hK K
    refine nP ?_
    refine pP 5 (some 13) HT_ ?_
    refine pP 6 (some 19) HT_ ?_
    refine pP 7 (some 20) HT_ ?_
    exact norm_ (by simp only [putAll,Act.put,List.setIfInBounds_toArray,List.set_cons_zero,List.set_cons_succ]) (hCont (gb494) _ ⟨hHeld,(bX BK486.out),(bX BK487.out),(bX BK494.out),GW494.out,GE494.out,NB486_494.out,NB494_486.out,NB487_494.out,NB494_487.out,bA⟩)
  ·skip
   refine box_step ?hg (N:=5) ?hd (cs:=#[.int .i64 0,.int .i64 0]) (t:=24) ?hr ?_;(case hd=>rfl);(case hg=>rfl);(case hr=>first|(go_simp;done)|(go_simp;rfl))
   intro gb494 hg w12 hbox hb
   have BK494:=qK (hbox)
   have GW494:=qK ((gS hg:w.heap.size≤gb494))
   have GE494:=qK ((gS hg:w.heap.size≤gb494))
   replace HB:=qK (bS hb)
   have NB486_494:=qK ((nL hg BK486.out:gb486≠gb494))
   have NB494_486:=qK ((nG hg BK486.out:gb494≠gb486))
   replace BK486:=qK (bB BK486.out hb)
   have NB487_494:=qK ((nL hg BK487.out:gb487≠gb494))
   have NB494_487:=qK ((nG hg BK487.out:gb494≠gb487))
   replace BK487:=qK (bB BK487.out hb)
   clear hb hbox hg
   refine hK.out _ _ ⟨(blk_cell BK486.out 0).trans rfl,(blk_cell BK486.out 1).trans rfl,(blk_cell BK486.out 2).trans rfl⟩ (fun hHeld=>?_)
   clear hK K
   refine nP ?_
   refine oP 1 (some 15) HT_ (fun K hK=>?_)
   refine gO Try.func54 #[.agg #[.slice A0_0 l0_0.length c0_0,.int .i64 a0_1,.int .i64 a0_2]] ?_
   with_reducible refine (orders_all.calls k _ _ l0_0 a0_1 a0_2 t489 t490 _ ?side1 ?side2 A4.out).mono ?_
   (case side1=>exact cS HR0_0.out)
   (case side2=>exact HC0_0.out)
   rintro e w13 ⟨rfl,hb⟩
   refine ⟨_,rfl,?_⟩
   replace BK486:=qK (bB BK486.out hb)
   replace BK487:=qK (bB BK487.out hb)
   replace BK494:=qK (bB BK494.out hb)
   replace HB:=qK (bS hb)
   (try clear hb)
   (try clear hb2)
   (try clear hk)
   (try clear hi)
   refine hK.out _ _ ⟨(blk_cell BK486.out 0).trans rfl,(blk_cell BK486.out 1).trans rfl,(blk_cell BK486.out 2).trans rfl⟩ (fun hHeld=>?_)
   clear hK K
   refine nP ?_
   refine oP 4 (some 18) HT_ (fun K hK=>?_)
   refine gO Try.func53 #[.agg #[.int .i64 t489,.int .i64 t490],.agg #[.int .i64 a0_1,.int .i64 a0_2]] ?_
   with_reducible refine (orders_common.calls t489 t490 a0_1 a0_2 t491 t492 t493 _ A5.out).mono ?_
   rintro e w14 ⟨rfl,hb⟩
   refine ⟨_,rfl,?_⟩
   replace BK486:=qK (bB BK486.out hb)
   replace BK487:=qK (bB BK487.out hb)
   replace BK494:=qK (bB BK494.out hb)
   replace HB:=qK (bS hb)
   (try clear hb)
   (try clear hb2)
   (try clear hk)
   (try clear hi)
   refine hK.out _ _ ⟨(blk_cell BK486.out 0).trans rfl,(blk_cell BK486.out 1).trans rfl,(blk_cell BK486.out 2).trans rfl⟩ (fun hHeld=>?_)
   clear hK K
   refine nP ?_
   refine pP 5 (some 13) HT_ ?_
   refine pP 6 (some 19) HT_ ?_
   refine pP 7 (some 20) HT_ ?_
   exact norm_ (by simp only [putAll,Act.put,List.setIfInBounds_toArray,List.set_cons_zero,List.set_cons_succ]) (hCont (gb494) _ ⟨hHeld,(bX BK486.out),(bX BK487.out),(bX BK494.out),GW494.out,GE494.out,NB486_494.out,NB494_486.out,NB487_494.out,NB494_487.out,bA⟩)
 rintro gb494 w15 ⟨hS_,h0_,h1_,h2_,h3_,h4_,h5_,h6_,h7_,h8_,h9_⟩
 have n0_:Aside0 (w15.heap[gb486]? = some (.cells #[.slice A0_0 l0_0.length c0_0,.int .i64 a0_1,.int .i64 a0_2] 26 (0,0))):=⟨h0_⟩
 have n1_:Aside0 (w15.heap[gb487]? = some (.cells #[.int .i64 0,.int .i64 0] 24 (0,0))):=⟨h1_⟩
 have n2_:Aside0 (w15.heap[gb494]? = some (.cells #[.int .i64 0,.int .i64 0] 24 (0,0))):=⟨h2_⟩
 have n3_:Aside0 (w.heap.size≤gb494):=⟨h3_⟩
 have n4_:Aside0 (w.heap.size≤gb494):=⟨h4_⟩
 have n5_:Aside0 (gb486≠gb494):=⟨h5_⟩
 have n6_:Aside0 (gb494≠gb486):=⟨h6_⟩
 have n7_:Aside0 (gb487≠gb494):=⟨h7_⟩
 have n8_:Aside0 (gb494≠gb487):=⟨h8_⟩
 have n9_:Aside0 (Below w.heap.size w w15):=⟨h9_⟩
 clear BK486
 clear BK487
 clear HB
 clear h0_ h1_ h2_ h3_ h4_ h5_ h6_ h7_ h8_ h9_
 have BK486:=n0_
 have BK487:=n1_
 have BK494:=n2_
 have GW494:=n3_
 have GE494:=n4_
 have NB486_494:=n5_
 have NB494_486:=n6_
 have NB487_494:=n7_
 have NB494_487:=n8_
 have HB:=n9_
 clear n0_ n1_ n2_ n3_ n4_ n5_ n6_ n7_ n8_ n9_
 have hHeld:w15.cell? ⟨gb486,0,none⟩=some (.slice A0_0 l0_0.length c0_0)∧w15.cell? ⟨gb486,1,none⟩=some (.int .i64 a0_1)∧w15.cell? ⟨gb486,2,none⟩=some (.int .i64 a0_2):=hS_
 refine norm_ (a':=?_) ?_ ?_
 rotate_left
 ·simp only [putAll,Act.put,List.setIfInBounds_toArray,List.set_cons_zero,List.set_cons_succ]
  rfl
 refine oP 9 none HT_ (fun K hK=>?_)
 have hs16:w15.cell? ⟨gb494,0,none⟩=some (.int .i64 0):=(blk_cell BK494.out 0).trans rfl
 have hfs16:=blk_frozen BK494.out 0
 have hns16_0:=NB486_494.out
 have hns16_1:=NB487_494.out
 have hms16_0:=NB494_486.out
 have hms16_1:=NB494_487.out
 have hs17:w15.cell? ⟨gb494,1,none⟩=some (.int .i64 0):=(blk_cell BK494.out 1).trans rfl
 have hfs17:=blk_frozen BK494.out 1
 have hns17_0:=NB486_494.out
 have hns17_1:=NB487_494.out
 have hms17_0:=NB494_486.out
 have hms17_1:=NB494_487.out
 refine skip_ (w1:=?_) (by rfl) rfl ?_ ?_
 rotate_left
 ·go_simp
  rfl
 refine hK.out _ _ ⟨((cell_far (p:=⟨gb494,_,none⟩) NB486_494.out _).trans (((cell_far (p:=⟨gb494,_,none⟩) NB486_494.out _).trans (hHeld.1)))),((cell_far (p:=⟨gb494,_,none⟩) NB486_494.out _).trans (((cell_far (p:=⟨gb494,_,none⟩) NB486_494.out _).trans (hHeld.2.1)))),((cell_far (p:=⟨gb494,_,none⟩) NB486_494.out _).trans (((cell_far (p:=⟨gb494,_,none⟩) NB486_494.out _).trans (hHeld.2.2))))⟩ (fun hHeld=>?_)
 clear hK K
 refine pP 10 (some 6) HT_ ?_
 refine done_ (done_of HT_.out (by kernel_rfl)) ?_
 have hnb18:=NB494_486.out
 have hnc18:=NB486_494.out
 have hnb19:=NB494_487.out
 have hnc19:=NB487_494.out
 obtain ⟨_,_,_,_⟩:=xC2 BK494.out
 obtain ⟨_,_,_,_⟩:=xC2 BK487.out
 try go_wp2
 refine bodyPost_ret (results_ct rfl _ _ gb487 24 #[.int .i64 t491,.int .i64 t492] (0,0) _ rfl (by (with_reducible repeat (first|refine blk_drewN ?_ _|refine blk_drew ?_|refine blk_alloc ?_ _));refine blk_put (cs:=#[.int .i64 t491,.int .i64 0]) ?_ 1 _ rfl;(with_reducible repeat (first|refine blk_drewN ?_ _|refine blk_drew ?_|refine blk_alloc ?_ _));refine blk_put (cs:=#[.int .i64 0,.int .i64 0]) ?_ 0 _ rfl;(with_reducible repeat (first|refine blk_drewN ?_ _|refine blk_drew ?_|refine blk_alloc ?_ _));refine blk_far ?_ NB487_494.out _;(with_reducible repeat (first|refine blk_drewN ?_ _|refine blk_drew ?_|refine blk_alloc ?_ _));refine blk_far ?_ NB487_494.out _;(with_reducible repeat (first|refine blk_drewN ?_ _|refine blk_drew ?_|refine blk_alloc ?_ _));exact BK487.out) Try.underlying24 rfl (by kernel_rfl)) rfl ?_
 exact ⟨by first|rfl|(simp [errW_none,errW_some] <;> rfl)|(simp [*,errW_none,errW_some] <;> rfl),bA⟩
end Go.Proofs.Ythimaecnpkcmeaa.K
namespace Go.Proofs.Ythimaecnpkcmeaa.K
open Go.RowKit Go.Proofs.YthimaecnpkcmeaaW.PrintWords Go.Proofs.YthimaecnpkcmeaaW.PrintLast Go.Proofs.YthimaecnpkcmeaaW.PrintMore
attribute [local go_sem] max2_int min2_int max_two min_two max_three min_three max_four min_four   -- for this text's walks alone
set_option linter.unusedVariables false
set_option linter.unusedSimpArgs false
mutual
def acreageref08_CheckAreas.j0:Nat→List Int→Bool→List (S50)→Int→Int→Option (Int)
 | 0,_,_,_,_,_=>none
 | k+1,x1,x17,x496000,x496001,x496002=>if x17=true then (some 80) else (acreageref08_CheckAreas.l0 k x1 0 0 x496000 x496001 x496002)
def acreageref08_CheckAreas.l0:Nat→List Int→Int→Int→List (S50)→Int→Int→Option (Int)
 | 0,_,_,_,_,_,_=>none
 | k+1,x1,x5,x6,x496000,x496001,x496002=>if x6 < (x1.length:Int) then (if 0≤x6 then (if x6 < (x496000.length:Int) then (if (rd x1 x6) < ((rd_T50 x496000 x6).f0.f0) then (some 80) else (if (rd x1 x6) > ((rd_T50 x496000 x6).f0.f1) then (some 80) else (acreageref08_CheckAreas.l0 k x1 (wrap64 (x5+(rd x1 x6))) (wrap64 (x6+1)) x496000 x496001 x496002))) else (none)) else (none)) else (if x5 < x496001 then (some 80) else (if x5 > x496002 then (some 80) else (some 0)))
end
def acreageref08_CheckAreas.f (k:Nat) (l0_0:List (S50)) (a0_1:Int) (a0_2:Int) (l1:List Int):Option (Int):=(acreageref08_Valid.f k l0_0 a0_1 a0_2).bind fun t496=>(if t496=true then (acreageref08_CheckAreas.j0 k l1 ((l1.length:Int) != (l0_0.length:Int)) l0_0 a0_1 a0_2) else (acreageref08_CheckAreas.j0 k l1 true l0_0 a0_1 a0_2))
set_option maxHeartbeats 8000000 in
set_option maxRecDepth 100000 in
theorem acreageref08_CheckAreas.calls (k:Nat) (A0_0:Option Addr) (c0_0:Nat) (l0_0:List (S50)) (a0_1:Int) (a0_2:Int) (A1:Option Addr) (c1:Nat) (l1:List Int) (r:Int) (w:World) (hr0_0:Kd.C k50 w A0_0 l0_0.length l0_0) (hc0_0:l0_0.length≤c0_0) (hr1:Kd.C (Kd.int .i64) w A1 l1.length l1) (hc1:l1.length≤c1) (h:acreageref08_CheckAreas.f k l0_0 a0_1 a0_2 l1=some r) :
 Calls Try.prog 16 #[.agg #[.slice A0_0 l0_0.length c0_0,.int .i64 a0_1,.int .i64 a0_2],.slice A1 l1.length c1] w fun e w'=>e= .returned (.int .i64 r)∧Below w.heap.size w w':=by
 have hu26:=Try.underlying26
 have HR0_0:=Aside0.mk hr0_0
 have HC0_0:=Aside0.mk hc0_0
 clear hr0_0 hc0_0
 have HR1:=Aside0.mk hr1
 have HC1:=Aside0.mk hc1
 clear hr1 hc1
 have HB:=Aside0.mk (Below.refl w.heap.size w)
 have H:((acreageref08_Valid.f k l0_0 a0_1 a0_2).bind fun t496=>(if t496=true then (acreageref08_CheckAreas.j0 k l1 ((l1.length:Int) != (l0_0.length:Int)) l0_0 a0_1 a0_2) else (acreageref08_CheckAreas.j0 k l1 true l0_0 a0_1 a0_2)))=some r:=h
 clear h
 have HC3:=Aside0.mk H
 clear H
 go_enter Try.func16,Try.ntmps16
 go_upto_region 1 with (first|((with_reducible refine gate_dst (N:=2) rfl ?_);(try (refine gate_guard (by rfl) ?_;dsimp only));refine bE #[.slice A0_0 l0_0.length c0_0,.int .i64 a0_1,.int .i64 a0_2] 26 ?_;intro gb495 hg w4 hbox hb;have BK495:=qK (hbox);have GW495:=qK ((gS hg:w.heap.size≤gb495));have GE495:=qK ((gS hg:w.heap.size≤gb495));replace HB:=qK (bS hb);clear hb hbox hg))
 repeat (go_quiet (first|((with_reducible refine gate_dst (N:=2) rfl ?_);(try (refine gate_guard (by rfl) ?_;dsimp only));refine bE #[.slice A0_0 l0_0.length c0_0,.int .i64 a0_1,.int .i64 a0_2] 26 ?_;intro gb495 hg w4 hbox hb;have BK495:=qK (hbox);have GW495:=qK ((gS hg:w.heap.size≤gb495));have GE495:=qK ((gS hg:w.heap.size≤gb495));replace HB:=qK (bS hb);clear hb hbox hg));go_upto_region 1 with (first|((with_reducible refine gate_dst (N:=2) rfl ?_);(try (refine gate_guard (by rfl) ?_;dsimp only));refine bE #[.slice A0_0 l0_0.length c0_0,.int .i64 a0_1,.int .i64 a0_2] 26 ?_;intro gb495 hg w4 hbox hb;have BK495:=qK (hbox);have GW495:=qK ((gS hg:w.heap.size≤gb495));have GE495:=qK ((gS hg:w.heap.size≤gb495));replace HB:=qK (bS hb);clear hb hbox hg)))
 (try simp only [Act.put,List.setIfInBounds_toArray,List.set_cons_zero,List.set_cons_succ])
 go_cut [17] (fun v17 wc=>∃ (kq:Nat) (x17_2:Bool),v17= .bool x17_2∧Aside0 (acreageref08_CheckAreas.j0 kq l1 x17_2 l0_0 a0_1 a0_2=some r)∧Aside0 (kq≤k)∧Aside0 (wc.heap[gb495]? = some (.cells #[(.slice A0_0 l0_0.length c0_0),.int .i64 a0_1,.int .i64 a0_2] 26 (0,0)))∧Aside0 (Below w.heap.size w wc))
 case first =>
  have H:=HC3.out
  clear HC3
  replace H:=Option.bind_eq_some_iff.mp H
  obtain ⟨t496,A50,H⟩:=H
  replace H:(if t496=true then (acreageref08_CheckAreas.j0 k l1 ((l1.length:Int) != (l0_0.length:Int)) l0_0 a0_1 a0_2) else (acreageref08_CheckAreas.j0 k l1 true l0_0 a0_1 a0_2))=some r:=H
  have A5:=Aside0.mk A50
  clear A50
  by_cases c6:t496=true
  rotate_left
  ·replace c6:=Bool.eq_false_iff.mpr c6
   subst c6
   have H1:(acreageref08_CheckAreas.j0 k l1 true l0_0 a0_1 a0_2)=some r:=by rw [if_neg (show ¬ (false=true) by decide)] at H;exact H
   clear H
   have H:=H1
   clear H1
   have H':=Aside0.mk H
   clear H
   obtain ⟨hcz10_0,hcz10_1,hcz10_2,hfz10_0,hfz10_1,hfz10_2⟩:=xC3 BK495.out
   go_wp2_with (first|(go_at_call 10;(with_reducible refine (acreageref08_Valid.calls k _ _ l0_0 a0_1 a0_2 false _ ?side1 ?side2 A5.out).mono ?_);(case side1=>exact cS HR0_0.out);(case side2=>exact HC0_0.out);rintro e w11 ⟨rfl,hb⟩;replace BK495:=qK (bB BK495.out hb);replace HB:=qK (bS hb)))
   repeat (go_quiet (first|(go_at_call 10;(with_reducible refine (acreageref08_Valid.calls k _ _ l0_0 a0_1 a0_2 false _ ?side1 ?side2 A5.out).mono ?_);(case side1=>exact cS HR0_0.out);(case side2=>exact HC0_0.out);rintro e w11 ⟨rfl,hb⟩;replace BK495:=qK (bB BK495.out hb);replace HB:=qK (bS hb)));try go_wp2_with (first|(go_at_call 10;(with_reducible refine (acreageref08_Valid.calls k _ _ l0_0 a0_1 a0_2 false _ ?side1 ?side2 A5.out).mono ?_);(case side1=>exact cS HR0_0.out);(case side2=>exact HC0_0.out);rintro e w11 ⟨rfl,hb⟩;replace BK495:=qK (bB BK495.out hb);replace HB:=qK (bS hb))))
   go_meet
   case rel=>exact ⟨_,(true),sA,H',⟨by first|omega|exact Nat.le_refl _⟩,⟨by (with_reducible repeat (first|refine blk_drewN ?_ _|refine blk_drew ?_|refine blk_alloc ?_ _));exact BK495.out⟩,⟨bA⟩⟩
  subst c6
  have H1:(acreageref08_CheckAreas.j0 k l1 ((l1.length:Int) != (l0_0.length:Int)) l0_0 a0_1 a0_2)=some r:=by rw [if_pos rfl] at H;exact H
  clear H
  have H:=H1
  clear H1
  have H':=Aside0.mk H
  clear H
  obtain ⟨hcz7_0,hcz7_1,hcz7_2,hfz7_0,hfz7_1,hfz7_2⟩:=xC3 BK495.out
  go_wp2_with (first|(go_at_call 10;(with_reducible refine (acreageref08_Valid.calls k _ _ l0_0 a0_1 a0_2 true _ ?side1 ?side2 A5.out).mono ?_);(case side1=>exact cS HR0_0.out);(case side2=>exact HC0_0.out);rintro e w8 ⟨rfl,hb⟩;replace BK495:=qK (bB BK495.out hb);replace HB:=qK (bS hb);obtain ⟨hcz9_0,hcz9_1,hcz9_2,hfz9_0,hfz9_1,hfz9_2⟩:=xC3 BK495.out))
  repeat (go_quiet (first|(go_at_call 10;(with_reducible refine (acreageref08_Valid.calls k _ _ l0_0 a0_1 a0_2 true _ ?side1 ?side2 A5.out).mono ?_);(case side1=>exact cS HR0_0.out);(case side2=>exact HC0_0.out);rintro e w8 ⟨rfl,hb⟩;replace BK495:=qK (bB BK495.out hb);replace HB:=qK (bS hb);obtain ⟨hcz9_0,hcz9_1,hcz9_2,hfz9_0,hfz9_1,hfz9_2⟩:=xC3 BK495.out));try go_wp2_with (first|(go_at_call 10;(with_reducible refine (acreageref08_Valid.calls k _ _ l0_0 a0_1 a0_2 true _ ?side1 ?side2 A5.out).mono ?_);(case side1=>exact cS HR0_0.out);(case side2=>exact HC0_0.out);rintro e w8 ⟨rfl,hb⟩;replace BK495:=qK (bB BK495.out hb);replace HB:=qK (bS hb);obtain ⟨hcz9_0,hcz9_1,hcz9_2,hfz9_0,hfz9_1,hfz9_2⟩:=xC3 BK495.out)))
  go_meet
  case rel=>exact ⟨_,(((l1.length:Int) != (l0_0.length:Int))),sA,H',⟨by first|omega|exact Nat.le_refl _⟩,⟨by (with_reducible repeat (first|refine blk_drewN ?_ _|refine blk_drew ?_|refine blk_alloc ?_ _));exact BK495.out⟩,⟨bA⟩⟩
 case rest =>
  clear HC3
  try clear c1
  try clear p2
  try clear c6
  try clear hcz10_0
  try clear hcz10_1
  try clear hcz10_2
  try clear hcz7_0
  try clear hcz7_1
  try clear hcz7_2
  try clear hcz9_0
  try clear hcz9_1
  try clear hcz9_2
  try clear hfz10_0
  try clear hfz10_1
  try clear hfz10_2
  try clear hfz7_0
  try clear hfz7_1
  try clear hfz7_2
  try clear hfz9_0
  try clear hfz9_1
  try clear hfz9_2
  obtain ⟨kq,x17_2,rfl,HA,HJ2,BK495,HB⟩:=hcut
  cases kq with
  | zero=>exact absurd HA.out (by simp [acreageref08_CheckAreas.j0])
  | succ kj2 =>
   have H:=HA.out
   clear HA
   simp only [acreageref08_CheckAreas.j0] at H
   by_cases c12:x17_2=true
   ·subst c12
    have H1:(some 80)=some r:=by rw [if_pos rfl] at H;exact H
    clear H
    have H:=H1
    clear H1
    obtain rfl:=Option.some.inj H
    go_wp2
    repeat (go_quiet (fail);try go_wp2)
    go_ret
    exact ⟨by first|rfl|(simp [errW_none,errW_some] <;> rfl)|(simp [*,errW_none,errW_some] <;> rfl),bA⟩
   replace c12:=Bool.eq_false_iff.mpr c12
   subst c12
   have H1:(acreageref08_CheckAreas.l0 kj2 l1 0 0 l0_0 a0_1 a0_2)=some r:=by rw [if_neg (show ¬ (false=true) by decide)] at H;exact H
   clear H
   have H:=H1
   clear H1
   have H':=Aside0.mk H
   clear H
   go_wp2
   repeat (go_quiet (fail);try go_wp2)
   go_loopg [5,6] kj2 (fun kq v5 v6 w'=>∃ (x5_2:Int) (x6_2:Int),v5= .int .i64 x5_2∧v6= .int .i64 x6_2∧Aside0 (acreageref08_CheckAreas.l0 kq l1 x5_2 x6_2 l0_0 a0_1 a0_2=some r)∧Aside0 (kq≤kj2)∧Aside0 (w'.heap[gb495]? = some (.cells #[(.slice A0_0 l0_0.length c0_0),.int .i64 a0_1,.int .i64 a0_2] 26 (0,0)))∧Aside0 (Below w.heap.size w w'))
   case atStart=>exact ⟨(0),(0),sA,sA,H',⟨Nat.le_refl _⟩,⟨by (with_reducible repeat (first|refine blk_drewN ?_ _|refine blk_drew ?_|refine blk_alloc ?_ _));exact BK495.out⟩,⟨bA⟩⟩
   case round =>
    clear H'
    try clear c1
    try clear p2
    try clear c6
    try clear c12
    try clear hcz10_0
    try clear hcz10_1
    try clear hcz10_2
    try clear hcz7_0
    try clear hcz7_1
    try clear hcz7_2
    try clear hcz9_0
    try clear hcz9_1
    try clear hcz9_2
    try clear hfz10_0
    try clear hfz10_1
    try clear hfz10_2
    try clear hfz7_0
    try clear hfz7_1
    try clear hfz7_2
    try clear hfz9_0
    try clear hfz9_1
    try clear hfz9_2
    try clear p2
    obtain ⟨x5_2,x6_2,rfl,rfl,HA,HK2,BK495,HB⟩:=hrel
    cases gk with
    | zero=>exact absurd HA.out (by simp [acreageref08_CheckAreas.l0])
    | succ k2 =>
     have H:=HA.out
     clear HA
     simp only [acreageref08_CheckAreas.l0] at H
     by_cases c13:x6_2 < (l1.length:Int)
     rotate_left
     ·rw [if_neg c13] at H
      have c13b0:decide (x6_2 < (l1.length:Int))=false:=decide_eq_false c13
      clear c13
      by_cases c21:x5_2 < a0_1
      ·rw [if_pos c21] at H
       have c21b0:decide (x5_2 < a0_1)=true:=decide_eq_true c21
       clear c21
       obtain rfl:=Option.some.inj H
       obtain ⟨_,_,_,_,_,_⟩:=xC3 BK495.out
       go_wp2
       repeat (go_quiet (fail);try go_wp2)
       go_ret
       exact ⟨by first|rfl|(simp [errW_none,errW_some] <;> rfl)|(simp [*,errW_none,errW_some] <;> rfl),bA⟩
      rw [if_neg c21] at H
      have c21b0:decide (x5_2 < a0_1)=false:=decide_eq_false c21
      clear c21
      by_cases c23:x5_2 > a0_2
      ·rw [if_pos c23] at H
       have c23b0:decide (a0_2 < x5_2)=true:=decide_eq_true c23
       clear c23
       obtain rfl:=Option.some.inj H
       obtain ⟨_,_,_,_,_,_⟩:=xC3 BK495.out
       go_wp2
       repeat (go_quiet (fail);try go_wp2)
       go_ret
       exact ⟨by first|rfl|(simp [errW_none,errW_some] <;> rfl)|(simp [*,errW_none,errW_some] <;> rfl),bA⟩
      rw [if_neg c23] at H
      have c23b0:decide (a0_2 < x5_2)=false:=decide_eq_false c23
      clear c23
      obtain rfl:=Option.some.inj H
      obtain ⟨_,_,_,_,_,_⟩:=xC3 BK495.out
      go_wp2
      repeat (go_quiet (fail);try go_wp2)
      go_ret
      exact ⟨by first|rfl|(simp [errW_none,errW_some] <;> rfl)|(simp [*,errW_none,errW_some] <;> rfl),bA⟩
     rw [if_pos c13] at H
     have c13b0:decide (x6_2 < (l1.length:Int))=true:=decide_eq_true c13
     clear c13
     by_cases c14:0≤x6_2
     rotate_left
     ·rw [if_neg c14] at H
      exact absurd H (by simp)
     rw [if_pos c14] at H
     have c14b0:decide (0≤x6_2)=true:=decide_eq_true c14
     clear c14
     by_cases c15:x6_2 < (l0_0.length:Int)
     rotate_left
     ·rw [if_neg c15] at H
      exact absurd H (by simp)
     rw [if_pos c15] at H
     have c15b0:decide (x6_2 < (l0_0.length:Int))=true:=decide_eq_true c15
     clear c15
     by_cases c16:(rd l1 x6_2) < ((rd_T50 l0_0 x6_2).f0.f0)
     ·rw [if_pos c16] at H
      have c16b0:decide ((rd l1 x6_2) < ((rd_T50 l0_0 x6_2).f0.f0))=true:=decide_eq_true c16
      clear c16
      obtain rfl:=Option.some.inj H
      have p497:0≤(x6_2:Int):=dA
      have q497:x6_2 < (l1.length:Int):=dA
      obtain ⟨ad497,e497,hx497_0⟩:=Kd.at_int HR1.out x6_2 p497 q497
      cases e497
      replace hx497_0:=hC HB.out hx497_0
      replace p497:=eq_true p497
      replace q497:=eq_true q497
      obtain ⟨_,_,_,_,_,_⟩:=xC3 BK495.out
      have p498:0≤(x6_2:Int):=dA
      have q498:x6_2 < (l0_0.length:Int):=dA
      obtain ⟨ad498,e498,hx498_0,hx498_1,hx498_2,hx498_3⟩:=at_T50 HR0_0.out x6_2 p498 q498
      cases e498
      replace hx498_0:=hC HB.out hx498_0
      replace hx498_1:=hC HB.out hx498_1
      replace hx498_2:=hC HB.out hx498_2
      replace hx498_3:=hC HB.out hx498_3
      replace p498:=eq_true p498
      replace q498:=eq_true q498
      go_wp2
      repeat (go_quiet (fail);try go_wp2)
      go_ret
      exact ⟨by first|rfl|(simp [errW_none,errW_some] <;> rfl)|(simp [*,errW_none,errW_some] <;> rfl),bA⟩
     rw [if_neg c16] at H
     have c16b0:decide ((rd l1 x6_2) < ((rd_T50 l0_0 x6_2).f0.f0))=false:=decide_eq_false c16
     clear c16
     by_cases c18:(rd l1 x6_2) > ((rd_T50 l0_0 x6_2).f0.f1)
     ·rw [if_pos c18] at H
      have c18b0:decide (((rd_T50 l0_0 x6_2).f0.f1) < (rd l1 x6_2))=true:=decide_eq_true c18
      clear c18
      obtain rfl:=Option.some.inj H
      have p497:0≤(x6_2:Int):=dA
      have q497:x6_2 < (l1.length:Int):=dA
      obtain ⟨ad497,e497,hx497_0⟩:=Kd.at_int HR1.out x6_2 p497 q497
      cases e497
      replace hx497_0:=hC HB.out hx497_0
      replace p497:=eq_true p497
      replace q497:=eq_true q497
      obtain ⟨_,_,_,_,_,_⟩:=xC3 BK495.out
      have p498:0≤(x6_2:Int):=dA
      have q498:x6_2 < (l0_0.length:Int):=dA
      obtain ⟨ad498,e498,hx498_0,hx498_1,hx498_2,hx498_3⟩:=at_T50 HR0_0.out x6_2 p498 q498
      cases e498
      replace hx498_0:=hC HB.out hx498_0
      replace hx498_1:=hC HB.out hx498_1
      replace hx498_2:=hC HB.out hx498_2
      replace hx498_3:=hC HB.out hx498_3
      replace p498:=eq_true p498
      replace q498:=eq_true q498
      have p499:0≤(x6_2:Int):=dA
      have q499:x6_2 < (l1.length:Int):=dA
      obtain ⟨ad499,e499,hx499_0⟩:=Kd.at_int HR1.out x6_2 p499 q499
      obtain rfl:ad497=ad499:=(by injection e499)
      replace hx499_0:=hC HB.out hx499_0
      replace p499:=eq_true p499
      replace q499:=eq_true q499
      have p500:0≤(x6_2:Int):=dA
      have q500:x6_2 < (l0_0.length:Int):=dA
      obtain ⟨ad500,e500,hx500_0,hx500_1,hx500_2,hx500_3⟩:=at_T50 HR0_0.out x6_2 p500 q500
      obtain rfl:ad498=ad500:=(by injection e500)
      replace hx500_0:=hC HB.out hx500_0
      replace hx500_1:=hC HB.out hx500_1
      replace hx500_2:=hC HB.out hx500_2
      replace hx500_3:=hC HB.out hx500_3
      replace p500:=eq_true p500
      replace q500:=eq_true q500
      go_wp2
      repeat (go_quiet (fail);try go_wp2)
      go_ret
      exact ⟨by first|rfl|(simp [errW_none,errW_some] <;> rfl)|(simp [*,errW_none,errW_some] <;> rfl),bA⟩
     rw [if_neg c18] at H
     have c18b0:decide (((rd_T50 l0_0 x6_2).f0.f1) < (rd l1 x6_2))=false:=decide_eq_false c18
     clear c18
     have H':=Aside0.mk H
     clear H
     have p497:0≤(x6_2:Int):=dA
     have q497:x6_2 < (l1.length:Int):=dA
     obtain ⟨ad497,e497,hx497_0⟩:=Kd.at_int HR1.out x6_2 p497 q497
     cases e497
     replace hx497_0:=hC HB.out hx497_0
     replace p497:=eq_true p497
     replace q497:=eq_true q497
     obtain ⟨_,_,_,_,_,_⟩:=xC3 BK495.out
     have p498:0≤(x6_2:Int):=dA
     have q498:x6_2 < (l0_0.length:Int):=dA
     obtain ⟨ad498,e498,hx498_0,hx498_1,hx498_2,hx498_3⟩:=at_T50 HR0_0.out x6_2 p498 q498
     cases e498
     replace hx498_0:=hC HB.out hx498_0
     replace hx498_1:=hC HB.out hx498_1
     replace hx498_2:=hC HB.out hx498_2
     replace hx498_3:=hC HB.out hx498_3
     replace p498:=eq_true p498
     replace q498:=eq_true q498
     have p499:0≤(x6_2:Int):=dA
     have q499:x6_2 < (l1.length:Int):=dA
     obtain ⟨ad499,e499,hx499_0⟩:=Kd.at_int HR1.out x6_2 p499 q499
     obtain rfl:ad497=ad499:=(by injection e499)
     replace hx499_0:=hC HB.out hx499_0
     replace p499:=eq_true p499
     replace q499:=eq_true q499
     have p500:0≤(x6_2:Int):=dA
     have q500:x6_2 < (l0_0.length:Int):=dA
     obtain ⟨ad500,e500,hx500_0,hx500_1,hx500_2,hx500_3⟩:=at_T50 HR0_0.out x6_2 p500 q500
     obtain rfl:ad498=ad500:=(by injection e500)
     replace hx500_0:=hC HB.out hx500_0
     replace hx500_1:=hC HB.out hx500_1
     replace hx500_2:=hC HB.out hx500_2
     replace hx500_3:=hC HB.out hx500_3
     replace p500:=eq_true p500
     replace q500:=eq_true q500
     have p501:0≤(x6_2:Int):=dA
     have q501:x6_2 < (l1.length:Int):=dA
     obtain ⟨ad501,e501,hx501_0⟩:=Kd.at_int HR1.out x6_2 p501 q501
     obtain rfl:ad497=ad501:=(by injection e501)
     replace hx501_0:=hC HB.out hx501_0
     replace p501:=eq_true p501
     replace q501:=eq_true q501
     go_wp2
     repeat (go_quiet (fail);try go_wp2)
     go_roundg k2
     case measure=>have:=HJ2.out;have:=HK2.out;omega
     case rel=>exact ⟨(wrap64 (x5_2+(rd l1 x6_2))),(wrap64 (x6_2+1)),sA,sA,H',⟨by have:=HJ2.out;have:=HK2.out;omega⟩,⟨by (with_reducible repeat (first|refine blk_drewN ?_ _|refine blk_drew ?_|refine blk_alloc ?_ _));exact BK495.out⟩,⟨bA⟩⟩
def acreagelaw08_shows.l0:Nat→List Int→List Int→List Int→List Int→Int→Int→List (S50)→Int→Int→Option (List Int)
 | 0,_,_,_,_,_,_,_,_,_=>none
 | k+1,x2,x3,x9,x13,x14,x15,x503000,x503001,x503002=>if x15 < x14 then (if 0≤x15 then (if x15 < (x13.length:Int) then (if x15 < (x3.length:Int) then (if 0≤(rd x13 x15) then (if (rd x13 x15) < (x503000.length:Int) then (if (rd x13 x15) < (x2.length:Int) then (if x9.length < 17592186044416 then (acreagelaw08_shows.l0 k x2 x3 (x9 ++ [wrap64 ((rd x2 (rd x13 x15))+(mn (mx (rd x3 x15) (wrap64 (-((rd_T50 x503000 (rd x13 x15)).f2)))) ((rd_T50 x503000 (rd x13 x15)).f2)))]) x13 x14 (wrap64 (x15+1)) x503000 x503001 x503002) else (none)) else (none)) else (none)) else (none)) else (if 0≤(rd x13 x15) then (if (rd x13 x15) < (x2.length:Int) then (if x9.length < 17592186044416 then (acreagelaw08_shows.l0 k x2 x3 (x9 ++ [wrap64 ((rd x2 (rd x13 x15)))]) x13 x14 (wrap64 (x15+1)) x503000 x503001 x503002) else (none)) else (none)) else (none))) else (none)) else (none)) else (some x9)
def acreagelaw08_shows.f (k:Nat) (l0_0:List (S50)) (a0_1:Int) (a0_2:Int) (l1:List Int) (l2:List Int) (l3:List Int):Option (List Int):=acreagelaw08_shows.l0 k l2 l3 ([]:List Int) l1 (l1.length:Int) 0 l0_0 a0_1 a0_2
set_option maxHeartbeats 8000000 in
set_option maxRecDepth 100000 in
theorem acreagelaw08_shows.calls (k:Nat) (A0_0:Option Addr) (c0_0:Nat) (l0_0:List (S50)) (a0_1:Int) (a0_2:Int) (A1:Option Addr) (c1:Nat) (l1:List Int) (A2:Option Addr) (c2:Nat) (l2:List Int) (A3:Option Addr) (c3:Nat) (l3:List Int) (r:List Int) (w:World) (hr0_0:Kd.C k50 w A0_0 l0_0.length l0_0) (hc0_0:l0_0.length≤c0_0) (hr1:Kd.C (Kd.int .i64) w A1 l1.length l1) (hc1:l1.length≤c1) (hr2:Kd.C (Kd.int .i64) w A2 l2.length l2) (hc2:l2.length≤c2) (hr3:Kd.C (Kd.int .i64) w A3 l3.length l3) (hc3:l3.length≤c3) (h:acreagelaw08_shows.f k l0_0 a0_1 a0_2 l1 l2 l3=some r) :
 Calls Try.prog 17 #[.agg #[.slice A0_0 l0_0.length c0_0,.int .i64 a0_1,.int .i64 a0_2],.slice A1 l1.length c1,.slice A2 l2.length c2,.slice A3 l3.length c3] w fun e w'=>∃ v0_:Value,e= .returned (v0_)∧Kd.R (Kd.int .i64) 3 w' w.heap.size (fun _=>True) v0_ r∧Below w.heap.size w w':=by
 have hu26:=Try.underlying26
 have HR0_0:=Aside0.mk hr0_0
 have HC0_0:=Aside0.mk hc0_0
 clear hr0_0 hc0_0
 have HR1:=Aside0.mk hr1
 have HC1:=Aside0.mk hc1
 clear hr1 hc1
 have HR2:=Aside0.mk hr2
 have HC2:=Aside0.mk hc2
 clear hr2 hc2
 have HR3:=Aside0.mk hr3
 have HC3:=Aside0.mk hc3
 clear hr3 hc3
 have HB:=Aside0.mk (Below.refl w.heap.size w)
 have H:(acreagelaw08_shows.l0 k l2 l3 ([]:List Int) l1 (l1.length:Int) 0 l0_0 a0_1 a0_2)=some r:=h
 clear h
 have H':=Aside0.mk H
 clear H
 go_enter Try.func17,Try.ntmps17
 go_wp2_with (first|((with_reducible refine gate_dst (N:=4) rfl ?_);refine bE #[.slice A0_0 l0_0.length c0_0,.int .i64 a0_1,.int .i64 a0_2] 26 ?_;intro gb502 hg w5 hbox hb;have BK502:=qK (hbox);have GW502:=qK ((gS hg:w.heap.size≤gb502));have GE502:=qK ((gS hg:w.heap.size≤gb502));replace HB:=qK (bS hb);clear hb hbox hg))
 repeat (go_quiet (first|((with_reducible refine gate_dst (N:=4) rfl ?_);refine bE #[.slice A0_0 l0_0.length c0_0,.int .i64 a0_1,.int .i64 a0_2] 26 ?_;intro gb502 hg w5 hbox hb;have BK502:=qK (hbox);have GW502:=qK ((gS hg:w.heap.size≤gb502));have GE502:=qK ((gS hg:w.heap.size≤gb502));replace HB:=qK (bS hb);clear hb hbox hg));try go_wp2_with (first|((with_reducible refine gate_dst (N:=4) rfl ?_);refine bE #[.slice A0_0 l0_0.length c0_0,.int .i64 a0_1,.int .i64 a0_2] 26 ?_;intro gb502 hg w5 hbox hb;have BK502:=qK (hbox);have GW502:=qK ((gS hg:w.heap.size≤gb502));have GE502:=qK ((gS hg:w.heap.size≤gb502));replace HB:=qK (bS hb);clear hb hbox hg)))
 go_loopg [9,15] k (fun kq v9 v15 w'=>∃ (x9_1:List Int) (x15_1:Int),v15= .int .i64 x15_1∧Aside0 (acreagelaw08_shows.l0 kq l2 l3 x9_1 l1 (l1.length:Int) x15_1 l0_0 a0_1 a0_2=some r)∧Aside0 (kq≤k)∧Aside0 (Kd.R (Kd.int .i64) 3 w' w.heap.size (fun _=>True) v9 x9_1)∧Aside0 (w'.heap[gb502]? = some (.cells #[(.slice A0_0 l0_0.length c0_0),.int .i64 a0_1,.int .i64 a0_2] 26 (0,0)))∧Aside0 (Below w.heap.size w w'))
 case atStart=>exact ⟨(([]:List Int)),(0),sA,H',⟨Nat.le_refl _⟩,⟨by first|exact Kd.R_nil _ _ _ _ _|exact Kd.N_nil _ _ _ _ _|exact Kd.V_nil _ _ _ _ _|exact Kd.Q_nil _ _ _ _ _|exact Kd.S_nil _ _ _ _ _⟩,⟨by (with_reducible repeat (first|refine blk_drewN ?_ _|refine blk_drew ?_|refine blk_alloc ?_ _));exact BK502.out⟩,⟨bA⟩⟩
 case round =>
  clear H'
  try clear c1
  try clear c2
  try clear p2
  try clear c3
  obtain ⟨x9_1,x15_1,rfl,HA,HK1,HO_9,BK502,HB⟩:=hrel
  cases gk with
  | zero=>exact absurd HA.out (by simp [acreagelaw08_shows.l0])
  | succ k1 =>
   have H:=HA.out
   clear HA
   simp only [acreagelaw08_shows.l0] at H
   by_cases c6:x15_1 < (l1.length:Int)
   rotate_left
   ·rw [if_neg c6] at H
    have c6b0:decide (x15_1 < (l1.length:Int))=false:=decide_eq_false c6
    clear c6
    obtain rfl:=Option.some.inj H
    go_wp2
    repeat (go_quiet (fail);try go_wp2)
    go_ret
    exact ⟨_,by first|rfl|(simp [errW_none,errW_some] <;> rfl)|(simp [*,errW_none,errW_some] <;> rfl),by (with_reducible repeat (first|apply Kd.R_alloc|apply Kd.R_drewN|apply Kd.R_drew));exact HO_9.out,bA⟩
   rw [if_pos c6] at H
   have c6b0:decide (x15_1 < (l1.length:Int))=true:=decide_eq_true c6
   clear c6
   by_cases c7:0≤x15_1
   rotate_left
   ·rw [if_neg c7] at H
    exact absurd H (by simp)
   rw [if_pos c7] at H
   have c7b0:decide (0≤x15_1)=true:=decide_eq_true c7
   clear c7
   by_cases c8:x15_1 < (l1.length:Int)
   rotate_left
   ·rw [if_neg c8] at H
    exact absurd H (by simp)
   rw [if_pos c8] at H
   have c8b0:decide (x15_1 < (l1.length:Int))=true:=decide_eq_true c8
   clear c8
   by_cases c9:x15_1 < (l3.length:Int)
   rotate_left
   ·rw [if_neg c9] at H
    have c9b0:decide (x15_1 < (l3.length:Int))=false:=decide_eq_false c9
    clear c9
    by_cases c18:0≤(rd l1 x15_1)
    rotate_left
    ·rw [if_neg c18] at H
     exact absurd H (by simp)
    rw [if_pos c18] at H
    have c18b0:decide (0≤(rd l1 x15_1))=true:=decide_eq_true c18
    clear c18
    by_cases c19:(rd l1 x15_1) < (l2.length:Int)
    rotate_left
    ·rw [if_neg c19] at H
     exact absurd H (by simp)
    rw [if_pos c19] at H
    have c19b0:decide ((rd l1 x15_1) < (l2.length:Int))=true:=decide_eq_true c19
    clear c19
    by_cases c20:x9_1.length < 17592186044416
    rotate_left
    ·rw [if_neg c20] at H
     exact absurd H (by simp)
    rw [if_pos c20] at H
    have LMc20:=Aside0.mk c20
    clear c20
    obtain ⟨y512,hy512⟩ : ∃ y_:List Int,y_=(x9_1 ++ [wrap64 ((rd l2 (rd l1 x15_1)))]):=⟨_,rfl⟩
    replace H:(acreagelaw08_shows.l0 k1 l2 l3 y512 l1 (l1.length:Int) (wrap64 (x15_1+1)) l0_0 a0_1 a0_2)=some r:=by first|(rw [hy512];with_reducible exact H)|(have H2_:=(Option.bind_some _ _).symm.trans H;rw [hy512];with_reducible exact H2_)|(have H2_:=(Option.bind_some _ _).symm.trans H;with_reducible exact H2_)|with_reducible exact H|(rw [hy512];exact H)|exact H
    have Ny512:=Aside0.mk hy512
    clear hy512
    have H':=Aside0.mk H
    clear H
    have p503:0≤(x15_1:Int):=dA
    have q503:x15_1 < (l1.length:Int):=dA
    obtain ⟨ad503,e503,hx503_0⟩:=Kd.at_int HR1.out x15_1 p503 q503
    cases e503
    replace hx503_0:=hC HB.out hx503_0
    replace p503:=eq_true p503
    replace q503:=eq_true q503
    have p511:0≤((rd l1 x15_1):Int):=dA
    have q511:(rd l1 x15_1) < (l2.length:Int):=dA
    obtain ⟨ad511,e511,hx511_0⟩:=Kd.at_int HR2.out (rd l1 x15_1) p511 q511
    cases e511
    replace hx511_0:=hC HB.out hx511_0
    replace p511:=eq_true p511
    replace q511:=eq_true q511
    go_wp2_with (first|((with_reducible refine gate_builtin (b:=.append) (xs:=#[.tmp 43,.tmp 50]) rfl ?_);at_builtin;refine Kd.R_append (Kd.int .i64) (w0:=w) w.heap.size rfl (.tmp 43) (.tmp 50) 27 3 (.int .i64 0) 8 rfl Try.underlying27 info3 rfl (by decide) (by omega) u9 x9_1 (wrap64 ((rd l2 (rd l1 x15_1)))) [.int .i64 (wrap64 ((rd l2 (rd l1 x15_1))))] (fun _=>True) (fun _=>False) rfl rfl ?aP (fun _ hk=>hk.elim) ?aF ?aO ?aB ?aS ?aL ?_;(case aP=>exact rfl);(case aB=>exact bA);(case aF=>exact (fun _ _=>trivial));(case aO=>exact (rS HO_9.out));(case aS=>exact bZ);(case aL=>have:=LMc20.out;omega);intro v513 w21 ho hb hg hat;rw [← Ny512.out] at ho;replace BK502:=qK (blk_grown (g:=gb502) (o:=.cells #[.slice A0_0 l0_0.length c0_0,.int .i64 a0_1,.int .i64 a0_2] 26 (0,0)) (bX BK502.out) hg (Kd.R_ne HO_9.out BK502.out (by decide)));replace HB:=qK (hb);have HO514:=qK (ho);clear HO_9;clear ho hb hg hat))
    repeat (go_quiet (first|((with_reducible refine gate_builtin (b:=.append) (xs:=#[.tmp 43,.tmp 50]) rfl ?_);at_builtin;refine Kd.R_append (Kd.int .i64) (w0:=w) w.heap.size rfl (.tmp 43) (.tmp 50) 27 3 (.int .i64 0) 8 rfl Try.underlying27 info3 rfl (by decide) (by omega) u9 x9_1 (wrap64 ((rd l2 (rd l1 x15_1)))) [.int .i64 (wrap64 ((rd l2 (rd l1 x15_1))))] (fun _=>True) (fun _=>False) rfl rfl ?aP (fun _ hk=>hk.elim) ?aF ?aO ?aB ?aS ?aL ?_;(case aP=>exact rfl);(case aB=>exact bA);(case aF=>exact (fun _ _=>trivial));(case aO=>exact (rS HO_9.out));(case aS=>exact bZ);(case aL=>have:=LMc20.out;omega);intro v513 w21 ho hb hg hat;rw [← Ny512.out] at ho;replace BK502:=qK (blk_grown (g:=gb502) (o:=.cells #[.slice A0_0 l0_0.length c0_0,.int .i64 a0_1,.int .i64 a0_2] 26 (0,0)) (bX BK502.out) hg (Kd.R_ne HO_9.out BK502.out (by decide)));replace HB:=qK (hb);have HO514:=qK (ho);clear HO_9;clear ho hb hg hat));try go_wp2_with (first|((with_reducible refine gate_builtin (b:=.append) (xs:=#[.tmp 43,.tmp 50]) rfl ?_);at_builtin;refine Kd.R_append (Kd.int .i64) (w0:=w) w.heap.size rfl (.tmp 43) (.tmp 50) 27 3 (.int .i64 0) 8 rfl Try.underlying27 info3 rfl (by decide) (by omega) u9 x9_1 (wrap64 ((rd l2 (rd l1 x15_1)))) [.int .i64 (wrap64 ((rd l2 (rd l1 x15_1))))] (fun _=>True) (fun _=>False) rfl rfl ?aP (fun _ hk=>hk.elim) ?aF ?aO ?aB ?aS ?aL ?_;(case aP=>exact rfl);(case aB=>exact bA);(case aF=>exact (fun _ _=>trivial));(case aO=>exact (rS HO_9.out));(case aS=>exact bZ);(case aL=>have:=LMc20.out;omega);intro v513 w21 ho hb hg hat;rw [← Ny512.out] at ho;replace BK502:=qK (blk_grown (g:=gb502) (o:=.cells #[.slice A0_0 l0_0.length c0_0,.int .i64 a0_1,.int .i64 a0_2] 26 (0,0)) (bX BK502.out) hg (Kd.R_ne HO_9.out BK502.out (by decide)));replace HB:=qK (hb);have HO514:=qK (ho);clear HO_9;clear ho hb hg hat)))
    go_roundg k1
    case measure=>have:=HK1.out;omega
    case rel=>exact ⟨(y512),(wrap64 (x15_1+1)),sA,H',⟨by have:=HK1.out;omega⟩,⟨by (with_reducible repeat (first|apply Kd.R_alloc|apply Kd.R_drewN|apply Kd.R_drew));exact HO514.out⟩,⟨by (with_reducible repeat (first|refine blk_drewN ?_ _|refine blk_drew ?_|refine blk_alloc ?_ _));exact BK502.out⟩,⟨bA⟩⟩
   rw [if_pos c9] at H
   have c9b0:decide (x15_1 < (l3.length:Int))=true:=decide_eq_true c9
   clear c9
   by_cases c10:0≤(rd l1 x15_1)
   rotate_left
   ·rw [if_neg c10] at H
    exact absurd H (by simp)
   rw [if_pos c10] at H
   have c10b0:decide (0≤(rd l1 x15_1))=true:=decide_eq_true c10
   clear c10
   by_cases c11:(rd l1 x15_1) < (l0_0.length:Int)
   rotate_left
   ·rw [if_neg c11] at H
    exact absurd H (by simp)
   rw [if_pos c11] at H
   have c11b0:decide ((rd l1 x15_1) < (l0_0.length:Int))=true:=decide_eq_true c11
   clear c11
   obtain ⟨ji12,hji12⟩ : ∃ j_:Int,(mx (rd l3 x15_1) (wrap64 (-((rd_T50 l0_0 (rd l1 x15_1)).f2))))=j_:=⟨_,rfl⟩
   replace H:(if (rd l1 x15_1) < (l2.length:Int) then (if x9_1.length < 17592186044416 then (acreagelaw08_shows.l0 k1 l2 l3 (x9_1 ++ [wrap64 ((rd l2 (rd l1 x15_1))+(mn (ji12) ((rd_T50 l0_0 (rd l1 x15_1)).f2)))]) l1 (l1.length:Int) (wrap64 (x15_1+1)) l0_0 a0_1 a0_2) else (none)) else (none))=some r:=by first|(rw [hji12] at H;exact H)|(simp only [hji12] at H ⊢;exact H)
   have hji12_:(if (rd l3 x15_1) < (wrap64 (-((rd_T50 l0_0 (rd l1 x15_1)).f2))) then (wrap64 (-((rd_T50 l0_0 (rd l1 x15_1)).f2))) else (rd l3 x15_1))=ji12:=hji12
   obtain ⟨ji13,hji13⟩ : ∃ j_:Int,(mn (ji12) ((rd_T50 l0_0 (rd l1 x15_1)).f2))=j_:=⟨_,rfl⟩
   replace H:(if (rd l1 x15_1) < (l2.length:Int) then (if x9_1.length < 17592186044416 then (acreagelaw08_shows.l0 k1 l2 l3 (x9_1 ++ [wrap64 ((rd l2 (rd l1 x15_1))+(ji13))]) l1 (l1.length:Int) (wrap64 (x15_1+1)) l0_0 a0_1 a0_2) else (none)) else (none))=some r:=by first|(rw [hji13] at H;exact H)|(simp only [hji13] at H ⊢;exact H)
   have hji13_:(if ((rd_T50 l0_0 (rd l1 x15_1)).f2) < (ji12) then ((rd_T50 l0_0 (rd l1 x15_1)).f2) else (ji12))=ji13:=hji13
   by_cases c14:(rd l1 x15_1) < (l2.length:Int)
   rotate_left
   ·rw [if_neg c14] at H
    exact absurd H (by simp)
   rw [if_pos c14] at H
   have c14b0:decide ((rd l1 x15_1) < (l2.length:Int))=true:=decide_eq_true c14
   clear c14
   by_cases c15:x9_1.length < 17592186044416
   rotate_left
   ·rw [if_neg c15] at H
    exact absurd H (by simp)
   rw [if_pos c15] at H
   have LMc15:=Aside0.mk c15
   clear c15
   obtain ⟨y508,hy508⟩ : ∃ y_:List Int,y_=(x9_1 ++ [wrap64 ((rd l2 (rd l1 x15_1))+(ji13))]):=⟨_,rfl⟩
   replace H:(acreagelaw08_shows.l0 k1 l2 l3 y508 l1 (l1.length:Int) (wrap64 (x15_1+1)) l0_0 a0_1 a0_2)=some r:=by first|(rw [hy508];with_reducible exact H)|(have H2_:=(Option.bind_some _ _).symm.trans H;rw [hy508];with_reducible exact H2_)|(have H2_:=(Option.bind_some _ _).symm.trans H;with_reducible exact H2_)|with_reducible exact H|(rw [hy508];exact H)|exact H
   have Ny508:=Aside0.mk hy508
   clear hy508
   have H':=Aside0.mk H
   clear H
   have p503:0≤(x15_1:Int):=dA
   have q503:x15_1 < (l1.length:Int):=dA
   obtain ⟨ad503,e503,hx503_0⟩:=Kd.at_int HR1.out x15_1 p503 q503
   cases e503
   replace hx503_0:=hC HB.out hx503_0
   replace p503:=eq_true p503
   replace q503:=eq_true q503
   have p504:0≤(x15_1:Int):=dA
   have q504:x15_1 < (l3.length:Int):=dA
   obtain ⟨ad504,e504,hx504_0⟩:=Kd.at_int HR3.out x15_1 p504 q504
   cases e504
   replace hx504_0:=hC HB.out hx504_0
   replace p504:=eq_true p504
   replace q504:=eq_true q504
   obtain ⟨_,_,_,_,_,_⟩:=xC3 BK502.out
   have p505:0≤((rd l1 x15_1):Int):=dA
   have q505:(rd l1 x15_1) < (l0_0.length:Int):=dA
   obtain ⟨ad505,e505,hx505_0,hx505_1,hx505_2,hx505_3⟩:=at_T50 HR0_0.out (rd l1 x15_1) p505 q505
   cases e505
   replace hx505_0:=hC HB.out hx505_0
   replace hx505_1:=hC HB.out hx505_1
   replace hx505_2:=hC HB.out hx505_2
   replace hx505_3:=hC HB.out hx505_3
   replace p505:=eq_true p505
   replace q505:=eq_true q505
   have p506:0≤((rd l1 x15_1):Int):=dA
   have q506:(rd l1 x15_1) < (l0_0.length:Int):=dA
   obtain ⟨ad506,e506,hx506_0,hx506_1,hx506_2,hx506_3⟩:=at_T50 HR0_0.out (rd l1 x15_1) p506 q506
   obtain rfl:ad505=ad506:=(by injection e506)
   replace hx506_0:=hC HB.out hx506_0
   replace hx506_1:=hC HB.out hx506_1
   replace hx506_2:=hC HB.out hx506_2
   replace hx506_3:=hC HB.out hx506_3
   replace p506:=eq_true p506
   replace q506:=eq_true q506
   have p507:0≤((rd l1 x15_1):Int):=dA
   have q507:(rd l1 x15_1) < (l2.length:Int):=dA
   obtain ⟨ad507,e507,hx507_0⟩:=Kd.at_int HR2.out (rd l1 x15_1) p507 q507
   cases e507
   replace hx507_0:=hC HB.out hx507_0
   replace p507:=eq_true p507
   replace q507:=eq_true q507
   go_wp2_with (first|((with_reducible refine gate_builtin (b:=.append) (xs:=#[.tmp 43,.tmp 50]) rfl ?_);at_builtin;refine Kd.R_append (Kd.int .i64) (w0:=w) w.heap.size rfl (.tmp 43) (.tmp 50) 27 3 (.int .i64 0) 8 rfl Try.underlying27 info3 rfl (by decide) (by omega) u9 x9_1 (wrap64 ((rd l2 (rd l1 x15_1))+(ji13))) [.int .i64 (wrap64 ((rd l2 (rd l1 x15_1))+(ji13)))] (fun _=>True) (fun _=>False) rfl rfl ?aP (fun _ hk=>hk.elim) ?aF ?aO ?aB ?aS ?aL ?_;(case aP=>exact rfl);(case aB=>exact bA);(case aF=>exact (fun _ _=>trivial));(case aO=>exact (rS HO_9.out));(case aS=>exact bZ);(case aL=>have:=LMc15.out;omega);intro v509 w17 ho hb hg hat;rw [← Ny508.out] at ho;replace BK502:=qK (blk_grown (g:=gb502) (o:=.cells #[.slice (some ad505) l0_0.length c0_0,.int .i64 a0_1,.int .i64 a0_2] 26 (0,0)) (bX BK502.out) hg (Kd.R_ne HO_9.out BK502.out (by decide)));replace HB:=qK (hb);have HO510:=qK (ho);clear HO_9;clear ho hb hg hat))
   repeat (go_quiet (first|((with_reducible refine gate_builtin (b:=.append) (xs:=#[.tmp 43,.tmp 50]) rfl ?_);at_builtin;refine Kd.R_append (Kd.int .i64) (w0:=w) w.heap.size rfl (.tmp 43) (.tmp 50) 27 3 (.int .i64 0) 8 rfl Try.underlying27 info3 rfl (by decide) (by omega) u9 x9_1 (wrap64 ((rd l2 (rd l1 x15_1))+(ji13))) [.int .i64 (wrap64 ((rd l2 (rd l1 x15_1))+(ji13)))] (fun _=>True) (fun _=>False) rfl rfl ?aP (fun _ hk=>hk.elim) ?aF ?aO ?aB ?aS ?aL ?_;(case aP=>exact rfl);(case aB=>exact bA);(case aF=>exact (fun _ _=>trivial));(case aO=>exact (rS HO_9.out));(case aS=>exact bZ);(case aL=>have:=LMc15.out;omega);intro v509 w17 ho hb hg hat;rw [← Ny508.out] at ho;replace BK502:=qK (blk_grown (g:=gb502) (o:=.cells #[.slice (some ad505) l0_0.length c0_0,.int .i64 a0_1,.int .i64 a0_2] 26 (0,0)) (bX BK502.out) hg (Kd.R_ne HO_9.out BK502.out (by decide)));replace HB:=qK (hb);have HO510:=qK (ho);clear HO_9;clear ho hb hg hat));try go_wp2_with (first|((with_reducible refine gate_builtin (b:=.append) (xs:=#[.tmp 43,.tmp 50]) rfl ?_);at_builtin;refine Kd.R_append (Kd.int .i64) (w0:=w) w.heap.size rfl (.tmp 43) (.tmp 50) 27 3 (.int .i64 0) 8 rfl Try.underlying27 info3 rfl (by decide) (by omega) u9 x9_1 (wrap64 ((rd l2 (rd l1 x15_1))+(ji13))) [.int .i64 (wrap64 ((rd l2 (rd l1 x15_1))+(ji13)))] (fun _=>True) (fun _=>False) rfl rfl ?aP (fun _ hk=>hk.elim) ?aF ?aO ?aB ?aS ?aL ?_;(case aP=>exact rfl);(case aB=>exact bA);(case aF=>exact (fun _ _=>trivial));(case aO=>exact (rS HO_9.out));(case aS=>exact bZ);(case aL=>have:=LMc15.out;omega);intro v509 w17 ho hb hg hat;rw [← Ny508.out] at ho;replace BK502:=qK (blk_grown (g:=gb502) (o:=.cells #[.slice (some ad505) l0_0.length c0_0,.int .i64 a0_1,.int .i64 a0_2] 26 (0,0)) (bX BK502.out) hg (Kd.R_ne HO_9.out BK502.out (by decide)));replace HB:=qK (hb);have HO510:=qK (ho);clear HO_9;clear ho hb hg hat)))
   go_roundg k1
   case measure=>have:=HK1.out;omega
   case rel=>exact ⟨(y508),(wrap64 (x15_1+1)),sA,H',⟨by have:=HK1.out;omega⟩,⟨by (with_reducible repeat (first|apply Kd.R_alloc|apply Kd.R_drewN|apply Kd.R_drew));exact HO510.out⟩,⟨by (with_reducible repeat (first|refine blk_drewN ?_ _|refine blk_drew ?_|refine blk_alloc ?_ _));exact BK502.out⟩,⟨bA⟩⟩
end Go.Proofs.Ythimaecnpkcmeaa.K
