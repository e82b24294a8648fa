/- Contracts of Go functions and lemmas for them: each theorem states what one function returns and what it leaves of memory; its conditions stand in its statement. -/
import Derived.Test.YthimaecnpkcmeaaA3
set_option linter.unusedVariables false
set_option linter.unusedSimpArgs false
namespace Go.Proofs.Ythimaecnpkcmeaa.K
open Go.RowKit Go.Proofs.YthimaecnpkcmeaaW.PrintWords Go.Proofs.YthimaecnpkcmeaaW.PrintLast Go.Proofs.YthimaecnpkcmeaaW.PrintMore
attribute [local go_sem] max2_int min2_int max_two min_two max_three min_three max_four min_four   -- for this text's walks alone
set_option linter.unusedVariables false
set_option linter.unusedSimpArgs false
def acreageref08_All.l0:Nat→Int→List (S50)→Int→Int→Int→Int→Option (Int × Int)
 | 0,_,_,_,_,_,_=>none
 | k+1,x4,x471000,x471001,x471002,x473000,x473001=>if x4 < (x471000.length:Int) then (if 0≤x4 then (acreageref08_All.l0 k (wrap64 (x4+1)) x471000 x471001 x471002 (wrap64 (x473000+((rd_T50 x471000 x4).f0.f0))) (wrap64 (x473001+((rd_T50 x471000 x4).f0.f1)))) else (none)) else (some (x473000,x473001))
def acreageref08_All.f (k:Nat) (l0_0:List (S50)) (a0_1:Int) (a0_2:Int):Option (Int × Int):=acreageref08_All.l0 k 0 l0_0 a0_1 a0_2 0 0
def acreageref08_All.T5:Bool × List (List Nat × List Nat):=(true,[([],[]),([0],[0]),([],[]),([2],[2]),([],[]),([3,4],[3,4]),([5],[5]),([6],[6]),([7],[7]),([1,8],[1,8]),([0,1,2,3,4,5,6,7,8,9],[]),([10,9,0,1,2,3,4,5,6,7,8,9],[9,10])])
def acreageref08_All.B5:List Nat:=[0,1,0,4,0,28,60,124,252,511,1023,2047]
theorem acreageref08_All.tab5:rtab .any (opsOf Try.f46 5)=acreageref08_All.T5:=by kernel_rfl
theorem acreageref08_All.bits5:waitsOk acreageref08_All.T5.2 acreageref08_All.B5=true:=by kernel_rfl
def acreageref08_All.T6:Bool × List (List Nat × List Nat):=(true,[([],[]),([0],[0]),([],[]),([2],[2]),([],[]),([3,4],[3,4]),([5],[5]),([6],[6]),([7],[7]),([1,8],[1,8]),([0,1,2,3,4,5,6,7,8,9],[]),([10,9,0,1,2,3,4,5,6,7,8,9],[9,10])])
def acreageref08_All.B6:List Nat:=[0,1,0,4,0,28,60,124,252,511,1023,2047]
theorem acreageref08_All.tab6:rtab .any (opsOf Try.f46 6)=acreageref08_All.T6:=by kernel_rfl
theorem acreageref08_All.bits6:waitsOk acreageref08_All.T6.2 acreageref08_All.B6=true:=by kernel_rfl
set_option maxHeartbeats 8000000 in
set_option maxRecDepth 100000 in
theorem acreageref08_All.calls (k:Nat) (A0_0:Option Addr) (c0_0:Nat) (l0_0:List (S50)) (a0_1:Int) (a0_2:Int) (r1:Int) (r2:Int) (w:World) (hr0_0:Kd.C k50 w A0_0 l0_0.length l0_0) (hc0_0:l0_0.length≤c0_0) (h:acreageref08_All.f k l0_0 a0_1 a0_2=some (r1,r2)) :
 Calls Try.prog 46 #[.agg #[.slice A0_0 l0_0.length c0_0,.int .i64 a0_1,.int .i64 a0_2]] w fun e w'=>e= .returned (.agg #[.int .i64 r1,.int .i64 r2])∧Below w.heap.size w w':=by
 have hu26:=Try.underlying26
 have hu24:=Try.underlying24
 have HR0_0:=Aside0.mk hr0_0
 have HC0_0:=Aside0.mk hc0_0
 clear hr0_0 hc0_0
 have HB:=Aside0.mk (Below.refl w.heap.size w)
 have H:(acreageref08_All.l0 k 0 l0_0 a0_1 a0_2 0 0)=some (r1,r2):=h
 clear h
 have H':=Aside0.mk H
 clear H
 go_enter Try.func46,Try.ntmps46
 go_wp2_with (first|((with_reducible refine gate_dst (N:=1) rfl ?_);refine bE #[.slice A0_0 l0_0.length c0_0,.int .i64 a0_1,.int .i64 a0_2] 26 ?_;intro gb470 hg w2 hbox hb;have BK470:=qK (hbox);have GW470:=qK ((gS hg:w.heap.size≤gb470));have GE470:=qK ((gS hg:w.heap.size≤gb470));replace HB:=qK (bS hb);clear hb hbox hg)|((with_reducible refine gate_dst (N:=2) rfl ?_);refine bE #[.int .i64 0,.int .i64 0] 24 ?_;intro gb471 hg w3 hbox hb;have BK471:=qK (hbox);have GW471:=qK ((gS hg:w.heap.size≤gb471));have GE471:=qK ((gS hg:w.heap.size≤gb471));replace HB:=qK (bS hb);have NB470_471:=qK ((nL hg BK470.out:gb470≠gb471));have NB471_470:=qK ((nG hg BK470.out:gb471≠gb470));replace BK470:=qK (bB BK470.out hb);clear hb hbox hg)|((with_reducible refine gate_dst (N:=3) rfl ?_);refine bE #[.int .i64 0,.int .i64 0] 24 ?_;intro gb472 hg w4 hbox hb;have BK472:=qK (hbox);have GW472:=qK ((gS hg:w.heap.size≤gb472));have GE472:=qK ((gS hg:w.heap.size≤gb472));replace HB:=qK (bS hb);have NB470_472:=qK ((nL hg BK470.out:gb470≠gb472));have NB472_470:=qK ((nG hg BK470.out:gb472≠gb470));replace BK470:=qK (bB BK470.out hb);have NB471_472:=qK ((nL hg BK471.out:gb471≠gb472));have NB472_471:=qK ((nG hg BK471.out:gb472≠gb471));replace BK471:=qK (bB BK471.out hb);clear hb hbox hg;have hnb5:=NB472_470.out;have hnc5:=NB470_472.out;have hnb6:=NB472_471.out;have hnc6:=NB471_472.out;obtain ⟨hcz7_0,hcz7_1,hfz7_0,hfz7_1⟩:=xC2 BK472.out))
 go_loopg [4] k (fun kq v4 w'=>∃ (x4_1:Int) (x473000_1:Int) (x473001_1:Int),v4= .int .i64 x4_1∧Aside0 (acreageref08_All.l0 kq x4_1 l0_0 a0_1 a0_2 x473000_1 x473001_1=some (r1,r2))∧Aside0 (kq≤k)∧Aside0 (w'.heap[gb470]? = some (.cells #[(.slice A0_0 l0_0.length c0_0),.int .i64 a0_1,.int .i64 a0_2] 26 (0,0)))∧Aside0 (w'.heap[gb471]? = some (.cells #[.int .i64 0,.int .i64 0] 24 (0,0)))∧Aside0 (w'.heap[gb472]? = some (.cells #[.int .i64 x473000_1,.int .i64 x473001_1] 24 (0,0)))∧Aside0 (Below w.heap.size w w'))
 case atStart=>exact ⟨(0),(0),(0),sA,H',⟨Nat.le_refl _⟩,⟨by (with_reducible repeat (first|refine blk_drewN ?_ _|refine blk_drew ?_|refine blk_alloc ?_ _));refine blk_far ?_ NB470_472.out _;(with_reducible repeat (first|refine blk_drewN ?_ _|refine blk_drew ?_|refine blk_alloc ?_ _));refine blk_far ?_ NB470_472.out _;(with_reducible repeat (first|refine blk_drewN ?_ _|refine blk_drew ?_|refine blk_alloc ?_ _));exact BK470.out⟩,⟨by (with_reducible repeat (first|refine blk_drewN ?_ _|refine blk_drew ?_|refine blk_alloc ?_ _));refine blk_far ?_ NB471_472.out _;(with_reducible repeat (first|refine blk_drewN ?_ _|refine blk_drew ?_|refine blk_alloc ?_ _));refine blk_far ?_ NB471_472.out _;(with_reducible repeat (first|refine blk_drewN ?_ _|refine blk_drew ?_|refine blk_alloc ?_ _));exact BK471.out⟩,⟨by (with_reducible repeat (first|refine blk_drewN ?_ _|refine blk_drew ?_|refine blk_alloc ?_ _));refine blk_put (cs:=#[.int .i64 0,.int .i64 0]) ?_ 1 _ rfl;(with_reducible repeat (first|refine blk_drewN ?_ _|refine blk_drew ?_|refine blk_alloc ?_ _));refine blk_put (cs:=#[.int .i64 0,.int .i64 0]) ?_ 0 _ rfl;(with_reducible repeat (first|refine blk_drewN ?_ _|refine blk_drew ?_|refine blk_alloc ?_ _));exact BK472.out⟩,⟨bA⟩⟩
 case round =>
  clear H'
  try clear p2
  try clear c4
  try clear c5
  try clear c6
  try clear hcz7_0
  try clear hcz7_1
  try clear hfz7_0
  try clear hfz7_1
  obtain ⟨x4_1,x473000_1,x473001_1,rfl,HA,HK1,BK470,BK471,BK472,HB⟩:=hrel
  cases gk with
  | zero=>exact absurd HA.out (by simp [acreageref08_All.l0])
  | succ k1 =>
   have H:=HA.out
   clear HA
   simp only [acreageref08_All.l0] at H
   by_cases c8:x4_1 < (l0_0.length:Int)
   rotate_left
   ·rw [if_neg c8] at H
    have c8b0:decide (x4_1 < (l0_0.length:Int))=false:=decide_eq_false c8
    clear c8
    simp only [Option.some.injEq,Prod.mk.injEq] at H
    obtain ⟨rfl,rfl⟩:=H
    have hnb18:=NB470_471.out
    have hnc18:=NB471_470.out
    have hnb19:=NB470_472.out
    have hnc19:=NB472_470.out
    obtain ⟨_,_,_,_,_,_⟩:=xC3 BK470.out
    have hnb21:=NB472_471.out
    have hnc21:=NB471_472.out
    obtain ⟨_,_,_,_⟩:=xC2 BK472.out
    obtain ⟨_,_,_,_⟩:=xC2 BK471.out
    go_wp2
    refine bodyPost_ret (results_cell_row rfl _ _ gb471 24 #[.int .i64 x473000_1,.int .i64 x473001_1] (0,0) _ rfl (by (with_reducible repeat (first|refine blk_drewN ?_ _|refine blk_drew ?_|refine blk_alloc ?_ _));refine blk_put (cs:=#[.int .i64 x473000_1,.int .i64 0]) ?_ 1 _ rfl;(with_reducible repeat (first|refine blk_drewN ?_ _|refine blk_drew ?_|refine blk_alloc ?_ _));refine blk_put (cs:=#[.int .i64 0,.int .i64 0]) ?_ 0 _ rfl;(with_reducible repeat (first|refine blk_drewN ?_ _|refine blk_drew ?_|refine blk_alloc ?_ _));exact BK471.out) Try.underlying24 rfl (by kernel_rfl)) rfl ?_
    exact ⟨by first|rfl|(simp [errW_none,errW_some] <;> rfl)|(simp [*,errW_none,errW_some] <;> rfl),bA⟩
   rw [if_pos c8] at H
   have c8b0:decide (x4_1 < (l0_0.length:Int))=true:=decide_eq_true c8
   clear c8
   by_cases c9:0≤x4_1
   rotate_left
   ·rw [if_neg c9] at H
    exact absurd H (by simp)
   rw [if_pos c9] at H
   have c9b0:decide (0≤x4_1)=true:=decide_eq_true c9
   clear c9
   have H':=Aside0.mk H
   clear H
   have hnb10:=NB470_471.out
   have hnc10:=NB471_470.out
   have hnb11:=NB470_472.out
   have hnc11:=NB472_470.out
   obtain ⟨_,_,_,_,_,_⟩:=xC3 BK470.out
   try go_wp2
   replace BK470:=qK (blk_drew BK470.out)
   replace BK471:=qK (blk_drew BK471.out)
   replace BK472:=qK (blk_drew BK472.out)
   replace HB:=qK (below_drew1 HB.out)
   have p473:0≤(x4_1:Int):=dA
   have q473:x4_1 < (l0_0.length:Int):=dA
   obtain ⟨ad473,e473,hx473_0,hx473_1,hx473_2,hx473_3⟩:=at_T50 HR0_0.out x4_1 p473 q473
   have hw473_3:=hx473_3
   have hw473_2:=hx473_2
   have hw473_1:=hx473_1
   have hw473_0:=hx473_0
   cases e473
   replace hx473_0:=hC HB.out hx473_0
   replace hx473_1:=hC HB.out hx473_1
   replace hx473_2:=hC HB.out hx473_2
   replace hx473_3:=hC HB.out hx473_3
   replace p473:=eq_true p473
   replace q473:=eq_true q473
   refine start_ (n:=12) (S:=fun w'=>w'.cell? ⟨gb472,0,none⟩=some (.int .i64 x473000_1)∧w'.cell? ⟨gb472,1,none⟩=some (.int .i64 x473001_1)∧w'.cell? ⟨gb470,0,none⟩=some (.slice (some ad473) l0_0.length c0_0)∧w'.cell? ⟨gb470,1,none⟩=some (.int .i64 a0_1)∧w'.cell? ⟨gb470,2,none⟩=some (.int .i64 a0_2)∧w'.cell? (ad473.add ((x4_1).toNat*4))=some (.int .i64 ((rd_T50 l0_0 x4_1).f0.f0))∧w'.cell? ⟨(ad473.add ((x4_1).toNat*4)).block,(ad473.add ((x4_1).toNat*4)).off+1,none⟩=some (.int .i64 ((rd_T50 l0_0 x4_1).f0.f1))∧w'.cell? ⟨(ad473.add ((x4_1).toNat*4)).block,(ad473.add ((x4_1).toNat*4)).off+2,none⟩=some (.int .i64 ((rd_T50 l0_0 x4_1).f1))∧w'.cell? ⟨(ad473.add ((x4_1).toNat*4)).block,(ad473.add ((x4_1).toNat*4)).off+3,none⟩=some (.int .i64 ((rd_T50 l0_0 x4_1).f2))) (ds:=[11]) #[false,false,false,false,false,false,false,false,false,false,false,false] (by kernel_rfl) rfl rfl ⟨(blk_cell BK472.out 0).trans rfl,(blk_cell BK472.out 1).trans rfl,(blk_cell BK470.out 0).trans rfl,(blk_cell BK470.out 1).trans rfl,(blk_cell BK470.out 2).trans rfl,(hC HB.out hw473_0),(hC HB.out hw473_1),(hC HB.out hw473_2),(hC HB.out hw473_3)⟩ (fun hHeld=>?_);refine with_tabW acreageref08_All.tab5 acreageref08_All.bits5 (fun HT_ HW_=>?_)
   generalize wr.drew=w13 at BK470 BK471 BK472 HB hx473_0 hx473_1 hx473_2 hx473_3 hHeld ⊢
   refine pP 0 (some 13) HT_ ?_
   refine pP 2 (some 15) HT_ ?_
   refine pP 4 (some 17) HT_ ?_
   refine tP 1 (some 14) HT_ HW_ hHeld ?_
   refine tP 3 (some 16) HT_ HW_ hHeld ?_
   refine pP 5 (some 18) HT_ ?_
   refine pP 6 (some 19) HT_ ?_
   refine pP 7 (some 20) HT_ ?_
   refine tP 8 (some 21) HT_ HW_ hHeld ?_
   refine pP 9 (some 22) HT_ ?_
   refine pP 10 (some 23) HT_ ?_
   refine last_ (i:=11) (N:=none) #[true,true,true,true,true,true,true,true,true,true,true,true] rfl rfl (one_of HT_.out (by kernel_rfl)) (by decide) (fun K hK=>?_)
   have hs14:w13.cell? ⟨gb472,0,none⟩=some (.int .i64 x473000_1):=(blk_cell BK472.out 0).trans rfl
   have hfs14:=blk_frozen BK472.out 0
   have hns14_0:=NB470_472.out
   have hns14_1:=NB471_472.out
   have hms14_0:=NB472_470.out
   have hms14_1:=NB472_471.out
   refine skip_ (w1:=?_) (by rfl) rfl ?_ ?_
   rotate_left
   ·go_simp
    rfl
   refine hK.out _ _ ?_
   clear hK K
   refine done_ (done_of HT_.out (by kernel_rfl)) ?_
   try go_wp2
   have n0_:Aside0 ((w13.setCell ⟨gb472,0,none⟩ (.int .i64 (wrap64 (x473000_1+((rd_T50 l0_0 x4_1).f0.f0))))).heap[gb470]? = some (.cells #[.slice (some ad473) l0_0.length c0_0,.int .i64 a0_1,.int .i64 a0_2] 26 (0,0))):=⟨by (with_reducible repeat (first|refine blk_drewN ?_ _|refine blk_drew ?_|refine blk_alloc ?_ _));refine blk_far ?_ NB470_472.out _;(with_reducible repeat (first|refine blk_drewN ?_ _|refine blk_drew ?_|refine blk_alloc ?_ _));exact BK470.out⟩
   have n1_:Aside0 ((w13.setCell ⟨gb472,0,none⟩ (.int .i64 (wrap64 (x473000_1+((rd_T50 l0_0 x4_1).f0.f0))))).heap[gb471]? = some (.cells #[.int .i64 0,.int .i64 0] 24 (0,0))):=⟨by (with_reducible repeat (first|refine blk_drewN ?_ _|refine blk_drew ?_|refine blk_alloc ?_ _));refine blk_far ?_ NB471_472.out _;(with_reducible repeat (first|refine blk_drewN ?_ _|refine blk_drew ?_|refine blk_alloc ?_ _));exact BK471.out⟩
   have n2_:Aside0 ((w13.setCell ⟨gb472,0,none⟩ (.int .i64 (wrap64 (x473000_1+((rd_T50 l0_0 x4_1).f0.f0))))).heap[gb472]? = some (.cells #[.int .i64 (wrap64 (x473000_1+((rd_T50 l0_0 x4_1).f0.f0))),.int .i64 x473001_1] 24 (0,0))):=⟨by (with_reducible repeat (first|refine blk_drewN ?_ _|refine blk_drew ?_|refine blk_alloc ?_ _));refine blk_put (cs:=#[.int .i64 x473000_1,.int .i64 x473001_1]) ?_ 0 _ rfl;(with_reducible repeat (first|refine blk_drewN ?_ _|refine blk_drew ?_|refine blk_alloc ?_ _));exact BK472.out⟩
   have n3_:Aside0 (Below w.heap.size w (w13.setCell ⟨gb472,0,none⟩ (.int .i64 (wrap64 (x473000_1+((rd_T50 l0_0 x4_1).f0.f0)))))):=⟨bA⟩
   (try clear BK470)
   (try clear BK471)
   (try clear BK472)
   (try clear HB)
   generalize (w13.setCell ⟨gb472,0,none⟩ (.int .i64 (wrap64 (x473000_1+((rd_T50 l0_0 x4_1).f0.f0)))))=w15 at n0_ n1_ n2_ n3_ ⊢
   have BK470:=n0_
   have BK471:=n1_
   have BK472:=n2_
   have HB:=n3_
   clear n0_ n1_ n2_ n3_
   replace BK470:=qK (blk_drew BK470.out)
   replace BK471:=qK (blk_drew BK471.out)
   replace BK472:=qK (blk_drew BK472.out)
   replace HB:=qK (below_drew1 HB.out)
   have p474:0≤(x4_1:Int):=dA
   have q474:x4_1 < (l0_0.length:Int):=dA
   obtain ⟨ad474,e474,hx474_0,hx474_1,hx474_2,hx474_3⟩:=at_T50 HR0_0.out x4_1 p474 q474
   have hw474_3:=hx474_3
   have hw474_2:=hx474_2
   have hw474_1:=hx474_1
   have hw474_0:=hx474_0
   obtain rfl:ad473=ad474:=(by injection e474)
   replace hx474_0:=hC HB.out hx474_0
   replace hx474_1:=hC HB.out hx474_1
   replace hx474_2:=hC HB.out hx474_2
   replace hx474_3:=hC HB.out hx474_3
   replace p474:=eq_true p474
   replace q474:=eq_true q474
   refine start_ (n:=12) (S:=fun w'=>w'.cell? ⟨gb472,0,none⟩=some (.int .i64 (wrap64 (x473000_1+((rd_T50 l0_0 x4_1).f0.f0))))∧w'.cell? ⟨gb472,1,none⟩=some (.int .i64 x473001_1)∧w'.cell? ⟨gb470,0,none⟩=some (.slice (some ad473) l0_0.length c0_0)∧w'.cell? ⟨gb470,1,none⟩=some (.int .i64 a0_1)∧w'.cell? ⟨gb470,2,none⟩=some (.int .i64 a0_2)∧w'.cell? (ad473.add ((x4_1).toNat*4))=some (.int .i64 ((rd_T50 l0_0 x4_1).f0.f0))∧w'.cell? ⟨(ad473.add ((x4_1).toNat*4)).block,(ad473.add ((x4_1).toNat*4)).off+1,none⟩=some (.int .i64 ((rd_T50 l0_0 x4_1).f0.f1))∧w'.cell? ⟨(ad473.add ((x4_1).toNat*4)).block,(ad473.add ((x4_1).toNat*4)).off+2,none⟩=some (.int .i64 ((rd_T50 l0_0 x4_1).f1))∧w'.cell? ⟨(ad473.add ((x4_1).toNat*4)).block,(ad473.add ((x4_1).toNat*4)).off+3,none⟩=some (.int .i64 ((rd_T50 l0_0 x4_1).f2))) (ds:=[11]) #[false,false,false,false,false,false,false,false,false,false,false,false] (by kernel_rfl) rfl rfl ⟨(blk_cell BK472.out 0).trans rfl,(blk_cell BK472.out 1).trans rfl,(blk_cell BK470.out 0).trans rfl,(blk_cell BK470.out 1).trans rfl,(blk_cell BK470.out 2).trans rfl,(hC HB.out hw474_0),(hC HB.out hw474_1),(hC HB.out hw474_2),(hC HB.out hw474_3)⟩ (fun hHeld=>?_);refine with_tabW acreageref08_All.tab6 acreageref08_All.bits6 (fun HT_ HW_=>?_)
   generalize w15.drew=w16 at BK470 BK471 BK472 HB hx474_0 hx474_1 hx474_2 hx474_3 hHeld ⊢
   refine pP 0 (some 24) HT_ ?_
   refine pP 2 (some 26) HT_ ?_
   refine pP 4 (some 28) HT_ ?_
   refine tP 1 (some 25) HT_ HW_ hHeld ?_
   refine tP 3 (some 27) HT_ HW_ hHeld ?_
   refine pP 5 (some 29) HT_ ?_
   refine pP 6 (some 30) HT_ ?_
   refine pP 7 (some 31) HT_ ?_
   refine tP 8 (some 32) HT_ HW_ hHeld ?_
   refine pP 9 (some 33) HT_ ?_
   refine pP 10 (some 34) HT_ ?_
   refine last_ (i:=11) (N:=none) #[true,true,true,true,true,true,true,true,true,true,true,true] rfl rfl (one_of HT_.out (by kernel_rfl)) (by decide) (fun K hK=>?_)
   have hs17:w16.cell? ⟨gb472,1,none⟩=some (.int .i64 x473001_1):=(blk_cell BK472.out 1).trans rfl
   have hfs17:=blk_frozen BK472.out 1
   have hns17_0:=NB470_472.out
   have hns17_1:=NB471_472.out
   have hms17_0:=NB472_470.out
   have hms17_1:=NB472_471.out
   refine skip_ (w1:=?_) (by rfl) rfl ?_ ?_
   rotate_left
   ·go_simp
    rfl
   refine hK.out _ _ ?_
   clear hK K
   refine done_ (done_of HT_.out (by kernel_rfl)) ?_
   try go_wp2
   go_roundg k1
   case measure=>have:=HK1.out;omega
   case rel=>exact ⟨(wrap64 (x4_1+1)),(wrap64 (x473000_1+((rd_T50 l0_0 x4_1).f0.f0))),(wrap64 (x473001_1+((rd_T50 l0_0 x4_1).f0.f1))),sA,H',⟨by have:=HK1.out;omega⟩,⟨by (with_reducible repeat (first|refine blk_drewN ?_ _|refine blk_drew ?_|refine blk_alloc ?_ _));refine blk_far ?_ NB470_472.out _;(with_reducible repeat (first|refine blk_drewN ?_ _|refine blk_drew ?_|refine blk_alloc ?_ _));exact BK470.out⟩,⟨by (with_reducible repeat (first|refine blk_drewN ?_ _|refine blk_drew ?_|refine blk_alloc ?_ _));refine blk_far ?_ NB471_472.out _;(with_reducible repeat (first|refine blk_drewN ?_ _|refine blk_drew ?_|refine blk_alloc ?_ _));exact BK471.out⟩,⟨by (with_reducible repeat (first|refine blk_drewN ?_ _|refine blk_drew ?_|refine blk_alloc ?_ _));refine blk_put (cs:=#[.int .i64 (wrap64 (x473000_1+((rd_T50 l0_0 x4_1).f0.f0))),.int .i64 x473001_1]) ?_ 1 _ rfl;(with_reducible repeat (first|refine blk_drewN ?_ _|refine blk_drew ?_|refine blk_alloc ?_ _));exact BK472.out⟩,⟨bA⟩⟩
end Go.Proofs.Ythimaecnpkcmeaa.K
namespace Go.Proofs.Ythimaecnpkcmeaa.K
open Go.RowKit Go.Proofs.YthimaecnpkcmeaaW.PrintWords Go.Proofs.YthimaecnpkcmeaaW.PrintLast Go.Proofs.YthimaecnpkcmeaaW.PrintMore
attribute [local go_sem] max2_int min2_int max_two min_two max_three min_three max_four min_four   -- for this text's walks alone
set_option linter.unusedVariables false
set_option linter.unusedSimpArgs false
mutual
def acreageref08_Valid.j0:Nat→Bool→List (S50)→Int→Int→Option (Bool)
 | 0,_,_,_,_=>none
 | k+1,x36,x476000,x476001,x476002=>if x36=true then (some false) else (acreageref08_Valid.l0 k 0 x476000 x476001 x476002)
def acreageref08_Valid.l0:Nat→Int→List (S50)→Int→Int→Option (Bool)
 | 0,_,_,_,_=>none
 | k+1,x3,x476000,x476001,x476002=>if x3 < (x476000.length:Int) then (if 0≤x3 then (if ((rd_T50 x476000 x3).f0.f0) < 0 then (some false) else (if ((rd_T50 x476000 x3).f0.f0) > ((rd_T50 x476000 x3).f0.f1) then (some false) else (if ((rd_T50 x476000 x3).f0.f1) > 1073741824 then (some false) else (if ((rd_T50 x476000 x3).f1) < 0 then (some false) else (if ((rd_T50 x476000 x3).f1) > 10000 then (some false) else (if ((rd_T50 x476000 x3).f2) < 0 then (some false) else (if ((rd_T50 x476000 x3).f2) > 1048576 then (some false) else (acreageref08_Valid.l0 k (wrap64 (x3+1)) x476000 x476001 x476002)))))))) else (none)) else ((acreageref08_All.f k x476000 x476001 x476002).bind fun bt478=>(if bt478.1≤x476002 then (some (decide (bt478.2≥x476001))) else (some false)))
end
def acreageref08_Valid.f (k:Nat) (l0_0:List (S50)) (a0_1:Int) (a0_2:Int):Option (Bool):=if (l0_0.length:Int) < 1 then (acreageref08_Valid.j0 k true l0_0 a0_1 a0_2) else (if (l0_0.length:Int) > 12 then (acreageref08_Valid.j0 k true l0_0 a0_1 a0_2) else (if a0_1 < 0 then (acreageref08_Valid.j0 k true l0_0 a0_1 a0_2) else (if a0_1 > a0_2 then (acreageref08_Valid.j0 k true l0_0 a0_1 a0_2) else (acreageref08_Valid.j0 k (decide (a0_2 > 17179869184)) l0_0 a0_1 a0_2))))
set_option maxHeartbeats 8000000 in
set_option maxRecDepth 100000 in
theorem acreageref08_Valid.calls (k:Nat) (A0_0:Option Addr) (c0_0:Nat) (l0_0:List (S50)) (a0_1:Int) (a0_2:Int) (r:Bool) (w:World) (hr0_0:Kd.C k50 w A0_0 l0_0.length l0_0) (hc0_0:l0_0.length≤c0_0) (h:acreageref08_Valid.f k l0_0 a0_1 a0_2=some r) :
 Calls Try.prog 10 #[.agg #[.slice A0_0 l0_0.length c0_0,.int .i64 a0_1,.int .i64 a0_2]] w fun e w'=>e= .returned (.bool r)∧Below w.heap.size w w':=by
 have hu26:=Try.underlying26
 have hu50:=Try.underlying50
 have hu24:=Try.underlying24
 have HR0_0:=Aside0.mk hr0_0
 have HC0_0:=Aside0.mk hc0_0
 clear hr0_0 hc0_0
 have HB:=Aside0.mk (Below.refl w.heap.size w)
 have H:(if (l0_0.length:Int) < 1 then (acreageref08_Valid.j0 k true l0_0 a0_1 a0_2) else (if (l0_0.length:Int) > 12 then (acreageref08_Valid.j0 k true l0_0 a0_1 a0_2) else (if a0_1 < 0 then (acreageref08_Valid.j0 k true l0_0 a0_1 a0_2) else (if a0_1 > a0_2 then (acreageref08_Valid.j0 k true l0_0 a0_1 a0_2) else (acreageref08_Valid.j0 k (decide (a0_2 > 17179869184)) l0_0 a0_1 a0_2)))))=some r:=h
 clear h
 have HC2:=Aside0.mk H
 clear H
 go_enter Try.func10,Try.ntmps10
 go_upto_region 1 with (first|((with_reducible refine gate_dst (N:=1) rfl ?_);(try (refine gate_guard (by rfl) ?_;dsimp only));refine bE #[.slice A0_0 l0_0.length c0_0,.int .i64 a0_1,.int .i64 a0_2] 26 ?_;intro gb475 hg w3 hbox hb;have BK475:=qK (hbox);have GW475:=qK ((gS hg:w.heap.size≤gb475));have GE475:=qK ((gS hg:w.heap.size≤gb475));replace HB:=qK (bS hb);clear hb hbox hg))
 (try simp only [Act.put,List.setIfInBounds_toArray,List.set_cons_zero,List.set_cons_succ])
 go_cut [36] (fun v36 wc=>∃ (kq:Nat) (x36_1:Bool),v36= .bool x36_1∧Aside0 (acreageref08_Valid.j0 kq x36_1 l0_0 a0_1 a0_2=some r)∧Aside0 (kq≤k)∧Aside0 (wc.heap[gb475]? = some (.cells #[(.slice A0_0 l0_0.length c0_0),.int .i64 a0_1,.int .i64 a0_2] 26 (0,0)))∧Aside0 (Below w.heap.size w wc))
 case first =>
  have H:=HC2.out
  clear HC2
  by_cases c4:(l0_0.length:Int) < 1
  ·rw [if_pos c4] at H
   have c4b0:decide ((l0_0.length:Int) < 1)=true:=decide_eq_true c4
   have c4b1:decide (l0_0.length < 1)=true:=decide_eq_true (by omega)
   clear c4
   (first|rw [c4b0]|(simp only [i64_w,i32_w];rw [c4b0])|skip)
   have H':=Aside0.mk H
   clear H
   obtain ⟨hcz5_0,hcz5_1,hcz5_2,hfz5_0,hfz5_1,hfz5_2⟩:=xC3 BK475.out
   go_wp2
   go_meet
   case rel=>exact ⟨_,(true),sA,H',⟨by first|omega|exact Nat.le_refl _⟩,⟨by (with_reducible repeat (first|refine blk_drewN ?_ _|refine blk_drew ?_|refine blk_alloc ?_ _));exact BK475.out⟩,⟨bA⟩⟩
  rw [if_neg c4] at H
  have c4b0:decide ((l0_0.length:Int) < 1)=false:=decide_eq_false c4
  have c4b1:decide (l0_0.length < 1)=false:=decide_eq_false (by omega)
  clear c4
  (first|rw [c4b0]|(simp only [i64_w,i32_w];rw [c4b0])|skip)
  by_cases c6:(l0_0.length:Int) > 12
  ·rw [if_pos c6] at H
   have c6b0:decide (12 < (l0_0.length:Int))=true:=decide_eq_true c6
   have c6b1:decide (12 < l0_0.length)=true:=decide_eq_true (by omega)
   clear c6
   have H':=Aside0.mk H
   clear H
   obtain ⟨hcz7_0,hcz7_1,hcz7_2,hfz7_0,hfz7_1,hfz7_2⟩:=xC3 BK475.out
   go_wp2
   go_meet
   case rel=>exact ⟨_,(true),sA,H',⟨by first|omega|exact Nat.le_refl _⟩,⟨by (with_reducible repeat (first|refine blk_drewN ?_ _|refine blk_drew ?_|refine blk_alloc ?_ _));exact BK475.out⟩,⟨bA⟩⟩
  rw [if_neg c6] at H
  have c6b0:decide (12 < (l0_0.length:Int))=false:=decide_eq_false c6
  have c6b1:decide (12 < l0_0.length)=false:=decide_eq_false (by omega)
  clear c6
  by_cases c8:a0_1 < 0
  ·rw [if_pos c8] at H
   have c8b0:decide (a0_1 < 0)=true:=decide_eq_true c8
   clear c8
   have H':=Aside0.mk H
   clear H
   obtain ⟨hcz9_0,hcz9_1,hcz9_2,hfz9_0,hfz9_1,hfz9_2⟩:=xC3 BK475.out
   go_wp2
   go_meet
   case rel=>exact ⟨_,(true),sA,H',⟨by first|omega|exact Nat.le_refl _⟩,⟨by (with_reducible repeat (first|refine blk_drewN ?_ _|refine blk_drew ?_|refine blk_alloc ?_ _));exact BK475.out⟩,⟨bA⟩⟩
  rw [if_neg c8] at H
  have c8b0:decide (a0_1 < 0)=false:=decide_eq_false c8
  clear c8
  by_cases c10:a0_1 > a0_2
  ·rw [if_pos c10] at H
   have c10b0:decide (a0_2 < a0_1)=true:=decide_eq_true c10
   clear c10
   have H':=Aside0.mk H
   clear H
   obtain ⟨hcz11_0,hcz11_1,hcz11_2,hfz11_0,hfz11_1,hfz11_2⟩:=xC3 BK475.out
   go_wp2
   go_meet
   case rel=>exact ⟨_,(true),sA,H',⟨by first|omega|exact Nat.le_refl _⟩,⟨by (with_reducible repeat (first|refine blk_drewN ?_ _|refine blk_drew ?_|refine blk_alloc ?_ _));exact BK475.out⟩,⟨bA⟩⟩
  rw [if_neg c10] at H
  have c10b0:decide (a0_2 < a0_1)=false:=decide_eq_false c10
  clear c10
  have H':=Aside0.mk H
  clear H
  obtain ⟨hcz12_0,hcz12_1,hcz12_2,hfz12_0,hfz12_1,hfz12_2⟩:=xC3 BK475.out
  go_wp2
  go_meet
  case rel=>exact ⟨_,(decide (a0_2 > 17179869184)),sA,H',⟨by first|omega|exact Nat.le_refl _⟩,⟨by (with_reducible repeat (first|refine blk_drewN ?_ _|refine blk_drew ?_|refine blk_alloc ?_ _));exact BK475.out⟩,⟨bA⟩⟩
 case rest =>
  clear HC2
  try clear c1
  try clear p2
  try clear c4
  try clear c4b0
  try clear c4b1
  try clear c6
  try clear c6b0
  try clear c6b1
  try clear c8
  try clear c8b0
  try clear c10
  try clear c10b0
  try clear hcz11_0
  try clear hcz11_1
  try clear hcz11_2
  try clear hcz12_0
  try clear hcz12_1
  try clear hcz12_2
  try clear hcz5_0
  try clear hcz5_1
  try clear hcz5_2
  try clear hcz7_0
  try clear hcz7_1
  try clear hcz7_2
  try clear hcz9_0
  try clear hcz9_1
  try clear hcz9_2
  try clear hfz11_0
  try clear hfz11_1
  try clear hfz11_2
  try clear hfz12_0
  try clear hfz12_1
  try clear hfz12_2
  try clear hfz5_0
  try clear hfz5_1
  try clear hfz5_2
  try clear hfz7_0
  try clear hfz7_1
  try clear hfz7_2
  try clear hfz9_0
  try clear hfz9_1
  try clear hfz9_2
  obtain ⟨kq,x36_1,rfl,HA,HJ1,BK475,HB⟩:=hcut
  cases kq with
  | zero=>exact absurd HA.out (by simp [acreageref08_Valid.j0])
  | succ kj1 =>
   have H:=HA.out
   clear HA
   simp only [acreageref08_Valid.j0] at H
   by_cases c13:x36_1=true
   ·subst c13
    have H1:(some false)=some r:=by rw [if_pos rfl] at H;exact H
    clear H
    have H:=H1
    clear H1
    obtain rfl:=Option.some.inj H
    go_wp2
    go_ret
    exact ⟨by first|rfl|(simp [errW_none,errW_some] <;> rfl)|(simp [*,errW_none,errW_some] <;> rfl),bA⟩
   replace c13:=Bool.eq_false_iff.mpr c13
   subst c13
   have H1:(acreageref08_Valid.l0 kj1 0 l0_0 a0_1 a0_2)=some r:=by rw [if_neg (show ¬ (false=true) by decide)] at H;exact H
   clear H
   have H:=H1
   clear H1
   have H':=Aside0.mk H
   clear H
   go_wp2
   go_loopg [3] kj1 (fun kq v3 w'=>∃ (x3_2:Int),v3= .int .i64 x3_2∧Aside0 (acreageref08_Valid.l0 kq x3_2 l0_0 a0_1 a0_2=some r)∧Aside0 (kq≤kj1)∧Aside0 (w'.heap[gb475]? = some (.cells #[(.slice A0_0 l0_0.length c0_0),.int .i64 a0_1,.int .i64 a0_2] 26 (0,0)))∧Aside0 (Below w.heap.size w w'))
   case atStart=>exact ⟨(0),sA,H',⟨Nat.le_refl _⟩,⟨by (with_reducible repeat (first|refine blk_drewN ?_ _|refine blk_drew ?_|refine blk_alloc ?_ _));exact BK475.out⟩,⟨bA⟩⟩
   case round =>
    clear H'
    try clear c1
    try clear p2
    try clear c4
    try clear c4b0
    try clear c4b1
    try clear c6
    try clear c6b0
    try clear c6b1
    try clear c8
    try clear c8b0
    try clear c10
    try clear c10b0
    try clear c13
    try clear hcz11_0
    try clear hcz11_1
    try clear hcz11_2
    try clear hcz12_0
    try clear hcz12_1
    try clear hcz12_2
    try clear hcz5_0
    try clear hcz5_1
    try clear hcz5_2
    try clear hcz7_0
    try clear hcz7_1
    try clear hcz7_2
    try clear hcz9_0
    try clear hcz9_1
    try clear hcz9_2
    try clear hfz11_0
    try clear hfz11_1
    try clear hfz11_2
    try clear hfz12_0
    try clear hfz12_1
    try clear hfz12_2
    try clear hfz5_0
    try clear hfz5_1
    try clear hfz5_2
    try clear hfz7_0
    try clear hfz7_1
    try clear hfz7_2
    try clear hfz9_0
    try clear hfz9_1
    try clear hfz9_2
    try clear p2
    obtain ⟨x3_2,rfl,HA,HK2,BK475,HB⟩:=hrel
    cases gk with
    | zero=>exact absurd HA.out (by simp [acreageref08_Valid.l0])
    | succ k2 =>
     have H:=HA.out
     clear HA
     simp only [acreageref08_Valid.l0] at H
     by_cases c14:x3_2 < (l0_0.length:Int)
     rotate_left
     ·rw [if_neg c14] at H
      have c14b0:decide (x3_2 < (l0_0.length:Int))=false:=decide_eq_false c14
      clear c14
      replace H:=Option.bind_eq_some_iff.mp H
      obtain ⟨⟨t478,t479⟩,A550,H⟩:=H
      replace H:(if t478≤a0_2 then (some (decide (t479≥a0_1))) else (some false))=some r:=H
      have A55:=Aside0.mk A550
      clear A550
      by_cases c56:t478≤a0_2
      ·rw [if_pos c56] at H
       have c56b0:decide (t478≤a0_2)=true:=decide_eq_true c56
       clear c56
       obtain rfl:=Option.some.inj H
       obtain ⟨_,_,_,_,_,_⟩:=xC3 BK475.out
       go_wp2_with (first|((with_reducible refine gate_callee (f:=46) rfl ?_);refine gL (some 89) Try.func46 #[.agg #[.slice A0_0 l0_0.length c0_0,.int .i64 a0_1,.int .i64 a0_2]] ?_;(with_reducible refine (acreageref08_All.calls k2 _ _ l0_0 a0_1 a0_2 t478 t479 _ ?side1 ?side2 A55.out).mono ?_);(case side1=>exact cS HR0_0.out);(case side2=>exact HC0_0.out);rintro e w58 ⟨rfl,hb⟩;refine ⟨_,rfl,?_⟩;replace BK475:=qK (bB BK475.out hb);replace HB:=qK (bS hb))|((with_reducible refine gate_dst (N:=5) rfl ?_);(try (refine gate_guard (by rfl) ?_;dsimp only));refine bE #[.int .i64 0,.int .i64 0] 24 ?_;intro gb480 hg w59 hbox hb;have BK480:=qK (hbox);have GW480:=qK ((gS hg:w.heap.size≤gb480));have GE480:=qK ((gS hg:w.heap.size≤gb480));replace HB:=qK (bS hb);have NB475_480:=qK ((nL hg BK475.out:gb475≠gb480));have NB480_475:=qK ((nG hg BK475.out:gb480≠gb475));replace BK475:=qK (bB BK475.out hb);clear hb hbox hg;have hnb60:=NB480_475.out;have hnc60:=NB475_480.out;obtain ⟨_,_,_,_⟩:=xC2 BK480.out;obtain ⟨_,_,_,_,_,_⟩:=xC3 BK475.out))
       go_ret
       exact ⟨by first|rfl|(simp [errW_none,errW_some] <;> rfl)|(simp [*,errW_none,errW_some] <;> rfl),bA⟩
      rw [if_neg c56] at H
      have c56b0:decide (t478≤a0_2)=false:=decide_eq_false c56
      clear c56
      obtain rfl:=Option.some.inj H
      obtain ⟨_,_,_,_,_,_⟩:=xC3 BK475.out
      go_wp2_with (first|((with_reducible refine gate_callee (f:=46) rfl ?_);refine gL (some 89) Try.func46 #[.agg #[.slice A0_0 l0_0.length c0_0,.int .i64 a0_1,.int .i64 a0_2]] ?_;(with_reducible refine (acreageref08_All.calls k2 _ _ l0_0 a0_1 a0_2 t478 t479 _ ?side1 ?side2 A55.out).mono ?_);(case side1=>exact cS HR0_0.out);(case side2=>exact HC0_0.out);rintro e w64 ⟨rfl,hb⟩;refine ⟨_,rfl,?_⟩;replace BK475:=qK (bB BK475.out hb);replace HB:=qK (bS hb))|((with_reducible refine gate_dst (N:=5) rfl ?_);(try (refine gate_guard (by rfl) ?_;dsimp only));refine bE #[.int .i64 0,.int .i64 0] 24 ?_;intro gb480 hg w65 hbox hb;have BK480:=qK (hbox);have GW480:=qK ((gS hg:w.heap.size≤gb480));have GE480:=qK ((gS hg:w.heap.size≤gb480));replace HB:=qK (bS hb);have NB475_480:=qK ((nL hg BK475.out:gb475≠gb480));have NB480_475:=qK ((nG hg BK475.out:gb480≠gb475));replace BK475:=qK (bB BK475.out hb);clear hb hbox hg;have hnb66:=NB480_475.out;have hnc66:=NB475_480.out;obtain ⟨_,_,_,_⟩:=xC2 BK480.out;obtain ⟨_,_,_,_,_,_⟩:=xC3 BK475.out))
      go_ret
      exact ⟨by first|rfl|(simp [errW_none,errW_some] <;> rfl)|(simp [*,errW_none,errW_some] <;> rfl),bA⟩
     rw [if_pos c14] at H
     have c14b0:decide (x3_2 < (l0_0.length:Int))=true:=decide_eq_true c14
     clear c14
     by_cases c15:0≤x3_2
     rotate_left
     ·rw [if_neg c15] at H
      exact absurd H (by simp)
     rw [if_pos c15] at H
     have c15b0:decide (0≤x3_2)=true:=decide_eq_true c15
     clear c15
     by_cases c16:((rd_T50 l0_0 x3_2).f0.f0) < 0
     ·rw [if_pos c16] at H
      have c16b0:decide (((rd_T50 l0_0 x3_2).f0.f0) < 0)=true:=decide_eq_true c16
      clear c16
      obtain rfl:=Option.some.inj H
      obtain ⟨_,_,_,_,_,_⟩:=xC3 BK475.out
      have p476:0≤(x3_2:Int):=dA
      have q476:x3_2 < (l0_0.length:Int):=dA
      obtain ⟨ad476,e476,hx476_0,hx476_1,hx476_2,hx476_3⟩:=at_T50 HR0_0.out x3_2 p476 q476
      cases e476
      replace hx476_0:=hC HB.out hx476_0
      replace hx476_1:=hC HB.out hx476_1
      replace hx476_2:=hC HB.out hx476_2
      replace hx476_3:=hC HB.out hx476_3
      replace p476:=eq_true p476
      replace q476:=eq_true q476
      go_wp2_with (first|((with_reducible refine gate_dst (N:=4) rfl ?_);(try (refine gate_guard (by rfl) ?_;dsimp only));refine bE #[.int .i64 0,.int .i64 0,.int .i64 0,.int .i64 0] 50 ?_;intro gb477 hg w18 hbox hb;have BK477:=qK (hbox);have GW477:=qK ((gS hg:w.heap.size≤gb477));have GE477:=qK ((gS hg:w.heap.size≤gb477));replace HB:=qK (bS hb);have NB475_477:=qK ((nL hg BK475.out:gb475≠gb477));have NB477_475:=qK ((nG hg BK475.out:gb477≠gb475));replace BK475:=qK (bB BK475.out hb);clear hb hbox hg;have hnb19:=NB477_475.out;have hnc19:=NB475_477.out;obtain ⟨_,_,_,_,_,_,_,_⟩:=xC4 BK477.out))
      go_ret
      exact ⟨by first|rfl|(simp [errW_none,errW_some] <;> rfl)|(simp [*,errW_none,errW_some] <;> rfl),bA⟩
     rw [if_neg c16] at H
     have c16b0:decide (((rd_T50 l0_0 x3_2).f0.f0) < 0)=false:=decide_eq_false c16
     clear c16
     by_cases c21:((rd_T50 l0_0 x3_2).f0.f0) > ((rd_T50 l0_0 x3_2).f0.f1)
     ·rw [if_pos c21] at H
      have c21b0:decide (((rd_T50 l0_0 x3_2).f0.f1) < ((rd_T50 l0_0 x3_2).f0.f0))=true:=decide_eq_true c21
      clear c21
      obtain rfl:=Option.some.inj H
      obtain ⟨_,_,_,_,_,_⟩:=xC3 BK475.out
      have p476:0≤(x3_2:Int):=dA
      have q476:x3_2 < (l0_0.length:Int):=dA
      obtain ⟨ad476,e476,hx476_0,hx476_1,hx476_2,hx476_3⟩:=at_T50 HR0_0.out x3_2 p476 q476
      cases e476
      replace hx476_0:=hC HB.out hx476_0
      replace hx476_1:=hC HB.out hx476_1
      replace hx476_2:=hC HB.out hx476_2
      replace hx476_3:=hC HB.out hx476_3
      replace p476:=eq_true p476
      replace q476:=eq_true q476
      go_wp2_with (first|((with_reducible refine gate_dst (N:=4) rfl ?_);(try (refine gate_guard (by rfl) ?_;dsimp only));refine bE #[.int .i64 0,.int .i64 0,.int .i64 0,.int .i64 0] 50 ?_;intro gb477 hg w23 hbox hb;have BK477:=qK (hbox);have GW477:=qK ((gS hg:w.heap.size≤gb477));have GE477:=qK ((gS hg:w.heap.size≤gb477));replace HB:=qK (bS hb);have NB475_477:=qK ((nL hg BK475.out:gb475≠gb477));have NB477_475:=qK ((nG hg BK475.out:gb477≠gb475));replace BK475:=qK (bB BK475.out hb);clear hb hbox hg;have hnb24:=NB477_475.out;have hnc24:=NB475_477.out;obtain ⟨_,_,_,_,_,_,_,_⟩:=xC4 BK477.out))
      go_ret
      exact ⟨by first|rfl|(simp [errW_none,errW_some] <;> rfl)|(simp [*,errW_none,errW_some] <;> rfl),bA⟩
     rw [if_neg c21] at H
     have c21b0:decide (((rd_T50 l0_0 x3_2).f0.f1) < ((rd_T50 l0_0 x3_2).f0.f0))=false:=decide_eq_false c21
     clear c21
     by_cases c26:((rd_T50 l0_0 x3_2).f0.f1) > 1073741824
     ·rw [if_pos c26] at H
      have c26b0:decide (1073741824 < ((rd_T50 l0_0 x3_2).f0.f1))=true:=decide_eq_true c26
      clear c26
      obtain rfl:=Option.some.inj H
      obtain ⟨_,_,_,_,_,_⟩:=xC3 BK475.out
      have p476:0≤(x3_2:Int):=dA
      have q476:x3_2 < (l0_0.length:Int):=dA
      obtain ⟨ad476,e476,hx476_0,hx476_1,hx476_2,hx476_3⟩:=at_T50 HR0_0.out x3_2 p476 q476
      cases e476
      replace hx476_0:=hC HB.out hx476_0
      replace hx476_1:=hC HB.out hx476_1
      replace hx476_2:=hC HB.out hx476_2
      replace hx476_3:=hC HB.out hx476_3
      replace p476:=eq_true p476
      replace q476:=eq_true q476
      go_wp2_with (first|((with_reducible refine gate_dst (N:=4) rfl ?_);(try (refine gate_guard (by rfl) ?_;dsimp only));refine bE #[.int .i64 0,.int .i64 0,.int .i64 0,.int .i64 0] 50 ?_;intro gb477 hg w28 hbox hb;have BK477:=qK (hbox);have GW477:=qK ((gS hg:w.heap.size≤gb477));have GE477:=qK ((gS hg:w.heap.size≤gb477));replace HB:=qK (bS hb);have NB475_477:=qK ((nL hg BK475.out:gb475≠gb477));have NB477_475:=qK ((nG hg BK475.out:gb477≠gb475));replace BK475:=qK (bB BK475.out hb);clear hb hbox hg;have hnb29:=NB477_475.out;have hnc29:=NB475_477.out;obtain ⟨_,_,_,_,_,_,_,_⟩:=xC4 BK477.out))
      go_ret
      exact ⟨by first|rfl|(simp [errW_none,errW_some] <;> rfl)|(simp [*,errW_none,errW_some] <;> rfl),bA⟩
     rw [if_neg c26] at H
     have c26b0:decide (1073741824 < ((rd_T50 l0_0 x3_2).f0.f1))=false:=decide_eq_false c26
     clear c26
     by_cases c31:((rd_T50 l0_0 x3_2).f1) < 0
     ·rw [if_pos c31] at H
      have c31b0:decide (((rd_T50 l0_0 x3_2).f1) < 0)=true:=decide_eq_true c31
      clear c31
      obtain rfl:=Option.some.inj H
      obtain ⟨_,_,_,_,_,_⟩:=xC3 BK475.out
      have p476:0≤(x3_2:Int):=dA
      have q476:x3_2 < (l0_0.length:Int):=dA
      obtain ⟨ad476,e476,hx476_0,hx476_1,hx476_2,hx476_3⟩:=at_T50 HR0_0.out x3_2 p476 q476
      cases e476
      replace hx476_0:=hC HB.out hx476_0
      replace hx476_1:=hC HB.out hx476_1
      replace hx476_2:=hC HB.out hx476_2
      replace hx476_3:=hC HB.out hx476_3
      replace p476:=eq_true p476
      replace q476:=eq_true q476
      go_wp2_with (first|((with_reducible refine gate_dst (N:=4) rfl ?_);(try (refine gate_guard (by rfl) ?_;dsimp only));refine bE #[.int .i64 0,.int .i64 0,.int .i64 0,.int .i64 0] 50 ?_;intro gb477 hg w33 hbox hb;have BK477:=qK (hbox);have GW477:=qK ((gS hg:w.heap.size≤gb477));have GE477:=qK ((gS hg:w.heap.size≤gb477));replace HB:=qK (bS hb);have NB475_477:=qK ((nL hg BK475.out:gb475≠gb477));have NB477_475:=qK ((nG hg BK475.out:gb477≠gb475));replace BK475:=qK (bB BK475.out hb);clear hb hbox hg;have hnb34:=NB477_475.out;have hnc34:=NB475_477.out;obtain ⟨_,_,_,_,_,_,_,_⟩:=xC4 BK477.out))
      go_ret
      exact ⟨by first|rfl|(simp [errW_none,errW_some] <;> rfl)|(simp [*,errW_none,errW_some] <;> rfl),bA⟩
     rw [if_neg c31] at H
     have c31b0:decide (((rd_T50 l0_0 x3_2).f1) < 0)=false:=decide_eq_false c31
     clear c31
     by_cases c36:((rd_T50 l0_0 x3_2).f1) > 10000
     ·rw [if_pos c36] at H
      have c36b0:decide (10000 < ((rd_T50 l0_0 x3_2).f1))=true:=decide_eq_true c36
      clear c36
      obtain rfl:=Option.some.inj H
      obtain ⟨_,_,_,_,_,_⟩:=xC3 BK475.out
      have p476:0≤(x3_2:Int):=dA
      have q476:x3_2 < (l0_0.length:Int):=dA
      obtain ⟨ad476,e476,hx476_0,hx476_1,hx476_2,hx476_3⟩:=at_T50 HR0_0.out x3_2 p476 q476
      cases e476
      replace hx476_0:=hC HB.out hx476_0
      replace hx476_1:=hC HB.out hx476_1
      replace hx476_2:=hC HB.out hx476_2
      replace hx476_3:=hC HB.out hx476_3
      replace p476:=eq_true p476
      replace q476:=eq_true q476
      go_wp2_with (first|((with_reducible refine gate_dst (N:=4) rfl ?_);(try (refine gate_guard (by rfl) ?_;dsimp only));refine bE #[.int .i64 0,.int .i64 0,.int .i64 0,.int .i64 0] 50 ?_;intro gb477 hg w38 hbox hb;have BK477:=qK (hbox);have GW477:=qK ((gS hg:w.heap.size≤gb477));have GE477:=qK ((gS hg:w.heap.size≤gb477));replace HB:=qK (bS hb);have NB475_477:=qK ((nL hg BK475.out:gb475≠gb477));have NB477_475:=qK ((nG hg BK475.out:gb477≠gb475));replace BK475:=qK (bB BK475.out hb);clear hb hbox hg;have hnb39:=NB477_475.out;have hnc39:=NB475_477.out;obtain ⟨_,_,_,_,_,_,_,_⟩:=xC4 BK477.out))
      go_ret
      exact ⟨by first|rfl|(simp [errW_none,errW_some] <;> rfl)|(simp [*,errW_none,errW_some] <;> rfl),bA⟩
     rw [if_neg c36] at H
     have c36b0:decide (10000 < ((rd_T50 l0_0 x3_2).f1))=false:=decide_eq_false c36
     clear c36
     by_cases c41:((rd_T50 l0_0 x3_2).f2) < 0
     ·rw [if_pos c41] at H
      have c41b0:decide (((rd_T50 l0_0 x3_2).f2) < 0)=true:=decide_eq_true c41
      clear c41
      obtain rfl:=Option.some.inj H
      obtain ⟨_,_,_,_,_,_⟩:=xC3 BK475.out
      have p476:0≤(x3_2:Int):=dA
      have q476:x3_2 < (l0_0.length:Int):=dA
      obtain ⟨ad476,e476,hx476_0,hx476_1,hx476_2,hx476_3⟩:=at_T50 HR0_0.out x3_2 p476 q476
      cases e476
      replace hx476_0:=hC HB.out hx476_0
      replace hx476_1:=hC HB.out hx476_1
      replace hx476_2:=hC HB.out hx476_2
      replace hx476_3:=hC HB.out hx476_3
      replace p476:=eq_true p476
      replace q476:=eq_true q476
      go_wp2_with (first|((with_reducible refine gate_dst (N:=4) rfl ?_);(try (refine gate_guard (by rfl) ?_;dsimp only));refine bE #[.int .i64 0,.int .i64 0,.int .i64 0,.int .i64 0] 50 ?_;intro gb477 hg w43 hbox hb;have BK477:=qK (hbox);have GW477:=qK ((gS hg:w.heap.size≤gb477));have GE477:=qK ((gS hg:w.heap.size≤gb477));replace HB:=qK (bS hb);have NB475_477:=qK ((nL hg BK475.out:gb475≠gb477));have NB477_475:=qK ((nG hg BK475.out:gb477≠gb475));replace BK475:=qK (bB BK475.out hb);clear hb hbox hg;have hnb44:=NB477_475.out;have hnc44:=NB475_477.out;obtain ⟨_,_,_,_,_,_,_,_⟩:=xC4 BK477.out))
      go_ret
      exact ⟨by first|rfl|(simp [errW_none,errW_some] <;> rfl)|(simp [*,errW_none,errW_some] <;> rfl),bA⟩
     rw [if_neg c41] at H
     have c41b0:decide (((rd_T50 l0_0 x3_2).f2) < 0)=false:=decide_eq_false c41
     clear c41
     by_cases c46:((rd_T50 l0_0 x3_2).f2) > 1048576
     ·rw [if_pos c46] at H
      have c46b0:decide (1048576 < ((rd_T50 l0_0 x3_2).f2))=true:=decide_eq_true c46
      clear c46
      obtain rfl:=Option.some.inj H
      obtain ⟨_,_,_,_,_,_⟩:=xC3 BK475.out
      have p476:0≤(x3_2:Int):=dA
      have q476:x3_2 < (l0_0.length:Int):=dA
      obtain ⟨ad476,e476,hx476_0,hx476_1,hx476_2,hx476_3⟩:=at_T50 HR0_0.out x3_2 p476 q476
      cases e476
      replace hx476_0:=hC HB.out hx476_0
      replace hx476_1:=hC HB.out hx476_1
      replace hx476_2:=hC HB.out hx476_2
      replace hx476_3:=hC HB.out hx476_3
      replace p476:=eq_true p476
      replace q476:=eq_true q476
      go_wp2_with (first|((with_reducible refine gate_dst (N:=4) rfl ?_);(try (refine gate_guard (by rfl) ?_;dsimp only));refine bE #[.int .i64 0,.int .i64 0,.int .i64 0,.int .i64 0] 50 ?_;intro gb477 hg w48 hbox hb;have BK477:=qK (hbox);have GW477:=qK ((gS hg:w.heap.size≤gb477));have GE477:=qK ((gS hg:w.heap.size≤gb477));replace HB:=qK (bS hb);have NB475_477:=qK ((nL hg BK475.out:gb475≠gb477));have NB477_475:=qK ((nG hg BK475.out:gb477≠gb475));replace BK475:=qK (bB BK475.out hb);clear hb hbox hg;have hnb49:=NB477_475.out;have hnc49:=NB475_477.out;obtain ⟨_,_,_,_,_,_,_,_⟩:=xC4 BK477.out))
      go_ret
      exact ⟨by first|rfl|(simp [errW_none,errW_some] <;> rfl)|(simp [*,errW_none,errW_some] <;> rfl),bA⟩
     rw [if_neg c46] at H
     have c46b0:decide (1048576 < ((rd_T50 l0_0 x3_2).f2))=false:=decide_eq_false c46
     clear c46
     have H':=Aside0.mk H
     clear H
     obtain ⟨_,_,_,_,_,_⟩:=xC3 BK475.out
     have p476:0≤(x3_2:Int):=dA
     have q476:x3_2 < (l0_0.length:Int):=dA
     obtain ⟨ad476,e476,hx476_0,hx476_1,hx476_2,hx476_3⟩:=at_T50 HR0_0.out x3_2 p476 q476
     cases e476
     replace hx476_0:=hC HB.out hx476_0
     replace hx476_1:=hC HB.out hx476_1
     replace hx476_2:=hC HB.out hx476_2
     replace hx476_3:=hC HB.out hx476_3
     replace p476:=eq_true p476
     replace q476:=eq_true q476
     go_wp2_with (first|((with_reducible refine gate_dst (N:=4) rfl ?_);(try (refine gate_guard (by rfl) ?_;dsimp only));refine bE #[.int .i64 0,.int .i64 0,.int .i64 0,.int .i64 0] 50 ?_;intro gb477 hg w52 hbox hb;have BK477:=qK (hbox);have GW477:=qK ((gS hg:w.heap.size≤gb477));have GE477:=qK ((gS hg:w.heap.size≤gb477));replace HB:=qK (bS hb);have NB475_477:=qK ((nL hg BK475.out:gb475≠gb477));have NB477_475:=qK ((nG hg BK475.out:gb477≠gb475));replace BK475:=qK (bB BK475.out hb);clear hb hbox hg;have hnb53:=NB477_475.out;have hnc53:=NB475_477.out;obtain ⟨_,_,_,_,_,_,_,_⟩:=xC4 BK477.out))
     go_roundg k2
     case measure=>have:=HJ1.out;have:=HK2.out;omega
     case rel=>exact ⟨(wrap64 (x3_2+1)),sA,H',⟨by have:=HJ1.out;have:=HK2.out;omega⟩,⟨by (with_reducible repeat (first|refine blk_drewN ?_ _|refine blk_drew ?_|refine blk_alloc ?_ _));refine blk_far ?_ NB475_477.out _;(with_reducible repeat (first|refine blk_drewN ?_ _|refine blk_drew ?_|refine blk_alloc ?_ _));refine blk_far ?_ NB475_477.out _;(with_reducible repeat (first|refine blk_drewN ?_ _|refine blk_drew ?_|refine blk_alloc ?_ _));refine blk_far ?_ NB475_477.out _;(with_reducible repeat (first|refine blk_drewN ?_ _|refine blk_drew ?_|refine blk_alloc ?_ _));refine blk_far ?_ NB475_477.out _;(with_reducible repeat (first|refine blk_drewN ?_ _|refine blk_drew ?_|refine blk_alloc ?_ _));exact BK475.out⟩,⟨bA⟩⟩
def acreageref08_Right.l0:Nat→List Int→Int→List (S50)→Int→Int→Option (Bool)
 | 0,_,_,_,_,_=>none
 | k+1,x1,x5,x482000,x482001,x482002=>if x5 < (x1.length:Int) then (if 0≤x5 then (if (rd x1 x5) < 0 then (some false) else (if (rd x1 x5)≥(x482000.length:Int) then (some false) else (if x5 > 0 then (if 0≤(wrap64 (x5 - 1)) then (if (wrap64 (x5 - 1)) < (x1.length:Int) then (if (rd x1 (wrap64 (x5 - 1)))≥(rd x1 x5) then (some false) else (acreageref08_Right.l0 k x1 (wrap64 (x5+1)) x482000 x482001 x482002)) else (none)) else (none)) else (acreageref08_Right.l0 k x1 (wrap64 (x5+1)) x482000 x482001 x482002)))) else (none)) else (some true)
def acreageref08_Right.f (k:Nat) (l0_0:List (S50)) (a0_1:Int) (a0_2:Int) (l1:List Int):Option (Bool):=acreageref08_Right.l0 k l1 0 l0_0 a0_1 a0_2
set_option maxHeartbeats 8000000 in
set_option maxRecDepth 100000 in
theorem acreageref08_Right.calls (k:Nat) (A0_0:Option Addr) (c0_0:Nat) (l0_0:List (S50)) (a0_1:Int) (a0_2:Int) (A1:Option Addr) (c1:Nat) (l1:List Int) (r:Bool) (w:World) (hr0_0:Kd.C k50 w A0_0 l0_0.length l0_0) (hc0_0:l0_0.length≤c0_0) (hr1:Kd.C (Kd.int .i64) w A1 l1.length l1) (hc1:l1.length≤c1) (h:acreageref08_Right.f k l0_0 a0_1 a0_2 l1=some r) :
 Calls Try.prog 11 #[.agg #[.slice A0_0 l0_0.length c0_0,.int .i64 a0_1,.int .i64 a0_2],.slice A1 l1.length c1] w fun e w'=>e= .returned (.bool r)∧Below w.heap.size w w':=by
 have hu26:=Try.underlying26
 have HR0_0:=Aside0.mk hr0_0
 have HC0_0:=Aside0.mk hc0_0
 clear hr0_0 hc0_0
 have HR1:=Aside0.mk hr1
 have HC1:=Aside0.mk hc1
 clear hr1 hc1
 have HB:=Aside0.mk (Below.refl w.heap.size w)
 have H:(acreageref08_Right.l0 k l1 0 l0_0 a0_1 a0_2)=some r:=h
 clear h
 have H':=Aside0.mk H
 clear H
 go_enter Try.func11,Try.ntmps11
 go_wp2_with (first|((with_reducible refine gate_dst (N:=2) rfl ?_);(try (refine gate_guard (by rfl) ?_;dsimp only));refine bE #[.slice A0_0 l0_0.length c0_0,.int .i64 a0_1,.int .i64 a0_2] 26 ?_;intro gb481 hg w3 hbox hb;have BK481:=qK (hbox);have GW481:=qK ((gS hg:w.heap.size≤gb481));have GE481:=qK ((gS hg:w.heap.size≤gb481));replace HB:=qK (bS hb);clear hb hbox hg))
 repeat (go_quiet (first|((with_reducible refine gate_dst (N:=2) rfl ?_);(try (refine gate_guard (by rfl) ?_;dsimp only));refine bE #[.slice A0_0 l0_0.length c0_0,.int .i64 a0_1,.int .i64 a0_2] 26 ?_;intro gb481 hg w3 hbox hb;have BK481:=qK (hbox);have GW481:=qK ((gS hg:w.heap.size≤gb481));have GE481:=qK ((gS hg:w.heap.size≤gb481));replace HB:=qK (bS hb);clear hb hbox hg));try go_wp2_with (first|((with_reducible refine gate_dst (N:=2) rfl ?_);(try (refine gate_guard (by rfl) ?_;dsimp only));refine bE #[.slice A0_0 l0_0.length c0_0,.int .i64 a0_1,.int .i64 a0_2] 26 ?_;intro gb481 hg w3 hbox hb;have BK481:=qK (hbox);have GW481:=qK ((gS hg:w.heap.size≤gb481));have GE481:=qK ((gS hg:w.heap.size≤gb481));replace HB:=qK (bS hb);clear hb hbox hg)))
 go_loopg [5] k (fun kq v5 w'=>∃ (x5_1:Int),v5= .int .i64 x5_1∧Aside0 (acreageref08_Right.l0 kq l1 x5_1 l0_0 a0_1 a0_2=some r)∧Aside0 (kq≤k)∧Aside0 (w'.heap[gb481]? = some (.cells #[(.slice A0_0 l0_0.length c0_0),.int .i64 a0_1,.int .i64 a0_2] 26 (0,0)))∧Aside0 (Below w.heap.size w w'))
 case atStart=>exact ⟨(0),sA,H',⟨Nat.le_refl _⟩,⟨by (with_reducible repeat (first|refine blk_drewN ?_ _|refine blk_drew ?_|refine blk_alloc ?_ _));exact BK481.out⟩,⟨bA⟩⟩
 case round =>
  clear H'
  try clear c1
  try clear p2
  obtain ⟨x5_1,rfl,HA,HK1,BK481,HB⟩:=hrel
  cases gk with
  | zero=>exact absurd HA.out (by simp [acreageref08_Right.l0])
  | succ k1 =>
   have H:=HA.out
   clear HA
   simp only [acreageref08_Right.l0] at H
   by_cases c4:x5_1 < (l1.length:Int)
   rotate_left
   ·rw [if_neg c4] at H
    have c4b0:decide (x5_1 < (l1.length:Int))=false:=decide_eq_false c4
    clear c4
    obtain rfl:=Option.some.inj H
    go_wp2
    repeat (go_quiet (fail);try go_wp2)
    go_ret
    exact ⟨by first|rfl|(simp [errW_none,errW_some] <;> rfl)|(simp [*,errW_none,errW_some] <;> rfl),bA⟩
   rw [if_pos c4] at H
   have c4b0:decide (x5_1 < (l1.length:Int))=true:=decide_eq_true c4
   clear c4
   by_cases c5:0≤x5_1
   rotate_left
   ·rw [if_neg c5] at H
    exact absurd H (by simp)
   rw [if_pos c5] at H
   have c5b0:decide (0≤x5_1)=true:=decide_eq_true c5
   clear c5
   by_cases c6:(rd l1 x5_1) < 0
   ·rw [if_pos c6] at H
    have c6b0:decide ((rd l1 x5_1) < 0)=true:=decide_eq_true c6
    clear c6
    obtain rfl:=Option.some.inj H
    have p482:0≤(x5_1:Int):=dA
    have q482:x5_1 < (l1.length:Int):=dA
    obtain ⟨ad482,e482,hx482_0⟩:=Kd.at_int HR1.out x5_1 p482 q482
    cases e482
    replace hx482_0:=hC HB.out hx482_0
    replace p482:=eq_true p482
    replace q482:=eq_true q482
    go_wp2
    repeat (go_quiet (fail);try go_wp2)
    go_ret
    exact ⟨by first|rfl|(simp [errW_none,errW_some] <;> rfl)|(simp [*,errW_none,errW_some] <;> rfl),bA⟩
   rw [if_neg c6] at H
   have c6b0:decide ((rd l1 x5_1) < 0)=false:=decide_eq_false c6
   clear c6
   by_cases c7:(rd l1 x5_1)≥(l0_0.length:Int)
   ·rw [if_pos c7] at H
    have c7b0:decide ((l0_0.length:Int)≤(rd l1 x5_1))=true:=decide_eq_true c7
    clear c7
    obtain rfl:=Option.some.inj H
    have p482:0≤(x5_1:Int):=dA
    have q482:x5_1 < (l1.length:Int):=dA
    obtain ⟨ad482,e482,hx482_0⟩:=Kd.at_int HR1.out x5_1 p482 q482
    cases e482
    replace hx482_0:=hC HB.out hx482_0
    replace p482:=eq_true p482
    replace q482:=eq_true q482
    have p483:0≤(x5_1:Int):=dA
    have q483:x5_1 < (l1.length:Int):=dA
    obtain ⟨ad483,e483,hx483_0⟩:=Kd.at_int HR1.out x5_1 p483 q483
    obtain rfl:ad482=ad483:=(by injection e483)
    replace hx483_0:=hC HB.out hx483_0
    replace p483:=eq_true p483
    replace q483:=eq_true q483
    obtain ⟨_,_,_,_,_,_⟩:=xC3 BK481.out
    go_wp2
    repeat (go_quiet (fail);try go_wp2)
    go_ret
    exact ⟨by first|rfl|(simp [errW_none,errW_some] <;> rfl)|(simp [*,errW_none,errW_some] <;> rfl),bA⟩
   rw [if_neg c7] at H
   have c7b0:decide ((l0_0.length:Int)≤(rd l1 x5_1))=false:=decide_eq_false c7
   clear c7
   by_cases c9:x5_1 > 0
   rotate_left
   ·rw [if_neg c9] at H
    have c9b0:decide (0 < x5_1)=false:=decide_eq_false c9
    clear c9
    have H':=Aside0.mk H
    clear H
    have p482:0≤(x5_1:Int):=dA
    have q482:x5_1 < (l1.length:Int):=dA
    obtain ⟨ad482,e482,hx482_0⟩:=Kd.at_int HR1.out x5_1 p482 q482
    cases e482
    replace hx482_0:=hC HB.out hx482_0
    replace p482:=eq_true p482
    replace q482:=eq_true q482
    have p483:0≤(x5_1:Int):=dA
    have q483:x5_1 < (l1.length:Int):=dA
    obtain ⟨ad483,e483,hx483_0⟩:=Kd.at_int HR1.out x5_1 p483 q483
    obtain rfl:ad482=ad483:=(by injection e483)
    replace hx483_0:=hC HB.out hx483_0
    replace p483:=eq_true p483
    replace q483:=eq_true q483
    obtain ⟨_,_,_,_,_,_⟩:=xC3 BK481.out
    go_wp2
    repeat (go_quiet (fail);try go_wp2)
    go_roundg k1
    case measure=>have:=HK1.out;omega
    case rel=>exact ⟨(wrap64 (x5_1+1)),sA,H',⟨by have:=HK1.out;omega⟩,⟨by (with_reducible repeat (first|refine blk_drewN ?_ _|refine blk_drew ?_|refine blk_alloc ?_ _));exact BK481.out⟩,⟨bA⟩⟩
   rw [if_pos c9] at H
   have c9b0:decide (0 < x5_1)=true:=decide_eq_true c9
   clear c9
   obtain ⟨ji10,hji10⟩ : ∃ j_:Int,(wrap64 (x5_1 - 1))=j_:=⟨_,rfl⟩
   replace H:(if 0≤(ji10) then (if (ji10) < (l1.length:Int) then (if (rd l1 (ji10))≥(rd l1 x5_1) then (some false) else (acreageref08_Right.l0 k1 l1 (wrap64 (x5_1+1)) l0_0 a0_1 a0_2)) else (none)) else (none))=some r:=by first|(rw [hji10] at H;exact H)|(simp only [hji10] at H ⊢;exact H)
   have hji10w:(IntKind.i64.wrap (x5_1 - 1))=ji10:=(i64_w _).trans hji10
   by_cases c11:0≤(ji10)
   rotate_left
   ·rw [if_neg c11] at H
    exact absurd H (by simp)
   rw [if_pos c11] at H
   have c11b0:decide (0≤(ji10))=true:=decide_eq_true c11
   clear c11
   by_cases c12:(ji10) < (l1.length:Int)
   rotate_left
   ·rw [if_neg c12] at H
    exact absurd H (by simp)
   rw [if_pos c12] at H
   have c12b0:decide ((ji10) < (l1.length:Int))=true:=decide_eq_true c12
   clear c12
   by_cases c13:(rd l1 (ji10))≥(rd l1 x5_1)
   ·rw [if_pos c13] at H
    have c13b0:decide ((rd l1 x5_1)≤(rd l1 (ji10)))=true:=decide_eq_true c13
    clear c13
    obtain rfl:=Option.some.inj H
    have p482:0≤(x5_1:Int):=dA
    have q482:x5_1 < (l1.length:Int):=dA
    obtain ⟨ad482,e482,hx482_0⟩:=Kd.at_int HR1.out x5_1 p482 q482
    cases e482
    replace hx482_0:=hC HB.out hx482_0
    replace p482:=eq_true p482
    replace q482:=eq_true q482
    have p483:0≤(x5_1:Int):=dA
    have q483:x5_1 < (l1.length:Int):=dA
    obtain ⟨ad483,e483,hx483_0⟩:=Kd.at_int HR1.out x5_1 p483 q483
    obtain rfl:ad482=ad483:=(by injection e483)
    replace hx483_0:=hC HB.out hx483_0
    replace p483:=eq_true p483
    replace q483:=eq_true q483
    obtain ⟨_,_,_,_,_,_⟩:=xC3 BK481.out
    have p484:0≤((ji10):Int):=dA
    have q484:(ji10) < (l1.length:Int):=dA
    obtain ⟨ad484,e484,hx484_0⟩:=Kd.at_int HR1.out (ji10) p484 q484
    obtain rfl:ad482=ad484:=(by injection e484)
    replace hx484_0:=hC HB.out hx484_0
    replace p484:=eq_true p484
    replace q484:=eq_true q484
    have p485:0≤(x5_1:Int):=dA
    have q485:x5_1 < (l1.length:Int):=dA
    obtain ⟨ad485,e485,hx485_0⟩:=Kd.at_int HR1.out x5_1 p485 q485
    obtain rfl:ad482=ad485:=(by injection e485)
    replace hx485_0:=hC HB.out hx485_0
    replace p485:=eq_true p485
    replace q485:=eq_true q485
    go_wp2
    repeat (go_quiet (fail);try go_wp2)
    go_ret
    exact ⟨by first|rfl|(simp [errW_none,errW_some] <;> rfl)|(simp only [← hji10];first|rfl|(simp [errW_none,errW_some] <;> rfl))|(simp [*,errW_none,errW_some] <;> rfl),bA⟩
   rw [if_neg c13] at H
   have c13b0:decide ((rd l1 x5_1)≤(rd l1 (ji10)))=false:=decide_eq_false c13
   clear c13
   have H':=Aside0.mk H
   clear H
   have p482:0≤(x5_1:Int):=dA
   have q482:x5_1 < (l1.length:Int):=dA
   obtain ⟨ad482,e482,hx482_0⟩:=Kd.at_int HR1.out x5_1 p482 q482
   cases e482
   replace hx482_0:=hC HB.out hx482_0
   replace p482:=eq_true p482
   replace q482:=eq_true q482
   have p483:0≤(x5_1:Int):=dA
   have q483:x5_1 < (l1.length:Int):=dA
   obtain ⟨ad483,e483,hx483_0⟩:=Kd.at_int HR1.out x5_1 p483 q483
   obtain rfl:ad482=ad483:=(by injection e483)
   replace hx483_0:=hC HB.out hx483_0
   replace p483:=eq_true p483
   replace q483:=eq_true q483
   obtain ⟨_,_,_,_,_,_⟩:=xC3 BK481.out
   have p484:0≤((ji10):Int):=dA
   have q484:(ji10) < (l1.length:Int):=dA
   obtain ⟨ad484,e484,hx484_0⟩:=Kd.at_int HR1.out (ji10) p484 q484
   obtain rfl:ad482=ad484:=(by injection e484)
   replace hx484_0:=hC HB.out hx484_0
   replace p484:=eq_true p484
   replace q484:=eq_true q484
   have p485:0≤(x5_1:Int):=dA
   have q485:x5_1 < (l1.length:Int):=dA
   obtain ⟨ad485,e485,hx485_0⟩:=Kd.at_int HR1.out x5_1 p485 q485
   obtain rfl:ad482=ad485:=(by injection e485)
   replace hx485_0:=hC HB.out hx485_0
   replace p485:=eq_true p485
   replace q485:=eq_true q485
   go_wp2
   repeat (go_quiet (fail);try go_wp2)
   go_roundg k1
   case measure=>have:=HK1.out;omega
   case rel=>exact ⟨(wrap64 (x5_1+1)),sA,H',⟨by have:=HK1.out;omega⟩,⟨by (with_reducible repeat (first|refine blk_drewN ?_ _|refine blk_drew ?_|refine blk_alloc ?_ _));exact BK481.out⟩,⟨bA⟩⟩
end Go.Proofs.Ythimaecnpkcmeaa.K
