/- Contracts of Go functions and lemmas for them: each theorem states what one function returns and what it leaves of memory; its conditions stand in its statement. -/
import Derived.Test.YthimaecnpkcmeaaB3
set_option linter.unusedVariables false
set_option linter.unusedSimpArgs false
namespace Go.Proofs.Ythimaecnpkcmeaa.K
open Go.RowKit Go.Proofs.YthimaecnpkcmeaaW.PrintWords Go.Proofs.YthimaecnpkcmeaaW.PrintLast Go.Proofs.YthimaecnpkcmeaaW.PrintMore
attribute [local go_sem] zAX zAW zAg zAf zAF zAG zAU zAV   -- for this text's walks alone
set_option linter.unusedVariables false
set_option linter.unusedSimpArgs false
def zAs.f (k:Nat) (a:List (S50)) (d:Int) (e:Int) (a1:Int):Option (Int × Int):=(zAA.f k a d e).bind fun b=>(if 0≤a1 then (if a1 < (a.length:Int) then ((zh.f ((zG a a1).f0.f0) ((zG a a1).f0.f1) (wrap64 (d - (wrap64 (b.2 - ((zG a a1).f0.f1))))) (wrap64 (e - (wrap64 (b.1 - ((zG a a1).f0.f0)))))).bind fun c=>(some (c.1,c.2.1))) else (none)) else (none))
def zAs.T1:Bool × List (List Nat × List Nat):=(true,[([],[]),([0],[0]),([],[]),([2],[2]),([],[]),([3,4],[3,4]),([5],[5]),([6],[6]),([],[]),([],[]),([8,1,1,0,1,8,9],[1,8]),([9,7,10,0,1,2,3,4,5,6,7,8,9,10],[7,9])])
def zAs.B1:List Nat:=[0,1,0,4,0,28,60,124,0,0,771,2047]
theorem zAs.zC6:zBQ .any (opsOf Try.f70 1)=zAs.T1:=by kernel_rfl
theorem zAs.zCQ:zBA zAs.T1.2 zAs.B1=true:=by kernel_rfl
set_option maxHeartbeats 8000000 in
set_option maxRecDepth 100000 in
theorem zAs.calls (k:Nat) (a8:Option Addr) (aq:Nat) (d:List (S50)) (ag:Int) (ah:Int) (a1:Int) (r1:Int) (r2:Int) (w:World) (bc:Kd.C k50 w a8 d.length d) (bd:d.length≤aq) (h:zAs.f k d ag ah a1=some (r1,r2)) :
 Calls Try.prog 70 #[.agg #[.slice a8 d.length aq,.int .i64 ag,.int .i64 ah],.int .i64 a1] w fun e w'=>e= .returned (.agg #[.int .i64 r1,.int .i64 r2])∧Below w.heap.size w w':=by
 have cp:=Try.underlying26
 have cq:=Try.underlying24
 have a3:=zA.mk bc
 have HC0_0:=zA.mk bd
 clear bc bd
 have HB:=zA.mk (Below.refl w.heap.size w)
 have H:((zAA.f k d ag ah).bind fun be=>(if 0≤a1 then (if a1 < (d.length:Int) then ((zh.f ((zG d a1).f0.f0) ((zG d a1).f0.f1) (wrap64 (ag - (wrap64 (be.2 - ((zG d a1).f0.f1))))) (wrap64 (ah - (wrap64 (be.1 - ((zG d a1).f0.f0)))))).bind fun a4=>(some (a4.1,a4.2.1))) else (none)) else (none)))=some (r1,r2):=h
 clear h
 replace H:=Option.bind_eq_some_iff.mp H
 obtain ⟨⟨aw,ax⟩,A30,H⟩:=H
 replace H:(if 0≤a1 then (if a1 < (d.length:Int) then ((zh.f ((zG d a1).f0.f0) ((zG d a1).f0.f1) (wrap64 (ag - (wrap64 (ax - ((zG d a1).f0.f1))))) (wrap64 (ah - (wrap64 (aw - ((zG d a1).f0.f0)))))).bind fun a4=>(some (a4.1,a4.2.1))) else (none)) else (none))=some (r1,r2):=H
 have A3:=zA.mk A30
 clear A30
 by_cases c4:0≤a1
 rotate_left
 ·rw [if_neg c4] at H
  exact absurd H (by simp)
 rw [if_pos c4] at H
 have cr:decide (0≤a1)=true:=decide_eq_true c4
 clear c4
 by_cases c5:a1 < (d.length:Int)
 rotate_left
 ·rw [if_neg c5] at H
  exact absurd H (by simp)
 rw [if_pos c5] at H
 have ct:decide (a1 < (d.length:Int))=true:=decide_eq_true c5
 clear c5
 replace H:=Option.bind_eq_some_iff.mp H
 obtain ⟨⟨a5,a9,bf⟩,A60,H⟩:=H
 replace H:(some (a5,a9))=some (r1,r2):=H
 have A6:=zA.mk A60
 clear A60
 simp only [Option.some.injEq,Prod.mk.injEq] at H
 obtain ⟨rfl,rfl⟩:=H
 go_enter Try.func70,Try.ntmps70
 try go_wp2_with (first|((with_reducible refine zL (N:=2) rfl ?_);refine bE #[.slice a8 d.length aq,.int .i64 ag,.int .i64 ah] 26 ?_;intro c hg w7 ar hb;have b:=qK (ar);have b5:=qK (gS hg:w.heap.size≤c);have b6:=qK (gS hg:w.heap.size≤c);replace HB:=hQ hb;clear hb ar hg)|((with_reducible refine zL (N:=4) rfl ?_);refine bE #[.int .i64 0,.int .i64 0] 24 ?_;intro r hg w8 ar hb;have q:=qK (ar);have b7:=qK (gS hg:w.heap.size≤r);have b8:=qK (gS hg:w.heap.size≤r);replace HB:=hQ hb;have a6:=qK (nL hg b.out:c≠r);have a7:=qK (nG hg b.out:r≠c);replace b:=bQ b hb;clear hb ar hg))
 replace b:=qK (zF b.out)
 replace q:=qK (zF q.out)
 replace HB:=qK (zx HB.out)
 have ba:0≤(a1:Int):=dA
 have bb:a1 < (d.length:Int):=dA
 obtain ⟨a,e286,ay,az,a0,a2⟩:=zA9 a3.out a1 ba bb
 have aa:=a2
 have ab:=a0
 have ac:=az
 have ad:=ay
 cases e286
 replace ay:=hC HB.out ay
 replace az:=hC HB.out az
 replace a0:=hC HB.out a0
 replace a2:=hC HB.out a2
 replace ba:=eq_true ba
 replace bb:=eq_true bb
 refine zBH (n:=12) (S:=fun w'=>w'.cell? ⟨c,0,none⟩=some (.slice (some a) d.length aq)∧w'.cell? ⟨c,1,none⟩=some (.int .i64 ag)∧w'.cell? ⟨c,2,none⟩=some (.int .i64 ah)∧w'.cell? (a.add ((a1).toNat*4))=some (.int .i64 ((zG d a1).f0.f0))∧w'.cell? ⟨(a.add ((a1).toNat*4)).block,(a.add ((a1).toNat*4)).off+1,none⟩=some (.int .i64 ((zG d a1).f0.f1))∧w'.cell? ⟨(a.add ((a1).toNat*4)).block,(a.add ((a1).toNat*4)).off+2,none⟩=some (.int .i64 ((zG d a1).f1))∧w'.cell? ⟨(a.add ((a1).toNat*4)).block,(a.add ((a1).toNat*4)).off+3,none⟩=some (.int .i64 ((zG d a1).f2))) (ds:=[]) #[false,false,false,false,false,false,false,false,false,false,false,false] (by kernel_rfl) rfl rfl ⟨(zB b.out 0).trans rfl,(zB b.out 1).trans rfl,(zB b.out 2).trans rfl,(hC HB.out ad),(hC HB.out ac),(hC HB.out ab),(hC HB.out aa)⟩ (fun s=>?_);refine zAj zAs.zC6 zAs.zCQ (fun HT_ HW_=>?_)
 generalize w8.drew=w9 at b q HB ay az a0 a2 s ⊢
 refine pP 2 (some 9) HT_ ?_
 refine pP 4 (some 11) HT_ ?_
 refine tP 0 (some 7) HT_ HW_ s ?_
 refine tP 3 (some 10) HT_ HW_ s ?_
 refine pP 5 (some 12) HT_ ?_
 refine pP 6 (some 13) HT_ ?_
 refine tP 7 (some 14) HT_ HW_ s ?_
 refine zBz (σ:=Nat × Nat) 2 #[true,true,true,true,true,true,true,true,true,true,false,false] (fun s_=>[(8,.agg #[.int .i64 aw,.int .i64 ax]),(5,.pointer (some ⟨s_.1,0,none⟩)),(6,.pointer (some ⟨s_.2,0,none⟩))]) (fun s_ w'=>(w'.cell? ⟨c,0,none⟩=some (.slice (some a) d.length aq)∧w'.cell? ⟨c,1,none⟩=some (.int .i64 ag)∧w'.cell? ⟨c,2,none⟩=some (.int .i64 ah)∧w'.cell? (a.add ((a1).toNat*4))=some (.int .i64 ((zG d a1).f0.f0))∧w'.cell? ⟨(a.add ((a1).toNat*4)).block,(a.add ((a1).toNat*4)).off+1,none⟩=some (.int .i64 ((zG d a1).f0.f1))∧w'.cell? ⟨(a.add ((a1).toNat*4)).block,(a.add ((a1).toNat*4)).off+2,none⟩=some (.int .i64 ((zG d a1).f1))∧w'.cell? ⟨(a.add ((a1).toNat*4)).block,(a.add ((a1).toNat*4)).off+3,none⟩=some (.int .i64 ((zG d a1).f2)))∧(w'.heap[c]? = some (.cells #[.slice (some a) d.length aq,.int .i64 ag,.int .i64 ah] 26 (0,0)))∧(w'.heap[r]? = some (.cells #[.int .i64 0,.int .i64 0] 24 (0,0)))∧(w'.heap[s_.1]? = some (.cells #[.int .i64 0,.int .i64 0] 24 (0,0)))∧(w'.heap[s_.2]? = some (.cells #[.int .i64 0,.int .i64 0] 24 (0,0)))∧(w.heap.size≤s_.1)∧(w.heap.size≤s_.1)∧(c≠s_.1)∧(s_.1≠c)∧(r≠s_.1)∧(s_.1≠r)∧(s_.2≠s_.1)∧(s_.1≠s_.2)∧(w.heap.size≤s_.2)∧(w.heap.size≤s_.2)∧(c≠s_.2)∧(s_.2≠c)∧(r≠s_.2)∧(s_.2≠r)∧(Below w.heap.size w w')) ?_ ?_
 rotate_left
 ·intro hJ1_8_9
  refine zBz (σ:=Nat) 3 #[true,true,true,true,true,true,true,true,true,false,false,false] (fun s_=>[(8,.agg #[.int .i64 aw,.int .i64 ax]),(5,.pointer (some ⟨s_,0,none⟩))]) (fun s_ w'=>(w'.cell? ⟨c,0,none⟩=some (.slice (some a) d.length aq)∧w'.cell? ⟨c,1,none⟩=some (.int .i64 ag)∧w'.cell? ⟨c,2,none⟩=some (.int .i64 ah)∧w'.cell? (a.add ((a1).toNat*4))=some (.int .i64 ((zG d a1).f0.f0))∧w'.cell? ⟨(a.add ((a1).toNat*4)).block,(a.add ((a1).toNat*4)).off+1,none⟩=some (.int .i64 ((zG d a1).f0.f1))∧w'.cell? ⟨(a.add ((a1).toNat*4)).block,(a.add ((a1).toNat*4)).off+2,none⟩=some (.int .i64 ((zG d a1).f1))∧w'.cell? ⟨(a.add ((a1).toNat*4)).block,(a.add ((a1).toNat*4)).off+3,none⟩=some (.int .i64 ((zG d a1).f2)))∧(w'.heap[c]? = some (.cells #[.slice (some a) d.length aq,.int .i64 ag,.int .i64 ah] 26 (0,0)))∧(w'.heap[r]? = some (.cells #[.int .i64 0,.int .i64 0] 24 (0,0)))∧(w'.heap[s_]? = some (.cells #[.int .i64 0,.int .i64 0] 24 (0,0)))∧(w.heap.size≤s_)∧(w.heap.size≤s_)∧(c≠s_)∧(s_≠c)∧(r≠s_)∧(s_≠r)∧(Below w.heap.size w w')) ?_ ?_
  rotate_left
  ·intro hJ1_8
   refine zBz (σ:=Nat) 3 #[true,true,true,true,true,true,true,true,false,true,false,false] (fun s_=>[(8,.agg #[.int .i64 aw,.int .i64 ax]),(6,.pointer (some ⟨s_,0,none⟩))]) (fun s_ w'=>(w'.cell? ⟨c,0,none⟩=some (.slice (some a) d.length aq)∧w'.cell? ⟨c,1,none⟩=some (.int .i64 ag)∧w'.cell? ⟨c,2,none⟩=some (.int .i64 ah)∧w'.cell? (a.add ((a1).toNat*4))=some (.int .i64 ((zG d a1).f0.f0))∧w'.cell? ⟨(a.add ((a1).toNat*4)).block,(a.add ((a1).toNat*4)).off+1,none⟩=some (.int .i64 ((zG d a1).f0.f1))∧w'.cell? ⟨(a.add ((a1).toNat*4)).block,(a.add ((a1).toNat*4)).off+2,none⟩=some (.int .i64 ((zG d a1).f1))∧w'.cell? ⟨(a.add ((a1).toNat*4)).block,(a.add ((a1).toNat*4)).off+3,none⟩=some (.int .i64 ((zG d a1).f2)))∧(w'.heap[c]? = some (.cells #[.slice (some a) d.length aq,.int .i64 ag,.int .i64 ah] 26 (0,0)))∧(w'.heap[r]? = some (.cells #[.int .i64 0,.int .i64 0] 24 (0,0)))∧(w'.heap[s_]? = some (.cells #[.int .i64 0,.int .i64 0] 24 (0,0)))∧(w.heap.size≤s_)∧(w.heap.size≤s_)∧(c≠s_)∧(s_≠c)∧(r≠s_)∧(s_≠r)∧(Below w.heap.size w w')) ?_ ?_
   rotate_left
   ·intro hJ1_9
    refine zBz (σ:=Nat × Nat) 3 #[true,false,true,true,true,true,true,true,true,true,false,false] (fun s_=>[(5,.pointer (some ⟨s_.1,0,none⟩)),(6,.pointer (some ⟨s_.2,0,none⟩))]) (fun s_ w'=>(w'.cell? ⟨c,0,none⟩=some (.slice (some a) d.length aq)∧w'.cell? ⟨c,1,none⟩=some (.int .i64 ag)∧w'.cell? ⟨c,2,none⟩=some (.int .i64 ah)∧w'.cell? (a.add ((a1).toNat*4))=some (.int .i64 ((zG d a1).f0.f0))∧w'.cell? ⟨(a.add ((a1).toNat*4)).block,(a.add ((a1).toNat*4)).off+1,none⟩=some (.int .i64 ((zG d a1).f0.f1))∧w'.cell? ⟨(a.add ((a1).toNat*4)).block,(a.add ((a1).toNat*4)).off+2,none⟩=some (.int .i64 ((zG d a1).f1))∧w'.cell? ⟨(a.add ((a1).toNat*4)).block,(a.add ((a1).toNat*4)).off+3,none⟩=some (.int .i64 ((zG d a1).f2)))∧(w'.heap[c]? = some (.cells #[.slice (some a) d.length aq,.int .i64 ag,.int .i64 ah] 26 (0,0)))∧(w'.heap[r]? = some (.cells #[.int .i64 0,.int .i64 0] 24 (0,0)))∧(w'.heap[s_.1]? = some (.cells #[.int .i64 0,.int .i64 0] 24 (0,0)))∧(w'.heap[s_.2]? = some (.cells #[.int .i64 0,.int .i64 0] 24 (0,0)))∧(w.heap.size≤s_.1)∧(w.heap.size≤s_.1)∧(c≠s_.1)∧(s_.1≠c)∧(r≠s_.1)∧(s_.1≠r)∧(s_.2≠s_.1)∧(s_.1≠s_.2)∧(w.heap.size≤s_.2)∧(w.heap.size≤s_.2)∧(c≠s_.2)∧(s_.2≠c)∧(r≠s_.2)∧(s_.2≠r)∧(Below w.heap.size w w')) ?_ ?_
    rotate_left
    ·intro hJ8_9
     refine zBz (σ:=Unit) 4 #[true,true,true,true,true,true,true,true,false,false,false,false] (fun s_=>[(8,.agg #[.int .i64 aw,.int .i64 ax])]) (fun s_ w'=>(w'.cell? ⟨c,0,none⟩=some (.slice (some a) d.length aq)∧w'.cell? ⟨c,1,none⟩=some (.int .i64 ag)∧w'.cell? ⟨c,2,none⟩=some (.int .i64 ah)∧w'.cell? (a.add ((a1).toNat*4))=some (.int .i64 ((zG d a1).f0.f0))∧w'.cell? ⟨(a.add ((a1).toNat*4)).block,(a.add ((a1).toNat*4)).off+1,none⟩=some (.int .i64 ((zG d a1).f0.f1))∧w'.cell? ⟨(a.add ((a1).toNat*4)).block,(a.add ((a1).toNat*4)).off+2,none⟩=some (.int .i64 ((zG d a1).f1))∧w'.cell? ⟨(a.add ((a1).toNat*4)).block,(a.add ((a1).toNat*4)).off+3,none⟩=some (.int .i64 ((zG d a1).f2)))∧(w'.heap[c]? = some (.cells #[.slice (some a) d.length aq,.int .i64 ag,.int .i64 ah] 26 (0,0)))∧(w'.heap[r]? = some (.cells #[.int .i64 0,.int .i64 0] 24 (0,0)))∧(Below w.heap.size w w')) ?_ ?_
     rotate_left
     ·intro hJ1
      refine zBz (σ:=Nat) 4 #[true,false,true,true,true,true,true,true,true,false,false,false] (fun s_=>[(5,.pointer (some ⟨s_,0,none⟩))]) (fun s_ w'=>(w'.cell? ⟨c,0,none⟩=some (.slice (some a) d.length aq)∧w'.cell? ⟨c,1,none⟩=some (.int .i64 ag)∧w'.cell? ⟨c,2,none⟩=some (.int .i64 ah)∧w'.cell? (a.add ((a1).toNat*4))=some (.int .i64 ((zG d a1).f0.f0))∧w'.cell? ⟨(a.add ((a1).toNat*4)).block,(a.add ((a1).toNat*4)).off+1,none⟩=some (.int .i64 ((zG d a1).f0.f1))∧w'.cell? ⟨(a.add ((a1).toNat*4)).block,(a.add ((a1).toNat*4)).off+2,none⟩=some (.int .i64 ((zG d a1).f1))∧w'.cell? ⟨(a.add ((a1).toNat*4)).block,(a.add ((a1).toNat*4)).off+3,none⟩=some (.int .i64 ((zG d a1).f2)))∧(w'.heap[c]? = some (.cells #[.slice (some a) d.length aq,.int .i64 ag,.int .i64 ah] 26 (0,0)))∧(w'.heap[r]? = some (.cells #[.int .i64 0,.int .i64 0] 24 (0,0)))∧(w'.heap[s_]? = some (.cells #[.int .i64 0,.int .i64 0] 24 (0,0)))∧(w.heap.size≤s_)∧(w.heap.size≤s_)∧(c≠s_)∧(s_≠c)∧(r≠s_)∧(s_≠r)∧(Below w.heap.size w w')) ?_ ?_
      rotate_left
      ·intro hJ8
       refine zBz (σ:=Nat) 4 #[true,false,true,true,true,true,true,true,false,true,false,false] (fun s_=>[(6,.pointer (some ⟨s_,0,none⟩))]) (fun s_ w'=>(w'.cell? ⟨c,0,none⟩=some (.slice (some a) d.length aq)∧w'.cell? ⟨c,1,none⟩=some (.int .i64 ag)∧w'.cell? ⟨c,2,none⟩=some (.int .i64 ah)∧w'.cell? (a.add ((a1).toNat*4))=some (.int .i64 ((zG d a1).f0.f0))∧w'.cell? ⟨(a.add ((a1).toNat*4)).block,(a.add ((a1).toNat*4)).off+1,none⟩=some (.int .i64 ((zG d a1).f0.f1))∧w'.cell? ⟨(a.add ((a1).toNat*4)).block,(a.add ((a1).toNat*4)).off+2,none⟩=some (.int .i64 ((zG d a1).f1))∧w'.cell? ⟨(a.add ((a1).toNat*4)).block,(a.add ((a1).toNat*4)).off+3,none⟩=some (.int .i64 ((zG d a1).f2)))∧(w'.heap[c]? = some (.cells #[.slice (some a) d.length aq,.int .i64 ag,.int .i64 ah] 26 (0,0)))∧(w'.heap[r]? = some (.cells #[.int .i64 0,.int .i64 0] 24 (0,0)))∧(w'.heap[s_]? = some (.cells #[.int .i64 0,.int .i64 0] 24 (0,0)))∧(w.heap.size≤s_)∧(w.heap.size≤s_)∧(c≠s_)∧(s_≠c)∧(r≠s_)∧(s_≠r)∧(Below w.heap.size w w')) ?_ ?_
       rotate_left
       ·intro hJ9
        refine three_ (i:=1) (j:=8) (k:=9) (Ni:=some 8) (Nj:=some 5) (Nk:=some 6) #[true,true,true,true,true,true,true,true,false,false,false,false] #[true,false,true,true,true,true,true,true,true,false,false,false] #[true,false,true,true,true,true,true,true,false,true,false,false] rfl rfl rfl rfl rfl rfl (three_of HT_.out (by kernel_rfl)) (by decide) (by decide) (by decide) (fun K hK=>?_) (fun K hK=>?_) (fun K hK=>?_)
        ·skip
         refine gO Try.func54 #[.agg #[.slice (some a) d.length aq,.int .i64 ag,.int .i64 ah]] ?_
         with_reducible refine (zAA.calls k _ _ d ag ah aw ax _ ?side1 ?side2 A3.out).mono ?_
         (case side1=>exact cS a3.out)
         (case side2=>exact HC0_0.out)
         rintro e w10 ⟨rfl,hb⟩
         refine ⟨_,rfl,?_⟩
         replace b:=bQ b hb
         replace q:=bQ q hb
         replace HB:=hQ hb
         (try clear hb)
         (try clear hb2)
         (try clear hk)
         (try clear hi)
         refine hK.out _ _ ⟨(zB b.out 0).trans rfl,(zB b.out 1).trans rfl,(zB b.out 2).trans rfl,(hC HB.out ad),(hC HB.out ac),(hC HB.out ab),(hC HB.out aa)⟩ (fun s=>?_)
         clear hK K
         refine nP ?_
         exact zAe (by first|(simp only [zy,Act.put,List.setIfInBounds_toArray,List.set_cons_zero,List.set_cons_succ];done)|(simp only [zy,Act.put,List.setIfInBounds_toArray,List.set_cons_zero,List.set_cons_succ];rfl)) (hJ1 () _ ⟨s,(bX b.out),(bX q.out),bA⟩)
        ·skip
         refine zAK ?hg (N:=5) ?hd (cs:=#[.int .i64 0,.int .i64 0]) (t:=24) ?hr ?_;(case hd=>rfl);(case hg=>rfl);(case hr=>first|(go_simp;done)|(go_simp;rfl))
         intro l hg w10 ar hb
         have ai:=qK (ar)
         have x:=qK (gS hg:w.heap.size≤l)
         have au:=qK (gS hg:w.heap.size≤l)
         replace HB:=hQ hb
         have u:=qK (nL hg b.out:c≠l)
         have ak:=qK (nG hg b.out:l≠c)
         replace b:=bQ b hb
         have ae:=qK (nL hg q.out:r≠l)
         have al:=qK (nG hg q.out:l≠r)
         replace q:=bQ q hb
         clear hb ar hg
         refine hK.out _ _ ⟨(zB b.out 0).trans rfl,(zB b.out 1).trans rfl,(zB b.out 2).trans rfl,(hC HB.out ad),(hC HB.out ac),(hC HB.out ab),(hC HB.out aa)⟩ (fun s=>?_)
         clear hK K
         refine nP ?_
         exact zAe (by first|(simp only [zy,Act.put,List.setIfInBounds_toArray,List.set_cons_zero,List.set_cons_succ];done)|(simp only [zy,Act.put,List.setIfInBounds_toArray,List.set_cons_zero,List.set_cons_succ];rfl)) (hJ8 (l) _ ⟨s,(bX b.out),(bX q.out),(bX ai.out),x.out,au.out,u.out,ak.out,ae.out,al.out,bA⟩)
        ·skip
         refine zAK ?hg (N:=6) ?hd (cs:=#[.int .i64 0,.int .i64 0]) (t:=24) ?hr ?_;(case hd=>rfl);(case hg=>rfl);(case hr=>first|(go_simp;done)|(go_simp;rfl))
         intro m hg w10 ar hb
         have aj:=qK (ar)
         have y:=qK (gS hg:w.heap.size≤m)
         have av:=qK (gS hg:w.heap.size≤m)
         replace HB:=hQ hb
         have v:=qK (nL hg b.out:c≠m)
         have am:=qK (nG hg b.out:m≠c)
         replace b:=bQ b hb
         have af:=qK (nL hg q.out:r≠m)
         have an:=qK (nG hg q.out:m≠r)
         replace q:=bQ q hb
         clear hb ar hg
         refine hK.out _ _ ⟨(zB b.out 0).trans rfl,(zB b.out 1).trans rfl,(zB b.out 2).trans rfl,(hC HB.out ad),(hC HB.out ac),(hC HB.out ab),(hC HB.out aa)⟩ (fun s=>?_)
         clear hK K
         refine nP ?_
         exact zAe (by first|(simp only [zy,Act.put,List.setIfInBounds_toArray,List.set_cons_zero,List.set_cons_succ];done)|(simp only [zy,Act.put,List.setIfInBounds_toArray,List.set_cons_zero,List.set_cons_succ];rfl)) (hJ9 (m) _ ⟨s,(bX b.out),(bX q.out),(bX aj.out),y.out,av.out,v.out,am.out,af.out,an.out,bA⟩)
       ·skip
        rintro m w11 ⟨hS_,h0_,h1_,h2_,h3_,h4_,h5_,h6_,h7_,h8_,h9_⟩
        have n0_:zA (w11.heap[c]? = some (.cells #[.slice (some a) d.length aq,.int .i64 ag,.int .i64 ah] 26 (0,0))):=⟨h0_⟩
        have n1_:zA (w11.heap[r]? = some (.cells #[.int .i64 0,.int .i64 0] 24 (0,0))):=⟨h1_⟩
        have n2_:zA (w11.heap[m]? = some (.cells #[.int .i64 0,.int .i64 0] 24 (0,0))):=⟨h2_⟩
        have n3_:zA (w.heap.size≤m):=⟨h3_⟩
        have n4_:zA (w.heap.size≤m):=⟨h4_⟩
        have n5_:zA (c≠m):=⟨h5_⟩
        have n6_:zA (m≠c):=⟨h6_⟩
        have n7_:zA (r≠m):=⟨h7_⟩
        have n8_:zA (m≠r):=⟨h8_⟩
        have n9_:zA (Below w.heap.size w w11):=⟨h9_⟩
        clear b
        clear q
        clear HB
        clear h0_ h1_ h2_ h3_ h4_ h5_ h6_ h7_ h8_ h9_
        have b:=n0_
        have q:=n1_
        have aj:=n2_
        have y:=n3_
        have av:=n4_
        have v:=n5_
        have am:=n6_
        have af:=n7_
        have an:=n8_
        have HB:=n9_
        clear n0_ n1_ n2_ n3_ n4_ n5_ n6_ n7_ n8_ n9_
        have s:w11.cell? ⟨c,0,none⟩=some (.slice (some a) d.length aq)∧w11.cell? ⟨c,1,none⟩=some (.int .i64 ag)∧w11.cell? ⟨c,2,none⟩=some (.int .i64 ah)∧w11.cell? (a.add ((a1).toNat*4))=some (.int .i64 ((zG d a1).f0.f0))∧w11.cell? ⟨(a.add ((a1).toNat*4)).block,(a.add ((a1).toNat*4)).off+1,none⟩=some (.int .i64 ((zG d a1).f0.f1))∧w11.cell? ⟨(a.add ((a1).toNat*4)).block,(a.add ((a1).toNat*4)).off+2,none⟩=some (.int .i64 ((zG d a1).f1))∧w11.cell? ⟨(a.add ((a1).toNat*4)).block,(a.add ((a1).toNat*4)).off+3,none⟩=some (.int .i64 ((zG d a1).f2)):=hS_
        refine zAe (a':=?_) ?_ ?_
        rotate_left
        ·simp only [zy,Act.put,List.setIfInBounds_toArray,List.set_cons_zero,List.set_cons_succ]
         rfl
        refine zB6 (i:=1) (j:=8) (Ni:=some 8) (Nj:=some 5) #[true,true,true,true,true,true,true,true,false,true,false,false] #[true,false,true,true,true,true,true,true,true,true,false,false] rfl rfl rfl rfl (zBG HT_.out (by kernel_rfl)) (by decide) (by decide) (fun K hK=>?_) (fun K hK=>?_)
        ·skip
         refine gO Try.func54 #[.agg #[.slice (some a) d.length aq,.int .i64 ag,.int .i64 ah]] ?_
         with_reducible refine (zAA.calls k _ _ d ag ah aw ax _ ?side1 ?side2 A3.out).mono ?_
         (case side1=>exact cS a3.out)
         (case side2=>exact HC0_0.out)
         rintro e w12 ⟨rfl,hb⟩
         refine ⟨_,rfl,?_⟩
         replace b:=bQ b hb
         replace q:=bQ q hb
         replace aj:=bQ aj hb
         replace HB:=hQ hb
         (try clear hb)
         (try clear hb2)
         (try clear hk)
         (try clear hi)
         refine hK.out _ _ ⟨(zB b.out 0).trans rfl,(zB b.out 1).trans rfl,(zB b.out 2).trans rfl,(hC HB.out ad),(hC HB.out ac),(hC HB.out ab),(hC HB.out aa)⟩ (fun s=>?_)
         clear hK K
         refine nP ?_
         exact zAe (by first|(simp only [zy,Act.put,List.setIfInBounds_toArray,List.set_cons_zero,List.set_cons_succ];done)|(simp only [zy,Act.put,List.setIfInBounds_toArray,List.set_cons_zero,List.set_cons_succ];rfl)) (hJ1_9 (m) _ ⟨s,(bX b.out),(bX q.out),(bX aj.out),y.out,av.out,v.out,am.out,af.out,an.out,bA⟩)
        ·skip
         refine zAK ?hg (N:=5) ?hd (cs:=#[.int .i64 0,.int .i64 0]) (t:=24) ?hr ?_;(case hd=>rfl);(case hg=>rfl);(case hr=>first|(go_simp;done)|(go_simp;rfl))
         intro l hg w12 ar hb
         have ai:=qK (ar)
         have x:=qK (gS hg:w.heap.size≤l)
         have au:=qK (gS hg:w.heap.size≤l)
         replace HB:=hQ hb
         have u:=qK (nL hg b.out:c≠l)
         have ak:=qK (nG hg b.out:l≠c)
         replace b:=bQ b hb
         have ae:=qK (nL hg q.out:r≠l)
         have al:=qK (nG hg q.out:l≠r)
         replace q:=bQ q hb
         have ao:=qK (nL hg aj.out:m≠l)
         have ap:=qK (nG hg aj.out:l≠m)
         replace aj:=bQ aj hb
         clear hb ar hg
         refine hK.out _ _ ⟨(zB b.out 0).trans rfl,(zB b.out 1).trans rfl,(zB b.out 2).trans rfl,(hC HB.out ad),(hC HB.out ac),(hC HB.out ab),(hC HB.out aa)⟩ (fun s=>?_)
         clear hK K
         refine nP ?_
         exact zAe (by first|(simp only [zy,Act.put,List.setIfInBounds_toArray,List.set_cons_zero,List.set_cons_succ];done)|(simp only [zy,Act.put,List.setIfInBounds_toArray,List.set_cons_zero,List.set_cons_succ];rfl)) (hJ8_9 (l,m) _ ⟨s,(bX b.out),(bX q.out),(bX ai.out),(bX aj.out),x.out,au.out,u.out,ak.out,ae.out,al.out,ao.out,ap.out,y.out,av.out,v.out,am.out,af.out,an.out,bA⟩)
      ·skip
       rintro l w11 ⟨hS_,h0_,h1_,h2_,h3_,h4_,h5_,h6_,h7_,h8_,h9_⟩
       have n0_:zA (w11.heap[c]? = some (.cells #[.slice (some a) d.length aq,.int .i64 ag,.int .i64 ah] 26 (0,0))):=⟨h0_⟩
       have n1_:zA (w11.heap[r]? = some (.cells #[.int .i64 0,.int .i64 0] 24 (0,0))):=⟨h1_⟩
       have n2_:zA (w11.heap[l]? = some (.cells #[.int .i64 0,.int .i64 0] 24 (0,0))):=⟨h2_⟩
       have n3_:zA (w.heap.size≤l):=⟨h3_⟩
       have n4_:zA (w.heap.size≤l):=⟨h4_⟩
       have n5_:zA (c≠l):=⟨h5_⟩
       have n6_:zA (l≠c):=⟨h6_⟩
       have n7_:zA (r≠l):=⟨h7_⟩
       have n8_:zA (l≠r):=⟨h8_⟩
       have n9_:zA (Below w.heap.size w w11):=⟨h9_⟩
       clear b
       clear q
       clear HB
       clear h0_ h1_ h2_ h3_ h4_ h5_ h6_ h7_ h8_ h9_
       have b:=n0_
       have q:=n1_
       have ai:=n2_
       have x:=n3_
       have au:=n4_
       have u:=n5_
       have ak:=n6_
       have ae:=n7_
       have al:=n8_
       have HB:=n9_
       clear n0_ n1_ n2_ n3_ n4_ n5_ n6_ n7_ n8_ n9_
       have s:w11.cell? ⟨c,0,none⟩=some (.slice (some a) d.length aq)∧w11.cell? ⟨c,1,none⟩=some (.int .i64 ag)∧w11.cell? ⟨c,2,none⟩=some (.int .i64 ah)∧w11.cell? (a.add ((a1).toNat*4))=some (.int .i64 ((zG d a1).f0.f0))∧w11.cell? ⟨(a.add ((a1).toNat*4)).block,(a.add ((a1).toNat*4)).off+1,none⟩=some (.int .i64 ((zG d a1).f0.f1))∧w11.cell? ⟨(a.add ((a1).toNat*4)).block,(a.add ((a1).toNat*4)).off+2,none⟩=some (.int .i64 ((zG d a1).f1))∧w11.cell? ⟨(a.add ((a1).toNat*4)).block,(a.add ((a1).toNat*4)).off+3,none⟩=some (.int .i64 ((zG d a1).f2)):=hS_
       refine zAe (a':=?_) ?_ ?_
       rotate_left
       ·simp only [zy,Act.put,List.setIfInBounds_toArray,List.set_cons_zero,List.set_cons_succ]
        rfl
       refine zB6 (i:=1) (j:=9) (Ni:=some 8) (Nj:=some 6) #[true,true,true,true,true,true,true,true,true,false,false,false] #[true,false,true,true,true,true,true,true,true,true,false,false] rfl rfl rfl rfl (zBG HT_.out (by kernel_rfl)) (by decide) (by decide) (fun K hK=>?_) (fun K hK=>?_)
       ·skip
        refine gO Try.func54 #[.agg #[.slice (some a) d.length aq,.int .i64 ag,.int .i64 ah]] ?_
        with_reducible refine (zAA.calls k _ _ d ag ah aw ax _ ?side1 ?side2 A3.out).mono ?_
        (case side1=>exact cS a3.out)
        (case side2=>exact HC0_0.out)
        rintro e w12 ⟨rfl,hb⟩
        refine ⟨_,rfl,?_⟩
        replace b:=bQ b hb
        replace q:=bQ q hb
        replace ai:=bQ ai hb
        replace HB:=hQ hb
        (try clear hb)
        (try clear hb2)
        (try clear hk)
        (try clear hi)
        refine hK.out _ _ ⟨(zB b.out 0).trans rfl,(zB b.out 1).trans rfl,(zB b.out 2).trans rfl,(hC HB.out ad),(hC HB.out ac),(hC HB.out ab),(hC HB.out aa)⟩ (fun s=>?_)
        clear hK K
        refine nP ?_
        exact zAe (by first|(simp only [zy,Act.put,List.setIfInBounds_toArray,List.set_cons_zero,List.set_cons_succ];done)|(simp only [zy,Act.put,List.setIfInBounds_toArray,List.set_cons_zero,List.set_cons_succ];rfl)) (hJ1_8 (l) _ ⟨s,(bX b.out),(bX q.out),(bX ai.out),x.out,au.out,u.out,ak.out,ae.out,al.out,bA⟩)
       ·skip
        refine zAK ?hg (N:=6) ?hd (cs:=#[.int .i64 0,.int .i64 0]) (t:=24) ?hr ?_;(case hd=>rfl);(case hg=>rfl);(case hr=>first|(go_simp;done)|(go_simp;rfl))
        intro m hg w12 ar hb
        have aj:=qK (ar)
        have y:=qK (gS hg:w.heap.size≤m)
        have av:=qK (gS hg:w.heap.size≤m)
        replace HB:=hQ hb
        have v:=qK (nL hg b.out:c≠m)
        have am:=qK (nG hg b.out:m≠c)
        replace b:=bQ b hb
        have af:=qK (nL hg q.out:r≠m)
        have an:=qK (nG hg q.out:m≠r)
        replace q:=bQ q hb
        have ap:=qK (nL hg ai.out:l≠m)
        have ao:=qK (nG hg ai.out:m≠l)
        replace ai:=bQ ai hb
        clear hb ar hg
        refine hK.out _ _ ⟨(zB b.out 0).trans rfl,(zB b.out 1).trans rfl,(zB b.out 2).trans rfl,(hC HB.out ad),(hC HB.out ac),(hC HB.out ab),(hC HB.out aa)⟩ (fun s=>?_)
        clear hK K
        refine nP ?_
        exact zAe (by first|(simp only [zy,Act.put,List.setIfInBounds_toArray,List.set_cons_zero,List.set_cons_succ];done)|(simp only [zy,Act.put,List.setIfInBounds_toArray,List.set_cons_zero,List.set_cons_succ];rfl)) (hJ8_9 (l,m) _ ⟨s,(bX b.out),(bX q.out),(bX ai.out),(bX aj.out),x.out,au.out,u.out,ak.out,ae.out,al.out,ao.out,ap.out,y.out,av.out,v.out,am.out,af.out,an.out,bA⟩)
     ·skip
      rintro _ w11 ⟨hS_,h0_,h1_,h2_⟩
      have n0_:zA (w11.heap[c]? = some (.cells #[.slice (some a) d.length aq,.int .i64 ag,.int .i64 ah] 26 (0,0))):=⟨h0_⟩
      have n1_:zA (w11.heap[r]? = some (.cells #[.int .i64 0,.int .i64 0] 24 (0,0))):=⟨h1_⟩
      have n2_:zA (Below w.heap.size w w11):=⟨h2_⟩
      clear b
      clear q
      clear HB
      clear h0_ h1_ h2_
      have b:=n0_
      have q:=n1_
      have HB:=n2_
      clear n0_ n1_ n2_
      have s:w11.cell? ⟨c,0,none⟩=some (.slice (some a) d.length aq)∧w11.cell? ⟨c,1,none⟩=some (.int .i64 ag)∧w11.cell? ⟨c,2,none⟩=some (.int .i64 ah)∧w11.cell? (a.add ((a1).toNat*4))=some (.int .i64 ((zG d a1).f0.f0))∧w11.cell? ⟨(a.add ((a1).toNat*4)).block,(a.add ((a1).toNat*4)).off+1,none⟩=some (.int .i64 ((zG d a1).f0.f1))∧w11.cell? ⟨(a.add ((a1).toNat*4)).block,(a.add ((a1).toNat*4)).off+2,none⟩=some (.int .i64 ((zG d a1).f1))∧w11.cell? ⟨(a.add ((a1).toNat*4)).block,(a.add ((a1).toNat*4)).off+3,none⟩=some (.int .i64 ((zG d a1).f2)):=hS_
      refine zAe (a':=?_) ?_ ?_
      rotate_left
      ·simp only [zy,Act.put,List.setIfInBounds_toArray,List.set_cons_zero,List.set_cons_succ]
       rfl
      refine zB6 (i:=8) (j:=9) (Ni:=some 5) (Nj:=some 6) #[true,true,true,true,true,true,true,true,true,false,false,false] #[true,true,true,true,true,true,true,true,false,true,false,false] rfl rfl rfl rfl (zBG HT_.out (by kernel_rfl)) (by decide) (by decide) (fun K hK=>?_) (fun K hK=>?_)
      ·skip
       refine zAK ?hg (N:=5) ?hd (cs:=#[.int .i64 0,.int .i64 0]) (t:=24) ?hr ?_;(case hd=>rfl);(case hg=>rfl);(case hr=>first|(go_simp;done)|(go_simp;rfl))
       intro l hg w12 ar hb
       have ai:=qK (ar)
       have x:=qK (gS hg:w.heap.size≤l)
       have au:=qK (gS hg:w.heap.size≤l)
       replace HB:=hQ hb
       have u:=qK (nL hg b.out:c≠l)
       have ak:=qK (nG hg b.out:l≠c)
       replace b:=bQ b hb
       have ae:=qK (nL hg q.out:r≠l)
       have al:=qK (nG hg q.out:l≠r)
       replace q:=bQ q hb
       clear hb ar hg
       refine hK.out _ _ ⟨(zB b.out 0).trans rfl,(zB b.out 1).trans rfl,(zB b.out 2).trans rfl,(hC HB.out ad),(hC HB.out ac),(hC HB.out ab),(hC HB.out aa)⟩ (fun s=>?_)
       clear hK K
       refine nP ?_
       exact zAe (by first|(simp only [zy,Act.put,List.setIfInBounds_toArray,List.set_cons_zero,List.set_cons_succ];done)|(simp only [zy,Act.put,List.setIfInBounds_toArray,List.set_cons_zero,List.set_cons_succ];rfl)) (hJ1_8 (l) _ ⟨s,(bX b.out),(bX q.out),(bX ai.out),x.out,au.out,u.out,ak.out,ae.out,al.out,bA⟩)
      ·skip
       refine zAK ?hg (N:=6) ?hd (cs:=#[.int .i64 0,.int .i64 0]) (t:=24) ?hr ?_;(case hd=>rfl);(case hg=>rfl);(case hr=>first|(go_simp;done)|(go_simp;rfl))
       intro m hg w12 ar hb
       have aj:=qK (ar)
       have y:=qK (gS hg:w.heap.size≤m)
       have av:=qK (gS hg:w.heap.size≤m)
       replace HB:=hQ hb
       have v:=qK (nL hg b.out:c≠m)
       have am:=qK (nG hg b.out:m≠c)
       replace b:=bQ b hb
       have af:=qK (nL hg q.out:r≠m)
       have an:=qK (nG hg q.out:m≠r)
       replace q:=bQ q hb
       clear hb ar hg
       refine hK.out _ _ ⟨(zB b.out 0).trans rfl,(zB b.out 1).trans rfl,(zB b.out 2).trans rfl,(hC HB.out ad),(hC HB.out ac),(hC HB.out ab),(hC HB.out aa)⟩ (fun s=>?_)
       clear hK K
       refine nP ?_
       exact zAe (by first|(simp only [zy,Act.put,List.setIfInBounds_toArray,List.set_cons_zero,List.set_cons_succ];done)|(simp only [zy,Act.put,List.setIfInBounds_toArray,List.set_cons_zero,List.set_cons_succ];rfl)) (hJ1_9 (m) _ ⟨s,(bX b.out),(bX q.out),(bX aj.out),y.out,av.out,v.out,am.out,af.out,an.out,bA⟩)
    ·skip
     rintro ⟨l,m⟩ w12 ⟨hS_,h0_,h1_,h2_,h3_,h4_,h5_,h6_,h7_,h8_,h9_,h10_,h11_,h12_,h13_,h14_,h15_,h16_,h17_,h18_⟩
     have n0_:zA (w12.heap[c]? = some (.cells #[.slice (some a) d.length aq,.int .i64 ag,.int .i64 ah] 26 (0,0))):=⟨h0_⟩
     have n1_:zA (w12.heap[r]? = some (.cells #[.int .i64 0,.int .i64 0] 24 (0,0))):=⟨h1_⟩
     have n2_:zA (w12.heap[l]? = some (.cells #[.int .i64 0,.int .i64 0] 24 (0,0))):=⟨h2_⟩
     have n3_:zA (w12.heap[m]? = some (.cells #[.int .i64 0,.int .i64 0] 24 (0,0))):=⟨h3_⟩
     have n4_:zA (w.heap.size≤l):=⟨h4_⟩
     have n5_:zA (w.heap.size≤l):=⟨h5_⟩
     have n6_:zA (c≠l):=⟨h6_⟩
     have n7_:zA (l≠c):=⟨h7_⟩
     have n8_:zA (r≠l):=⟨h8_⟩
     have n9_:zA (l≠r):=⟨h9_⟩
     have n10_:zA (m≠l):=⟨h10_⟩
     have n11_:zA (l≠m):=⟨h11_⟩
     have n12_:zA (w.heap.size≤m):=⟨h12_⟩
     have n13_:zA (w.heap.size≤m):=⟨h13_⟩
     have n14_:zA (c≠m):=⟨h14_⟩
     have n15_:zA (m≠c):=⟨h15_⟩
     have n16_:zA (r≠m):=⟨h16_⟩
     have n17_:zA (m≠r):=⟨h17_⟩
     have n18_:zA (Below w.heap.size w w12):=⟨h18_⟩
     clear b
     clear q
     clear HB
     clear h0_ h1_ h2_ h3_ h4_ h5_ h6_ h7_ h8_ h9_ h10_ h11_ h12_ h13_ h14_ h15_ h16_ h17_ h18_
     have b:=n0_
     have q:=n1_
     have ai:=n2_
     have aj:=n3_
     have x:=n4_
     have au:=n5_
     have u:=n6_
     have ak:=n7_
     have ae:=n8_
     have al:=n9_
     have ao:=n10_
     have ap:=n11_
     have y:=n12_
     have av:=n13_
     have v:=n14_
     have am:=n15_
     have af:=n16_
     have an:=n17_
     have HB:=n18_
     clear n0_ n1_ n2_ n3_ n4_ n5_ n6_ n7_ n8_ n9_ n10_ n11_ n12_ n13_ n14_ n15_ n16_ n17_ n18_
     have s:w12.cell? ⟨c,0,none⟩=some (.slice (some a) d.length aq)∧w12.cell? ⟨c,1,none⟩=some (.int .i64 ag)∧w12.cell? ⟨c,2,none⟩=some (.int .i64 ah)∧w12.cell? (a.add ((a1).toNat*4))=some (.int .i64 ((zG d a1).f0.f0))∧w12.cell? ⟨(a.add ((a1).toNat*4)).block,(a.add ((a1).toNat*4)).off+1,none⟩=some (.int .i64 ((zG d a1).f0.f1))∧w12.cell? ⟨(a.add ((a1).toNat*4)).block,(a.add ((a1).toNat*4)).off+2,none⟩=some (.int .i64 ((zG d a1).f1))∧w12.cell? ⟨(a.add ((a1).toNat*4)).block,(a.add ((a1).toNat*4)).off+3,none⟩=some (.int .i64 ((zG d a1).f2)):=hS_
     refine zAe (a':=?_) ?_ ?_
     rotate_left
     ·simp only [zy,Act.put,List.setIfInBounds_toArray,List.set_cons_zero,List.set_cons_succ]
      rfl
     refine oP 1 (some 8) HT_ (fun K hK=>?_)
     refine gO Try.func54 #[.agg #[.slice (some a) d.length aq,.int .i64 ag,.int .i64 ah]] ?_
     with_reducible refine (zAA.calls k _ _ d ag ah aw ax _ ?side1 ?side2 A3.out).mono ?_
     (case side1=>exact cS a3.out)
     (case side2=>exact HC0_0.out)
     rintro e w13 ⟨rfl,hb⟩
     refine ⟨_,rfl,?_⟩
     replace b:=bQ b hb
     replace q:=bQ q hb
     replace ai:=bQ ai hb
     replace aj:=bQ aj hb
     replace HB:=hQ hb
     (try clear hb)
     (try clear hb2)
     (try clear hk)
     (try clear hi)
     refine hK.out _ _ ⟨(zB b.out 0).trans rfl,(zB b.out 1).trans rfl,(zB b.out 2).trans rfl,(hC HB.out ad),(hC HB.out ac),(hC HB.out ab),(hC HB.out aa)⟩ (fun s=>?_)
     clear hK K
     refine nP ?_
     exact zAe (by first|(simp only [zy,Act.put,List.setIfInBounds_toArray,List.set_cons_zero,List.set_cons_succ];done)|(simp only [zy,Act.put,List.setIfInBounds_toArray,List.set_cons_zero,List.set_cons_succ];rfl)) (hJ1_8_9 (l,m) _ ⟨s,(bX b.out),(bX q.out),(bX ai.out),(bX aj.out),x.out,au.out,u.out,ak.out,ae.out,al.out,ao.out,ap.out,y.out,av.out,v.out,am.out,af.out,an.out,bA⟩)
   ·skip
    rintro m w12 ⟨hS_,h0_,h1_,h2_,h3_,h4_,h5_,h6_,h7_,h8_,h9_⟩
    have n0_:zA (w12.heap[c]? = some (.cells #[.slice (some a) d.length aq,.int .i64 ag,.int .i64 ah] 26 (0,0))):=⟨h0_⟩
    have n1_:zA (w12.heap[r]? = some (.cells #[.int .i64 0,.int .i64 0] 24 (0,0))):=⟨h1_⟩
    have n2_:zA (w12.heap[m]? = some (.cells #[.int .i64 0,.int .i64 0] 24 (0,0))):=⟨h2_⟩
    have n3_:zA (w.heap.size≤m):=⟨h3_⟩
    have n4_:zA (w.heap.size≤m):=⟨h4_⟩
    have n5_:zA (c≠m):=⟨h5_⟩
    have n6_:zA (m≠c):=⟨h6_⟩
    have n7_:zA (r≠m):=⟨h7_⟩
    have n8_:zA (m≠r):=⟨h8_⟩
    have n9_:zA (Below w.heap.size w w12):=⟨h9_⟩
    clear b
    clear q
    clear HB
    clear h0_ h1_ h2_ h3_ h4_ h5_ h6_ h7_ h8_ h9_
    have b:=n0_
    have q:=n1_
    have aj:=n2_
    have y:=n3_
    have av:=n4_
    have v:=n5_
    have am:=n6_
    have af:=n7_
    have an:=n8_
    have HB:=n9_
    clear n0_ n1_ n2_ n3_ n4_ n5_ n6_ n7_ n8_ n9_
    have s:w12.cell? ⟨c,0,none⟩=some (.slice (some a) d.length aq)∧w12.cell? ⟨c,1,none⟩=some (.int .i64 ag)∧w12.cell? ⟨c,2,none⟩=some (.int .i64 ah)∧w12.cell? (a.add ((a1).toNat*4))=some (.int .i64 ((zG d a1).f0.f0))∧w12.cell? ⟨(a.add ((a1).toNat*4)).block,(a.add ((a1).toNat*4)).off+1,none⟩=some (.int .i64 ((zG d a1).f0.f1))∧w12.cell? ⟨(a.add ((a1).toNat*4)).block,(a.add ((a1).toNat*4)).off+2,none⟩=some (.int .i64 ((zG d a1).f1))∧w12.cell? ⟨(a.add ((a1).toNat*4)).block,(a.add ((a1).toNat*4)).off+3,none⟩=some (.int .i64 ((zG d a1).f2)):=hS_
    refine zAe (a':=?_) ?_ ?_
    rotate_left
    ·simp only [zy,Act.put,List.setIfInBounds_toArray,List.set_cons_zero,List.set_cons_succ]
     rfl
    refine oP 8 (some 5) HT_ (fun K hK=>?_)
    refine zAK ?hg (N:=5) ?hd (cs:=#[.int .i64 0,.int .i64 0]) (t:=24) ?hr ?_;(case hd=>rfl);(case hg=>rfl);(case hr=>first|(go_simp;done)|(go_simp;rfl))
    intro l hg w13 ar hb
    have ai:=qK (ar)
    have x:=qK (gS hg:w.heap.size≤l)
    have au:=qK (gS hg:w.heap.size≤l)
    replace HB:=hQ hb
    have u:=qK (nL hg b.out:c≠l)
    have ak:=qK (nG hg b.out:l≠c)
    replace b:=bQ b hb
    have ae:=qK (nL hg q.out:r≠l)
    have al:=qK (nG hg q.out:l≠r)
    replace q:=bQ q hb
    have ao:=qK (nL hg aj.out:m≠l)
    have ap:=qK (nG hg aj.out:l≠m)
    replace aj:=bQ aj hb
    clear hb ar hg
    refine hK.out _ _ ⟨(zB b.out 0).trans rfl,(zB b.out 1).trans rfl,(zB b.out 2).trans rfl,(hC HB.out ad),(hC HB.out ac),(hC HB.out ab),(hC HB.out aa)⟩ (fun s=>?_)
    clear hK K
    refine nP ?_
    exact zAe (by first|(simp only [zy,Act.put,List.setIfInBounds_toArray,List.set_cons_zero,List.set_cons_succ];done)|(simp only [zy,Act.put,List.setIfInBounds_toArray,List.set_cons_zero,List.set_cons_succ];rfl)) (hJ1_8_9 (l,m) _ ⟨s,(bX b.out),(bX q.out),(bX ai.out),(bX aj.out),x.out,au.out,u.out,ak.out,ae.out,al.out,ao.out,ap.out,y.out,av.out,v.out,am.out,af.out,an.out,bA⟩)
  ·skip
   rintro l w12 ⟨hS_,h0_,h1_,h2_,h3_,h4_,h5_,h6_,h7_,h8_,h9_⟩
   have n0_:zA (w12.heap[c]? = some (.cells #[.slice (some a) d.length aq,.int .i64 ag,.int .i64 ah] 26 (0,0))):=⟨h0_⟩
   have n1_:zA (w12.heap[r]? = some (.cells #[.int .i64 0,.int .i64 0] 24 (0,0))):=⟨h1_⟩
   have n2_:zA (w12.heap[l]? = some (.cells #[.int .i64 0,.int .i64 0] 24 (0,0))):=⟨h2_⟩
   have n3_:zA (w.heap.size≤l):=⟨h3_⟩
   have n4_:zA (w.heap.size≤l):=⟨h4_⟩
   have n5_:zA (c≠l):=⟨h5_⟩
   have n6_:zA (l≠c):=⟨h6_⟩
   have n7_:zA (r≠l):=⟨h7_⟩
   have n8_:zA (l≠r):=⟨h8_⟩
   have n9_:zA (Below w.heap.size w w12):=⟨h9_⟩
   clear b
   clear q
   clear HB
   clear h0_ h1_ h2_ h3_ h4_ h5_ h6_ h7_ h8_ h9_
   have b:=n0_
   have q:=n1_
   have ai:=n2_
   have x:=n3_
   have au:=n4_
   have u:=n5_
   have ak:=n6_
   have ae:=n7_
   have al:=n8_
   have HB:=n9_
   clear n0_ n1_ n2_ n3_ n4_ n5_ n6_ n7_ n8_ n9_
   have s:w12.cell? ⟨c,0,none⟩=some (.slice (some a) d.length aq)∧w12.cell? ⟨c,1,none⟩=some (.int .i64 ag)∧w12.cell? ⟨c,2,none⟩=some (.int .i64 ah)∧w12.cell? (a.add ((a1).toNat*4))=some (.int .i64 ((zG d a1).f0.f0))∧w12.cell? ⟨(a.add ((a1).toNat*4)).block,(a.add ((a1).toNat*4)).off+1,none⟩=some (.int .i64 ((zG d a1).f0.f1))∧w12.cell? ⟨(a.add ((a1).toNat*4)).block,(a.add ((a1).toNat*4)).off+2,none⟩=some (.int .i64 ((zG d a1).f1))∧w12.cell? ⟨(a.add ((a1).toNat*4)).block,(a.add ((a1).toNat*4)).off+3,none⟩=some (.int .i64 ((zG d a1).f2)):=hS_
   refine zAe (a':=?_) ?_ ?_
   rotate_left
   ·simp only [zy,Act.put,List.setIfInBounds_toArray,List.set_cons_zero,List.set_cons_succ]
    rfl
   refine oP 9 (some 6) HT_ (fun K hK=>?_)
   refine zAK ?hg (N:=6) ?hd (cs:=#[.int .i64 0,.int .i64 0]) (t:=24) ?hr ?_;(case hd=>rfl);(case hg=>rfl);(case hr=>first|(go_simp;done)|(go_simp;rfl))
   intro m hg w13 ar hb
   have aj:=qK (ar)
   have y:=qK (gS hg:w.heap.size≤m)
   have av:=qK (gS hg:w.heap.size≤m)
   replace HB:=hQ hb
   have v:=qK (nL hg b.out:c≠m)
   have am:=qK (nG hg b.out:m≠c)
   replace b:=bQ b hb
   have af:=qK (nL hg q.out:r≠m)
   have an:=qK (nG hg q.out:m≠r)
   replace q:=bQ q hb
   have ap:=qK (nL hg ai.out:l≠m)
   have ao:=qK (nG hg ai.out:m≠l)
   replace ai:=bQ ai hb
   clear hb ar hg
   refine hK.out _ _ ⟨(zB b.out 0).trans rfl,(zB b.out 1).trans rfl,(zB b.out 2).trans rfl,(hC HB.out ad),(hC HB.out ac),(hC HB.out ab),(hC HB.out aa)⟩ (fun s=>?_)
   clear hK K
   refine nP ?_
   exact zAe (by first|(simp only [zy,Act.put,List.setIfInBounds_toArray,List.set_cons_zero,List.set_cons_succ];done)|(simp only [zy,Act.put,List.setIfInBounds_toArray,List.set_cons_zero,List.set_cons_succ];rfl)) (hJ1_8_9 (l,m) _ ⟨s,(bX b.out),(bX q.out),(bX ai.out),(bX aj.out),x.out,au.out,u.out,ak.out,ae.out,al.out,ao.out,ap.out,y.out,av.out,v.out,am.out,af.out,an.out,bA⟩)
 rintro ⟨l,m⟩ w13 ⟨hS_,h0_,h1_,h2_,h3_,h4_,h5_,h6_,h7_,h8_,h9_,h10_,h11_,h12_,h13_,h14_,h15_,h16_,h17_,h18_⟩
 have n0_:zA (w13.heap[c]? = some (.cells #[.slice (some a) d.length aq,.int .i64 ag,.int .i64 ah] 26 (0,0))):=⟨h0_⟩
 have n1_:zA (w13.heap[r]? = some (.cells #[.int .i64 0,.int .i64 0] 24 (0,0))):=⟨h1_⟩
 have n2_:zA (w13.heap[l]? = some (.cells #[.int .i64 0,.int .i64 0] 24 (0,0))):=⟨h2_⟩
 have n3_:zA (w13.heap[m]? = some (.cells #[.int .i64 0,.int .i64 0] 24 (0,0))):=⟨h3_⟩
 have n4_:zA (w.heap.size≤l):=⟨h4_⟩
 have n5_:zA (w.heap.size≤l):=⟨h5_⟩
 have n6_:zA (c≠l):=⟨h6_⟩
 have n7_:zA (l≠c):=⟨h7_⟩
 have n8_:zA (r≠l):=⟨h8_⟩
 have n9_:zA (l≠r):=⟨h9_⟩
 have n10_:zA (m≠l):=⟨h10_⟩
 have n11_:zA (l≠m):=⟨h11_⟩
 have n12_:zA (w.heap.size≤m):=⟨h12_⟩
 have n13_:zA (w.heap.size≤m):=⟨h13_⟩
 have n14_:zA (c≠m):=⟨h14_⟩
 have n15_:zA (m≠c):=⟨h15_⟩
 have n16_:zA (r≠m):=⟨h16_⟩
 have n17_:zA (m≠r):=⟨h17_⟩
 have n18_:zA (Below w.heap.size w w13):=⟨h18_⟩
 clear b
 clear q
 clear HB
 clear h0_ h1_ h2_ h3_ h4_ h5_ h6_ h7_ h8_ h9_ h10_ h11_ h12_ h13_ h14_ h15_ h16_ h17_ h18_
 have b:=n0_
 have q:=n1_
 have ai:=n2_
 have aj:=n3_
 have x:=n4_
 have au:=n5_
 have u:=n6_
 have ak:=n7_
 have ae:=n8_
 have al:=n9_
 have ao:=n10_
 have ap:=n11_
 have y:=n12_
 have av:=n13_
 have v:=n14_
 have am:=n15_
 have af:=n16_
 have an:=n17_
 have HB:=n18_
 clear n0_ n1_ n2_ n3_ n4_ n5_ n6_ n7_ n8_ n9_ n10_ n11_ n12_ n13_ n14_ n15_ n16_ n17_ n18_
 have s:w13.cell? ⟨c,0,none⟩=some (.slice (some a) d.length aq)∧w13.cell? ⟨c,1,none⟩=some (.int .i64 ag)∧w13.cell? ⟨c,2,none⟩=some (.int .i64 ah)∧w13.cell? (a.add ((a1).toNat*4))=some (.int .i64 ((zG d a1).f0.f0))∧w13.cell? ⟨(a.add ((a1).toNat*4)).block,(a.add ((a1).toNat*4)).off+1,none⟩=some (.int .i64 ((zG d a1).f0.f1))∧w13.cell? ⟨(a.add ((a1).toNat*4)).block,(a.add ((a1).toNat*4)).off+2,none⟩=some (.int .i64 ((zG d a1).f1))∧w13.cell? ⟨(a.add ((a1).toNat*4)).block,(a.add ((a1).toNat*4)).off+3,none⟩=some (.int .i64 ((zG d a1).f2)):=hS_
 refine zAe (a':=?_) ?_ ?_
 rotate_left
 ·simp only [zy,Act.put,List.setIfInBounds_toArray,List.set_cons_zero,List.set_cons_succ]
  rfl
 refine oP 10 none HT_ (fun K hK=>?_)
 have cu:w13.cell? ⟨l,0,none⟩=some (.int .i64 0):=(zB ai.out 0).trans rfl
 have b9:=zW ai.out 0
 have bg:=u.out
 have bh:=ae.out
 have bi:=ao.out
 have bj:=ak.out
 have bk:=al.out
 have bl:=ap.out
 have cv:w13.cell? ⟨l,1,none⟩=some (.int .i64 0):=(zB ai.out 1).trans rfl
 have ca:=zW ai.out 1
 have bm:=u.out
 have bn:=ae.out
 have bo:=ao.out
 have bp:=ak.out
 have bq:=al.out
 have br:=ap.out
 refine zB0 (w1:=?_) (by rfl) rfl ?_ ?_
 rotate_left
 ·go_simp
  rfl
 refine hK.out _ _ ⟨((cell_far (p:=⟨l,_,none⟩) u.out _).trans (((cell_far (p:=⟨l,_,none⟩) u.out _).trans (s.1)))),((cell_far (p:=⟨l,_,none⟩) u.out _).trans (((cell_far (p:=⟨l,_,none⟩) u.out _).trans (s.2.1)))),((cell_far (p:=⟨l,_,none⟩) u.out _).trans (((cell_far (p:=⟨l,_,none⟩) u.out _).trans (s.2.2.1)))),((cell_far (p:=⟨l,_,none⟩) (by first|exact Nat.ne_of_lt (Nat.lt_of_lt_of_le (by have:=World.block_lt_of_cell? _ _ ad;first|rwa [add_block] at this|exact this) x.out)|(rw [add_block];exact Nat.ne_of_lt (Nat.lt_of_lt_of_le (by have:=World.block_lt_of_cell? _ _ ad;first|rwa [add_block] at this|exact this) x.out))|(show (Addr.add _ _).block≠_;rw [add_block];exact Nat.ne_of_lt (Nat.lt_of_lt_of_le (by have:=World.block_lt_of_cell? _ _ ad;first|rwa [add_block] at this|exact this) x.out))|(dsimp only;exact Nat.ne_of_lt (Nat.lt_of_lt_of_le (by have:=World.block_lt_of_cell? _ _ ad;first|rwa [add_block] at this|exact this) x.out))) _).trans (((cell_far (p:=⟨l,_,none⟩) (by first|exact Nat.ne_of_lt (Nat.lt_of_lt_of_le (by have:=World.block_lt_of_cell? _ _ ad;first|rwa [add_block] at this|exact this) x.out)|(rw [add_block];exact Nat.ne_of_lt (Nat.lt_of_lt_of_le (by have:=World.block_lt_of_cell? _ _ ad;first|rwa [add_block] at this|exact this) x.out))|(show (Addr.add _ _).block≠_;rw [add_block];exact Nat.ne_of_lt (Nat.lt_of_lt_of_le (by have:=World.block_lt_of_cell? _ _ ad;first|rwa [add_block] at this|exact this) x.out))|(dsimp only;exact Nat.ne_of_lt (Nat.lt_of_lt_of_le (by have:=World.block_lt_of_cell? _ _ ad;first|rwa [add_block] at this|exact this) x.out))) _).trans (s.2.2.2.1)))),((cell_far (p:=⟨l,_,none⟩) (by first|exact Nat.ne_of_lt (Nat.lt_of_lt_of_le (by have:=World.block_lt_of_cell? _ _ ac;first|rwa [add_block] at this|exact this) x.out)|(rw [add_block];exact Nat.ne_of_lt (Nat.lt_of_lt_of_le (by have:=World.block_lt_of_cell? _ _ ac;first|rwa [add_block] at this|exact this) x.out))|(show (Addr.add _ _).block≠_;rw [add_block];exact Nat.ne_of_lt (Nat.lt_of_lt_of_le (by have:=World.block_lt_of_cell? _ _ ac;first|rwa [add_block] at this|exact this) x.out))|(dsimp only;exact Nat.ne_of_lt (Nat.lt_of_lt_of_le (by have:=World.block_lt_of_cell? _ _ ac;first|rwa [add_block] at this|exact this) x.out))) _).trans (((cell_far (p:=⟨l,_,none⟩) (by first|exact Nat.ne_of_lt (Nat.lt_of_lt_of_le (by have:=World.block_lt_of_cell? _ _ ac;first|rwa [add_block] at this|exact this) x.out)|(rw [add_block];exact Nat.ne_of_lt (Nat.lt_of_lt_of_le (by have:=World.block_lt_of_cell? _ _ ac;first|rwa [add_block] at this|exact this) x.out))|(show (Addr.add _ _).block≠_;rw [add_block];exact Nat.ne_of_lt (Nat.lt_of_lt_of_le (by have:=World.block_lt_of_cell? _ _ ac;first|rwa [add_block] at this|exact this) x.out))|(dsimp only;exact Nat.ne_of_lt (Nat.lt_of_lt_of_le (by have:=World.block_lt_of_cell? _ _ ac;first|rwa [add_block] at this|exact this) x.out))) _).trans (s.2.2.2.2.1)))),((cell_far (p:=⟨l,_,none⟩) (by first|exact Nat.ne_of_lt (Nat.lt_of_lt_of_le (by have:=World.block_lt_of_cell? _ _ ab;first|rwa [add_block] at this|exact this) x.out)|(rw [add_block];exact Nat.ne_of_lt (Nat.lt_of_lt_of_le (by have:=World.block_lt_of_cell? _ _ ab;first|rwa [add_block] at this|exact this) x.out))|(show (Addr.add _ _).block≠_;rw [add_block];exact Nat.ne_of_lt (Nat.lt_of_lt_of_le (by have:=World.block_lt_of_cell? _ _ ab;first|rwa [add_block] at this|exact this) x.out))|(dsimp only;exact Nat.ne_of_lt (Nat.lt_of_lt_of_le (by have:=World.block_lt_of_cell? _ _ ab;first|rwa [add_block] at this|exact this) x.out))) _).trans (((cell_far (p:=⟨l,_,none⟩) (by first|exact Nat.ne_of_lt (Nat.lt_of_lt_of_le (by have:=World.block_lt_of_cell? _ _ ab;first|rwa [add_block] at this|exact this) x.out)|(rw [add_block];exact Nat.ne_of_lt (Nat.lt_of_lt_of_le (by have:=World.block_lt_of_cell? _ _ ab;first|rwa [add_block] at this|exact this) x.out))|(show (Addr.add _ _).block≠_;rw [add_block];exact Nat.ne_of_lt (Nat.lt_of_lt_of_le (by have:=World.block_lt_of_cell? _ _ ab;first|rwa [add_block] at this|exact this) x.out))|(dsimp only;exact Nat.ne_of_lt (Nat.lt_of_lt_of_le (by have:=World.block_lt_of_cell? _ _ ab;first|rwa [add_block] at this|exact this) x.out))) _).trans (s.2.2.2.2.2.1)))),((cell_far (p:=⟨l,_,none⟩) (by first|exact Nat.ne_of_lt (Nat.lt_of_lt_of_le (by have:=World.block_lt_of_cell? _ _ aa;first|rwa [add_block] at this|exact this) x.out)|(rw [add_block];exact Nat.ne_of_lt (Nat.lt_of_lt_of_le (by have:=World.block_lt_of_cell? _ _ aa;first|rwa [add_block] at this|exact this) x.out))|(show (Addr.add _ _).block≠_;rw [add_block];exact Nat.ne_of_lt (Nat.lt_of_lt_of_le (by have:=World.block_lt_of_cell? _ _ aa;first|rwa [add_block] at this|exact this) x.out))|(dsimp only;exact Nat.ne_of_lt (Nat.lt_of_lt_of_le (by have:=World.block_lt_of_cell? _ _ aa;first|rwa [add_block] at this|exact this) x.out))) _).trans (((cell_far (p:=⟨l,_,none⟩) (by first|exact Nat.ne_of_lt (Nat.lt_of_lt_of_le (by have:=World.block_lt_of_cell? _ _ aa;first|rwa [add_block] at this|exact this) x.out)|(rw [add_block];exact Nat.ne_of_lt (Nat.lt_of_lt_of_le (by have:=World.block_lt_of_cell? _ _ aa;first|rwa [add_block] at this|exact this) x.out))|(show (Addr.add _ _).block≠_;rw [add_block];exact Nat.ne_of_lt (Nat.lt_of_lt_of_le (by have:=World.block_lt_of_cell? _ _ aa;first|rwa [add_block] at this|exact this) x.out))|(dsimp only;exact Nat.ne_of_lt (Nat.lt_of_lt_of_le (by have:=World.block_lt_of_cell? _ _ aa;first|rwa [add_block] at this|exact this) x.out))) _).trans (s.2.2.2.2.2.2))))⟩ (fun s=>?_)
 clear hK K
 refine oP 11 none HT_ (fun K hK=>?_)
 have cw:w13.cell? ⟨m,0,none⟩=some (.int .i64 0):=(zB aj.out 0).trans rfl
 have cb:=zW aj.out 0
 have bs:=v.out
 have bt:=af.out
 have bu:=ap.out
 have bv:=am.out
 have bw:=an.out
 have bx:=ao.out
 have cx:w13.cell? ⟨m,1,none⟩=some (.int .i64 0):=(zB aj.out 1).trans rfl
 have cc:=zW aj.out 1
 have bz:=v.out
 have b0:=af.out
 have b1:=ap.out
 have b2:=am.out
 have b3:=an.out
 have b4:=ao.out
 refine zB0 (w1:=?_) (by rfl) rfl ?_ ?_
 rotate_left
 ·go_simp
  rfl
 refine hK.out _ _ ⟨((cell_far (p:=⟨m,_,none⟩) v.out _).trans (((cell_far (p:=⟨m,_,none⟩) v.out _).trans (s.1)))),((cell_far (p:=⟨m,_,none⟩) v.out _).trans (((cell_far (p:=⟨m,_,none⟩) v.out _).trans (s.2.1)))),((cell_far (p:=⟨m,_,none⟩) v.out _).trans (((cell_far (p:=⟨m,_,none⟩) v.out _).trans (s.2.2.1)))),((cell_far (p:=⟨m,_,none⟩) (by first|exact Nat.ne_of_lt (Nat.lt_of_lt_of_le (by have:=World.block_lt_of_cell? _ _ ad;first|rwa [add_block] at this|exact this) y.out)|(rw [add_block];exact Nat.ne_of_lt (Nat.lt_of_lt_of_le (by have:=World.block_lt_of_cell? _ _ ad;first|rwa [add_block] at this|exact this) y.out))|(show (Addr.add _ _).block≠_;rw [add_block];exact Nat.ne_of_lt (Nat.lt_of_lt_of_le (by have:=World.block_lt_of_cell? _ _ ad;first|rwa [add_block] at this|exact this) y.out))|(dsimp only;exact Nat.ne_of_lt (Nat.lt_of_lt_of_le (by have:=World.block_lt_of_cell? _ _ ad;first|rwa [add_block] at this|exact this) y.out))) _).trans (((cell_far (p:=⟨m,_,none⟩) (by first|exact Nat.ne_of_lt (Nat.lt_of_lt_of_le (by have:=World.block_lt_of_cell? _ _ ad;first|rwa [add_block] at this|exact this) y.out)|(rw [add_block];exact Nat.ne_of_lt (Nat.lt_of_lt_of_le (by have:=World.block_lt_of_cell? _ _ ad;first|rwa [add_block] at this|exact this) y.out))|(show (Addr.add _ _).block≠_;rw [add_block];exact Nat.ne_of_lt (Nat.lt_of_lt_of_le (by have:=World.block_lt_of_cell? _ _ ad;first|rwa [add_block] at this|exact this) y.out))|(dsimp only;exact Nat.ne_of_lt (Nat.lt_of_lt_of_le (by have:=World.block_lt_of_cell? _ _ ad;first|rwa [add_block] at this|exact this) y.out))) _).trans (s.2.2.2.1)))),((cell_far (p:=⟨m,_,none⟩) (by first|exact Nat.ne_of_lt (Nat.lt_of_lt_of_le (by have:=World.block_lt_of_cell? _ _ ac;first|rwa [add_block] at this|exact this) y.out)|(rw [add_block];exact Nat.ne_of_lt (Nat.lt_of_lt_of_le (by have:=World.block_lt_of_cell? _ _ ac;first|rwa [add_block] at this|exact this) y.out))|(show (Addr.add _ _).block≠_;rw [add_block];exact Nat.ne_of_lt (Nat.lt_of_lt_of_le (by have:=World.block_lt_of_cell? _ _ ac;first|rwa [add_block] at this|exact this) y.out))|(dsimp only;exact Nat.ne_of_lt (Nat.lt_of_lt_of_le (by have:=World.block_lt_of_cell? _ _ ac;first|rwa [add_block] at this|exact this) y.out))) _).trans (((cell_far (p:=⟨m,_,none⟩) (by first|exact Nat.ne_of_lt (Nat.lt_of_lt_of_le (by have:=World.block_lt_of_cell? _ _ ac;first|rwa [add_block] at this|exact this) y.out)|(rw [add_block];exact Nat.ne_of_lt (Nat.lt_of_lt_of_le (by have:=World.block_lt_of_cell? _ _ ac;first|rwa [add_block] at this|exact this) y.out))|(show (Addr.add _ _).block≠_;rw [add_block];exact Nat.ne_of_lt (Nat.lt_of_lt_of_le (by have:=World.block_lt_of_cell? _ _ ac;first|rwa [add_block] at this|exact this) y.out))|(dsimp only;exact Nat.ne_of_lt (Nat.lt_of_lt_of_le (by have:=World.block_lt_of_cell? _ _ ac;first|rwa [add_block] at this|exact this) y.out))) _).trans (s.2.2.2.2.1)))),((cell_far (p:=⟨m,_,none⟩) (by first|exact Nat.ne_of_lt (Nat.lt_of_lt_of_le (by have:=World.block_lt_of_cell? _ _ ab;first|rwa [add_block] at this|exact this) y.out)|(rw [add_block];exact Nat.ne_of_lt (Nat.lt_of_lt_of_le (by have:=World.block_lt_of_cell? _ _ ab;first|rwa [add_block] at this|exact this) y.out))|(show (Addr.add _ _).block≠_;rw [add_block];exact Nat.ne_of_lt (Nat.lt_of_lt_of_le (by have:=World.block_lt_of_cell? _ _ ab;first|rwa [add_block] at this|exact this) y.out))|(dsimp only;exact Nat.ne_of_lt (Nat.lt_of_lt_of_le (by have:=World.block_lt_of_cell? _ _ ab;first|rwa [add_block] at this|exact this) y.out))) _).trans (((cell_far (p:=⟨m,_,none⟩) (by first|exact Nat.ne_of_lt (Nat.lt_of_lt_of_le (by have:=World.block_lt_of_cell? _ _ ab;first|rwa [add_block] at this|exact this) y.out)|(rw [add_block];exact Nat.ne_of_lt (Nat.lt_of_lt_of_le (by have:=World.block_lt_of_cell? _ _ ab;first|rwa [add_block] at this|exact this) y.out))|(show (Addr.add _ _).block≠_;rw [add_block];exact Nat.ne_of_lt (Nat.lt_of_lt_of_le (by have:=World.block_lt_of_cell? _ _ ab;first|rwa [add_block] at this|exact this) y.out))|(dsimp only;exact Nat.ne_of_lt (Nat.lt_of_lt_of_le (by have:=World.block_lt_of_cell? _ _ ab;first|rwa [add_block] at this|exact this) y.out))) _).trans (s.2.2.2.2.2.1)))),((cell_far (p:=⟨m,_,none⟩) (by first|exact Nat.ne_of_lt (Nat.lt_of_lt_of_le (by have:=World.block_lt_of_cell? _ _ aa;first|rwa [add_block] at this|exact this) y.out)|(rw [add_block];exact Nat.ne_of_lt (Nat.lt_of_lt_of_le (by have:=World.block_lt_of_cell? _ _ aa;first|rwa [add_block] at this|exact this) y.out))|(show (Addr.add _ _).block≠_;rw [add_block];exact Nat.ne_of_lt (Nat.lt_of_lt_of_le (by have:=World.block_lt_of_cell? _ _ aa;first|rwa [add_block] at this|exact this) y.out))|(dsimp only;exact Nat.ne_of_lt (Nat.lt_of_lt_of_le (by have:=World.block_lt_of_cell? _ _ aa;first|rwa [add_block] at this|exact this) y.out))) _).trans (((cell_far (p:=⟨m,_,none⟩) (by first|exact Nat.ne_of_lt (Nat.lt_of_lt_of_le (by have:=World.block_lt_of_cell? _ _ aa;first|rwa [add_block] at this|exact this) y.out)|(rw [add_block];exact Nat.ne_of_lt (Nat.lt_of_lt_of_le (by have:=World.block_lt_of_cell? _ _ aa;first|rwa [add_block] at this|exact this) y.out))|(show (Addr.add _ _).block≠_;rw [add_block];exact Nat.ne_of_lt (Nat.lt_of_lt_of_le (by have:=World.block_lt_of_cell? _ _ aa;first|rwa [add_block] at this|exact this) y.out))|(dsimp only;exact Nat.ne_of_lt (Nat.lt_of_lt_of_le (by have:=World.block_lt_of_cell? _ _ aa;first|rwa [add_block] at this|exact this) y.out))) _).trans (s.2.2.2.2.2.2))))⟩ (fun s=>?_)
 clear hK K
 refine zBZ (zA8 HT_.out (by kernel_rfl)) ?_
 have cd:=am.out
 have ce:=v.out
 have cf:=an.out
 have cg:=af.out
 have ch:=ao.out
 have ci:=ap.out
 obtain ⟨_,_,_,_⟩:=xC2 aj.out
 have cj:=a6.out
 have ck:=a7.out
 have cl:=u.out
 have cm:=ak.out
 obtain ⟨_,_,_,_,_,_⟩:=xC3 b.out
 have cn:=al.out
 have co:=ae.out
 obtain ⟨_,_,_,_⟩:=xC2 ai.out
 try go_wp2_with (first|((with_reducible refine zH (f:=53) rfl ?_);refine gL (some 36) Try.func53 #[.agg #[.int .i64 ((zG d a1).f0.f0),.int .i64 ((zG d a1).f0.f1)],.agg #[.int .i64 (wrap64 (ag - (wrap64 (ax - ((zG d a1).f0.f1))))),.int .i64 (wrap64 (ah - (wrap64 (aw - ((zG d a1).f0.f0)))))]] ?_;(with_reducible refine (zh.calls ((zG d a1).f0.f0) ((zG d a1).f0.f1) (wrap64 (ag - (wrap64 (ax - ((zG d a1).f0.f1))))) (wrap64 (ah - (wrap64 (aw - ((zG d a1).f0.f0))))) a5 a9 bf _ A6.out).mono ?_);rintro e w27 ⟨rfl,hb⟩;refine ⟨_,rfl,?_⟩;replace b:=qK (zT (g:=c) (o:=.cells #[.slice (some a) d.length aq,.int .i64 ag,.int .i64 ah] 26 (0,0)) (by (repeat with_reducible first|apply zD|apply zF|apply zC);refine zO ?_ v.out _;(repeat with_reducible first|apply zD|apply zF|apply zC);refine zO ?_ v.out _;(repeat with_reducible first|apply zD|apply zF|apply zC);refine zO ?_ u.out _;(repeat with_reducible first|apply zD|apply zF|apply zC);refine zO ?_ u.out _;(repeat with_reducible first|apply zD|apply zF|apply zC);exact b.out) hb);replace q:=qK (zT (g:=r) (o:=.cells #[.int .i64 0,.int .i64 0] 24 (0,0)) (by (repeat with_reducible first|apply zD|apply zF|apply zC);refine zO ?_ af.out _;(repeat with_reducible first|apply zD|apply zF|apply zC);refine zO ?_ af.out _;(repeat with_reducible first|apply zD|apply zF|apply zC);refine zO ?_ ae.out _;(repeat with_reducible first|apply zD|apply zF|apply zC);refine zO ?_ ae.out _;(repeat with_reducible first|apply zD|apply zF|apply zC);exact q.out) hb);replace ai:=qK (zT (g:=l) (o:=.cells #[.int .i64 aw,.int .i64 ax] 24 (0,0)) (by (repeat with_reducible first|apply zD|apply zF|apply zC);refine zO ?_ ap.out _;(repeat with_reducible first|apply zD|apply zF|apply zC);refine zO ?_ ap.out _;(repeat with_reducible first|apply zD|apply zF|apply zC);refine zP (cs:=#[.int .i64 aw,.int .i64 0]) ?_ 1 _ rfl;(repeat with_reducible first|apply zD|apply zF|apply zC);refine zP (cs:=#[.int .i64 0,.int .i64 0]) ?_ 0 _ rfl;(repeat with_reducible first|apply zD|apply zF|apply zC);exact ai.out) hb);replace aj:=qK (zT (g:=m) (o:=.cells #[.int .i64 ((zG d a1).f0.f0),.int .i64 ((zG d a1).f0.f1)] 24 (0,0)) (by (repeat with_reducible first|apply zD|apply zF|apply zC);refine zP (cs:=#[.int .i64 ((zG d a1).f0.f0),.int .i64 0]) ?_ 1 _ rfl;(repeat with_reducible first|apply zD|apply zF|apply zC);refine zP (cs:=#[.int .i64 0,.int .i64 0]) ?_ 0 _ rfl;(repeat with_reducible first|apply zD|apply zF|apply zC);refine zO ?_ ao.out _;(repeat with_reducible first|apply zD|apply zF|apply zC);refine zO ?_ ao.out _;(repeat with_reducible first|apply zD|apply zF|apply zC);exact aj.out) hb);replace HB:=hQ hb;obtain ⟨_,_,_,_⟩:=xC2 ai.out;obtain ⟨_,_,_,_⟩:=xC2 q.out))
 refine bodyPost_ret (results_cell_row rfl _ _ r 24 #[.int .i64 a5,.int .i64 a9] (0,0) _ rfl (by (repeat with_reducible first|apply zD|apply zF|apply zC);refine zP (cs:=#[.int .i64 a5,.int .i64 0]) ?_ 1 _ rfl;(repeat with_reducible first|apply zD|apply zF|apply zC);refine zP (cs:=#[.int .i64 0,.int .i64 0]) ?_ 0 _ rfl;(repeat with_reducible first|apply zD|apply zF|apply zC);refine zO ?_ ae.out _;(repeat with_reducible first|apply zD|apply zF|apply zC);refine zO ?_ ae.out _;(repeat with_reducible first|apply zD|apply zF|apply zC);exact q.out) Try.underlying24 rfl (by kernel_rfl)) rfl ?_
 exact ⟨eA,bA⟩
end Go.Proofs.Ythimaecnpkcmeaa.K
