/- Contracts of Go functions and lemmas for them: each theorem states what one function returns and what it leaves of memory; its conditions stand in its statement. -/
import Derived.BigQuiet
import Derived.Deep.QuietTactic
import Derived.Laws.BitsLemmas
import Derived.LoopIn
import Derived.LoopNIn
import Derived.Maps.AppendAt
import Derived.OrdersIn
import Derived.OwnWalkIn
import Derived.RangeFuncBound
import Derived.RangeFuncCalls
import Derived.RangeFuncLeaves
import Derived.RangeFuncNested
import Derived.Shelf.Abstract
import Derived.Shelf.AbstractIn
import Derived.Shelf.RegionOpen
import Derived.TacticsInMore
import Derived.Test.YthimaecnpkcmeaaA3
import Derived.Test.YthimaecnpkcmeaaA4
import Derived.Test.YthimaecnpkcmeaaA9
import Derived.Test.YthimaecnpkcmeaaA11
import Derived.Test.YthimaecnpkcmeaaA14
import Derived.Test.YthimaecnpkcmeaaA15
set_option linter.unusedVariables false
set_option linter.unusedSimpArgs false
namespace Go.Proofs.Ythimaecnpkcmeaa.K
open Go.RowKit Go.Proofs.YthimaecnpkcmeaaW.PrintWords Go.Proofs.YthimaecnpkcmeaaW.PrintLast Go.Proofs.YthimaecnpkcmeaaW.PrintMore
attribute [local go_sem] max2_int min2_int max_two min_two max_three min_three max_four min_four   -- for this text's walks alone
set_option linter.unusedVariables false
set_option linter.unusedSimpArgs false
def orders_Best1.f (k:Nat) (l0:List S50) (a1 a2:Int) (width:Int) (items:List Int):Option Bool:=(orders_worst.f k l0 a1 a2 items).bind fun r=>some (decide (r≤width))
def orders_Best1.T1:Bool × List (List Nat × List Nat):=(true,[([],[]),([],[]),([0,1],[0,1]),([],[]),([2,3],[2,3]),([4,2,0,1,2,3,4],[4])])
def orders_Best1.B1:List Nat:=[0,0,3,0,15,31]
theorem orders_Best1.tab1:rtab .any (opsOf Try.f72 1)=orders_Best1.T1:=by kernel_rfl
theorem orders_Best1.bits1:waitsOk orders_Best1.T1.2 orders_Best1.B1=true:=by kernel_rfl
set_option maxHeartbeats 4000000 in
set_option maxRecDepth 100000 in
theorem orders_Best1.calls (k:Nat) (A0:Option Addr) (c0:Nat) (l0:List S50) (a1 a2:Int) (width:Int) (g gw:Nat) (A1:Option Addr) (c1:Nat) (x:List Int) (z:Bool) (w:World)
 (hg:w.heap[g]? = some (.cells #[.slice A0 l0.length c0,.int .i64 a1,.int .i64 a2] 26 (0,0))) (hgw:w.heap[gw]? = some (.cells #[.int .i64 width] 3 (0,0))) (hr0:Kd.C k50 w A0 l0.length l0) (hc0:l0.length≤c0) (hr1:Kd.C (Kd.int .i64) w A1 x.length x) (hc1:x.length≤c1) (h:orders_Best1.f k l0 a1 a2 width x=some z) :
 Calls Try.prog 72 #[.slice A1 x.length c1,.pointer (some ⟨g,0,none⟩),.pointer (some ⟨gw,0,none⟩)] w fun e w'=>e= .returned (.bool z)∧Below w.heap.size w w':=by
 have hu26:=Try.underlying26
 unfold orders_Best1.f at h
 obtain ⟨a,ha,h⟩:=Option.bind_eq_some_iff.1 h
 have hz:=Option.some.inj h
 have HA:=Aside0.mk ha
 have HZ:=Aside0.mk hz
 have HG:=Aside0.mk hg
 have HGW:=Aside0.mk hgw
 have HR0:=Aside0.mk hr0
 have HR1:=Aside0.mk hr1
 clear h ha hz hg hgw hr0 hr1
 go_enter Try.func72,Try.ntmps72
 go_wp2
 have n1:=Aside0.mk (below_drew1 (Below.refl w.heap.size w))
 have n2:=Aside0.mk (blk_drew HG.out)
 have n3:=Aside0.mk (blk_drew HGW.out)
 refine start_ (n:=6) (S:=fun w'=>w'.cell? ⟨g,0,none⟩=some (.slice A0 l0.length c0)∧w'.cell? ⟨g,1,none⟩=some (.int .i64 a1)∧w'.cell? ⟨g,2,none⟩=some (.int .i64 a2)∧w'.cell? ⟨gw,0,none⟩=some (.int .i64 width)) (ds:=[]) #[false,false,false,false,false,false] (by kernel_rfl) rfl rfl ⟨(blk_cell n2.out 0).trans rfl,(blk_cell n2.out 1).trans rfl,(blk_cell n2.out 2).trans rfl,(blk_cell n3.out 0).trans rfl⟩ (fun hHeld=>?_)
 refine with_tabW orders_Best1.tab1 orders_Best1.bits1 (fun HT_ HW_=>?_)
 generalize w.drew=w0 at n1 n2 n3 hHeld ⊢
 refine pP 1 (some 6) HT_ ?_
 refine tP 0 (some 5) HT_ HW_ hHeld ?_
 refine tP 3 (some 8) HT_ HW_ hHeld ?_
 refine oP 2 (some 7) HT_ (fun K hK=>?_)
 refine gO Try.func58 #[.agg #[.slice A0 l0.length c0,.int .i64 a1,.int .i64 a2],.slice A1 x.length c1] ?_
 with_reducible refine (orders_worst.calls k A0 c0 l0 a1 a2 A1 c1 x a _ (Kd.C_below HR0.out n1.out) hc0 (Kd.C_below HR1.out n1.out) hc1 HA.out).mono ?_
 rintro e w1 ⟨rfl,hb⟩
 refine ⟨_,rfl,?_⟩
 have p1:=Aside0.mk (below_step n1.out hb)
 have p2:=Aside0.mk (blk_below n2.out hb)
 have p3:=Aside0.mk (blk_below n3.out hb)
 clear hb
 refine hK.out _ _ ⟨(blk_cell p2.out 0).trans rfl,(blk_cell p2.out 1).trans rfl,(blk_cell p2.out 2).trans rfl,(blk_cell p3.out 0).trans rfl⟩ (fun hHeld=>?_)
 clear hK K
 refine nP ?_
 refine pP 4 (some 9) HT_ ?_
 refine pP 5 (some 4) HT_ ?_
 refine done_ (done_of HT_.out (by kernel_rfl)) ?_
 go_wp2
 go_ret
 exact ⟨by rw [← HZ.out];rfl,p1.out⟩
def orders_Best.f (k:Nat) (l0_0:List (S50)) (a0_1:Int) (a0_2:Int) (a1:Int):Option (List Int × Bool × Int) :=
 (orders_Check.f k l0_0 a0_1 a0_2).bind fun e=>if e=0 then (if a1 < 0 then some ([],false,1) else if l0_0.length≤40 then (leastFold (orders_Best1.f k l0_0 a0_1 a0_2 a1) (orders_cheapest1.f k l0_0 a0_1 a0_2) (subsets l0_0.length) ([],false)).bind fun r=>some (r.1,r.2,0) else none) else some ([],false,e)
set_option maxHeartbeats 4000000 in
set_option maxRecDepth 100000 in
theorem orders_Best.calls (k:Nat) (A0_0:Option Addr) (c0_0:Nat) (l0_0:List (S50)) (a0_1:Int) (a0_2:Int) (a1:Int) (r1:List Int) (r2:Bool) (r3:Int) (w:World) (hr0_0:Kd.C k50 w A0_0 l0_0.length l0_0) (hc0_0:l0_0.length≤c0_0) (h:orders_Best.f k l0_0 a0_1 a0_2 a1=some (r1,r2,r3)) :
 Calls Try.prog 39 #[.agg #[.slice A0_0 l0_0.length c0_0,.int .i64 a0_1,.int .i64 a0_2],.int .i64 a1] w fun e w'=>∃ v0_:Value,e= .returned (.tuple #[v0_,.bool r2,.int .i64 r3])∧Kd.R (Kd.int .i64) 3 w' w.heap.size (fun _=>True) v0_ r1∧Below w.heap.size w w':=by
 have hu26:=Try.underlying26
 have hu100:=Try.underlying100
 unfold orders_Best.f at h
 obtain ⟨er,he,h⟩:=Option.bind_eq_some_iff.1 h
 have HR0:=Aside0.mk hr0_0
 have HE:=Aside0.mk he
 have ec : ∀ args w,(callFunc 72 args).run Try.prog w= .ok (.enter 72 args) w:=enters_of Try.func72 (by kernel_rfl) rfl
 have EC:=Aside0.mk ec
 clear he hr0_0 ec
 have hcells : ∀ W:World,Below ((w.alloc (.cells #[.slice A0_0 l0_0.length c0_0,.int .i64 a0_1,.int .i64 a0_2] 26)).alloc (.cells #[.int .i64 a1] 3)).heap.size ((w.alloc (.cells #[.slice A0_0 l0_0.length c0_0,.int .i64 a0_1,.int .i64 a0_2] 26)).alloc (.cells #[.int .i64 a1] 3)) W →
  Below w.heap.size w W∧W.heap[w.heap.size]? = some (.cells #[.slice A0_0 l0_0.length c0_0,.int .i64 a0_1,.int .i64 a0_2] 26 (0,0))∧W.heap[w.heap.size+1]? = some (.cells #[.int .i64 a1] 3 (0,0)):=by
  intro W hW
  refine ⟨below_step (below_alloc (below_alloc (Below.refl _ _) _) _) hW,blk_below (blk_alloc (blk_new _ _) _) hW,?_⟩
  have:=blk_new (w.alloc (.cells #[.slice A0_0 l0_0.length c0_0,.int .i64 a0_1,.int .i64 a0_2] 26)) (.cells #[.int .i64 a1] 3)
  rw [World.size_alloc] at this
  exact blk_below this hW
 have HCL:=Aside0.mk hcells
 clear hcells
 go_enter Try.func39,Try.ntmps39
 by_cases h1:er=0
 rotate_left
 ·rw [if_neg h1] at h
  have hd1:(er != 0)=true:=bne_iff_ne.mpr h1
  simp only [Option.some.injEq,Prod.mk.injEq] at h
  obtain ⟨rfl,rfl,rfl⟩:=h
  go_wp2_with (go_at_call 45;refine (orders_Check.calls k A0_0 c0_0 l0_0 a0_1 a0_2 er _ (Kd.C_below HR0.out (below_alloc (below_alloc (Below.refl _ _) _) _)) hc0_0 HE.out).mono ?_;rintro e W ⟨rfl,hb⟩;obtain ⟨hb0,hbe,hbw⟩:=HCL.out _ hb;have n1:=Aside0.mk hb0;clear hb hb0 hbe hbw)
  go_ret3
  exact ⟨_,rfl,Kd.R_nil _ _ _ _ _,n1.out⟩
 rw [if_pos h1] at h
 by_cases h2:a1 < 0
 ·rw [if_pos h2] at h
  have hd2:decide (a1 < 0)=true:=decide_eq_true h2
  simp only [Option.some.injEq,Prod.mk.injEq] at h
  obtain ⟨rfl,rfl,rfl⟩:=h
  subst h1
  go_wp2_with (go_at_call 45;refine (orders_Check.calls k A0_0 c0_0 l0_0 a0_1 a0_2 0 _ (Kd.C_below HR0.out (below_alloc (below_alloc (Below.refl _ _) _) _)) hc0_0 HE.out).mono ?_;rintro e W ⟨rfl,hb⟩;obtain ⟨hb0,hbe,hbw⟩:=HCL.out _ hb;have n1:=Aside0.mk hb0;have hcw:W.cell? ⟨w.heap.size+1,0,none⟩=some (.int .i64 a1):=(blk_cell hbw 0).trans rfl;clear hb hb0 hbe hbw)
  go_ret3
  exact ⟨_,rfl,Kd.R_nil _ _ _ _ _,n1.out⟩
 rw [if_neg h2] at h
 have hd2:decide (a1 < 0)=false:=decide_eq_false h2
 split at h
 case isFalse=>cases h
 case isTrue hn =>
 obtain ⟨⟨q1,q2⟩,hq,h⟩:=Option.bind_eq_some_iff.1 h
 simp only [Option.some.injEq,Prod.mk.injEq] at h
 obtain ⟨rfl,rfl,rfl⟩:=h
 subst h1
 have HQ:=Aside0.mk hq
 have HN:=Aside0.mk hn
 clear hq hn h2
 go_wp2_with (first
  | (go_at_call 45;refine (orders_Check.calls k A0_0 c0_0 l0_0 a0_1 a0_2 0 _ (Kd.C_below HR0.out (below_alloc (below_alloc (Below.refl _ _) _) _)) hc0_0 HE.out).mono ?_;rintro e W ⟨rfl,hb⟩;obtain ⟨hb0,hbe,hbw⟩:=HCL.out _ hb;have n1:=Aside0.mk hb0;have n2:=Aside0.mk hbe;have n3:=Aside0.mk hbw;have hce0:W.cell? ⟨w.heap.size,0,none⟩=some (.slice A0_0 l0_0.length c0_0):=(blk_cell hbe 0).trans rfl;have hce1:W.cell? ⟨w.heap.size,1,none⟩=some (.int .i64 a0_1):=(blk_cell hbe 1).trans rfl;have hce2:W.cell? ⟨w.heap.size,2,none⟩=some (.int .i64 a0_2):=(blk_cell hbe 2).trans rfl;have hcw:W.cell? ⟨w.heap.size+1,0,none⟩=some (.int .i64 a1):=(blk_cell hbw 0).trans rfl;clear hb hb0 hbe hbw)
  | (go_at_call 59;refine (cheapest_calls k A0_0 c0_0 l0_0 a0_1 a0_2 72 #[.pointer (some ⟨w.heap.size,0,none⟩),.pointer (some ⟨w.heap.size+1,0,none⟩)] (orders_Best1.f k l0_0 a0_1 a0_2 a1) q1 q2 _ HN.out (Kd.C_below HR0.out n1.out) hc0_0 EC.out (fun l b A c W2 h1 h2 h3 h4=>by have hh:=orders_Best1.calls k A0_0 c0_0 l0_0 a0_1 a0_2 a1 w.heap.size (w.heap.size+1) A c l b W2 (blk_below n2.out h2) (blk_below n3.out h2) (Kd.C_below HR0.out (n1.out.trans (h2.mono n1.out.size))) hc0_0 h3 h4 h1;simpa using hh) HQ.out).mono ?_;rintro e W2 ⟨v,rfl,hR,hb⟩;have HRR:=Aside0.mk (Kd.R_lower hR n1.out.size);have m1:=Aside0.mk (below_step n1.out hb);clear hR hb))
 go_ret3
 exact ⟨v,rfl,HRR.out,m1.out⟩
end Go.Proofs.Ythimaecnpkcmeaa.K
namespace Go.Proofs.Ythimaecnpkcmeaa.K
open Go.RowKit Go.Proofs.YthimaecnpkcmeaaW.PrintWords Go.Proofs.YthimaecnpkcmeaaW.PrintLast Go.Proofs.YthimaecnpkcmeaaW.PrintMore
attribute [local go_sem] max2_int min2_int max_two min_two max_three min_three max_four min_four   -- for this text's walks alone
set_option linter.unusedVariables false
set_option linter.unusedSimpArgs false
open Go.Shelf
attribute [local go_sem] Oper.semAt_some
def noDefer (ops:Array Oper):Bool:=ops.all fun o=>match o.op with| .defer _=>false|_=>true
theorem noDefer_spec {ops:Array Oper} (h:noDefer ops=true) {i:Nat} {o:Oper} (hi:ops[i]? = some o) (c:Call):o.op≠.defer c:=by
 obtain ⟨hlt,hio⟩:=Array.getElem?_eq_some_iff.1 hi
 have:=Array.all_eq_true.1 h i hlt
 rw [hio] at this
 intro e
 rw [e] at this
 cases this
theorem rowsIn_wide {n:Nat} {P:Program} {row:String} {args:Array Value} {w:World} {R:Value→World→Prop} (h:Rows P row args w R):RowsIn Fence.wide n P row args w R :=
 fun c cs _=>let ⟨v,w',r,s⟩:=h c cs;⟨v,w',r,stepsIn_wide.2 s⟩
theorem oper_inRound {l n:Nat} {P:Program} {o:Oper} {a:Act} {w:World} {next:Act→World→Prop} {Q:Exit→Act→World→Prop} (hd : ∀ c,o.op≠.defer c) (h:o.wp P a w next Q):o.wpIn (Fence.wide.inRound l) n P a w next Q:=by
 refine ⟨fun _ _=>trivial,?_⟩
 rw [show (Fence.wide.inRound l).round=some l from rfl,Oper.semAt_eq _ _ _ hd]
 unfold Oper.wp at h
 cases hr:(execOp a.eval o).run P w with
 | ok x w' =>
  rw [hr] at h
  cases x with
  | value v=>exact h
  | skip=>exact h
  | defer d=>exact h
  | enter f args=>exact ⟨fun e=>by simp [Fence.wide] at e,CallsIn.inRound l (callsIn_wide.2 h)⟩
  | row row args=>exact ⟨fun e=>by simp [Fence.wide] at e,rowsIn_wide h⟩
  | _=>exact h.elim
 | halt x w' =>
  rw [hr] at h
  cases x with
  | panic v=>exact h
  | _=>exact h.elim
theorem wpAnyIn_of_wpAny {l n:Nat} {P:Program} {md:Region.Mode} {ops:Array Oper} {Q:Exit→Act→World→Prop} (hd:noDefer ops=true) (hQ : ¬ LetsOut Q) : ∀ (fuel:Nat) (listed:Array Bool) (a:Act) (w:World),
 wpAny P md ops Q fuel listed a w→wpAnyIn (Fence.wide.inRound l) n P md ops Q fuel listed a w
 | 0,_,_,_,h=>h
 | fuel+1,listed,a,w,h=>⟨h.1,fun i hi=>by
  have h2:=h.2 i hi
  unfold wpOp at h2
  unfold wpOpIn
  cases ho:ops[i]? with
  | none=>rw [ho] at h2;exact wpAnyIn_of_wpAny hd hQ fuel _ _ _ h2
  | some o =>
   rw [ho] at h2
   simp only at h2 ⊢
   by_cases hw:Region.wanted o (yielded ops a.tmps)=true
   ·rw [if_pos hw] at h2 ⊢
    rcases h2 with h2|h2
    ·exact Oper.wpIn_mono (fun a w=>wpAnyIn_of_wpAny hd hQ fuel _ a w) (oper_inRound (noDefer_spec hd ho) h2)
    ·exact absurd h2.2 hQ
   ·rw [if_neg hw] at h2 ⊢
    exact ⟨fun _ _=>trivial,wpAnyIn_of_wpAny hd hQ fuel _ _ _ h2⟩⟩
theorem startR_ {P:Program} {ops:Array Oper} {Q:Exit→Act→World→Prop} {S:World→Prop} {ds:List Nat} {id n l m:Nat} {a:Act} {w:World} (b:Array Bool) (hm:P.follows .mixedOrders=true) (hn:ops.size=n) (hl:Array.replicate n false=b) (hd:noDefer ops=true) (hQ : ¬ LetsOut Q) (hS:S w.drew)
 (h:S w.drew→wpAnyLast P .any ops Q S ds n b a w.drew):(Code.region id ops true).wpIn (Fence.wide.inRound l) m P Q a w:=by
 subst hn
 subst hl
 exact wpIn_region_any hm (wpAnyIn_of_wpAny hd hQ _ _ _ _ (wpAny_of_last _ _ _ _ (h hS)))
def stepsStep (k:Nat) (l0:List S50) (a1 a2:Int) (x:List Int):Option S64:=(orders_cost.f k l0 a1 a2 x).bind fun a=>(orders_worst.f k l0 a1 a2 x).bind fun b=>some ⟨a,wrap64 (-b)⟩
def stepsAll (k:Nat) (l0:List S50) (a1 a2:Int):List (List Int)→Option (List S64)
 | []=>some []
 | x :: xs=>(stepsStep k l0 a1 a2 x).bind fun p=>(stepsAll k l0 a1 a2 xs).bind fun ps=>some (p :: ps)
theorem stepsAll_length (k:Nat) (l0:List S50) (a1 a2:Int) : ∀ xs ps,stepsAll k l0 a1 a2 xs=some ps→ps.length=xs.length
 | [],ps,h=>by cases h;rfl
 | x :: xs,ps,h=>by
  unfold stepsAll at h
  obtain ⟨p,_,h⟩:=Option.bind_eq_some_iff.1 h
  obtain ⟨qs,hq,h⟩:=Option.bind_eq_some_iff.1 h
  cases h
  simp [stepsAll_length k l0 a1 a2 xs qs hq]
theorem stepsAll_append (k:Nat) (l0:List S50) (a1 a2:Int) : ∀ xs ys,stepsAll k l0 a1 a2 (xs ++ ys)=(stepsAll k l0 a1 a2 xs).bind fun a=>(stepsAll k l0 a1 a2 ys).bind fun b=>some (a ++ b)
 | [],ys=>by
  cases h:stepsAll k l0 a1 a2 ys <;> simp [stepsAll,h]
 | x :: xs,ys=>by
  simp only [List.cons_append,stepsAll,stepsAll_append k l0 a1 a2 xs ys]
  cases stepsStep k l0 a1 a2 x <;> cases stepsAll k l0 a1 a2 xs <;> cases stepsAll k l0 a1 a2 ys <;> rfl
theorem R64_putObj {W:World} {l b:Nat} {v:Value} {xs:List S64} {o o':Obj} (h:Kd.R k64 64 W b (fun _=>True) v xs) (hl:W.heap[l]? = some o) (ho:o.isCells=false):Kd.R k64 64 (W.putObj l o') b (fun _=>True) v xs:=by
 refine Kd.R_mono (Kd.R_step (Kd.R_tight rfl h) (fun k hk _=>World.putObj_heap_other (fun e=>?_))) (fun _ _=>trivial)
 subst e
 obtain ⟨cells,hc⟩:=Kd.R_typed h k hk.symm
 rw [hc] at hl
 cases hl
 simp [Obj.isCells] at ho
def stepsInv (k:Nat) (A0:Option Addr) (c0:Nat) (l0:List S50) (a1 a2:Int) (w:World) (gE g5 gl:Nat) (pre:List (List Int × Value)) (W:World):Prop :=
 Below w.heap.size w W∧W.heap[gE]? = some (.cells #[.slice A0 l0.length c0,.int .i64 a1,.int .i64 a2] 26 (0,0))∧W.heap[gl]? = some (.cells #[.int .i64 (l0.length:Int)] 3 (0,0))∧pre.map Prod.fst=(subsets l0.length).take pre.length ∧
  ∃ (ps:List S64) (v:Value),stepsAll k l0 a1 a2 (pre.map Prod.fst)=some ps∧W.heap[g5]? = some (.cells #[v] 63 (0,0))∧Kd.R k64 64 W w.heap.size (fun _=>True) v ps
def stepsNeg (p:S64):S64:=⟨p.f0,wrap64 (-p.f1)⟩
def orders_Steps.f (k:Nat) (l0_0:List S50) (a0_1:Int) (a0_2:Int):Option (List S64 × Int) :=
 (orders_Check.f k l0_0 a0_1 a0_2).bind fun e=>if e=0 then (if l0_0.length≤40 then (stepsAll k l0_0 a0_1 a0_2 (subsets l0_0.length)).bind fun l=>(orders_front.f k l).bind fun r=>some (r.1.map stepsNeg,0) else none) else some ([],e)
def orders_Steps.T7:Bool × List (List Nat × List Nat):=(true,[([],[]),([],[]),([],[]),([1,2],[1,2]),([],[]),([],[]),([4,5,3],[4,5]),([6],[6]),([3,7],[3,7]),([8],[8]),([0,9,6],[0,9]),([10,10,0,1,2,3,4,5,6,7,8,9,10],[10])])
def orders_Steps.B7:List Nat:=[0,0,0,6,0,0,62,126,254,510,1023,2047]
theorem orders_Steps.tab7:rtab .any (opsOf Try.f40 7)=orders_Steps.T7:=by kernel_rfl
theorem orders_Steps.bits7:waitsOk orders_Steps.T7.2 orders_Steps.B7=true:=by kernel_rfl
def orders_Steps.T12:Bool × List (List Nat × List Nat):=(true,[([],[]),([],[]),([],[]),([],[]),([2,3],[2,3]),([4],[4]),([5],[5]),([6],[6]),([0,1],[0,1]),([8,0,1,2,3,4,5,6,7],[8]),([9,7,0,1,2,3,4,5,6,7],[7,9])])
def orders_Steps.B12:List Nat:=[0,0,0,0,12,28,60,124,3,511,1023]
theorem orders_Steps.tab12:rtab .any (opsOf Try.f40 12)=orders_Steps.T12:=by kernel_rfl
theorem orders_Steps.bits12:waitsOk orders_Steps.T12.2 orders_Steps.B12=true:=by kernel_rfl
set_option maxHeartbeats 4000000 in
set_option maxRecDepth 100000 in
theorem orders_Steps.calls (k:Nat) (A0_0:Option Addr) (c0_0:Nat) (l0_0:List S50) (a0_1:Int) (a0_2:Int) (r1:List S64) (r2:Int) (w:World) (hr0_0:Kd.C k50 w A0_0 l0_0.length l0_0) (hc0_0:l0_0.length≤c0_0) (h:orders_Steps.f k l0_0 a0_1 a0_2=some (r1,r2)) :
 Calls Try.prog 40 #[.agg #[.slice A0_0 l0_0.length c0_0,.int .i64 a0_1,.int .i64 a0_2]] w fun e w'=>∃ v0_:Value,e= .returned (.tuple #[v0_,.int .i64 r2])∧Kd.R k64 64 w' w.heap.size (fun _=>True) v0_ r1∧Below w.heap.size w w':=by
 have hu26:=Try.underlying26
 unfold orders_Steps.f at h
 obtain ⟨er,he,h⟩:=Option.bind_eq_some_iff.1 h
 have HR0:=Aside0.mk hr0_0
 have HE:=Aside0.mk he
 clear he hr0_0
 have hcells : ∀ W:World,Below (w.alloc (.cells #[.slice A0_0 l0_0.length c0_0,.int .i64 a0_1,.int .i64 a0_2] 26)).heap.size (w.alloc (.cells #[.slice A0_0 l0_0.length c0_0,.int .i64 a0_1,.int .i64 a0_2] 26)) W →
  Below w.heap.size w W∧W.heap[w.heap.size]? = some (.cells #[.slice A0_0 l0_0.length c0_0,.int .i64 a0_1,.int .i64 a0_2] 26 (0,0)):=by
  intro W hW
  exact ⟨below_step (below_alloc (Below.refl _ _) _) hW,blk_below (blk_new _ _) hW⟩
 have HCL:=Aside0.mk hcells
 clear hcells
 by_cases h1:er=0
 rotate_left
 ·rw [if_neg h1] at h
  have hd1:(er != 0)=true:=bne_iff_ne.mpr h1
  simp only [Option.some.injEq,Prod.mk.injEq] at h
  obtain ⟨rfl,rfl⟩:=h
  go_enter Try.func40,Try.ntmps40
  go_wp2_with (go_at_call 45;refine (orders_Check.calls k A0_0 c0_0 l0_0 a0_1 a0_2 er _ (Kd.C_below HR0.out (below_alloc (Below.refl _ _) _)) hc0_0 HE.out).mono ?_;rintro e W ⟨rfl,hb⟩;obtain ⟨hb0,hbe⟩:=HCL.out _ hb;have n1:=Aside0.mk hb0;clear hb hb0 hbe)
  go_ret2
  exact ⟨_,rfl,Kd.R_nil _ _ _ _ _,n1.out⟩
 subst h1
 rw [if_pos rfl] at h
 split at h
 case isFalse=>cases h
 case isTrue hn =>
 obtain ⟨la,hla,h⟩:=Option.bind_eq_some_iff.1 h
 obtain ⟨⟨f1,f2⟩,hfr,h⟩:=Option.bind_eq_some_iff.1 h
 simp only [Option.some.injEq,Prod.mk.injEq] at h
 obtain ⟨rfl,rfl⟩:=h
 have HN:=Aside0.mk hn
 have HLA:=Aside0.mk hla
 have HFR:=Aside0.mk hfr
 clear hn hla hfr
 refine (callsIn_wide (n:=3)).1 ?_
 refine callsIn_of_wp_marks Try.func40 rfl trivial ?_ rfl
 simp only [Try.ntmps40,List.size_toArray,List.length_cons,List.length_nil,Nat.reduceAdd,Nat.reduceSub,Array.replicate_succ,Array.replicate_zero,List.push_toArray,List.append_toArray,List.nil_append,List.cons_append]
 gi_wp2
 refine ⟨trivial,?_⟩
 refine (callsIn_wide.2 (orders_Check.calls k A0_0 c0_0 l0_0 a0_1 a0_2 0 _ (Kd.C_below HR0.out (below_alloc (Below.refl _ _) _)) hc0_0 HE.out)).mono ?_
 rintro e W ⟨rfl,hb⟩
 obtain ⟨hb0,hbe⟩:=HCL.out _ hb
 have n1:=Aside0.mk hb0
 have n2:=Aside0.mk hbe
 have hce0:W.cell? ⟨w.heap.size,0,none⟩=some (.slice A0_0 l0_0.length c0_0):=(blk_cell hbe 0).trans rfl
 have hce1:W.cell? ⟨w.heap.size,1,none⟩=some (.int .i64 a0_1):=(blk_cell hbe 1).trans rfl
 have hce2:W.cell? ⟨w.heap.size,2,none⟩=some (.int .i64 a0_2):=(blk_cell hbe 2).trans rfl
 have hne:w.heap.size≠W.heap.size:=by have:=blk_lt hbe;omega
 have hca0:(W.alloc (.cells #[.slice none 0 0] 63)).cell? ⟨w.heap.size,0,none⟩=some (.slice A0_0 l0_0.length c0_0):=(blk_cell (blk_alloc hbe (.cells #[.slice none 0 0] 63)) 0).trans rfl
 have n3:=Aside0.mk (blk_new W (.cells #[.slice none 0 0] 63))
 have n1b:=Aside0.mk (below_alloc n1.out (.cells #[.slice none 0 0] 63))
 have n2b:=Aside0.mk (blk_alloc n2.out (.cells #[.slice none 0 0] 63))
 have hl5:=Aside0.mk n1.out.size
 clear hb hb0 hbe
 gi_wp2
 refine ⟨trivial,?_⟩
 refine (callsIn_wide.2 (lists_calls (l0_0.length:Int) _)).mono ?_
 rintro e W1 ⟨gl,rfl,hgl,hgl2,hb⟩
 have m1:=Aside0.mk (below_step n1b.out hb)
 have m2:=Aside0.mk (blk_below n2b.out hb)
 have m3:=Aside0.mk (blk_below n3.out hb)
 have m4:=Aside0.mk hgl
 have m5:=Aside0.mk (show W.heap.size < gl by simp at hgl2;omega)
 clear hb hgl hgl2 n1b n2b n3 hca0 hce0 hce1 hce2
 obtain ⟨g5,hg5⟩ : ∃ g,g=W.heap.size:=⟨_,rfl⟩
 obtain ⟨gE,hgE⟩ : ∃ g,g=w.heap.size:=⟨_,rfl⟩
 rw [← hg5] at m3 m5 hl5 hne
 rw [← hgE] at m2 hne
 rw [← hg5,← hgE]
 have hgEw:w.heap.size≤gE:=by omega
 clear hg5 hgE
 gi_wp2
 refine wpIn_rangeFuncY rfl (by decide) (gf:=99) (lb:=#[.pointer (some ⟨gl,0,none⟩)]) rfl trivial (enters_of Try.func99 (by kernel_rfl) rfl) (lists_iter 2 l0_0.length HN.out gl W1 m4.out)
  (fun h1 h2=>⟨Nat.le_trans h1.1 h2.1,h2.2.trans h1.2⟩) (fun W l o hl=>⟨by simp,World.putObj_heap_other (by have:=blk_lt m4.out;omega)⟩) (Below.refl _ _) (fun _=>rfl)
  (stepsInv k A0_0 c0_0 l0_0 a0_1 a0_2 w gE g5 gl) ?hI1 ?hI2 ?hY2 ⟨m1.out,m2.out,m4.out,rfl,[],.slice none 0 0,rfl,m3.out,Kd.R_nil _ _ _ _ _⟩
  (fun x=>{ tmps:=#[.agg #[.slice A0_0 l0_0.length c0_0,.int .i64 a0_1,.int .i64 a0_2],.pointer (some ⟨gE,0,none⟩),.slice none 0 0,.int .i64 0,.int .i64 0,.pointer (some ⟨g5,0,none⟩),x.2,undef,.agg #[.slice A0_0 l0_0.length c0_0,.int .i64 a0_1,.int .i64 a0_2],.int .i64 0,.int .i64 0,.bool false,undef,.pointer (some ⟨gE,0,none⟩),.slice A0_0 l0_0.length c0_0,.int .i64 (l0_0.length:Int),.func (.func 99) #[] #[.pointer (some ⟨gl,0,none⟩)],x.2,undef,undef,undef,undef,undef,undef,undef,undef,undef,undef,undef,undef,undef,undef,undef,undef,undef,undef,undef,undef,undef,undef,undef,undef,undef,undef,undef,undef,undef,undef],defers:=[] })
  ?assign ?body ?done
 case hI1 =>
  rintro pre A B ⟨h1,h2,hg,h3,ps,v,h4,h5,h6⟩ hAB
  exact ⟨h1.trans (hAB.mono h1.size),blk_below h2 hAB,blk_below hg hAB,h3,ps,v,h4,blk_below h5 hAB,Kd.R_below h6 hAB⟩
 case hI2 =>
  rintro pre W l o o' hl ho hc0 ⟨h1,h2,hg,h3,ps,v,h4,h5,h6⟩
  exact ⟨h1.trans (putObj_below (Nat.le_trans m1.out.size hl)),blk_putObj h2 ho hc0,blk_putObj hg ho hc0,h3,ps,v,h4,blk_putObj h5 ho hc0,R64_putObj h6 ho hc0⟩
 case hY2 =>
  rintro pre x W l o o' hl ho hc0 ⟨h1,h2⟩
  exact ⟨h1,R_putObj h2 ho hc0⟩
 case assign =>
  intro l x W K hK
  gi_wp2
  exact hK
 case body =>
  rintro l pre ⟨x1,x2⟩ W ⟨h1,h2,hg0,h3,ps,v,h4,h5,h6⟩ ⟨hx1,hx2⟩ hlen
  simp only at hx1 hx2
  have hsub:(subsets l0_0.length).length=2 ^ l0_0.length:=by simp [subsets]
  obtain ⟨p,hst⟩ : ∃ p,stepsStep k l0_0 a0_1 a0_2 x1=some p:=by
   have hs:subsets l0_0.length=(subsets l0_0.length).take pre.length ++ (x1 :: (subsets l0_0.length).drop (pre.length+1)):=by
    have h9:(subsets l0_0.length)[pre.length]'(by rw [hsub];exact hlen)=x1:=by rw [hx1];simp [subsets]
    rw [← h9,← List.drop_eq_getElem_cons,List.take_append_drop]
   have hl:=HLA.out
   rw [hs,stepsAll_append,← h3,h4] at hl
   change ((stepsStep k l0_0 a0_1 a0_2 x1).bind _).bind _=_ at hl
   obtain ⟨_,h8,_⟩:=Option.bind_eq_some_iff.1 hl
   obtain ⟨p,hp,_⟩:=Option.bind_eq_some_iff.1 h8
   exact ⟨p,hp⟩
  have hf2:stepsAll k l0_0 a0_1 a0_2 ((pre ++ [(x1,x2)]).map Prod.fst)=some (ps ++ [p]):=by
   rw [List.map_append,stepsAll_append,h4]
   show ((stepsStep k l0_0 a0_1 a0_2 x1).bind _).bind _=_
   rw [hst]
   rfl
  have hp2:(pre ++ [(x1,x2)]).map Prod.fst=(subsets l0_0.length).take (pre ++ [(x1,x2)]).length:=by
   rw [List.map_append,h3,List.length_append]
   show _=(subsets l0_0.length).take (pre.length+1)
   rw [List.take_succ_eq_append_getElem (by rw [hsub];exact hlen),hx1]
   simp [subsets]
  have HPL0:ps.length < 1099511627776:=by
   have e:=stepsAll_length k l0_0 a0_1 a0_2 _ _ h4
   rw [List.length_map] at e
   rw [e]
   exact Nat.lt_of_lt_of_le hlen (Nat.le_trans (Nat.pow_le_pow_right (by decide) HN.out) (by decide))
  have HF2:=Aside0.mk hf2
  have HP2:=Aside0.mk hp2
  have HST:=Aside0.mk hst
  have HLEN:=Aside0.mk (show pre.length < 1099511627776 from Nat.lt_of_lt_of_le hlen (Nat.le_trans (Nat.pow_le_pow_right (by decide) HN.out) (by decide)))
  have HX2:=Aside0.mk hx2
  have HB:=Aside0.mk h1
  have KE:=Aside0.mk h2
  have KG:=Aside0.mk hg0
  have K5:=Aside0.mk h5
  have HV:=Aside0.mk h6
  have hfo:Try.prog.follows .mixedOrders=true:=by kernel_rfl
  clear hf2 hp2 hst hlen hx2 h1 h2 hg0 h5 h6 h3 h4 hx1
  obtain ⟨A2,c2,e2⟩:=Kd.R_slice HX2.out
  subst e2
  obtain ⟨Av,cv,ev⟩:=Kd.R_slice HV.out
  subst ev
  have hE0:W.cell? ⟨gE,0,none⟩=some (.slice A0_0 l0_0.length c0_0):=(blk_cell KE.out 0).trans rfl
  have hE1:W.cell? ⟨gE,1,none⟩=some (.int .i64 a0_1):=(blk_cell KE.out 1).trans rfl
  have hE2:W.cell? ⟨gE,2,none⟩=some (.int .i64 a0_2):=(blk_cell KE.out 2).trans rfl
  have h50:W.cell? ⟨g5,0,none⟩=some (.slice Av ps.length cv):=(blk_cell K5.out 0).trans rfl
  have HPL:=Aside0.mk (show ps.length < 1099511627776 from HPL0)
  have hst:=HST.out
  unfold stepsStep at hst
  obtain ⟨ca,hca,hst⟩:=Option.bind_eq_some_iff.1 hst
  obtain ⟨wb,hwb,hst⟩:=Option.bind_eq_some_iff.1 hst
  have HCA:=Aside0.mk hca
  have HWB:=Aside0.mk hwb
  have HP:=Aside0.mk (Option.some.inj hst)
  clear hca hwb hst HST
  clear hE0 hE1 hE2 h50
  gi_wp2
  have n1:=Aside0.mk (below_drew1 (Below.refl W.heap.size W))
  have n2:=Aside0.mk (blk_drew KE.out)
  have n3:=Aside0.mk (blk_drew K5.out)
  refine startR_ (n:=12) (S:=fun w'=>w'.cell? ⟨gE,0,none⟩=some (.slice A0_0 l0_0.length c0_0)∧w'.cell? ⟨gE,1,none⟩=some (.int .i64 a0_1)∧w'.cell? ⟨gE,2,none⟩=some (.int .i64 a0_2)∧w'.cell? ⟨g5,0,none⟩=some (.slice Av ps.length cv)) (ds:=[11]) #[false,false,false,false,false,false,false,false,false,false,false,false] (by kernel_rfl) rfl rfl (by kernel_rfl) (by rintro ⟨_,_,hq⟩;exact hq) ⟨(blk_cell n2.out 0).trans rfl,(blk_cell n2.out 1).trans rfl,(blk_cell n2.out 2).trans rfl,(blk_cell n3.out 0).trans rfl⟩ (fun hHeld=>?_)
  refine with_tabW orders_Steps.tab7 orders_Steps.bits7 (fun HT_ HW_=>?_)
  generalize W.drew=w0 at n1 n2 n3 hHeld ⊢
  refine pP 2 (some 20) HT_ ?_
  refine pP 5 (some 23) HT_ ?_
  refine tP 0 (some 18) HT_ HW_ hHeld ?_
  refine tP 1 (some 19) HT_ HW_ hHeld ?_
  refine tP 4 (some 22) HT_ HW_ hHeld ?_
  refine oP 3 (some 21) HT_ (fun K hK=>?_)
  refine gO Try.func61 #[.agg #[.slice A0_0 l0_0.length c0_0,.int .i64 a0_1,.int .i64 a0_2],.slice A2 x1.length c2] ?_
  with_reducible refine (orders_cost.calls k A0_0 c0_0 l0_0 a0_1 a0_2 A2 c2 x1 ca _ (Kd.C_below HR0.out (HB.out.trans (n1.out.mono HB.out.size))) hc0_0 (Kd.C_below (Kd.R_reads' HX2.out).2.2 n1.out) (Kd.R_reads' HX2.out).2.1 HCA.out).mono ?_
  rintro e w1 ⟨rfl,hb⟩
  refine ⟨_,rfl,?_⟩
  have p1:=Aside0.mk (below_step n1.out hb)
  have p2:=Aside0.mk (blk_below n2.out hb)
  have p3:=Aside0.mk (blk_below n3.out hb)
  clear hb
  refine hK.out _ _ ⟨(blk_cell p2.out 0).trans rfl,(blk_cell p2.out 1).trans rfl,(blk_cell p2.out 2).trans rfl,(blk_cell p3.out 0).trans rfl⟩ (fun hHeld=>?_)
  clear hK K
  refine nP ?_
  refine oP 6 (some 24) HT_ (fun K hK=>?_)
  refine gO Try.func58 #[.agg #[.slice A0_0 l0_0.length c0_0,.int .i64 a0_1,.int .i64 a0_2],.slice A2 x1.length c2] ?_
  with_reducible refine (orders_worst.calls k A0_0 c0_0 l0_0 a0_1 a0_2 A2 c2 x1 wb _ (Kd.C_below HR0.out (HB.out.trans (p1.out.mono HB.out.size))) hc0_0 (Kd.C_below (Kd.R_reads' HX2.out).2.2 p1.out) (Kd.R_reads' HX2.out).2.1 HWB.out).mono ?_
  rintro e w2 ⟨rfl,hb⟩
  refine ⟨_,rfl,?_⟩
  have q1:=Aside0.mk (below_step p1.out hb)
  have q2:=Aside0.mk (blk_below p2.out hb)
  have q3:=Aside0.mk (blk_below p3.out hb)
  clear hb
  refine hK.out _ _ ⟨(blk_cell q2.out 0).trans rfl,(blk_cell q2.out 1).trans rfl,(blk_cell q2.out 2).trans rfl,(blk_cell q3.out 0).trans rfl⟩ (fun hHeld=>?_)
  clear hK K
  refine nP ?_
  refine pP 7 (some 25) HT_ ?_
  refine pP 8 (some 26) HT_ ?_
  refine oP 9 (some 27) HT_ (fun K hK=>?_)
  refine value_ (w1:=?_) (v:=?_) (by rfl) rfl ?_ ?_
  rotate_left 2
  ·go_simp
   constructor
   ·rfl
   ·rfl
  refine hK.out _ _ ⟨(blk_cell (blk_alloc q2.out _) 0).trans rfl,(blk_cell (blk_alloc q2.out _) 1).trans rfl,(blk_cell (blk_alloc q2.out _) 2).trans rfl,(blk_cell (blk_alloc q3.out _) 0).trans rfl⟩ (fun hHeld=>?_)
  clear hK K
  refine nP ?_
  have hRw:=Aside0.mk (Kd.R_below HV.out q1.out)
  have hne5:some g5≠(Value.slice Av ps.length cv).ownBlock:=Kd.R_ne hRw.out q3.out (by decide)
  have hneE:some gE≠(Value.slice Av ps.length cv).ownBlock:=Kd.R_ne hRw.out q2.out (by decide)
  refine oP 10 (some 28) HT_ (fun K hK=>?_)
  refine Kd.R_append_step k64 (w0:=w) w.heap.size (by rfl) (.tmp 18) (.tmp 27) 63 64 (.agg #[(.int .i64 0),(.int .i64 0)]) 16 rfl Try.underlying63 info64 rfl (by decide) (by omega) (.slice Av ps.length cv) ps (⟨ca,wrap64 (-wb)⟩:S64) [.int .i64 ca,.int .i64 (wrap64 (-wb))] (fun _=>True) (fun _=>False) rfl rfl ?aP (fun _ hk=>hk.elim) (fun _ _=>trivial) hRw.out (HB.out.trans (q1.out.mono HB.out.size)) (Nat.le_trans HB.out.size q1.out.size) ?aL ?_
  (case aP=>exact k64_mkM _ _ _ (⟨ca,wrap64 (-wb)⟩:S64))
  (case aL=>have:=HPL.out;omega)
  intro v28 w28 ho hb hg hat
  obtain ⟨A28,c28,e28⟩:=Kd.R_slice ho
  subst e28
  have u1:=Aside0.mk ho
  have u2:=Aside0.mk (blk_grown q2.out hg hneE)
  have u3:=Aside0.mk (blk_grown q3.out hg hne5)
  have u4:=Aside0.mk hg
  have u5:=Aside0.mk hb
  clear ho hg hat hb
  refine hK.out _ _ ⟨(blk_cell u2.out 0).trans rfl,(blk_cell u2.out 1).trans rfl,(blk_cell u2.out 2).trans rfl,(blk_cell u3.out 0).trans rfl⟩ (fun hHeld=>?_)
  clear hK K
  refine nP ?_
  refine last_ (i:=11) (N:=none) #[true,true,true,true,true,true,true,true,true,true,true,true] rfl rfl (one_of HT_.out (by kernel_rfl)) (by decide) (fun K hK=>?_)
  have hs14:w28.cell? ⟨g5,0,none⟩=some (.slice Av ps.length cv):=(blk_cell u3.out 0).trans rfl
  have hfs14:=blk_frozen u3.out 0
  refine skip_ (w1:=?_) (by rfl) rfl ?_ ?_
  rotate_left
  ·go_simp
   rfl
  refine hK.out _ _ ?_
  clear hK K
  refine done_ (done_of HT_.out (by kernel_rfl)) ?_
  gi_wp2
  have hneG:some gl≠(Value.slice Av ps.length cv).ownBlock:=Kd.R_ne hRw.out (blk_below KG.out q1.out) (by decide)
  have hgg:gl≠g5:=by have:=m5.out;omega
  have hEg:gE≠g5:=hne
  have KG28:=blk_grown (blk_below KG.out q1.out) u4.out hneG
  have hRs:=Kd.R_mono (Kd.R_far (p:=⟨g5,0,none⟩) (Kd.R_tight rfl u1.out) (fun k hk e=>by have hc:=Kd.R_ne u1.out u3.out (by decide);exact hc (by rw [← hk,e])) (Value.slice A28 (ps.length+1) c28)) (ok':=fun _=>True) (fun _ _=>trivial)
  refine ⟨(KeepsOthers.of_below q1.out).trans ((KeepsOthers.of_grownBy u4.out (fun j o hj ho=>?_)).trans (KeepsOthers.setCell _ _ _)),⟨?_,?_⟩,?_,?_,?_,HP2.out,ps ++ [p],.slice A28 (ps.length+1) c28,HF2.out,?_,?_⟩
  ·obtain ⟨cells,hcl⟩:=Kd.R_typed hRw.out j hj
   rw [hcl] at ho
   cases ho
   rfl
  ·have h1:=q1.out.size
   have h2:=u4.out.size
   simp
   omega
  ·rw [Below.heap_setCell _ _ _ _ hgg,KG28,KG.out]
  ·exact below_set u5.out (by have:=hl5.out;omega)
  ·rw [Below.heap_setCell _ _ _ _ hEg];exact u2.out
  ·rw [Below.heap_setCell _ _ _ _ hgg];exact KG28
  ·exact blk_put u3.out 0 _ rfl
  ·rw [← HP.out];simp only [List.length_append,List.length_cons,List.length_nil,Nat.zero_add] at hRs;exact hRs
 case done =>
  rintro D xs W hD hS ⟨h1,h2,hg0,h3,ps,v,h4,h5,h6⟩ hK
  rw [hS,HLA.out] at h4
  obtain rfl:=Option.some.inj h4
  have K5:=Aside0.mk h5
  have HV:=Aside0.mk h6
  have HB:=Aside0.mk h1
  have HD:=Aside0.mk hD
  have HK:=Aside0.mk hK
  have h50:W.cell? ⟨g5,0,none⟩=some v:=(blk_cell h5 0).trans rfl
  have hf5:=blk_frozen h5 0
  clear h1 h2 hg0 h3 h4 h5 h6 hS hD hK
  obtain ⟨Av,cv,ev⟩:=Kd.R_slice HV.out
  subst ev
  gi_wp2
  refine ⟨trivial,?_⟩
  refine (callsIn_wide.2 (orders_front.calls k (fun k_=>some k_=(.slice Av la.length cv:Value).ownBlock) (.slice Av la.length cv) la f1 f2 w W HB.out (Kd.R_tight rfl HV.out) HFR.out)).mono ?_
  rintro e W2 ⟨v2,rfl,hR1,-,hB2,hK2⟩
  have K52:W2.heap[g5]? = some (.cells #[.slice Av la.length cv] 63 (0,0)):=(hK2.2 g5 (blk_lt K5.out) (fun e=>Kd.R_ne HV.out K5.out (by decide) e)).trans K5.out
  have HK2:W2.heap[D]? = some (.deferred (some [])):=(hK2.2 D (Array.getElem?_eq_some_iff.1 HK.out).1 (fun e=>by
   obtain ⟨cells,hc⟩:=Kd.R_typed HV.out D e.symm
   rw [HK.out] at hc
   cases hc)).trans HK.out
  have h502:W2.cell? ⟨g5,0,none⟩=some (.slice Av la.length cv):=(blk_cell K52 0).trans rfl
  have hf52:=blk_frozen K52 0
  obtain ⟨A2,c2,e2⟩:=Kd.R_slice hR1
  subst e2
  have R1:=Aside0.mk hR1
  have B2:=Aside0.mk hB2
  have K2:=Aside0.mk hK2
  have HD2:=Aside0.mk HK2
  have K52:=Aside0.mk K52
  clear hR1 hB2 hK2 HK2
  gi_wp2
  refine wpIn_wide.2 ?_
  have K53:Aside0 ((W2.setCell ⟨g5,0,none⟩ (.slice A2 f1.length c2)).heap[g5]? = some (.cells #[.slice A2 f1.length c2] 63 (0,0))):=⟨blk_put K52.out 0 _ rfl⟩
  have R3:Aside0 (Kd.R k64 64 (W2.setCell ⟨g5,0,none⟩ (.slice A2 f1.length c2)) w.heap.size (fun _=>True) (.slice A2 f1.length c2) f1):=⟨Kd.R_mono (Kd.R_far (p:=⟨g5,0,none⟩) (Kd.R_tight rfl R1.out) (fun k hk e=>by have hc:=Kd.R_ne R1.out K52.out (by decide);exact hc (by rw [← hk,e])) _) (fun _ _=>trivial)⟩
  have HD3:Aside0 ((W2.setCell ⟨g5,0,none⟩ (.slice A2 f1.length c2)).heap[D]? = some (.deferred (some []))):=⟨by
   rw [Below.heap_setCell _ _ _ _ (fun e=>by have e2:D=g5:=e;have h1:=K52.out;rw [← e2,HD2.out] at h1;cases h1)]
   exact HD2.out⟩
  have B3:Aside0 (Below w.heap.size w (W2.setCell ⟨g5,0,none⟩ (.slice A2 f1.length c2))):=⟨below_set B2.out (by have:=hl5.out;omega)⟩
  clear R1 B2 K2 HD2 K52 HK K5 h502 hf52 h50 hf5
  go_loopg [33] (f1.length+1) (fun kq v33 w'=>∃ (y:Int) (j:Nat),v33= .int .i64 y∧Aside0 (y=(j:Int))∧Aside0 (kq+j=f1.length+1)∧Aside0 (j≤f1.length)∧Aside0 (Kd.R k64 64 w' w.heap.size (fun _=>True) (.slice A2 f1.length c2) ((f1.take j).map stepsNeg ++ f1.drop j))∧Aside0 (w'.heap[g5]? = some (.cells #[.slice A2 f1.length c2] 63 (0,0)))∧Aside0 (w'.heap[D]? = some (.deferred (some [])))∧Aside0 (Below w.heap.size w w'))
  case atStart=>exact ⟨0,0,rfl,⟨rfl⟩,⟨rfl⟩,⟨Nat.zero_le _⟩,R3,K53,HD3,B3⟩
  case round =>
   clear R3 K53 HD3 B3
   obtain ⟨y,j,rfl,HY,Hk,Hj,HR,K5,HDD,HB⟩:=hrel
   by_cases hj:j < f1.length
   rotate_left
   ·have hjn:j=f1.length:=by have:=Hj.out;omega
    have d0:decide (y < (f1.length:Int))=false:=decide_eq_false (by have:=HY.out;omega)
    have HRf:Aside0 (Kd.R k64 64 wr w.heap.size (fun _=>True) (.slice A2 f1.length c2) (f1.map stepsNeg)):=⟨by have h1:=HR.out;rw [hjn] at h1;simpa using h1⟩
    have h50:wr.cell? ⟨g5,0,none⟩=some (.slice A2 f1.length c2):=(blk_cell K5.out 0).trans rfl
    have hfo:Try.prog.follows .mixedOrders=true:=by kernel_rfl
    clear HR
    go_wp2
    gi_wp2
    refine ⟨by simp,.inl ⟨_,_,rfl,run_takeDeferred HDD.out,?_⟩⟩
    refine ⟨_,results_tmp2 rfl _ _ _,_,rfl,R64_putObj HRf.out HDD.out rfl,HB.out.trans (putObj_below (by have:=HD.out;have:=m1.out.size;omega))⟩
   obtain ⟨n1,rfl⟩ : ∃ n,gk=n+1:=⟨gk - 1,by have:=Hk.out;omega⟩
   obtain ⟨gr,cr,er,hgrb,hgrl,-⟩:=Kd.R_form HR.out (by simp;omega)
   have hLl:((f1.take j).map stepsNeg ++ f1.drop j).length=f1.length:=by simp;omega
   rw [hLl] at er
   cases er
   have d0:decide (y < (f1.length:Int))=true:=decide_eq_true (by have:=HY.out;omega)
   have d0p:(y < (f1.length:Int))=True:=eq_true (by have:=HY.out;omega)
   have d00p:(0≤y)=True:=eq_true (by have:=HY.out;omega)
   have d00:decide (0≤y)=true:=decide_eq_true (by have:=HY.out;omega)
   obtain ⟨ad7,e7,hx7_0,hx7_1⟩:=at_T64 (Kd.R_reads' HR.out).2.2 y (by have:=HY.out;omega) (by have:=HY.out;rw [hLl];omega)
   cases e7
   have hit:rd_T64 ((f1.take j).map stepsNeg ++ f1.drop j) y=f1[j]:=by
    rw [HY.out];unfold rd_T64;rw [Int.toNat_natCast,List.getD_eq_getElem?_getD,List.getElem?_append_right (by simp;omega)]
    simp [Nat.min_eq_left (Nat.le_of_lt hj),hj]
   rw [hit] at hx7_0 hx7_1
   have hc1:wr.cell? ⟨gr,y.toNat*2+1,none⟩=some (.int .i64 f1[j].f1):=by
    have:=hx7_1
    rwa [show (⟨((⟨gr,0,none⟩:Addr).add (y.toNat*2)).block,((⟨gr,0,none⟩:Addr).add (y.toNat*2)).off+1,none⟩:Addr)=⟨gr,y.toNat*2+1,none⟩ from by unfold Addr.add;split <;> simp_all] at this
   have hc0:wr.cell? ⟨gr,y.toNat*2+0,none⟩=some (.int .i64 f1[j].f0):=by
    have:=hx7_0
    rwa [show ((⟨gr,0,none⟩:Addr).add (y.toNat*2))=⟨gr,y.toNat*2+0,none⟩ from by unfold Addr.add;split <;> simp_all] at this
   clear hx7_0 hx7_1 hit
   go_wp2
   have n1_:=Aside0.mk (Kd.R_drew HR.out)
   have n2_:=Aside0.mk (blk_drew K5.out)
   have hneg:some g5≠(Value.slice (some ⟨gr,0,none⟩) f1.length c2).ownBlock:=Kd.R_ne HR.out K5.out (by decide)
   have hc1d:=(below_drew1 (Below.refl wr.heap.size wr)).cell (World.block_lt_of_cell? _ _ hc1)
   have hc0d:=(below_drew1 (Below.refl wr.heap.size wr)).cell (World.block_lt_of_cell? _ _ hc0)
   replace hc1d:=hc1d.trans hc1
   replace hc0d:=hc0d.trans hc0
   refine wp_mono (Q:=fun e a' w'=>e= .normal∧Exit.inBlock 3 _ .normal a' w') ?_ (by rintro e a' w' ⟨rfl,h⟩;exact h)
   refine start_ (n:=11) (S:=fun w'=>w'.cell? ⟨g5,0,none⟩=some (.slice (some ⟨gr,0,none⟩) f1.length c2)∧w'.cell? ⟨gr,y.toNat*2+1,none⟩=some (.int .i64 f1[j].f1)) (ds:=[10]) #[false,false,false,false,false,false,false,false,false,false,false] (by kernel_rfl) rfl rfl ⟨(blk_cell n2_.out 0).trans rfl,hc1d⟩ (fun hHeld=>?_)
   refine with_tabW orders_Steps.tab12 orders_Steps.bits12 (fun HT_ HW_=>?_)
   have n3_:=Aside0.mk (below_drew1 HB.out)
   have n4_:=Aside0.mk (((below_drew1 (Below.refl wr.heap.size wr)).block D (Array.getElem?_eq_some_iff.1 HDD.out).1).trans HDD.out)
   generalize wr.drew=w9 at n1_ n2_ n3_ n4_ hc1d hc0d hHeld ⊢
   clear hc1 hc0
   refine pure_ (i:=1) (N:=some 37) (v:=?_) (a':=?_) #[false,true,false,false,false,false,false,false,false,false,false] rfl rfl (any_of HT_.out (by kernel_rfl)) (fun _ _ _ h=>by cases h.1) (Or.inl ⟨by rfl,?_⟩) ?_ ?_
   rotate_left
   ·intro w'
    go_simp
    with_reducible rfl
   rotate_left
   ·simp only [Act.put,List.setIfInBounds_toArray,List.set_cons_zero,List.set_cons_succ,i64_w,i32_w]
    rfl
   refine pure_ (i:=3) (N:=some 39) (v:=?_) (a':=?_) #[false,true,false,true,false,false,false,false,false,false,false] rfl rfl (any_of HT_.out (by kernel_rfl)) (fun _ _ _ h=>by cases h.1) (Or.inl ⟨by rfl,?_⟩) ?_ ?_
   rotate_left
   ·intro w'
    go_simp
    with_reducible rfl
   rotate_left
   ·simp only [Act.put,List.setIfInBounds_toArray,List.set_cons_zero,List.set_cons_succ,i64_w,i32_w]
    rfl
   refine take_ (i:=0) (N:=some 36) (v:=?_) (a':=?_) #[true,true,false,true,false,false,false,false,false,false,false] rfl rfl (take_ofW HT_.out HW_.out (by kernel_rfl)) (fun _ _ _ h=>by cases h.1) (Or.inl ⟨by rfl,?_⟩) hHeld ?_ ?_
   rotate_left
   ·rintro w' ⟨s0,s1⟩
    go_simp
    with_reducible rfl
   rotate_left
   ·simp only [Act.put,List.setIfInBounds_toArray,List.set_cons_zero,List.set_cons_succ,i64_w,i32_w]
    rfl
   refine take_ (i:=2) (N:=some 38) (v:=?_) (a':=?_) #[true,true,true,true,false,false,false,false,false,false,false] rfl rfl (take_ofW HT_.out HW_.out (by kernel_rfl)) (fun _ _ _ h=>by cases h.1) (Or.inl ⟨by rfl,?_⟩) hHeld ?_ ?_
   rotate_left
   ·rintro w' ⟨s0,s1⟩
    go_simp
    with_reducible rfl
   rotate_left
   ·simp only [Act.put,List.setIfInBounds_toArray,List.set_cons_zero,List.set_cons_succ,i64_w,i32_w]
    rfl
   refine pure_ (i:=4) (N:=some 40) (v:=?_) (a':=?_) #[true,true,true,true,true,false,false,false,false,false,false] rfl rfl (any_of HT_.out (by kernel_rfl)) (fun _ _ _ h=>by cases h.1) (Or.inl ⟨by rfl,?_⟩) ?_ ?_
   rotate_left
   ·intro w'
    go_simp
    with_reducible rfl
   rotate_left
   ·simp only [Act.put,List.setIfInBounds_toArray,List.set_cons_zero,List.set_cons_succ,i64_w,i32_w]
    rfl
   refine pure_ (i:=5) (N:=some 41) (v:=?_) (a':=?_) #[true,true,true,true,true,true,false,false,false,false,false] rfl rfl (any_of HT_.out (by kernel_rfl)) (fun _ _ _ h=>by cases h.1) (Or.inl ⟨by rfl,?_⟩) ?_ ?_
   rotate_left
   ·intro w'
    go_simp
    with_reducible rfl
   rotate_left
   ·simp only [Act.put,List.setIfInBounds_toArray,List.set_cons_zero,List.set_cons_succ,i64_w,i32_w]
    rfl
   refine pure_ (i:=8) (N:=some 44) (v:=?_) (a':=?_) #[true,true,true,true,true,true,false,false,true,false,false] rfl rfl (any_of HT_.out (by kernel_rfl)) (fun _ _ _ h=>by cases h.1) (Or.inl ⟨by rfl,?_⟩) ?_ ?_
   rotate_left
   ·intro w'
    go_simp
    with_reducible rfl
   rotate_left
   ·simp only [Act.put,List.setIfInBounds_toArray,List.set_cons_zero,List.set_cons_succ,i64_w,i32_w]
    rfl
   refine take_ (i:=6) (N:=some 42) (v:=?_) (a':=?_) #[true,true,true,true,true,true,true,false,true,false,false] rfl rfl (take_ofW HT_.out HW_.out (by kernel_rfl)) (fun _ _ _ h=>by cases h.1) (Or.inl ⟨by rfl,?_⟩) hHeld ?_ ?_
   rotate_left
   ·rintro w' ⟨s0,s1⟩
    go_simp
    with_reducible rfl
   rotate_left
   ·simp only [Act.put,List.setIfInBounds_toArray,List.set_cons_zero,List.set_cons_succ,i64_w,i32_w]
    rfl
   refine pure_ (i:=7) (N:=some 43) (v:=?_) (a':=?_) #[true,true,true,true,true,true,true,true,true,false,false] rfl rfl (any_of HT_.out (by kernel_rfl)) (fun _ _ _ h=>by cases h.1) (Or.inl ⟨by rfl,?_⟩) ?_ ?_
   rotate_left
   ·intro w'
    go_simp
    with_reducible rfl
   rotate_left
   ·simp only [Act.put,List.setIfInBounds_toArray,List.set_cons_zero,List.set_cons_succ,i64_w,i32_w]
    rfl
   refine pure_ (i:=9) (N:=some 45) (v:=?_) (a':=?_) #[true,true,true,true,true,true,true,true,true,true,false] rfl rfl (any_of HT_.out (by kernel_rfl)) (fun _ _ _ h=>by cases h.1) (Or.inl ⟨by rfl,?_⟩) ?_ ?_
   rotate_left
   ·intro w'
    go_simp
    with_reducible rfl
   rotate_left
   ·simp only [Act.put,List.setIfInBounds_toArray,List.set_cons_zero,List.set_cons_succ,i64_w,i32_w]
    rfl
   refine last_ (i:=10) (N:=none) #[true,true,true,true,true,true,true,true,true,true,true] rfl rfl (one_of HT_.out (by kernel_rfl)) (by decide) (fun K hK=>?_)
   have hfs:=(show w9.frozen? ⟨gr,y.toNat*2+1,none⟩=false from by obtain ⟨cells,hcl⟩:=Kd.R_typed n1_.out gr rfl;exact blk_frozen hcl _)
   refine skip_ (w1:=?_) (by rfl) rfl ?_ ?_
   rotate_left
   ·go_simp
    rfl
   refine hK.out _ _ ?_
   clear hK K
   refine done_ (done_of HT_.out (by kernel_rfl)) ?_
   refine ⟨rfl,?_⟩
   have hsg:=Kd.R_seg n1_.out y (by have:=HY.out;omega) (by have:=HY.out;omega) (c:=[.int .i64 f1[j].f0,.int .i64 f1[j].f1]) (seg:=[.int .i64 (wrap64 (-f1[j].f1))]) (j:=1) rfl (fun q u hq=>by match q,hq with
    | 0,hq=>cases hq;exact hc0d
    | 1,hq=>cases hq;exact hc1d
    | q+2,hq=>simp at hq) (show 1+1≤2 from by decide) (x':=stepsNeg f1[j]) (k64_mkM _ _ (fun _=>False) (stepsNeg f1[j])) (fun _ hk=>hk.elim)
   go_wp2
   go_roundg n1
   case measure=>omega
   case rel =>
    have hLs:((f1.take j).map stepsNeg ++ f1.drop j).set y.toNat (stepsNeg f1[j])=(f1.take (j+1)).map stepsNeg ++ f1.drop (j+1):=by
     have h0:(f1.drop j).set 0 (stepsNeg f1[j])=stepsNeg f1[j] :: f1.drop (j+1):=by rw [List.drop_eq_getElem_cons hj];rfl
     rw [HY.out,Int.toNat_natCast,List.set_append_right _ _ (by simp;omega),List.take_succ_eq_append_getElem hj,List.map_append,List.append_assoc,show j - ((f1.take j).map stepsNeg).length=0 from by simp;omega,h0]
     rfl
    have hR2:=hsg.1
    rw [hLs] at hR2
    have hgD:D≠gr:=fun e=>by obtain ⟨cells,hcl⟩:=Kd.R_typed n1_.out gr rfl;rw [← e,n4_.out] at hcl;cases hcl
    have hg5r:g5≠gr:=fun e=>hneg (by rw [e];rfl)
    exact ⟨wrap64 (y+1),j+1,rfl,⟨by have h1:=HY.out;have h2:=(Kd.R_reads' n1_.out).2.2.2.1;rw [hLl] at h2;unfold wrap64;omega⟩,⟨by have:=Hk.out;omega⟩,⟨hj⟩,⟨hR2⟩,⟨by rw [Below.heap_setCell _ _ _ _ hg5r];exact n2_.out⟩,⟨by rw [Below.heap_setCell _ _ _ _ hgD];exact n4_.out⟩,⟨below_set n3_.out hgrb⟩⟩
end Go.Proofs.Ythimaecnpkcmeaa.K
namespace Go.Proofs.Ythimaecnpkcmeaa.K
open Go.RowKit Go.Proofs.YthimaecnpkcmeaaW.PrintWords Go.Proofs.YthimaecnpkcmeaaW.PrintLast Go.Proofs.YthimaecnpkcmeaaW.PrintMore
attribute [local go_sem] max2_int min2_int max_two min_two max_three min_three max_four min_four   -- for this text's walks alone
set_option linter.unusedVariables false
set_option linter.unusedSimpArgs false
theorem eqA64 (d:Nat) (w:World) (x0 y0:Int) (x1 y1:Int) :
 (Op.equalIn (d+2) 64 (.agg #[.int .i64 x0,.int .i64 x1]) (.agg #[.int .i64 y0,.int .i64 y1])).run Try.prog w= .ok (x0 == y0 && (x1 == y1)) w:=by
 obtain ⟨i0,hi,hz0,hz1,hz2⟩:=info_parts info3
 have hc:Try.prog.cellsOf 3=1:=by kernel_rfl
 rw [run_equalIn_array (w:=w) (d+1) _ _ Try.underlying64 hi,hc]
 have ha:(part 3 #[.int .i64 x0,.int .i64 x1] 0).run Try.prog w= .ok (.int .i64 x0) w:=by go_simp
 have hb:(part 3 #[.int .i64 y0,.int .i64 y1] 0).run Try.prog w= .ok (.int .i64 y0) w:=by go_simp
 have ha':(part 3 #[.int .i64 x0,.int .i64 x1] 1).run Try.prog w= .ok (.int .i64 x1) w:=by go_simp
 have hb':(part 3 #[.int .i64 y0,.int .i64 y1] 1).run Try.prog w= .ok (.int .i64 y1) w:=by go_simp
 have he:(Op.equalIn (d+1) 3 (.int .i64 x0) (.int .i64 y0)).run Try.prog w= .ok (x0 == y0) w:=by go_simp
 have he':(Op.equalIn (d+1) 3 (.int .i64 x1) (.int .i64 y1)).run Try.prog w= .ok (x1 == y1) w:=by go_simp
 show (Op.eqItems (d+1) 3 1 _ _ [0,1]).run Try.prog w=_
 simp only [Op.eqItems,Sem.run_bind,Nat.zero_mul,Nat.one_mul,ha,hb,he,Result.andThen_ok]
 cases x0 == y0
 ·simp
 ·simp only [ha',hb',he',Sem.run_bind,Result.andThen_ok,Bool.not_true,Bool.false_eq_true,if_false]
  cases x1 == y1 <;> simp
end Go.Proofs.Ythimaecnpkcmeaa.K
