/- Contracts of Go functions and lemmas for them: each theorem states what one function returns and what it leaves of memory; its conditions stand in its statement. -/
import Derived.Test.YthimaecnpkcmeaaA3
import Derived.Test.YthimaecnpkcmeaaA9
set_option linter.unusedVariables false
set_option linter.unusedSimpArgs false
namespace Go.Proofs.Ythimaecnpkcmeaa.K
open Go.RowKit Go.Proofs.YthimaecnpkcmeaaW.PrintWords Go.Proofs.YthimaecnpkcmeaaW.PrintLast Go.Proofs.YthimaecnpkcmeaaW.PrintMore
attribute [local go_sem] max2_int min2_int max_two min_two max_three min_three max_four min_four   -- for this text's walks alone
set_option linter.unusedVariables false
set_option linter.unusedSimpArgs false
def cmpI (a b:Int):Int:=if a < b then -1 else if b < a then 1 else 0
set_option maxHeartbeats 800000 in
theorem compare_exact (a b:Int) (w:World):Calls Try.prog 95 #[.int .i64 a,.int .i64 b] w fun e w'=>e= .returned (.int .i64 (cmpI a b))∧w=w':=by
 unfold cmpI
 by_cases h1:a < b
 ·rw [if_pos h1]
  go_enter Try.func95,Try.ntmps95
  go_wp2
  go_ret
  exact ⟨rfl,rfl⟩
 rw [if_neg h1]
 by_cases h2:b < a
 ·rw [if_pos h2]
  go_enter Try.func95,Try.ntmps95
  go_wp2
  go_ret
  exact ⟨rfl,rfl⟩
 rw [if_neg h2]
 go_enter Try.func95,Try.ntmps95
 go_wp2
 go_ret
 exact ⟨rfl,rfl⟩
def orI (c1 c2:Int):Int:=if c1=0 then c2 else c1
set_option maxHeartbeats 800000 in
theorem or_exact (g:Nat) (c1 c2:Int) (w:World) (h0:w.cell? ⟨g,0,none⟩=some (.int .i64 c1)) (h1:w.cell? ⟨g,1,none⟩=some (.int .i64 c2)) :
 Calls Try.prog 94 #[.slice (some ⟨g,0,none⟩) 2 2] w fun e w'=>e= .returned (.int .i64 (orI c1 c2))∧w=w':=by
 unfold orI
 by_cases hc:c1=0
 rotate_left
 ·rw [if_neg hc]
  have hd1:(c1 != 0)=true:=bne_iff_ne.mpr hc
  go_enter Try.func94,Try.ntmps94
  go_wp2
  refine wp_loop_rounds 2 ?_
  rw [rounds_succ]
  go_wp2
  go_ret
  exact ⟨rfl,rfl⟩
 subst hc
 rw [if_pos rfl]
 by_cases hd:c2=0
 ·subst hd
  go_enter Try.func94,Try.ntmps94
  go_wp2
  refine wp_loop_rounds 3 ?_
  rw [rounds_succ]
  go_wp2
  rw [rounds_succ]
  go_wp2
  rw [rounds_succ]
  go_wp2
  go_ret
  exact ⟨rfl,rfl⟩
 have hd1:(c2 != 0)=true:=bne_iff_ne.mpr hd
 go_enter Try.func94,Try.ntmps94
 go_wp2
 refine wp_loop_rounds 2 ?_
 rw [rounds_succ]
 go_wp2
 rw [rounds_succ]
 go_wp2
 go_ret
 exact ⟨rfl,rfl⟩
def frontCmp (x y:S64):Int:=orI (cmpI x.f0 y.f0) (cmpI y.f1 x.f1)
def encPair (x:S64):List Value:=[.int .i64 x.f0,.int .i64 x.f1]
instance :Inhabited S64:=⟨z64⟩
open Go.Sort in
set_option maxRecDepth 100000 in
set_option maxHeartbeats 800000 in
theorem front1_exact (x y:S64) (w:World):Calls Try.prog 101 #[.agg #[.int .i64 x.f0,.int .i64 x.f1],.agg #[.int .i64 y.f0,.int .i64 y.f1]] w fun e w'=>e= .returned (.int .i64 (frontCmp x y))∧∃ q os',w'=grow (w.drewN q) os':=by
 unfold frontCmp
 have hq : ∀ (a b:Int) (w:World),Calls Try.prog 95 #[.int .i64 a,.int .i64 b] w fun e w'=>e= .returned (.int .i64 (cmpI a b))∧w'=w:=fun a b w=>(compare_exact a b w).mono (fun _ _ ⟨h1,h2⟩=>⟨h1,h2.symm⟩)
 go_enter Try.func101,Try.ntmps101
 go_wp2_with fail
 have hW : ∃ W os,((w.alloc (.cells #[.int .i64 x.f0,.int .i64 x.f1] 64)).alloc (.cells #[.int .i64 y.f0,.int .i64 y.f1] 64))=W∧W=grow w os ∧
  W.cell? ⟨w.heap.size,0,none⟩=some (.int .i64 x.f0)∧W.cell? ⟨w.heap.size,1,none⟩=some (.int .i64 x.f1)∧W.cell? ⟨w.heap.size+1,0,none⟩=some (.int .i64 y.f0)∧W.cell? ⟨w.heap.size+1,1,none⟩=some (.int .i64 y.f1) :=
  ⟨_,_,rfl,by rw [alloc_eq_grow,alloc_eq_grow,grow_grow],by simp [go_sem],by simp [go_sem],by simp [go_sem],by simp [go_sem]⟩
 obtain ⟨W,os,hW,hWg,h1,h2,h3,h4⟩:=hW
 rw [hW]
 clear hW
 have HG:=Aside0.mk hWg
 clear hWg
 have h1':W.drew.cell? ⟨w.heap.size,0,none⟩=some (.int .i64 x.f0):=h1
 have h2':W.drew.cell? ⟨w.heap.size,1,none⟩=some (.int .i64 x.f1):=h2
 have h3':W.drew.cell? ⟨w.heap.size+1,0,none⟩=some (.int .i64 y.f0):=h3
 have h4':W.drew.cell? ⟨w.heap.size+1,1,none⟩=some (.int .i64 y.f1):=h4
 go_still_tail 10,(by kernel_rfl)
 change wpStill _ _ W.drew _ _ _
 generalize hD:W.drew=D at *
 repeat still_step
 still_call (hq _ _ _)
 repeat still_step
 still_call (hq _ _ _)
 refine wpStill_nil ?_
 have hor:=or_exact
 go_wp2_with (go_at_call 94;refine (hor D.heap.size (cmpI x.f0 y.f0) (cmpI y.f1 x.f1) _ (by simp [go_sem]) (by simp [go_sem])).mono ?_;rintro e w' ⟨rfl,rfl⟩)
 go_ret
 refine ⟨rfl,1,os ++ #[.cells #[.int .i64 (cmpI x.f0 y.f0),.int .i64 (cmpI y.f1 x.f1)] 3],?_⟩
 subst hD
 rw [HG.out,alloc_eq_grow,drew_grow,grow_grow]
 rfl
open Go.Sort in
theorem front1_lays (blk off size:Nat) (w:World):CmpLays Try.prog 101 #[] encPair 2 frontCmp blk off size w:=fun _ _ _ _ x y=>front1_exact x y _
theorem cmpI_lt (a b:Int):cmpI a b < 0↔a < b:=by
 unfold cmpI;split <;> rename_i h
 ·simp [h]
 ·split <;> rename_i h2 <;> simp <;> omega
theorem cmpI_eq (a b:Int):cmpI a b=0↔a=b:=by
 unfold cmpI;split <;> rename_i h
 ·simp;omega
 ·split <;> rename_i h2 <;> simp <;> omega
theorem frontCmp_lt (x y:S64):frontCmp x y < 0↔x.f0 < y.f0∨x.f0=y.f0∧y.f1 < x.f1:=by
 unfold frontCmp orI
 have h1:=cmpI_lt x.f0 y.f0;have h2:=cmpI_eq x.f0 y.f0;have h3:=cmpI_lt y.f1 x.f1
 by_cases h:cmpI x.f0 y.f0=0
 ·rw [if_pos h];omega
 rw [if_neg h];omega
open Go.Sort in
theorem front_ltOf (x y:S64):ltOf frontCmp x y=decide (x.f0 < y.f0∨x.f0=y.f0∧y.f1 < x.f1):=by
 unfold ltOf
 exact decide_eq_decide.mpr (frontCmp_lt x y)
open Go.Sort in
theorem front_swo:SWO (ltOf frontCmp) where
 irrefl x:=by rw [front_ltOf];simp
 trans x y z h1 h2:=by rw [front_ltOf] at *;simp at *;omega
 ntrans x y z h1 h2:=by rw [front_ltOf] at *;simp at *;omega
def front_le (x y:S64):Bool:=!decide (y.f0 < x.f0∨y.f0=x.f0∧x.f1 < y.f1)
def insP {α:Type} (le:α→α→Bool) (x:α):List α→List α
 | []=>[x]
 | y :: ys=>if le x y=true then x :: y :: ys else y :: insP le x ys
def isortP {α:Type} (le:α→α→Bool):List α→List α
 | []=>[]
 | x :: xs=>insP le x (isortP le xs)
theorem insP_perm {α:Type} (le:α→α→Bool) (x:α) : ∀ l:List α,(insP le x l).Perm (x :: l)
 | []=>.refl _
 | y :: ys=>by
  unfold insP
  split
  ·exact .refl _
  ·exact ((insP_perm le x ys).cons y).trans (.swap x y ys)
theorem isortP_perm {α:Type} (le:α→α→Bool) : ∀ l:List α,(isortP le l).Perm l
 | []=>.refl _
 | x :: xs=>(insP_perm le x _).trans ((isortP_perm le xs).cons x)
theorem insP_pairwise {α:Type} {le:α→α→Bool} (ht : ∀ a b c,le a b=true→le b c=true→le a c=true) (hl : ∀ a b,(le a b || le b a)=true) (x:α) : ∀ l:List α,l.Pairwise (fun a b=>le a b=true)→(insP le x l).Pairwise (fun a b=>le a b=true)
 | [],_=>by simp [insP]
 | y :: ys,h=>by
  unfold insP
  rw [List.pairwise_cons] at h
  split
  ·rename_i hxy
   rw [List.pairwise_cons,List.pairwise_cons]
   exact ⟨fun z hz=>by
    rcases List.mem_cons.1 hz with rfl|hz'
    ·exact hxy
    ·exact ht _ _ _ hxy (h.1 z hz'),h⟩
  ·rename_i hxy
   have hyx:le y x=true:=by have:=hl x y;simpa [hxy] using this
   rw [List.pairwise_cons]
   exact ⟨fun z hz=>by
    rcases List.mem_cons.1 ((insP_perm le x ys).mem_iff.1 hz) with rfl|hz'
    ·exact hyx
    ·exact h.1 z hz',insP_pairwise ht hl x ys h.2⟩
theorem isortP_pairwise {α:Type} {le:α→α→Bool} (ht : ∀ a b c,le a b=true→le b c=true→le a c=true) (hl : ∀ a b,(le a b || le b a)=true) : ∀ l:List α,(isortP le l).Pairwise (fun a b=>le a b=true)
 | []=>.nil
 | x :: xs=>insP_pairwise ht hl x _ (isortP_pairwise ht hl xs)
theorem isortP_eq {α:Type} {le:α→α→Bool} (ht : ∀ a b c,le a b=true→le b c=true→le a c=true) (hl : ∀ a b,(le a b || le b a)=true) (ha : ∀ a b,le a b=true→le b a=true→a=b) (l:List α):isortP le l=l.mergeSort le :=
 List.Perm.eq_of_pairwise (fun a b _ _ h1 h2=>ha a b h1 h2) (isortP_pairwise ht hl l) (List.pairwise_mergeSort ht hl l) ((isortP_perm le l).trans (List.mergeSort_perm l le).symm)
theorem isortP_front (l:List S64):isortP front_le l=l.mergeSort front_le:=by
 refine isortP_eq ?_ ?_ ?_ l
 ·intro a b c h1 h2
  simp only [front_le,Bool.not_eq_true',decide_eq_false_iff_not] at *
  omega
 ·intro a b
  by_cases h:b.f0 < a.f0∨b.f0=a.f0∧a.f1 < b.f1
  rotate_left
  ·simp [front_le,h]
  have h2 : ¬ (a.f0 < b.f0∨a.f0=b.f0∧b.f1 < a.f1):=by omega
  simp [front_le,h2]
 ·intro a b h1 h2
  simp only [front_le,Bool.not_eq_true',decide_eq_false_iff_not] at *
  obtain ⟨a0,a1⟩:=a
  obtain ⟨b0,b1⟩:=b
  simp only at h1 h2
  have e0:a0=b0:=by omega
  have e1:a1=b1:=by omega
  rw [e0,e1]
def slices_SortFunc_front.f (l0:List S64):Option (List S64):=if l0.length < 4611686018427387904 then some (isortP front_le l0) else none
theorem encPair_flat (l:List S64):(Go.Sort.flatK encPair 2 l.toArray).toList=l.flatMap encPair:=by
 apply List.ext_getElem?
 intro t
 have key : ∀ (l:List S64) (t:Nat),(l.flatMap encPair)[t]? = if t < l.length*2 then some ((encPair l.toArray[t / 2]!)[t % 2]!) else none:=by
  intro l
  induction l with
  | nil=>intro t;simp
  | cons x l ih =>
   intro t
   rw [List.flatMap_cons]
   match t with
   | 0=>simp [encPair]
   | 1=>simp [encPair];omega
   | t+2 =>
    rw [List.getElem?_append_right (by simp [encPair])]
    have h1:t+2 - (encPair x).length=t:=by simp [encPair]
    rw [h1,ih t]
    have h2:(t+2) / 2=t / 2+1:=by omega
    have h3:(t+2) % 2=t % 2:=by omega
    rw [h2,h3]
    by_cases h:t < l.length*2
    rotate_left
    ·rw [if_neg h,if_neg (by simp;omega)]
    rw [if_pos h,if_pos (by simp;omega)]
    have hl:t / 2 < l.length:=by omega
    simp [hl]
 rw [key l t,Array.getElem?_toList]
 by_cases h:t < l.length*2
 rotate_left
 ·rw [if_neg h,Array.getElem?_eq_none (by simpa using h)]
 rw [if_pos h]
 have hs:t < (Go.Sort.flatK encPair 2 l.toArray).size:=by simpa using h
 rw [Array.getElem?_eq_getElem hs,← getElem!_pos _ t hs,Go.Sort.get_flatK _ _ _ _ (by simpa using h)]
theorem reps_pair (W:World) (b:Nat) (ok:Nat→Prop) : ∀ (l:List S64),Reps (k64.M W b ok) 2 l (l.flatMap encPair)
 | []=>Reps.none _ _
 | x :: l=>Reps.c2 (k64_mkM _ _ _ x) (reps_pair W b ok l)
theorem reps_pair_inv {W:World} {b:Nat} {ok:Nat→Prop} {l:List S64} {inner:List Value} (h:Reps (k64.M W b ok) 2 l inner):inner=l.flatMap encPair:=by
 have h2:=reps_pair W b ok l
 apply List.ext_getElem?
 intro t
 by_cases ht:t < l.length*2
 rotate_left
 ·rw [List.getElem?_eq_none (by rw [h.1];omega),List.getElem?_eq_none (by rw [h2.1];omega)]
 have hj:l[t / 2]? = some l[t / 2]:=List.getElem?_eq_getElem (by omega)
 have e1:=k64_openM (h.2 _ _ hj)
 have e2:=k64_openM (h2.2 _ _ hj)
 have key : ∀ (xs:List Value),((xs.drop (t / 2*2)).take 2)[t % 2]? = xs[t]? := by
  intro xs
  rw [List.getElem?_take,if_pos (by omega),List.getElem?_drop]
  congr 1
  omega
 rw [← key inner,← key (l.flatMap encPair),e1,e2]
set_option maxHeartbeats 800000 in
theorem slices_SortFunc_front.calls (P0_:Nat→Prop) (u9000_:Value) (l0:List S64) (r1:List S64) (w0 w:World) (hB:Below w0.heap.size w0 w) (ho0:Kd.R k64 64 w w0.heap.size P0_ u9000_ l0) (h:slices_SortFunc_front.f l0=some r1) :
 Calls Try.prog 100 #[u9000_,.func (.func 101) #[] #[]] w fun e w'=>e= .returned (.tuple #[])∧Kd.R k64 64 w' w0.heap.size (fun k_=>(P0_ k_∨w.heap.size≤k_)) u9000_ r1∧Below w0.heap.size w0 w'∧Kept w w' (fun k_=>P0_ k_):=by
 unfold slices_SortFunc_front.f at h
 split at h
 case isFalse=>cases h
 case isTrue hlim =>
 rw [isortP_front] at h
 obtain rfl:=Option.some.inj h
 clear h
 obtain ⟨hok,inner,ho,hreps⟩:=ho0
 have hinner:=reps_pair_inv hreps
 subst hinner
 rcases ho.2 with ⟨hv,hn⟩|⟨g,cap,cur,hv,hb,hh,h1,h2,h3,h4⟩
 ·have h0:l0=[]:=List.length_eq_zero_iff.1 hn
  subst h0
  subst hv
  refine (Try.slices_SortFunc_none (α:=S64) none 0 _ w).mono ?_
  rintro e w' ⟨rfl,rfl⟩
  exact ⟨rfl,by simpa using Kd.R_nil _ _ _ _ _,hB,Kept.refl _ _⟩
 ·subst hv
  have ho1:w.ownsRow w0.heap.size 64 2 (.slice (some ⟨g,0,none⟩) l0.length cap) l0.length ((Go.Sort.flatK encPair 2 l0.toArray).toList.map id):=by rw [List.map_id,encPair_flat];exact ho
  obtain ⟨hH,hg⟩:=own_holds id ho1
  have eg : ∀ args w,(callFunc 101 args).run Try.prog w= .ok (.enter 101 args) w:=enters_of Try.func101 (by kernel_rfl) rfl
  have hc:=Try.slices_SortFunc_total 2 Try.isAgg64 Try.sizeOf64 encPair (fun _=>rfl) (fun x v hv=>by simp [encPair] at hv;rcases hv with rfl|rfl <;> rfl) frontCmp front_swo 101 #[] g 0 cap l0.toArray w eg (front1_lays g 0 _ w) hH hg (by simpa using hlim)
   (fun x y h1 h2=>by
    rw [front_ltOf] at h1 h2
    simp at h1 h2
    have e0:x.f0=y.f0:=by omega
    have e1:x.f1=y.f1:=by omega
    cases x;cases y;simp at e0 e1;subst e0 e1;rfl)
  rw [List.size_toArray] at hc
  refine hc.mono ?_
  rintro e w' ⟨rfl,m,os,rfl⟩
  have hfun:(fun x y:S64=>!(ltOf frontCmp) y x)=front_le:=by
   funext x y
   rw [front_ltOf];rfl
  rw [hfun]
  obtain ⟨hown,hgr⟩:=sorted_world id ho1 (Go.Sort.flatK encPair 2 (l0.mergeSort front_le).toArray) (by simp) m os
  rw [List.map_id,encPair_flat] at hown
  have hP:P0_ g:=hok g rfl
  refine ⟨rfl,⟨fun k hk=>.inl (by simp [Value.ownBlock] at hk;subst hk;exact hP),_,by rw [List.length_mergeSort];exact hown,reps_pair _ _ _ _⟩,hB.grown hgr hB.size (fun k hk=>by injection hk with hk;subst hk;exact hb),⟨hgr.size,fun i hi hn=>hgr.block i hi (fun e=>hn (by injection e with e;subst e;exact hP))⟩⟩
end Go.Proofs.Ythimaecnpkcmeaa.K
