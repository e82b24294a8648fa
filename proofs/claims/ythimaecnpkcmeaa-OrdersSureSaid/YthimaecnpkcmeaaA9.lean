/- Contracts of Go functions and lemmas for them: each theorem states what one function returns and what it leaves of memory; its conditions stand in its statement. -/
import Derived.Test.YthimaecnpkcmeaaA3
import Derived.Test.YthimaecnpkcmeaaA4
import Derived.Test.YthimaecnpkcmeaaA5
set_option linter.unusedVariables false
set_option linter.unusedSimpArgs false
namespace Go.Proofs.Ythimaecnpkcmeaa.K
open Go.RowKit Go.Proofs.YthimaecnpkcmeaaW.PrintWords Go.Proofs.YthimaecnpkcmeaaW.PrintLast Go.Proofs.YthimaecnpkcmeaaW.PrintMore
attribute [local go_sem] max2_int min2_int max_two min_two max_three min_three max_four min_four   -- for this text's walks alone
set_option linter.unusedVariables false
set_option linter.unusedSimpArgs false
theorem eqA24 (d:Nat) (w:World) (x0 y0:Int) (x1 y1:Int) :
 (Op.equalIn (d+2) 24 (.agg #[.int .i64 x0,.int .i64 x1]) (.agg #[.int .i64 y0,.int .i64 y1])).run Try.prog w= .ok (x0 == y0 && (x1 == y1)) w:=by
 refine eqA_of Try.underlying24 (by kernel_rfl) ?_
 refine eqf_cons (by rfl) (by go_simp;rfl) (by go_simp;rfl) (by go_simp) ?_
 exact eqf_last (by rfl) (by go_simp;rfl) (by go_simp;rfl) (by go_simp)
end Go.Proofs.Ythimaecnpkcmeaa.K
namespace Go.Proofs.Ythimaecnpkcmeaa.K
open Go.RowKit Go.Proofs.YthimaecnpkcmeaaW.PrintWords Go.Proofs.YthimaecnpkcmeaaW.PrintLast Go.Proofs.YthimaecnpkcmeaaW.PrintMore
attribute [local go_sem] max2_int min2_int max_two min_two max_three min_three max_four min_four   -- for this text's walks alone
set_option linter.unusedVariables false
set_option linter.unusedSimpArgs false
open Go.Sort in
theorem sorted_world {β:Type} [Inhabited β] (enc:β→Value) {w:World} {base:Nat} {e:TypeId} {size n g cap:Nat} {xs:List Value} (ho:w.ownsRow base e size (.slice (some ⟨g,0,none⟩) n cap) n xs) (d:Array β) (hd:d.size=xs.length) (m:Nat) (os:Array Obj) :
 (grow (putRow enc (Sort.ahead w m) g 0 d) os).ownsRow base e size (.slice (some ⟨g,0,none⟩) n cap) n (d.toList.map enc)∧w.grownBy (grow (putRow enc (Sort.ahead w m) g 0 d) os) (some g):=by
 obtain ⟨hl,h⟩:=ho
 rcases h with ⟨hv,_⟩|⟨g',cap',cur,hv,hb,hh,h1,h2,h3,h4⟩
 ·cases hv
 ·injection hv with hv1 hv2 hv3
  injection hv1 with hv1
  injection hv1 with hv1
  subst hv1 hv3
  have hg:g < w.heap.size:=(Array.getElem?_eq_some_iff.1 hh).1
  have hheap:(grow (putRow enc (Sort.ahead w m) g 0 d) os).heap[g]? = some (.cells (putCells enc 0 d cur) e (0,0)):=by
   rw [heap_grow_old _ _ (by simpa using hg)]
   simp [putRow,mapBlock,Array.getElem?_modify,Sort.ahead,hh,onCells]
  refine ⟨⟨by rw [List.length_map,Array.length_toList,hd,hl],.inr ⟨g,cap,putCells enc 0 d cur,rfl,hb,hheap,h1,h2,by simp [putCells,h3],?_⟩⟩,⟨rfl,rfl,rfl,by simp,?_⟩⟩
  ·have hdn:d.size=n*size:=by rw [hd,hl]
   have hcn:n*size≤cur.size:=by rw [h3];exact Nat.mul_le_mul_right _ h1
   apply List.ext_getElem?
   intro i
   rw [List.getElem?_take,List.getElem?_map]
   by_cases hi:i < n*size
   rotate_left
   ·rw [if_neg hi]
    have:d.toList[i]? = none:=by rw [List.getElem?_eq_none_iff];simp;omega
    rw [this];rfl
   rw [if_pos hi]
   have hic:i < cur.size:=by omega
   have hid:i < d.size:=by omega
   simp [putCells,hic,hid]
  ·intro k hk hne
   rw [heap_grow_old _ _ (by simpa using hk)]
   have hne':g≠k:=fun h=>hne (by rw [h])
   simp [putRow,mapBlock,Array.getElem?_modify,Sort.ahead,hne']
open Go.Sort in
theorem own_holds {β:Type} [Inhabited β] (enc:β→Value) {w:World} {base:Nat} {e:TypeId} {size n g cap:Nat} {d:Array β} (ho:w.ownsRow base e size (.slice (some ⟨g,0,none⟩) n cap) n (d.toList.map enc)):Holds enc w g 0 d∧g < w.heap.size:=by
 obtain ⟨hl,h⟩:=ho
 rcases h with ⟨hv,_⟩|⟨g',cap',cur,hv,hb,hh,h1,h2,h3,h4⟩
 ·cases hv
 ·injection hv with hv1 hv2 hv3
  injection hv1 with hv1
  injection hv1 with hv1
  subst hv1
  refine ⟨fun j hj=>⟨?_,by simp [World.frozen?,hh]⟩,(Array.getElem?_eq_some_iff.1 hh).1⟩
  have h5:(cur.toList.take (n*size))[j]? = some (enc d[j]!):=by
   rw [h4,List.getElem?_map,Array.getElem?_toList,Array.getElem?_eq_getElem hj,getElem!_pos d j hj];rfl
  have hjn:j < n*size:=by rw [List.length_map,Array.length_toList] at hl;omega
  rw [List.getElem?_take,if_pos hjn,Array.getElem?_toList] at h5
  simp only [World.cell?,hh,Nat.zero_add]
  simpa using h5
def insI {α:Type} (le:α→α→Bool) (x:α):List α→List α
 | []=>[x]
 | y :: ys=>if le x y=true then x :: y :: ys else y :: insI le x ys
def isortI {α:Type} (le:α→α→Bool):List α→List α
 | []=>[]
 | x :: xs=>insI le x (isortI le xs)
theorem insI_perm {α:Type} (le:α→α→Bool) (x:α) : ∀ l:List α,(insI le x l).Perm (x :: l)
 | []=>.refl _
 | y :: ys=>by
  unfold insI
  split
  ·exact .refl _
  ·exact ((insI_perm le x ys).cons y).trans (.swap x y ys)
theorem isortI_perm {α:Type} (le:α→α→Bool) : ∀ l:List α,(isortI le l).Perm l
 | []=>.refl _
 | x :: xs=>(insI_perm le x _).trans ((isortI_perm le xs).cons x)
theorem insI_pairwise {α:Type} {le:α→α→Bool} (ht : ∀ a b c,le a b=true→le b c=true→le a c=true) (hl : ∀ a b,(le a b || le b a)=true) (x:α) : ∀ l:List α,l.Pairwise (fun a b=>le a b=true)→(insI le x l).Pairwise (fun a b=>le a b=true)
 | [],_=>by simp [insI]
 | y :: ys,h=>by
  unfold insI
  rw [List.pairwise_cons] at h
  split
  ·rename_i hxy
   rw [List.pairwise_cons,List.pairwise_cons]
   exact ⟨fun z hz=>by
    rcases List.mem_cons.1 hz with rfl|hz'
    ·exact hxy
    ·exact ht _ _ _ hxy (h.1 z hz'),h⟩
  ·rename_i hxy
   have hyx:le y x=true:=by have:=hl x y;simpa [hxy] using this
   rw [List.pairwise_cons]
   exact ⟨fun z hz=>by
    rcases List.mem_cons.1 ((insI_perm le x ys).mem_iff.1 hz) with rfl|hz'
    ·exact hyx
    ·exact h.1 z hz',insI_pairwise ht hl x ys h.2⟩
theorem isortI_pairwise {α:Type} {le:α→α→Bool} (ht : ∀ a b c,le a b=true→le b c=true→le a c=true) (hl : ∀ a b,(le a b || le b a)=true) : ∀ l:List α,(isortI le l).Pairwise (fun a b=>le a b=true)
 | []=>.nil
 | x :: xs=>insI_pairwise ht hl x _ (isortI_pairwise ht hl xs)
theorem isortI_eq {α:Type} {le:α→α→Bool} (ht : ∀ a b c,le a b=true→le b c=true→le a c=true) (hl : ∀ a b,(le a b || le b a)=true) (ha : ∀ a b,le a b=true→le b a=true→a=b) (l:List α):isortI le l=l.mergeSort le :=
 List.Perm.eq_of_pairwise (fun a b _ _ h1 h2=>ha a b h1 h2) (isortI_pairwise ht hl l) (List.pairwise_mergeSort ht hl l) ((isortI_perm le l).trans (List.mergeSort_perm l le).symm)
theorem isortI_int (l:List Int):isortI (fun x y:Int=>decide (x≤y)) l=l.mergeSort fun x y=>decide (x≤y) :=
 isortI_eq (fun a b c h1 h2=>by simp at *;omega) (fun a b=>by simp;omega) (fun a b h1 h2=>by simp at *;omega) l
def slices_Sort_int.f (l0:List Int):Option (List Int):=if l0.length < 4611686018427387904 then some (isortI (fun x y=>decide (x≤y)) l0) else none
set_option maxHeartbeats 800000 in
theorem slices_Sort_int.calls (P0_:Nat→Prop) (u9000_:Value) (l0:List Int) (r1:List Int) (w0 w:World) (hB:Below w0.heap.size w0 w) (ho0:Kd.R (Kd.int .i64) 3 w w0.heap.size P0_ u9000_ l0) (h:slices_Sort_int.f l0=some r1) :
 Calls Try.prog 20 #[u9000_] w fun e w'=>e= .returned (.tuple #[])∧Kd.R (Kd.int .i64) 3 w' w0.heap.size (fun k_=>(P0_ k_∨w.heap.size≤k_)) u9000_ r1∧Below w0.heap.size w0 w'∧Kept w w' (fun k_=>P0_ k_):=by
 unfold slices_Sort_int.f at h
 split at h
 case isFalse=>cases h
 case isTrue hlim =>
 rw [isortI_int] at h
 obtain rfl:=Option.some.inj h
 clear h
 have ho:=Kd.own_of_R ho0
 rcases ho.2 with ⟨hv,hn⟩|⟨g,cap,cur,hv,hb,hh,h1,h2,h3,h4⟩
 ·have h0:l0=[]:=List.length_eq_zero_iff.1 hn
  subst h0
  subst hv
  refine (Try.slices_Sort_int_none none 0 w).mono ?_
  rintro e w' ⟨rfl,rfl⟩
  exact ⟨rfl,by simpa using Kd.R_nil _ _ _ _ _,hB,Kept.refl _ _⟩
 ·subst hv
  have ho1:w.ownsRow w0.heap.size 3 1 (.slice (some ⟨g,0,none⟩) l0.length cap) l0.length (l0.toArray.toList.map (Value.int .i64)):=ho
  obtain ⟨hH,hg⟩:=own_holds (Value.int .i64) ho1
  refine (Try.slices_Sort_int g 0 cap l0 w hH hg hlim).mono ?_
  rintro e w' ⟨rfl,m,os,rfl⟩
  obtain ⟨hown,hgr⟩:=sorted_world (Value.int .i64) ho1 (l0.mergeSort fun x y=>decide (x≤y)).toArray (by simp) m os
  have hP:P0_ g:=ho0.1 g rfl
  refine ⟨rfl,Kd.R_of_own (by simpa [encs] using hown) (fun k hk=>.inl (by simp [Value.ownBlock] at hk;subst hk;exact hP)),hB.grown hgr hB.size (fun k hk=>by injection hk with hk;subst hk;exact hb),⟨hgr.size,fun i hi hn=>hgr.block i hi (fun e=>hn (by injection e with e;subst e;exact hP))⟩⟩
end Go.Proofs.Ythimaecnpkcmeaa.K
namespace Go.Proofs.Ythimaecnpkcmeaa.K
open Go.RowKit Go.Proofs.YthimaecnpkcmeaaW.PrintWords Go.Proofs.YthimaecnpkcmeaaW.PrintLast Go.Proofs.YthimaecnpkcmeaaW.PrintMore
attribute [local go_sem] max2_int min2_int max_two min_two max_three min_three max_four min_four   -- for this text's walks alone
set_option linter.unusedVariables false
set_option linter.unusedSimpArgs false
def orders_window_widest.l0:Nat→Int→Int→List Int→Int→Int→Int→Int→Int→Int→Int→Option (Int × Int)
 | 0,_,_,_,_,_,_,_,_,_,_=>none
 | k+1,x6,x7,x44,x45,x46,x220000,x220001,x220002,x220003,x220004=>if x46 < x45 then (if 0≤x46 then (if x46 < (x44.length:Int) then ((orders_window_seen.f x220000 x220001 x220002 x220003 x220004 (rd x44 x46)).bind fun bt227=>(if (wrap64 (bt227.2 - bt227.1)) > x6 then (orders_window_widest.l0 k (wrap64 (bt227.2 - bt227.1)) (rd x44 x46) x44 x45 (wrap64 (x46+1)) x220000 x220001 x220002 x220003 x220004) else (orders_window_widest.l0 k x6 x7 x44 x45 (wrap64 (x46+1)) x220000 x220001 x220002 x220003 x220004))) else (none)) else (none)) else (some (x6,x7))
def orders_window_widest.f (k:Nat) (a0_0:Int) (a0_1:Int) (a0_2:Int) (a0_3:Int) (a0_4:Int):Option (Int × Int):=(orders_window_ends.f a0_0 a0_1 a0_2 a0_3 a0_4).bind fun bt220=>((some (([bt220.1,bt220.2,mn (mx (wrap64 (a0_3 - a0_0)) bt220.1) bt220.2,mn (mx (wrap64 (a0_4 - a0_1)) bt220.1) bt220.2]:List Int):List Int)).bind fun y222=>((slices_Sort_int.f y222).bind fun t225=>(orders_window_widest.l0 k (-1) 0 t225 (y222.length:Int) 0 a0_0 a0_1 a0_2 a0_3 a0_4)))
set_option maxHeartbeats 8000000 in
set_option maxRecDepth 100000 in
theorem orders_window_widest.calls (k:Nat) (a0_0:Int) (a0_1:Int) (a0_2:Int) (a0_3:Int) (a0_4:Int) (r1:Int) (r2:Int) (w:World) (h:orders_window_widest.f k a0_0 a0_1 a0_2 a0_3 a0_4=some (r1,r2)) :
 Calls Try.prog 65 #[.agg #[.int .i64 a0_0,.int .i64 a0_1,.int .i64 a0_2,.int .i64 a0_3,.int .i64 a0_4]] w fun e w'=>e= .returned (.tuple #[.int .i64 r1,.int .i64 r2])∧Below w.heap.size w w':=by
 have hu105:=Try.underlying105
 have hu24:=Try.underlying24
 have HB:=Aside0.mk (Below.refl w.heap.size w)
 have H:((orders_window_ends.f a0_0 a0_1 a0_2 a0_3 a0_4).bind fun bt220=>((some (([bt220.1,bt220.2,mn (mx (wrap64 (a0_3 - a0_0)) bt220.1) bt220.2,mn (mx (wrap64 (a0_4 - a0_1)) bt220.1) bt220.2]:List Int):List Int)).bind fun y222=>((slices_Sort_int.f y222).bind fun t225=>(orders_window_widest.l0 k (-1) 0 t225 (y222.length:Int) 0 a0_0 a0_1 a0_2 a0_3 a0_4))))=some (r1,r2):=h
 clear h
 replace H:=Option.bind_eq_some_iff.mp H
 obtain ⟨⟨t220,t221⟩,A20,H⟩:=H
 replace H:((some (([t220,t221,mn (mx (wrap64 (a0_3 - a0_0)) t220) t221,mn (mx (wrap64 (a0_4 - a0_1)) t220) t221]:List Int):List Int)).bind fun y222=>((slices_Sort_int.f y222).bind fun t225=>(orders_window_widest.l0 k (-1) 0 t225 (y222.length:Int) 0 a0_0 a0_1 a0_2 a0_3 a0_4)))=some (r1,r2):=H
 have A2:=Aside0.mk A20
 clear A20
 obtain ⟨ji3,hji3⟩ : ∃ j_:Int,(mx (wrap64 (a0_3 - a0_0)) t220)=j_:=⟨_,rfl⟩
 replace H:((some (([t220,t221,mn (ji3) t221,mn (mx (wrap64 (a0_4 - a0_1)) t220) t221]:List Int):List Int)).bind fun y222=>((slices_Sort_int.f y222).bind fun t225=>(orders_window_widest.l0 k (-1) 0 t225 (y222.length:Int) 0 a0_0 a0_1 a0_2 a0_3 a0_4)))=some (r1,r2):=by first|(rw [hji3] at H;exact H)|(simp only [hji3] at H ⊢;exact H)
 (try rw [hji3] at A2)
 have hji3_:(if (wrap64 (a0_3 - a0_0)) < t220 then t220 else (wrap64 (a0_3 - a0_0)))=ji3:=hji3
 obtain ⟨ji4,hji4⟩ : ∃ j_:Int,(mn (ji3) t221)=j_:=⟨_,rfl⟩
 replace H:((some (([t220,t221,ji4,mn (mx (wrap64 (a0_4 - a0_1)) t220) t221]:List Int):List Int)).bind fun y222=>((slices_Sort_int.f y222).bind fun t225=>(orders_window_widest.l0 k (-1) 0 t225 (y222.length:Int) 0 a0_0 a0_1 a0_2 a0_3 a0_4)))=some (r1,r2):=by first|(rw [hji4] at H;exact H)|(simp only [hji4] at H ⊢;exact H)
 (try rw [hji4] at A2)
 have hji4_:(if t221 < (ji3) then t221 else (ji3))=ji4:=hji4
 obtain ⟨ji5,hji5⟩ : ∃ j_:Int,(mx (wrap64 (a0_4 - a0_1)) t220)=j_:=⟨_,rfl⟩
 replace H:((some (([t220,t221,ji4,mn (ji5) t221]:List Int):List Int)).bind fun y222=>((slices_Sort_int.f y222).bind fun t225=>(orders_window_widest.l0 k (-1) 0 t225 (y222.length:Int) 0 a0_0 a0_1 a0_2 a0_3 a0_4)))=some (r1,r2):=by first|(rw [hji5] at H;exact H)|(simp only [hji5] at H ⊢;exact H)
 (try rw [hji5] at A2)
 have hji5_:(if (wrap64 (a0_4 - a0_1)) < t220 then t220 else (wrap64 (a0_4 - a0_1)))=ji5:=hji5
 obtain ⟨ji6,hji6⟩ : ∃ j_:Int,(mn (ji5) t221)=j_:=⟨_,rfl⟩
 replace H:((some (([t220,t221,ji4,ji6]:List Int):List Int)).bind fun y222=>((slices_Sort_int.f y222).bind fun t225=>(orders_window_widest.l0 k (-1) 0 t225 (y222.length:Int) 0 a0_0 a0_1 a0_2 a0_3 a0_4)))=some (r1,r2):=by first|(rw [hji6] at H;exact H)|(simp only [hji6] at H ⊢;exact H)
 (try rw [hji6] at A2)
 have hji6_:(if t221 < (ji5) then t221 else (ji5))=ji6:=hji6
 obtain ⟨y222,hy222⟩ : ∃ y_:List Int,y_=(([t220,t221,ji4,ji6]:List Int)):=⟨_,rfl⟩
 replace H:((slices_Sort_int.f y222).bind fun t225=>(orders_window_widest.l0 k (-1) 0 t225 (y222.length:Int) 0 a0_0 a0_1 a0_2 a0_3 a0_4))=some (r1,r2):=by first|(rw [hy222];with_reducible exact H)|(have H2_:=(Option.bind_some _ _).symm.trans H;rw [hy222];with_reducible exact H2_)|(have H2_:=(Option.bind_some _ _).symm.trans H;with_reducible exact H2_)|with_reducible exact H|(rw [hy222];exact H)|exact H
 have Ny222:=Aside0.mk hy222
 clear hy222
 replace H:=Option.bind_eq_some_iff.mp H
 obtain ⟨t225,A70,H⟩:=H
 replace H:(orders_window_widest.l0 k (-1) 0 t225 (y222.length:Int) 0 a0_0 a0_1 a0_2 a0_3 a0_4)=some (r1,r2):=H
 have A7:=Aside0.mk A70
 clear A70
 have H':=Aside0.mk H
 clear H
 go_enter Try.func65,Try.ntmps65
 go_wp2_with (first|((with_reducible refine gate_dst (N:=1) rfl ?_);refine bE #[.int .i64 a0_0,.int .i64 a0_1,.int .i64 a0_2,.int .i64 a0_3,.int .i64 a0_4] 105 ?_;intro gb219 hg w8 hbox hb;have BK219:=qK (hbox);have GW219:=qK ((gS hg:w.heap.size≤gb219));have GE219:=qK ((gS hg:w.heap.size≤gb219));replace HB:=qK (bS hb);clear hb hbox hg;obtain ⟨hcz9_0,hcz9_1,hcz9_2,hcz9_3,hcz9_4,hfz9_0,hfz9_1,hfz9_2,hfz9_3,hfz9_4⟩:=xC5 BK219.out)|((with_reducible refine gate_callee (f:=78) rfl ?_);refine gL (some 14) Try.func78 #[.agg #[.int .i64 a0_0,.int .i64 a0_1,.int .i64 a0_2,.int .i64 a0_3,.int .i64 a0_4]] ?_;(with_reducible refine (orders_window_ends.calls a0_0 a0_1 a0_2 a0_3 a0_4 t220 t221 _ A2.out).mono ?_);rintro e w10 ⟨rfl,hb⟩;refine ⟨_,rfl,?_⟩;replace BK219:=qK (bB BK219.out hb);replace HB:=qK (bS hb);obtain ⟨hcz11_0,hcz11_1,hcz11_2,hcz11_3,hcz11_4,hfz11_0,hfz11_1,hfz11_2,hfz11_3,hfz11_4⟩:=xC5 BK219.out)|((with_reducible refine gate_dst (N:=41) rfl ?_);refine Kd.R_lit (Kd.int .i64) _ 3 ?hg (N:=41) ?hd (xs:=([t220,t221,ji4,ji6]:List Int)) (inner:=[.int .i64 t220,.int .i64 t221,.int .i64 ji4,.int .i64 ji6]) (ok:=fun _=>True) (okp:=fun _=>True) ?hr ?hp (fun _ hk=>hk) trivial (Below.refl _ _) (Nat.le_refl _) (by simp) ?_;(case hd=>rfl);(case hg=>rfl);(case hr=>exact rA);(case hp=>exact (Reps.one (show Kd.M (Kd.int .i64) _ _ _ t220 [.int .i64 t220] from rfl) (Reps.one (show Kd.M (Kd.int .i64) _ _ _ t221 [.int .i64 t221] from rfl) (Reps.one (show Kd.M (Kd.int .i64) _ _ _ ji4 [.int .i64 ji4] from rfl) (Reps.one (show Kd.M (Kd.int .i64) _ _ _ ji6 [.int .i64 ji6] from rfl) (Reps.none _ _))))));intro v223 w12 ho13 hb hg_ hnew_;clear hg_ hnew_;(first|rw [← Ny222.out] at ho13|(simp only [Int.reduceToNat] at ho13;rw [← Ny222.out] at ho13));have HO224:=qK (Kd.R_lower ho13 bZ);replace BK219:=qK (bB BK219.out hb);replace HB:=qK (bS hb);clear hb ho13;obtain ⟨Ao14,co14,eo14⟩:=Kd.R_slice HO224.out;subst eo14)|((with_reducible refine gate_callee (f:=20) rfl ?_);refine gL (some 43) Try.func20 #[.slice Ao14 y222.length co14] ?_;(with_reducible refine (slices_Sort_int.calls (fun k_=>some k_=(.slice Ao14 y222.length co14:Value).ownBlock) (.slice Ao14 y222.length co14) y222 t225 w _ ?side1 ?side2 A7.out).mono ?_);(case side1=>repeat (first|(with_reducible first|exact HB.out|apply below_alloc|apply pw_below_drewN|apply below_drew1|refine below_set ?_ GE219.out)|exact HB.out));(case side2=>exact Kd.R_tight rfl HO224.out);rintro e w15 ⟨rfl,hy0,hb,hkp⟩;refine ⟨_,rfl,?_⟩;replace BK219:=qK (blk_kept (bX BK219.out) hkp (fun hs_=>(fun e_=>(Kd.R_ne HO224.out BK219.out (by decide)) e_) hs_));replace HO224:=qK (Kd.R_reok rfl hy0 (fun k_ e_=>HO224.out.1 k_ e_));replace HB:=qK (hb)))
 go_loopg [6,7,46] k (fun kq v6 v7 v46 w'=>∃ (x6_1:Int) (x7_1:Int) (x46_1:Int),v6= .int .i64 x6_1∧v7= .int .i64 x7_1∧v46= .int .i64 x46_1∧Aside0 (orders_window_widest.l0 kq x6_1 x7_1 t225 (y222.length:Int) x46_1 a0_0 a0_1 a0_2 a0_3 a0_4=some (r1,r2))∧Aside0 (kq≤k)∧Aside0 (Kd.R (Kd.int .i64) 3 w' w.heap.size (fun _=>True) (.slice Ao14 y222.length co14) t225)∧Aside0 (w'.heap[gb219]? = some (.cells #[.int .i64 a0_0,.int .i64 a0_1,.int .i64 a0_2,.int .i64 a0_3,.int .i64 a0_4] 105 (0,0)))∧Aside0 (Below w.heap.size w w'))
 case atStart=>exact ⟨((-1)),(0),(0),sA,sA,sA,H',⟨Nat.le_refl _⟩,⟨by (with_reducible repeat (first|apply Kd.R_alloc|apply Kd.R_drewN|apply Kd.R_drew));exact HO224.out⟩,⟨by (with_reducible repeat (first|refine blk_drewN ?_ _|refine blk_drew ?_|refine blk_alloc ?_ _));exact BK219.out⟩,⟨bA⟩⟩
 case round =>
  clear H'
  try clear c2
  try clear p2
  try clear c6
  try clear p6
  try clear c7
  try clear hcz11_0
  try clear hcz11_1
  try clear hcz11_2
  try clear hcz11_3
  try clear hcz11_4
  try clear hcz9_0
  try clear hcz9_1
  try clear hcz9_2
  try clear hcz9_3
  try clear hcz9_4
  try clear hfz11_0
  try clear hfz11_1
  try clear hfz11_2
  try clear hfz11_3
  try clear hfz11_4
  try clear hfz9_0
  try clear hfz9_1
  try clear hfz9_2
  try clear hfz9_3
  try clear hfz9_4
  obtain ⟨x6_1,x7_1,x46_1,rfl,rfl,rfl,HA,HK1,HO_44,BK219,HB⟩:=hrel
  have hl44_1:=(Kd.R_reads' HO_44.out).1
  rw [hl44_1] at HO_44
  (try simp only [hl44_1])
  (try simp only [hl44_1] at BK219)
  cases gk with
  | zero=>exact absurd HA.out (by simp [orders_window_widest.l0])
  | succ k1 =>
   have H:=HA.out
   clear HA
   simp only [orders_window_widest.l0] at H
   by_cases c16:x46_1 < (y222.length:Int)
   rotate_left
   ·rw [if_neg c16] at H
    have c16b0:decide (x46_1 < (y222.length:Int))=false:=decide_eq_false c16
    (try (have c16r0:=c16b0;simp only [hl44_1] at c16r0))
    clear c16
    simp only [Option.some.injEq,Prod.mk.injEq] at H
    obtain ⟨rfl,rfl⟩:=H
    go_wp2
    go_ret2
    exact ⟨by first|rfl|(simp [errW_none,errW_some] <;> rfl)|(simp only [← hji3,← hji4,← hji5,← hji6];first|rfl|(simp [errW_none,errW_some] <;> rfl))|(simp [*,errW_none,errW_some] <;> rfl),bA⟩
   rw [if_pos c16] at H
   have c16b0:decide (x46_1 < (y222.length:Int))=true:=decide_eq_true c16
   (try (have c16r0:=c16b0;simp only [hl44_1] at c16r0))
   clear c16
   by_cases c17:0≤x46_1
   rotate_left
   ·rw [if_neg c17] at H
    exact absurd H (by simp)
   rw [if_pos c17] at H
   have c17b0:decide (0≤x46_1)=true:=decide_eq_true c17
   clear c17
   by_cases c18:x46_1 < (t225.length:Int)
   rotate_left
   ·rw [if_neg c18] at H
    exact absurd H (by simp)
   rw [if_pos c18] at H
   have c18b0:decide (x46_1 < (t225.length:Int))=true:=decide_eq_true c18
   (try (have c18r0:=c18b0;simp only [hl44_1] at c18r0))
   clear c18
   replace H:=Option.bind_eq_some_iff.mp H
   obtain ⟨⟨t227,t228⟩,A190,H⟩:=H
   replace H:(if (wrap64 (t228 - t227)) > x6_1 then (orders_window_widest.l0 k1 (wrap64 (t228 - t227)) (rd t225 x46_1) t225 (y222.length:Int) (wrap64 (x46_1+1)) a0_0 a0_1 a0_2 a0_3 a0_4) else (orders_window_widest.l0 k1 x6_1 x7_1 t225 (y222.length:Int) (wrap64 (x46_1+1)) a0_0 a0_1 a0_2 a0_3 a0_4))=some (r1,r2):=H
   have A19:=Aside0.mk A190
   clear A190
   by_cases c20:(wrap64 (t228 - t227)) > x6_1
   rotate_left
   ·rw [if_neg c20] at H
    have c20b0:decide (x6_1 < (wrap64 (t228 - t227)))=false:=decide_eq_false c20
    clear c20
    have H':=Aside0.mk H
    clear H
    have p226:0≤(x46_1:Int):=dA
    have q226:x46_1 < (t225.length:Int):=dA
    obtain ⟨ad226,e226,hx226_0⟩:=Kd.at_int (Kd.R_reads' HO_44.out).2.2 x46_1 p226 q226
    cases e226
    replace p226:=eq_true p226
    replace q226:=eq_true q226
    obtain ⟨_,_,_,_,_,_,_,_,_,_⟩:=xC5 BK219.out
    go_wp2_with (first|((with_reducible refine gate_callee (f:=79) rfl ?_);refine gL (some 52) Try.func79 #[.agg #[.int .i64 a0_0,.int .i64 a0_1,.int .i64 a0_2,.int .i64 a0_3,.int .i64 a0_4],.int .i64 (rd t225 x46_1)] ?_;(with_reducible refine (orders_window_seen.calls a0_0 a0_1 a0_2 a0_3 a0_4 (rd t225 x46_1) t227 t228 _ A19.out).mono ?_);rintro e w27 ⟨rfl,hb⟩;refine ⟨_,rfl,?_⟩;replace HO_44:=qK (Kd.R_below (rS HO_44.out) hb);replace BK219:=qK (bB BK219.out hb);replace HB:=qK (bS hb))|((with_reducible refine gate_dst (N:=11) rfl ?_);refine bE #[.int .i64 0,.int .i64 0] 24 ?_;intro gb229 hg w28 hbox hb;replace HO_44:=qK (Kd.R_below (rS HO_44.out) hb);have BK229:=qK (hbox);have GW229:=qK ((gS hg:w.heap.size≤gb229));have GE229:=qK ((gS hg:w.heap.size≤gb229));replace HB:=qK (bS hb);have NB219_229:=qK ((nL hg BK219.out:gb219≠gb229));have NB229_219:=qK ((nG hg BK219.out:gb229≠gb219));replace BK219:=qK (bB BK219.out hb);clear hb hbox hg;have hnb29:=NB229_219.out;have hnc29:=NB219_229.out;obtain ⟨_,_,_,_⟩:=xC2 BK229.out))
    (try simp only [← hl44_1])
    go_roundg k1
    case measure=>have:=HK1.out;omega
    case rel=>exact ⟨(x6_1),(x7_1),(wrap64 (x46_1+1)),sA,sA,sA,H',⟨by have:=HK1.out;omega⟩,⟨by (try simp only [hl44_1]);(with_reducible repeat (first|apply Kd.R_alloc|apply Kd.R_drewN|apply Kd.R_drew));exact Kd.R_mono (Kd.R_far (p:=⟨gb229,1,none⟩) (Kd.R_far (p:=⟨gb229,0,none⟩) (Kd.R_types HO_44.out BK229.out (by decide)) (fun _ hk=>hk.2) (.int .i64 t227)) (fun _ hk=>hk.2) (.int .i64 t228)) (fun _ hk=>trivial)⟩,⟨by (try simp only [hl44_1]);(with_reducible repeat (first|refine blk_drewN ?_ _|refine blk_drew ?_|refine blk_alloc ?_ _));refine blk_far ?_ NB219_229.out _;(with_reducible repeat (first|refine blk_drewN ?_ _|refine blk_drew ?_|refine blk_alloc ?_ _));refine blk_far ?_ NB219_229.out _;(with_reducible repeat (first|refine blk_drewN ?_ _|refine blk_drew ?_|refine blk_alloc ?_ _));exact BK219.out⟩,⟨bA⟩⟩
   rw [if_pos c20] at H
   have c20b0:decide (x6_1 < (wrap64 (t228 - t227)))=true:=decide_eq_true c20
   clear c20
   have H':=Aside0.mk H
   clear H
   have p226:0≤(x46_1:Int):=dA
   have q226:x46_1 < (t225.length:Int):=dA
   obtain ⟨ad226,e226,hx226_0⟩:=Kd.at_int (Kd.R_reads' HO_44.out).2.2 x46_1 p226 q226
   cases e226
   replace p226:=eq_true p226
   replace q226:=eq_true q226
   obtain ⟨_,_,_,_,_,_,_,_,_,_⟩:=xC5 BK219.out
   go_wp2_with (first|((with_reducible refine gate_callee (f:=79) rfl ?_);refine gL (some 52) Try.func79 #[.agg #[.int .i64 a0_0,.int .i64 a0_1,.int .i64 a0_2,.int .i64 a0_3,.int .i64 a0_4],.int .i64 (rd t225 x46_1)] ?_;(with_reducible refine (orders_window_seen.calls a0_0 a0_1 a0_2 a0_3 a0_4 (rd t225 x46_1) t227 t228 _ A19.out).mono ?_);rintro e w22 ⟨rfl,hb⟩;refine ⟨_,rfl,?_⟩;replace HO_44:=qK (Kd.R_below (rS HO_44.out) hb);replace BK219:=qK (bB BK219.out hb);replace HB:=qK (bS hb))|((with_reducible refine gate_dst (N:=11) rfl ?_);refine bE #[.int .i64 0,.int .i64 0] 24 ?_;intro gb229 hg w23 hbox hb;replace HO_44:=qK (Kd.R_below (rS HO_44.out) hb);have BK229:=qK (hbox);have GW229:=qK ((gS hg:w.heap.size≤gb229));have GE229:=qK ((gS hg:w.heap.size≤gb229));replace HB:=qK (bS hb);have NB219_229:=qK ((nL hg BK219.out:gb219≠gb229));have NB229_219:=qK ((nG hg BK219.out:gb229≠gb219));replace BK219:=qK (bB BK219.out hb);clear hb hbox hg;have hnb24:=NB229_219.out;have hnc24:=NB219_229.out;obtain ⟨_,_,_,_⟩:=xC2 BK229.out))
   (try simp only [← hl44_1])
   go_roundg k1
   case measure=>have:=HK1.out;omega
   case rel=>exact ⟨(wrap64 (t228 - t227)),(rd t225 x46_1),(wrap64 (x46_1+1)),sA,sA,sA,H',⟨by have:=HK1.out;omega⟩,⟨by (try simp only [hl44_1]);(with_reducible repeat (first|apply Kd.R_alloc|apply Kd.R_drewN|apply Kd.R_drew));exact Kd.R_mono (Kd.R_far (p:=⟨gb229,1,none⟩) (Kd.R_far (p:=⟨gb229,0,none⟩) (Kd.R_types HO_44.out BK229.out (by decide)) (fun _ hk=>hk.2) (.int .i64 t227)) (fun _ hk=>hk.2) (.int .i64 t228)) (fun _ hk=>trivial)⟩,⟨by (try simp only [hl44_1]);(with_reducible repeat (first|refine blk_drewN ?_ _|refine blk_drew ?_|refine blk_alloc ?_ _));refine blk_far ?_ NB219_229.out _;(with_reducible repeat (first|refine blk_drewN ?_ _|refine blk_drew ?_|refine blk_alloc ?_ _));refine blk_far ?_ NB219_229.out _;(with_reducible repeat (first|refine blk_drewN ?_ _|refine blk_drew ?_|refine blk_alloc ?_ _));exact BK219.out⟩,⟨bA⟩⟩
def orders_worst.f (k:Nat) (l0_0:List (S50)) (a0_1:Int) (a0_2:Int) (l1:List Int):Option (Int):=(orders_gains.f k l0_0 a0_1 a0_2 l1).bind fun t231=>((orders_total.f k t231).bind fun t234=>((orders_windowOf.f k l0_0 a0_1 a0_2 t234).bind fun bt235=>((orders_window_widest.f k bt235.1 bt235.2.1 bt235.2.2.1 bt235.2.2.2.1 bt235.2.2.2.2).bind fun bt240=>(some bt240.1))))
def orders_worst.T1:Bool × List (List Nat × List Nat):=(true,[([],[]),([],[]),([],[]),([1,2],[1,2]),([3,3],[3]),([0,4,4],[0,4]),([5,5],[5]),([6],[6]),([7],[7]),([7],[7]),([8,6,0,1,2,3,4,5,6,7,8],[8]),([9,10,0,1,2,3,4,5,6,7,8,9,10],[9])])
def orders_worst.B1:List Nat:=[0,0,0,6,14,31,63,127,255,255,511,2047]
theorem orders_worst.tab1:rtab .any (opsOf Try.f58 1)=orders_worst.T1:=by kernel_rfl
theorem orders_worst.bits1:waitsOk orders_worst.T1.2 orders_worst.B1=true:=by kernel_rfl
set_option maxHeartbeats 8000000 in
set_option maxRecDepth 100000 in
theorem orders_worst.calls (k:Nat) (A0_0:Option Addr) (c0_0:Nat) (l0_0:List (S50)) (a0_1:Int) (a0_2:Int) (A1:Option Addr) (c1:Nat) (l1:List Int) (r:Int) (w:World) (hr0_0:Kd.C k50 w A0_0 l0_0.length l0_0) (hc0_0:l0_0.length≤c0_0) (hr1:Kd.C (Kd.int .i64) w A1 l1.length l1) (hc1:l1.length≤c1) (h:orders_worst.f k l0_0 a0_1 a0_2 l1=some r) :
 Calls Try.prog 58 #[.agg #[.slice A0_0 l0_0.length c0_0,.int .i64 a0_1,.int .i64 a0_2],.slice A1 l1.length c1] w fun e w'=>e= .returned (.int .i64 r)∧Below w.heap.size w w':=by
 have hu26:=Try.underlying26
 have HR0_0:=Aside0.mk hr0_0
 have HC0_0:=Aside0.mk hc0_0
 clear hr0_0 hc0_0
 have HR1:=Aside0.mk hr1
 have HC1:=Aside0.mk hc1
 clear hr1 hc1
 have HB:=Aside0.mk (Below.refl w.heap.size w)
 have H:((orders_gains.f k l0_0 a0_1 a0_2 l1).bind fun t231=>((orders_total.f k t231).bind fun t234=>((orders_windowOf.f k l0_0 a0_1 a0_2 t234).bind fun bt235=>((orders_window_widest.f k bt235.1 bt235.2.1 bt235.2.2.1 bt235.2.2.2.1 bt235.2.2.2.2).bind fun bt240=>(some bt240.1)))))=some r:=h
 clear h
 replace H:=Option.bind_eq_some_iff.mp H
 obtain ⟨t231,A30,H⟩:=H
 replace H:((orders_total.f k t231).bind fun t234=>((orders_windowOf.f k l0_0 a0_1 a0_2 t234).bind fun bt235=>((orders_window_widest.f k bt235.1 bt235.2.1 bt235.2.2.1 bt235.2.2.2.1 bt235.2.2.2.2).bind fun bt240=>(some bt240.1))))=some r:=H
 have A3:=Aside0.mk A30
 clear A30
 replace H:=Option.bind_eq_some_iff.mp H
 obtain ⟨t234,A40,H⟩:=H
 replace H:((orders_windowOf.f k l0_0 a0_1 a0_2 t234).bind fun bt235=>((orders_window_widest.f k bt235.1 bt235.2.1 bt235.2.2.1 bt235.2.2.2.1 bt235.2.2.2.2).bind fun bt240=>(some bt240.1)))=some r:=H
 have A4:=Aside0.mk A40
 clear A40
 replace H:=Option.bind_eq_some_iff.mp H
 obtain ⟨⟨t235,t236,t237,t238,t239⟩,A50,H⟩:=H
 replace H:((orders_window_widest.f k t235 t236 t237 t238 t239).bind fun bt240=>(some bt240.1))=some r:=H
 have A5:=Aside0.mk A50
 clear A50
 replace H:=Option.bind_eq_some_iff.mp H
 obtain ⟨⟨t240,t241⟩,A60,H⟩:=H
 replace H:(some t240)=some r:=H
 have A6:=Aside0.mk A60
 clear A60
 obtain rfl:=Option.some.inj H
 go_enter Try.func58,Try.ntmps58
 try go_wp2_with (first|((with_reducible refine gate_dst (N:=2) rfl ?_);refine bE #[.slice A0_0 l0_0.length c0_0,.int .i64 a0_1,.int .i64 a0_2] 26 ?_;intro gb230 hg w7 hbox hb;have BK230:=qK (hbox);have GW230:=qK ((gS hg:w.heap.size≤gb230));have GE230:=qK ((gS hg:w.heap.size≤gb230));replace HB:=qK (bS hb);clear hb hbox hg))
 replace BK230:=qK (blk_drew BK230.out)
 replace HB:=qK (below_drew1 HB.out)
 refine start_ (n:=12) (S:=fun w'=>w'.cell? ⟨gb230,0,none⟩=some (.slice A0_0 l0_0.length c0_0)∧w'.cell? ⟨gb230,1,none⟩=some (.int .i64 a0_1)∧w'.cell? ⟨gb230,2,none⟩=some (.int .i64 a0_2)) (ds:=[]) #[false,false,false,false,false,false,false,false,false,false,false,false] (by kernel_rfl) rfl rfl ⟨(blk_cell BK230.out 0).trans rfl,(blk_cell BK230.out 1).trans rfl,(blk_cell BK230.out 2).trans rfl⟩ (fun hHeld=>?_);refine with_tabW orders_worst.tab1 orders_worst.bits1 (fun HT_ HW_=>?_)
 generalize w7.drew=w8 at BK230 HB hHeld ⊢
 refine pP 2 (some 10) HT_ ?_
 refine tP 0 (some 8) HT_ HW_ hHeld ?_
 refine tP 1 (some 9) HT_ HW_ hHeld ?_
 refine oP 3 (some 11) HT_ (fun K hK=>?_)
 refine gO Try.func62 #[.agg #[.slice A0_0 l0_0.length c0_0,.int .i64 a0_1,.int .i64 a0_2],.slice A1 l1.length c1] ?_
 with_reducible refine (orders_gains.calls k _ _ l0_0 a0_1 a0_2 _ _ l1 t231 _ ?side1 ?side2 ?side3 ?side4 A3.out).mono ?_
 (case side1=>exact cS HR0_0.out)
 (case side2=>exact HC0_0.out)
 (case side3=>exact cS HR1.out)
 (case side4=>exact HC1.out)
 rintro e w9 ⟨v232,rfl,ho0,hb⟩
 refine ⟨_,rfl,?_⟩
 have HO233:=qK (Kd.R_lower ho0 bZ)
 replace BK230:=qK (bB BK230.out hb)
 replace HB:=qK (bS hb)
 (try clear hb)
 (try clear hb2)
 (try clear hk)
 (try clear hi)
 (try clear ho0)
 obtain ⟨Ao10,co10,eo10⟩:=Kd.R_slice HO233.out
 (first|subst eo10|(injection eo10 with f1_ f2_ f3_;have f4_:=f1_.symm;have f5_:=f3_.symm;clear f1_ f2_ f3_;subst f4_;subst f5_))
 refine hK.out _ _ ⟨(blk_cell BK230.out 0).trans rfl,(blk_cell BK230.out 1).trans rfl,(blk_cell BK230.out 2).trans rfl⟩ (fun hHeld=>?_)
 clear hK K
 refine nP ?_
 refine oP 4 (some 12) HT_ (fun K hK=>?_)
 refine gO Try.func66 #[.slice Ao10 t231.length co10] ?_
 with_reducible refine (orders_total.calls k _ _ t231 t234 _ ?side1 ?side2 A4.out).mono ?_
 (case side1=>exact cR (Kd.R_reads' HO233.out).2.2)
 (case side2=>exact (Kd.R_reads' HO233.out).2.1)
 rintro e w' ⟨rfl,⟨nd,rfl⟩⟩
 refine ⟨_,rfl,?_⟩
 refine hK.out _ _ ⟨(blk_cell BK230.out 0).trans rfl,(blk_cell BK230.out 1).trans rfl,(blk_cell BK230.out 2).trans rfl⟩ (fun hHeld=>?_)
 clear hK K
 refine nP ?_
 refine oP 5 (some 13) HT_ (fun K hK=>?_)
 refine gO Try.func64 #[.agg #[.slice A0_0 l0_0.length c0_0,.int .i64 a0_1,.int .i64 a0_2],.int .i64 t234] ?_
 with_reducible refine (orders_windowOf.calls k _ _ l0_0 a0_1 a0_2 t234 t235 t236 t237 t238 t239 _ ?side1 ?side2 A5.out).mono ?_
 (case side1=>repeat (first|exact (Kd.C_below HR0_0.out bA)|(with_reducible refine Kd.C_alloc ?_ _)|(with_reducible refine Kd.C_drewN ?_ _)|(with_reducible refine Kd.C_drew ?_)))
 (case side2=>exact HC0_0.out)
 rintro e w11 ⟨rfl,hb⟩
 refine ⟨_,rfl,?_⟩
 replace HO233:=qK (Kd.R_below (rS HO233.out) hb)
 replace BK230:=qK (bB BK230.out hb)
 replace HB:=qK (bS hb)
 (try clear hb)
 (try clear hb2)
 (try clear hk)
 (try clear hi)
 refine hK.out _ _ ⟨(blk_cell BK230.out 0).trans rfl,(blk_cell BK230.out 1).trans rfl,(blk_cell BK230.out 2).trans rfl⟩ (fun hHeld=>?_)
 clear hK K
 refine nP ?_
 refine oP 6 (some 14) HT_ (fun K hK=>?_)
 refine gO Try.func65 #[.agg #[.int .i64 t235,.int .i64 t236,.int .i64 t237,.int .i64 t238,.int .i64 t239]] ?_
 with_reducible refine (orders_window_widest.calls k t235 t236 t237 t238 t239 t240 t241 _ A6.out).mono ?_
 rintro e w12 ⟨rfl,hb⟩
 refine ⟨_,rfl,?_⟩
 replace HO233:=qK (Kd.R_below (rS HO233.out) hb)
 replace BK230:=qK (bB BK230.out hb)
 replace HB:=qK (bS hb)
 (try clear hb)
 (try clear hb2)
 (try clear hk)
 (try clear hi)
 refine hK.out _ _ ⟨(blk_cell BK230.out 0).trans rfl,(blk_cell BK230.out 1).trans rfl,(blk_cell BK230.out 2).trans rfl⟩ (fun hHeld=>?_)
 clear hK K
 refine nP ?_
 refine pP 7 (some 7) HT_ ?_
 refine pP 8 (some 15) HT_ ?_
 refine pP 9 (some 16) HT_ ?_
 refine pP 10 (some 5) HT_ ?_
 refine pP 11 (some 6) HT_ ?_
 refine done_ (done_of HT_.out (by kernel_rfl)) ?_
 try go_wp2
 go_ret
 exact ⟨by first|rfl|(simp [errW_none,errW_some] <;> rfl)|(simp [*,errW_none,errW_some] <;> rfl),bA⟩
def orders_Worst.f (k:Nat) (l0_0:List (S50)) (a0_1:Int) (a0_2:Int) (l1:List Int):Option (Int × Int):=(orders_right.f k l0_0 a0_1 a0_2 l1).bind fun t243=>(if t243=0 then ((orders_worst.f k l0_0 a0_1 a0_2 l1).bind fun t244=>(some (t244,0))) else (some (0,t243)))
set_option maxHeartbeats 8000000 in
set_option maxRecDepth 100000 in
theorem orders_Worst.calls (k:Nat) (A0_0:Option Addr) (c0_0:Nat) (l0_0:List (S50)) (a0_1:Int) (a0_2:Int) (A1:Option Addr) (c1:Nat) (l1:List Int) (r1:Int) (r2:Int) (w:World) (hr0_0:Kd.C k50 w A0_0 l0_0.length l0_0) (hc0_0:l0_0.length≤c0_0) (hr1:Kd.C (Kd.int .i64) w A1 l1.length l1) (hc1:l1.length≤c1) (h:orders_Worst.f k l0_0 a0_1 a0_2 l1=some (r1,r2)) :
 Calls Try.prog 21 #[.agg #[.slice A0_0 l0_0.length c0_0,.int .i64 a0_1,.int .i64 a0_2],.slice A1 l1.length c1] w fun e w'=>e= .returned (.tuple #[.int .i64 r1,.int .i64 r2])∧Below w.heap.size w w':=by
 have hu26:=Try.underlying26
 have HR0_0:=Aside0.mk hr0_0
 have HC0_0:=Aside0.mk hc0_0
 clear hr0_0 hc0_0
 have HR1:=Aside0.mk hr1
 have HC1:=Aside0.mk hc1
 clear hr1 hc1
 have HB:=Aside0.mk (Below.refl w.heap.size w)
 have H:((orders_right.f k l0_0 a0_1 a0_2 l1).bind fun t243=>(if t243=0 then ((orders_worst.f k l0_0 a0_1 a0_2 l1).bind fun t244=>(some (t244,0))) else (some (0,t243))))=some (r1,r2):=h
 clear h
 replace H:=Option.bind_eq_some_iff.mp H
 obtain ⟨t243,A30,H⟩:=H
 replace H:(if t243=0 then ((orders_worst.f k l0_0 a0_1 a0_2 l1).bind fun t244=>(some (t244,0))) else (some (0,t243)))=some (r1,r2):=H
 have A3:=Aside0.mk A30
 clear A30
 by_cases c4:t243=0
 rotate_left
 ·rw [if_neg c4] at H
  have c4b0:(t243 == 0)=false:=beq_eq_false_iff_ne.mpr c4
  have c4b1:(t243 != 0)=true:=bne_iff_ne.mpr c4
  simp only [Option.some.injEq,Prod.mk.injEq] at H
  obtain ⟨rfl,rfl⟩:=H
  go_enter Try.func21,Try.ntmps21
  go_wp2_with (first|((with_reducible refine gate_dst (N:=2) rfl ?_);refine bE #[.slice A0_0 l0_0.length c0_0,.int .i64 a0_1,.int .i64 a0_2] 26 ?_;intro gb242 hg w11 hbox hb;have BK242:=qK (hbox);have GW242:=qK ((gS hg:w.heap.size≤gb242));have GE242:=qK ((gS hg:w.heap.size≤gb242));replace HB:=qK (bS hb);clear hb hbox hg;obtain ⟨_,_,_,_,_,_⟩:=xC3 BK242.out)|((with_reducible refine gate_callee (f:=49) rfl ?_);refine gL (some 9) Try.func49 #[.agg #[.slice A0_0 l0_0.length c0_0,.int .i64 a0_1,.int .i64 a0_2],.slice A1 l1.length c1] ?_;(with_reducible refine (orders_right.calls k _ _ l0_0 a0_1 a0_2 _ _ l1 t243 _ ?side1 ?side2 ?side3 ?side4 A3.out).mono ?_);(case side1=>exact cS HR0_0.out);(case side2=>exact HC0_0.out);(case side3=>exact cS HR1.out);(case side4=>exact HC1.out);rintro e w13 ⟨rfl,hb⟩;refine ⟨_,rfl,?_⟩;replace BK242:=qK (bB BK242.out hb);replace HB:=qK (bS hb)))
  go_ret2
  exact ⟨by first|rfl|(simp [errW_none,errW_some] <;> rfl)|(simp [*,errW_none,errW_some] <;> rfl),bA⟩
 rw [if_pos c4] at H
 have c4b0:(t243 == 0)=true:=beq_iff_eq.mpr c4
 have c4b1:(t243 != 0)=false:=bne_eq_false_iff_eq.mpr c4
 clear c4
 replace H:=Option.bind_eq_some_iff.mp H
 obtain ⟨t244,A50,H⟩:=H
 replace H:(some (t244,0))=some (r1,r2):=H
 have A5:=Aside0.mk A50
 clear A50
 simp only [Option.some.injEq,Prod.mk.injEq] at H
 obtain ⟨rfl,rfl⟩:=H
 go_enter Try.func21,Try.ntmps21
 go_wp2_with (first|((with_reducible refine gate_dst (N:=2) rfl ?_);refine bE #[.slice A0_0 l0_0.length c0_0,.int .i64 a0_1,.int .i64 a0_2] 26 ?_;intro gb242 hg w6 hbox hb;have BK242:=qK (hbox);have GW242:=qK ((gS hg:w.heap.size≤gb242));have GE242:=qK ((gS hg:w.heap.size≤gb242));replace HB:=qK (bS hb);clear hb hbox hg;obtain ⟨_,_,_,_,_,_⟩:=xC3 BK242.out)|((with_reducible refine gate_callee (f:=49) rfl ?_);refine gL (some 9) Try.func49 #[.agg #[.slice A0_0 l0_0.length c0_0,.int .i64 a0_1,.int .i64 a0_2],.slice A1 l1.length c1] ?_;(with_reducible refine (orders_right.calls k _ _ l0_0 a0_1 a0_2 _ _ l1 t243 _ ?side1 ?side2 ?side3 ?side4 A3.out).mono ?_);(case side1=>exact cS HR0_0.out);(case side2=>exact HC0_0.out);(case side3=>exact cS HR1.out);(case side4=>exact HC1.out);rintro e w8 ⟨rfl,hb⟩;refine ⟨_,rfl,?_⟩;replace BK242:=qK (bB BK242.out hb);replace HB:=qK (bS hb);obtain ⟨hcz9_0,hcz9_1,hcz9_2,hfz9_0,hfz9_1,hfz9_2⟩:=xC3 BK242.out)|((with_reducible refine gate_callee (f:=58) rfl ?_);refine gL (some 15) Try.func58 #[.agg #[.slice A0_0 l0_0.length c0_0,.int .i64 a0_1,.int .i64 a0_2],.slice A1 l1.length c1] ?_;(with_reducible refine (orders_worst.calls k _ _ l0_0 a0_1 a0_2 _ _ l1 t244 _ ?side1 ?side2 ?side3 ?side4 A5.out).mono ?_);(case side1=>exact cS HR0_0.out);(case side2=>exact HC0_0.out);(case side3=>exact cS HR1.out);(case side4=>exact HC1.out);rintro e w10 ⟨rfl,hb⟩;refine ⟨_,rfl,?_⟩;replace BK242:=qK (bB BK242.out hb);replace HB:=qK (bS hb)))
 go_ret2
 exact ⟨by first|rfl|(simp [errW_none,errW_some] <;> rfl)|(simp [*,errW_none,errW_some] <;> rfl),bA⟩
def orders_numbers.l0:Nat→List Int→Int→Int→Option (List Int)
 | 0,_,_,_=>none
 | k+1,x3,x5,x6=>if x6 < x5 then (if x3.length < 17592186044416 then (orders_numbers.l0 k (x3 ++ [x6]) x5 (wrap64 (x6+1))) else (none)) else (some x3)
def orders_numbers.f (k:Nat) (a0:Int):Option (List Int):=orders_numbers.l0 k ([]:List Int) a0 0
set_option maxHeartbeats 8000000 in
set_option maxRecDepth 100000 in
theorem orders_numbers.calls (k:Nat) (a0:Int) (r:List Int) (w:World) (h:orders_numbers.f k a0=some r) :
 Calls Try.prog 63 #[.int .i64 a0] w fun e w'=>∃ v0_:Value,e= .returned (v0_)∧Kd.R (Kd.int .i64) 3 w' w.heap.size (fun _=>True) v0_ r∧Below w.heap.size w w':=by
 have HB:=Aside0.mk (Below.refl w.heap.size w)
 have H:(orders_numbers.l0 k ([]:List Int) a0 0)=some r:=h
 clear h
 have H':=Aside0.mk H
 clear H
 go_enter Try.func63,Try.ntmps63
 go_wp2
 go_loopg [3,6] k (fun kq v3 v6 w'=>∃ (x3_1:List Int) (x6_1:Int),v6= .int .i64 x6_1∧Aside0 (orders_numbers.l0 kq x3_1 a0 x6_1=some r)∧Aside0 (kq≤k)∧Aside0 (Kd.R (Kd.int .i64) 3 w' w.heap.size (fun _=>True) v3 x3_1)∧Aside0 (Below w.heap.size w w'))
 case atStart=>exact ⟨(([]:List Int)),(0),sA,H',⟨Nat.le_refl _⟩,⟨by first|exact Kd.R_nil _ _ _ _ _|exact Kd.N_nil _ _ _ _ _|exact Kd.V_nil _ _ _ _ _|exact Kd.Q_nil _ _ _ _ _|exact Kd.S_nil _ _ _ _ _⟩,⟨bA⟩⟩
 case round =>
  clear H'
  obtain ⟨x3_1,x6_1,rfl,HA,HK1,HO_3,HB⟩:=hrel
  cases gk with
  | zero=>exact absurd HA.out (by simp [orders_numbers.l0])
  | succ k1 =>
   have H:=HA.out
   clear HA
   simp only [orders_numbers.l0] at H
   by_cases c2:x6_1 < a0
   rotate_left
   ·rw [if_neg c2] at H
    have c2b0:decide (x6_1 < a0)=false:=decide_eq_false c2
    clear c2
    obtain rfl:=Option.some.inj H
    go_wp2
    go_ret
    exact ⟨_,by first|rfl|(simp [errW_none,errW_some] <;> rfl)|(simp [*,errW_none,errW_some] <;> rfl),by (with_reducible repeat (first|apply Kd.R_alloc|apply Kd.R_drewN|apply Kd.R_drew));exact HO_3.out,bA⟩
   rw [if_pos c2] at H
   have c2b0:decide (x6_1 < a0)=true:=decide_eq_true c2
   clear c2
   by_cases c3:x3_1.length < 17592186044416
   rotate_left
   ·rw [if_neg c3] at H
    exact absurd H (by simp)
   rw [if_pos c3] at H
   have LMc3:=Aside0.mk c3
   clear c3
   obtain ⟨y245,hy245⟩ : ∃ y_:List Int,y_=(x3_1 ++ [x6_1]):=⟨_,rfl⟩
   replace H:(orders_numbers.l0 k1 y245 a0 (wrap64 (x6_1+1)))=some r:=by first|(rw [hy245];with_reducible exact H)|(have H2_:=(Option.bind_some _ _).symm.trans H;rw [hy245];with_reducible exact H2_)|(have H2_:=(Option.bind_some _ _).symm.trans H;with_reducible exact H2_)|with_reducible exact H|(rw [hy245];exact H)|exact H
   have Ny245:=Aside0.mk hy245
   clear hy245
   have H':=Aside0.mk H
   clear H
   go_wp2_with (first|((with_reducible refine gate_builtin (b:=.append) (xs:=#[.tmp 9,.tmp 11]) rfl ?_);at_builtin;refine Kd.R_append (Kd.int .i64) (w0:=w) w.heap.size rfl (.tmp 9) (.tmp 11) 27 3 (.int .i64 0) 8 rfl Try.underlying27 info3 rfl (by decide) (by omega) u3 x3_1 x6_1 [.int .i64 x6_1] (fun _=>True) (fun _=>False) rfl rfl ?aP (fun _ hk=>hk.elim) ?aF ?aO ?aB ?aS ?aL ?_;(case aP=>exact rfl);(case aB=>exact bA);(case aF=>exact (fun _ _=>trivial));(case aO=>exact (rS HO_3.out));(case aS=>exact bZ);(case aL=>have:=LMc3.out;omega);intro v246 w4 ho hb hg hat;rw [← Ny245.out] at ho;replace HB:=qK (hb);have HO247:=qK (ho);clear HO_3;clear ho hb hg hat))
   go_roundg k1
   case measure=>have:=HK1.out;omega
   case rel=>exact ⟨(y245),(wrap64 (x6_1+1)),sA,H',⟨by have:=HK1.out;omega⟩,⟨by (with_reducible repeat (first|apply Kd.R_alloc|apply Kd.R_drewN|apply Kd.R_drew));exact HO247.out⟩,⟨bA⟩⟩
end Go.Proofs.Ythimaecnpkcmeaa.K
namespace Go.Proofs.Ythimaecnpkcmeaa.K
open Go.RowKit Go.Proofs.YthimaecnpkcmeaaW.PrintWords Go.Proofs.YthimaecnpkcmeaaW.PrintLast Go.Proofs.YthimaecnpkcmeaaW.PrintMore
attribute [local go_sem] max2_int min2_int max_two min_two max_three min_three max_four min_four   -- for this text's walks alone
set_option linter.unusedVariables false
set_option linter.unusedSimpArgs false
def orders_Need.l0:Nat→Int→Int→Int→List (S50)→Int→Int→Option (Int × Bool × Int)
 | 0,_,_,_,_,_,_=>none
 | k+1,x1,x9,x10,x249000,x249001,x249002=>if x9 < x10 then ((orders_windowOf.f k x249000 x249001 x249002 (wrap64 (Int.tdiv (wrap64 (x9+x10)) 2))).bind fun bt260=>((orders_window_widest.f k bt260.1 bt260.2.1 bt260.2.2.1 bt260.2.2.2.1 bt260.2.2.2.2).bind fun bt265=>(if bt265.1≤x1 then (orders_Need.l0 k x1 x9 (wrap64 (Int.tdiv (wrap64 (x9+x10)) 2)) x249000 x249001 x249002) else (orders_Need.l0 k x1 (wrap64 ((wrap64 (Int.tdiv (wrap64 (x9+x10)) 2))+1)) x10 x249000 x249001 x249002)))) else ((orders_numbers.f k (x249000.length:Int)).bind fun t253=>((orders_gains.f k x249000 x249001 x249002 t253).bind fun t256=>((orders_total.f k t256).bind fun t259=>(some (x9,decide (t259≥x9),0)))))
def orders_Need.f (k:Nat) (l0_0:List (S50)) (a0_1:Int) (a0_2:Int) (a1:Int):Option (Int × Bool × Int):=(orders_Check.f k l0_0 a0_1 a0_2).bind fun t249=>(if t249=0 then (if a1 < 0 then (some (0,false,1)) else ((orders_all.f k l0_0 a0_1 a0_2).bind fun bt250=>(orders_Need.l0 k a1 0 (wrap64 (bt250.2 - bt250.1)) l0_0 a0_1 a0_2))) else (some (0,false,t249)))
def orders_Need.T14:Bool × List (List Nat × List Nat):=(true,[([],[]),([],[]),([],[]),([2],[2]),([3],[3]),([4],[4]),([1,5,5],[1,5]),([6,6],[6]),([],[]),([7,8],[7,8]),([0,7,0],[0]),([9,10,0,1,2,3,4,5,6,7,8,9,10],[9]),([11,0,1,2,3,4,5,6,7,8,9,10,11],[])])
def orders_Need.B14:List Nat:=[0,0,0,4,12,28,62,126,0,510,255,2047,4095]
theorem orders_Need.tab14:rtab .any (opsOf Try.f26 14)=orders_Need.T14:=by kernel_rfl
theorem orders_Need.bits14:waitsOk orders_Need.T14.2 orders_Need.B14=true:=by kernel_rfl
set_option maxHeartbeats 8000000 in
set_option maxRecDepth 100000 in
theorem orders_Need.calls (k:Nat) (A0_0:Option Addr) (c0_0:Nat) (l0_0:List (S50)) (a0_1:Int) (a0_2:Int) (a1:Int) (r1:Int) (r2:Bool) (r3:Int) (w:World) (hr0_0:Kd.C k50 w A0_0 l0_0.length l0_0) (hc0_0:l0_0.length≤c0_0) (h:orders_Need.f k l0_0 a0_1 a0_2 a1=some (r1,r2,r3)) :
 Calls Try.prog 26 #[.agg #[.slice A0_0 l0_0.length c0_0,.int .i64 a0_1,.int .i64 a0_2],.int .i64 a1] w fun e w'=>e= .returned (.tuple #[.int .i64 r1,.bool r2,.int .i64 r3])∧Below w.heap.size w w':=by
 have hu26:=Try.underlying26
 have hu24:=Try.underlying24
 have HR0_0:=Aside0.mk hr0_0
 have HC0_0:=Aside0.mk hc0_0
 clear hr0_0 hc0_0
 have HB:=Aside0.mk (Below.refl w.heap.size w)
 have H:((orders_Check.f k l0_0 a0_1 a0_2).bind fun t249=>(if t249=0 then (if a1 < 0 then (some (0,false,1)) else ((orders_all.f k l0_0 a0_1 a0_2).bind fun bt250=>(orders_Need.l0 k a1 0 (wrap64 (bt250.2 - bt250.1)) l0_0 a0_1 a0_2))) else (some (0,false,t249))))=some (r1,r2,r3):=h
 clear h
 replace H:=Option.bind_eq_some_iff.mp H
 obtain ⟨t249,A30,H⟩:=H
 replace H:(if t249=0 then (if a1 < 0 then (some (0,false,1)) else ((orders_all.f k l0_0 a0_1 a0_2).bind fun bt250=>(orders_Need.l0 k a1 0 (wrap64 (bt250.2 - bt250.1)) l0_0 a0_1 a0_2))) else (some (0,false,t249)))=some (r1,r2,r3):=H
 have A3:=Aside0.mk A30
 clear A30
 by_cases c4:t249=0
 rotate_left
 ·rw [if_neg c4] at H
  have c4b0:(t249 == 0)=false:=beq_eq_false_iff_ne.mpr c4
  have c4b1:(t249 != 0)=true:=bne_iff_ne.mpr c4
  simp only [Option.some.injEq,Prod.mk.injEq] at H
  obtain ⟨rfl,rfl,rfl⟩:=H
  go_enter Try.func26,Try.ntmps26
  go_wp2_with (first|((with_reducible refine gate_dst (N:=2) rfl ?_);refine bE #[.slice A0_0 l0_0.length c0_0,.int .i64 a0_1,.int .i64 a0_2] 26 ?_;intro gb248 hg w40 hbox hb;have BK248:=qK (hbox);have GW248:=qK ((gS hg:w.heap.size≤gb248));have GE248:=qK ((gS hg:w.heap.size≤gb248));replace HB:=qK (bS hb);clear hb hbox hg;obtain ⟨_,_,_,_,_,_⟩:=xC3 BK248.out)|((with_reducible refine gate_callee (f:=45) rfl ?_);refine gL (some 15) Try.func45 #[.agg #[.slice A0_0 l0_0.length c0_0,.int .i64 a0_1,.int .i64 a0_2]] ?_;(with_reducible refine (orders_Check.calls k _ _ l0_0 a0_1 a0_2 t249 _ ?side1 ?side2 A3.out).mono ?_);(case side1=>exact cS HR0_0.out);(case side2=>exact HC0_0.out);rintro e w42 ⟨rfl,hb⟩;refine ⟨_,rfl,?_⟩;replace BK248:=qK (bB BK248.out hb);replace HB:=qK (bS hb)))
  go_ret3
  exact ⟨by first|rfl|(simp [errW_none,errW_some] <;> rfl)|(simp [*,errW_none,errW_some] <;> rfl),bA⟩
 rw [if_pos c4] at H
 have c4b0:(t249 == 0)=true:=beq_iff_eq.mpr c4
 have c4b1:(t249 != 0)=false:=bne_eq_false_iff_eq.mpr c4
 clear c4
 by_cases c5:a1 < 0
 ·rw [if_pos c5] at H
  have c5b0:decide (a1 < 0)=true:=decide_eq_true c5
  clear c5
  simp only [Option.some.injEq,Prod.mk.injEq] at H
  obtain ⟨rfl,rfl,rfl⟩:=H
  go_enter Try.func26,Try.ntmps26
  go_wp2_with (first|((with_reducible refine gate_dst (N:=2) rfl ?_);refine bE #[.slice A0_0 l0_0.length c0_0,.int .i64 a0_1,.int .i64 a0_2] 26 ?_;intro gb248 hg w6 hbox hb;have BK248:=qK (hbox);have GW248:=qK ((gS hg:w.heap.size≤gb248));have GE248:=qK ((gS hg:w.heap.size≤gb248));replace HB:=qK (bS hb);clear hb hbox hg;obtain ⟨hcz7_0,hcz7_1,hcz7_2,hfz7_0,hfz7_1,hfz7_2⟩:=xC3 BK248.out)|((with_reducible refine gate_callee (f:=45) rfl ?_);refine gL (some 15) Try.func45 #[.agg #[.slice A0_0 l0_0.length c0_0,.int .i64 a0_1,.int .i64 a0_2]] ?_;(with_reducible refine (orders_Check.calls k _ _ l0_0 a0_1 a0_2 t249 _ ?side1 ?side2 A3.out).mono ?_);(case side1=>exact cS HR0_0.out);(case side2=>exact HC0_0.out);rintro e w8 ⟨rfl,hb⟩;refine ⟨_,rfl,?_⟩;replace BK248:=qK (bB BK248.out hb);replace HB:=qK (bS hb)))
  go_ret3
  exact ⟨by first|rfl|(simp [errW_none,errW_some] <;> rfl)|(simp [*,errW_none,errW_some] <;> rfl),bA⟩
 rw [if_neg c5] at H
 have c5b0:decide (a1 < 0)=false:=decide_eq_false c5
 clear c5
 replace H:=Option.bind_eq_some_iff.mp H
 obtain ⟨⟨t250,t251⟩,A90,H⟩:=H
 replace H:(orders_Need.l0 k a1 0 (wrap64 (t251 - t250)) l0_0 a0_1 a0_2)=some (r1,r2,r3):=H
 have A9:=Aside0.mk A90
 clear A90
 have H':=Aside0.mk H
 clear H
 go_enter Try.func26,Try.ntmps26
 try go_wp2_with (first|((with_reducible refine gate_dst (N:=2) rfl ?_);refine bE #[.slice A0_0 l0_0.length c0_0,.int .i64 a0_1,.int .i64 a0_2] 26 ?_;intro gb248 hg w10 hbox hb;have BK248:=qK (hbox);have GW248:=qK ((gS hg:w.heap.size≤gb248));have GE248:=qK ((gS hg:w.heap.size≤gb248));replace HB:=qK (bS hb);clear hb hbox hg;obtain ⟨hcz11_0,hcz11_1,hcz11_2,hfz11_0,hfz11_1,hfz11_2⟩:=xC3 BK248.out)|((with_reducible refine gate_callee (f:=45) rfl ?_);refine gL (some 15) Try.func45 #[.agg #[.slice A0_0 l0_0.length c0_0,.int .i64 a0_1,.int .i64 a0_2]] ?_;(with_reducible refine (orders_Check.calls k _ _ l0_0 a0_1 a0_2 t249 _ ?side1 ?side2 A3.out).mono ?_);(case side1=>exact cS HR0_0.out);(case side2=>exact HC0_0.out);rintro e w12 ⟨rfl,hb⟩;refine ⟨_,rfl,?_⟩;replace BK248:=qK (bB BK248.out hb);replace HB:=qK (bS hb);obtain ⟨hcz13_0,hcz13_1,hcz13_2,hfz13_0,hfz13_1,hfz13_2⟩:=xC3 BK248.out)|((with_reducible refine gate_callee (f:=54) rfl ?_);refine gL (some 22) Try.func54 #[.agg #[.slice A0_0 l0_0.length c0_0,.int .i64 a0_1,.int .i64 a0_2]] ?_;(with_reducible refine (orders_all.calls k _ _ l0_0 a0_1 a0_2 t250 t251 _ ?side1 ?side2 A9.out).mono ?_);(case side1=>exact cS HR0_0.out);(case side2=>exact HC0_0.out);rintro e w14 ⟨rfl,hb⟩;refine ⟨_,rfl,?_⟩;replace BK248:=qK (bB BK248.out hb);replace HB:=qK (bS hb))|((with_reducible refine gate_dst (N:=8) rfl ?_);refine bE #[.int .i64 0,.int .i64 0] 24 ?_;intro gb252 hg w15 hbox hb;have BK252:=qK (hbox);have GW252:=qK ((gS hg:w.heap.size≤gb252));have GE252:=qK ((gS hg:w.heap.size≤gb252));replace HB:=qK (bS hb);have NB248_252:=qK ((nL hg BK248.out:gb248≠gb252));have NB252_248:=qK ((nG hg BK248.out:gb252≠gb248));replace BK248:=qK (bB BK248.out hb);clear hb hbox hg;have hnb16:=NB252_248.out;have hnc16:=NB248_252.out;obtain ⟨hcz17_0,hcz17_1,hfz17_0,hfz17_1⟩:=xC2 BK252.out))
 have n0_:Aside0 (((w15.setCell ⟨gb252,0,none⟩ (.int .i64 t250)).setCell ⟨gb252,1,none⟩ (.int .i64 t251)).heap[gb248]? = some (.cells #[.slice A0_0 l0_0.length c0_0,.int .i64 a0_1,.int .i64 a0_2] 26 (0,0))):=⟨by (with_reducible repeat (first|refine blk_drewN ?_ _|refine blk_drew ?_|refine blk_alloc ?_ _));refine blk_far ?_ NB248_252.out _;(with_reducible repeat (first|refine blk_drewN ?_ _|refine blk_drew ?_|refine blk_alloc ?_ _));refine blk_far ?_ NB248_252.out _;(with_reducible repeat (first|refine blk_drewN ?_ _|refine blk_drew ?_|refine blk_alloc ?_ _));exact BK248.out⟩
 have n1_:Aside0 (((w15.setCell ⟨gb252,0,none⟩ (.int .i64 t250)).setCell ⟨gb252,1,none⟩ (.int .i64 t251)).heap[gb252]? = some (.cells #[.int .i64 t250,.int .i64 t251] 24 (0,0))):=⟨by (with_reducible repeat (first|refine blk_drewN ?_ _|refine blk_drew ?_|refine blk_alloc ?_ _));refine blk_put (cs:=#[.int .i64 t250,.int .i64 0]) ?_ 1 _ rfl;(with_reducible repeat (first|refine blk_drewN ?_ _|refine blk_drew ?_|refine blk_alloc ?_ _));refine blk_put (cs:=#[.int .i64 0,.int .i64 0]) ?_ 0 _ rfl;(with_reducible repeat (first|refine blk_drewN ?_ _|refine blk_drew ?_|refine blk_alloc ?_ _));exact BK252.out⟩
 have n2_:Aside0 (Below w.heap.size w ((w15.setCell ⟨gb252,0,none⟩ (.int .i64 t250)).setCell ⟨gb252,1,none⟩ (.int .i64 t251))):=⟨bA⟩
 (try clear BK248)
 (try clear BK252)
 (try clear HB)
 generalize ((w15.setCell ⟨gb252,0,none⟩ (.int .i64 t250)).setCell ⟨gb252,1,none⟩ (.int .i64 t251))=w18 at n0_ n1_ n2_ ⊢
 have BK248:=n0_
 have BK252:=n1_
 have HB:=n2_
 clear n0_ n1_ n2_
 replace BK248:=qK (blk_drew BK248.out)
 replace BK252:=qK (blk_drew BK252.out)
 replace HB:=qK (below_drew1 HB.out)
 refine start_ (n:=7) (S:=fun w'=>w'.cell? ⟨gb252,0,none⟩=some (.int .i64 t250)∧w'.cell? ⟨gb252,1,none⟩=some (.int .i64 t251)) (ds:=[]) #[false,false,false,false,false,false,false] (by kernel_rfl) rfl rfl ⟨(blk_cell BK252.out 0).trans rfl,(blk_cell BK252.out 1).trans rfl⟩ (fun hHeld=>?_)
 generalize w18.drew=w19 at BK248 BK252 HB hHeld ⊢
 refine pure_ (i:=0) (N:=some 23) (v:=?_) (a':=?_) #[true,false,false,false,false,false,false] rfl rfl (by kernel_rfl) (fun _ _ _ h=>h) (Or.inl ⟨by rfl,?_⟩) ?_ ?_
 rotate_left
 ·intro w'
  go_simp
  with_reducible rfl
 rotate_left
 ·simp only [Act.put,List.setIfInBounds_toArray,List.set_cons_zero,List.set_cons_succ,i64_w,i32_w]
  rfl
 refine pure_ (i:=2) (N:=some 25) (v:=?_) (a':=?_) #[true,false,true,false,false,false,false] rfl rfl (by kernel_rfl) (fun _ _ _ h=>h) (Or.inl ⟨by rfl,?_⟩) ?_ ?_
 rotate_left
 ·intro w'
  go_simp
  with_reducible rfl
 rotate_left
 ·simp only [Act.put,List.setIfInBounds_toArray,List.set_cons_zero,List.set_cons_succ,i64_w,i32_w]
  rfl
 refine pure_ (i:=5) (N:=some 9) (v:=?_) (a':=?_) #[true,false,true,false,false,true,false] rfl rfl (by kernel_rfl) (fun _ _ _ h=>h) (Or.inl ⟨by rfl,?_⟩) ?_ ?_
 rotate_left
 ·intro w'
  go_simp
  with_reducible rfl
 rotate_left
 ·simp only [Act.put,List.setIfInBounds_toArray,List.set_cons_zero,List.set_cons_succ,i64_w,i32_w]
  rfl
 refine take_ (i:=1) (N:=some 24) (v:=?_) (a':=?_) #[true,true,true,false,false,true,false] rfl rfl (by kernel_rfl) (fun _ _ _ h=>h) (Or.inl ⟨by rfl,?_⟩) hHeld ?_ ?_
 rotate_left
 ·rintro w' ⟨s0,s1⟩
  go_simp
  with_reducible rfl
 rotate_left
 ·simp only [Act.put,List.setIfInBounds_toArray,List.set_cons_zero,List.set_cons_succ,i64_w,i32_w]
  rfl
 refine take_ (i:=3) (N:=some 26) (v:=?_) (a':=?_) #[true,true,true,true,false,true,false] rfl rfl (by kernel_rfl) (fun _ _ _ h=>h) (Or.inl ⟨by rfl,?_⟩) hHeld ?_ ?_
 rotate_left
 ·rintro w' ⟨s0,s1⟩
  go_simp
  with_reducible rfl
 rotate_left
 ·simp only [Act.put,List.setIfInBounds_toArray,List.set_cons_zero,List.set_cons_succ,i64_w,i32_w]
  rfl
 refine pure_ (i:=4) (N:=some 27) (v:=?_) (a':=?_) #[true,true,true,true,true,true,false] rfl rfl (by kernel_rfl) (fun _ _ _ h=>h) (Or.inl ⟨by rfl,?_⟩) ?_ ?_
 rotate_left
 ·intro w'
  go_simp
  with_reducible rfl
 rotate_left
 ·simp only [Act.put,List.setIfInBounds_toArray,List.set_cons_zero,List.set_cons_succ,i64_w,i32_w]
  rfl
 refine pure_ (i:=6) (N:=some 10) (v:=?_) (a':=?_) #[true,true,true,true,true,true,true] rfl rfl (by kernel_rfl) (fun _ _ _ h=>h) (Or.inl ⟨by rfl,?_⟩) ?_ ?_
 rotate_left
 ·intro w'
  go_simp
  with_reducible rfl
 rotate_left
 ·simp only [Act.put,List.setIfInBounds_toArray,List.set_cons_zero,List.set_cons_succ,i64_w,i32_w]
  rfl
 refine done_ (by kernel_rfl) ?_
 try go_wp2
 go_loopg [9,10] k (fun kq v9 v10 w'=>∃ (x9_1:Int) (x10_1:Int),v9= .int .i64 x9_1∧v10= .int .i64 x10_1∧Aside0 (orders_Need.l0 kq a1 x9_1 x10_1 l0_0 a0_1 a0_2=some (r1,r2,r3))∧Aside0 (kq≤k)∧Aside0 (w'.heap[gb248]? = some (.cells #[(.slice A0_0 l0_0.length c0_0),.int .i64 a0_1,.int .i64 a0_2] 26 (0,0)))∧Aside0 (w'.heap[gb252]? = some (.cells #[.int .i64 t250,.int .i64 t251] 24 (0,0)))∧Aside0 (Below w.heap.size w w'))
 case atStart=>exact ⟨(0),(wrap64 (t251 - t250)),sA,sA,H',⟨Nat.le_refl _⟩,⟨by (with_reducible repeat (first|refine blk_drewN ?_ _|refine blk_drew ?_|refine blk_alloc ?_ _));exact BK248.out⟩,⟨by (with_reducible repeat (first|refine blk_drewN ?_ _|refine blk_drew ?_|refine blk_alloc ?_ _));exact BK252.out⟩,⟨bA⟩⟩
 case round =>
  clear H'
  try clear c1
  try clear c2
  try clear p2
  try clear c4
  try clear c4b0
  try clear c4b1
  try clear c5
  try clear c5b0
  try clear p6
  try clear c16
  try clear hcz11_0
  try clear hcz11_1
  try clear hcz11_2
  try clear hcz13_0
  try clear hcz13_1
  try clear hcz13_2
  try clear hcz17_0
  try clear hcz17_1
  try clear hcz7_0
  try clear hcz7_1
  try clear hcz7_2
  try clear hfz11_0
  try clear hfz11_1
  try clear hfz11_2
  try clear hfz13_0
  try clear hfz13_1
  try clear hfz13_2
  try clear hfz17_0
  try clear hfz17_1
  try clear hfz7_0
  try clear hfz7_1
  try clear hfz7_2
  obtain ⟨x9_1,x10_1,rfl,rfl,HA,HK1,BK248,BK252,HB⟩:=hrel
  cases gk with
  | zero=>exact absurd HA.out (by simp [orders_Need.l0])
  | succ k1 =>
   have H:=HA.out
   clear HA
   simp only [orders_Need.l0] at H
   by_cases c20:x9_1 < x10_1
   ·rw [if_pos c20] at H
    have c20b0:decide (x9_1 < x10_1)=true:=decide_eq_true c20
    clear c20
    replace H:=Option.bind_eq_some_iff.mp H
    obtain ⟨⟨t260,t261,t262,t263,t264⟩,A210,H⟩:=H
    replace H:((orders_window_widest.f k1 t260 t261 t262 t263 t264).bind fun bt265=>(if bt265.1≤a1 then (orders_Need.l0 k1 a1 x9_1 (wrap64 (Int.tdiv (wrap64 (x9_1+x10_1)) 2)) l0_0 a0_1 a0_2) else (orders_Need.l0 k1 a1 (wrap64 ((wrap64 (Int.tdiv (wrap64 (x9_1+x10_1)) 2))+1)) x10_1 l0_0 a0_1 a0_2)))=some (r1,r2,r3):=H
    have A21:=Aside0.mk A210
    clear A210
    replace H:=Option.bind_eq_some_iff.mp H
    obtain ⟨⟨t265,t266⟩,A220,H⟩:=H
    replace H:(if t265≤a1 then (orders_Need.l0 k1 a1 x9_1 (wrap64 (Int.tdiv (wrap64 (x9_1+x10_1)) 2)) l0_0 a0_1 a0_2) else (orders_Need.l0 k1 a1 (wrap64 ((wrap64 (Int.tdiv (wrap64 (x9_1+x10_1)) 2))+1)) x10_1 l0_0 a0_1 a0_2))=some (r1,r2,r3):=H
    have A22:=Aside0.mk A220
    clear A220
    by_cases c23:t265≤a1
    ·rw [if_pos c23] at H
     have c23b0:decide (t265≤a1)=true:=decide_eq_true c23
     clear c23
     have H':=Aside0.mk H
     clear H
     have hnb24:=NB248_252.out
     have hnc24:=NB252_248.out
     obtain ⟨_,_,_,_,_,_⟩:=xC3 BK248.out
     go_wp2_with (first|((with_reducible refine gate_callee (f:=64) rfl ?_);refine gL (some 38) Try.func64 #[.agg #[.slice A0_0 l0_0.length c0_0,.int .i64 a0_1,.int .i64 a0_2],.int .i64 (wrap64 (Int.tdiv (wrap64 (x9_1+x10_1)) 2))] ?_;(with_reducible refine (orders_windowOf.calls k1 _ _ l0_0 a0_1 a0_2 (wrap64 (Int.tdiv (wrap64 (x9_1+x10_1)) 2)) t260 t261 t262 t263 t264 _ ?side1 ?side2 A21.out).mono ?_);(case side1=>exact cS HR0_0.out);(case side2=>exact HC0_0.out);rintro e w26 ⟨rfl,hb⟩;refine ⟨_,rfl,?_⟩;replace BK248:=qK (bB BK248.out hb);replace BK252:=qK (bB BK252.out hb);replace HB:=qK (bS hb))|((with_reducible refine gate_callee (f:=65) rfl ?_);refine gL (some 39) Try.func65 #[.agg #[.int .i64 t260,.int .i64 t261,.int .i64 t262,.int .i64 t263,.int .i64 t264]] ?_;(with_reducible refine (orders_window_widest.calls k1 t260 t261 t262 t263 t264 t265 t266 _ A22.out).mono ?_);rintro e w27 ⟨rfl,hb⟩;refine ⟨_,rfl,?_⟩;replace BK248:=qK (bB BK248.out hb);replace BK252:=qK (bB BK252.out hb);replace HB:=qK (bS hb)))
     go_roundg k1
     case measure=>have:=HK1.out;omega
     case rel=>exact ⟨(x9_1),(wrap64 (Int.tdiv (wrap64 (x9_1+x10_1)) 2)),sA,sA,H',⟨by have:=HK1.out;omega⟩,⟨by (with_reducible repeat (first|refine blk_drewN ?_ _|refine blk_drew ?_|refine blk_alloc ?_ _));exact BK248.out⟩,⟨by (with_reducible repeat (first|refine blk_drewN ?_ _|refine blk_drew ?_|refine blk_alloc ?_ _));exact BK252.out⟩,⟨bA⟩⟩
    rw [if_neg c23] at H
    have c23b0:decide (t265≤a1)=false:=decide_eq_false c23
    clear c23
    have H':=Aside0.mk H
    clear H
    have hnb28:=NB248_252.out
    have hnc28:=NB252_248.out
    obtain ⟨_,_,_,_,_,_⟩:=xC3 BK248.out
    go_wp2_with (first|((with_reducible refine gate_callee (f:=64) rfl ?_);refine gL (some 38) Try.func64 #[.agg #[.slice A0_0 l0_0.length c0_0,.int .i64 a0_1,.int .i64 a0_2],.int .i64 (wrap64 (Int.tdiv (wrap64 (x9_1+x10_1)) 2))] ?_;(with_reducible refine (orders_windowOf.calls k1 _ _ l0_0 a0_1 a0_2 (wrap64 (Int.tdiv (wrap64 (x9_1+x10_1)) 2)) t260 t261 t262 t263 t264 _ ?side1 ?side2 A21.out).mono ?_);(case side1=>exact cS HR0_0.out);(case side2=>exact HC0_0.out);rintro e w30 ⟨rfl,hb⟩;refine ⟨_,rfl,?_⟩;replace BK248:=qK (bB BK248.out hb);replace BK252:=qK (bB BK252.out hb);replace HB:=qK (bS hb))|((with_reducible refine gate_callee (f:=65) rfl ?_);refine gL (some 39) Try.func65 #[.agg #[.int .i64 t260,.int .i64 t261,.int .i64 t262,.int .i64 t263,.int .i64 t264]] ?_;(with_reducible refine (orders_window_widest.calls k1 t260 t261 t262 t263 t264 t265 t266 _ A22.out).mono ?_);rintro e w31 ⟨rfl,hb⟩;refine ⟨_,rfl,?_⟩;replace BK248:=qK (bB BK248.out hb);replace BK252:=qK (bB BK252.out hb);replace HB:=qK (bS hb)))
    go_roundg k1
    case measure=>have:=HK1.out;omega
    case rel=>exact ⟨(wrap64 ((wrap64 (Int.tdiv (wrap64 (x9_1+x10_1)) 2))+1)),(x10_1),sA,sA,H',⟨by have:=HK1.out;omega⟩,⟨by (with_reducible repeat (first|refine blk_drewN ?_ _|refine blk_drew ?_|refine blk_alloc ?_ _));exact BK248.out⟩,⟨by (with_reducible repeat (first|refine blk_drewN ?_ _|refine blk_drew ?_|refine blk_alloc ?_ _));exact BK252.out⟩,⟨bA⟩⟩
   rw [if_neg c20] at H
   have c20b0:decide (x9_1 < x10_1)=false:=decide_eq_false c20
   clear c20
   replace H:=Option.bind_eq_some_iff.mp H
   obtain ⟨t253,A320,H⟩:=H
   replace H:((orders_gains.f k1 l0_0 a0_1 a0_2 t253).bind fun t256=>((orders_total.f k1 t256).bind fun t259=>(some (x9_1,decide (t259≥x9_1),0))))=some (r1,r2,r3):=H
   have A32:=Aside0.mk A320
   clear A320
   replace H:=Option.bind_eq_some_iff.mp H
   obtain ⟨t256,A330,H⟩:=H
   replace H:((orders_total.f k1 t256).bind fun t259=>(some (x9_1,decide (t259≥x9_1),0)))=some (r1,r2,r3):=H
   have A33:=Aside0.mk A330
   clear A330
   replace H:=Option.bind_eq_some_iff.mp H
   obtain ⟨t259,A340,H⟩:=H
   replace H:(some (x9_1,decide (t259≥x9_1),0))=some (r1,r2,r3):=H
   have A34:=Aside0.mk A340
   clear A340
   simp only [Option.some.injEq,Prod.mk.injEq] at H
   obtain ⟨rfl,rfl,rfl⟩:=H
   try go_wp2
   replace BK248:=qK (blk_drew BK248.out)
   replace BK252:=qK (blk_drew BK252.out)
   replace HB:=qK (below_drew1 HB.out)
   refine start_ (n:=13) (S:=fun w'=>w'.cell? ⟨gb248,0,none⟩=some (.slice A0_0 l0_0.length c0_0)∧w'.cell? ⟨gb248,1,none⟩=some (.int .i64 a0_1)∧w'.cell? ⟨gb248,2,none⟩=some (.int .i64 a0_2)) (ds:=[]) #[false,false,false,false,false,false,false,false,false,false,false,false,false] (by kernel_rfl) rfl rfl ⟨(blk_cell BK248.out 0).trans rfl,(blk_cell BK248.out 1).trans rfl,(blk_cell BK248.out 2).trans rfl⟩ (fun hHeld=>?_);refine with_tabW orders_Need.tab14 orders_Need.bits14 (fun HT_ HW_=>?_)
   generalize wr.drew=w35 at BK248 BK252 HB hHeld ⊢
   refine pP 0 (some 48) HT_ ?_
   refine pP 2 (some 50) HT_ ?_
   refine pP 8 (some 56) HT_ ?_
   refine tP 1 (some 49) HT_ HW_ hHeld ?_
   refine tP 3 (some 51) HT_ HW_ hHeld ?_
   refine pP 4 (some 52) HT_ ?_
   refine oP 5 (some 53) HT_ (fun K hK=>?_)
   refine gO Try.func63 #[.int .i64 (l0_0.length:Int)] ?_
   with_reducible refine (orders_numbers.calls k1 (l0_0.length:Int) t253 _ A32.out).mono ?_
   rintro e w36 ⟨v254,rfl,ho0,hb⟩
   refine ⟨_,rfl,?_⟩
   have HO255:=qK (Kd.R_lower ho0 bZ)
   replace BK248:=qK (bB BK248.out hb)
   replace BK252:=qK (bB BK252.out hb)
   replace HB:=qK (bS hb)
   (try clear hb)
   (try clear hb2)
   (try clear hk)
   (try clear hi)
   (try clear ho0)
   obtain ⟨Ao37,co37,eo37⟩:=Kd.R_slice HO255.out
   (first|subst eo37|(injection eo37 with f1_ f2_ f3_;have f4_:=f1_.symm;have f5_:=f3_.symm;clear f1_ f2_ f3_;subst f4_;subst f5_))
   refine hK.out _ _ ⟨(blk_cell BK248.out 0).trans rfl,(blk_cell BK248.out 1).trans rfl,(blk_cell BK248.out 2).trans rfl⟩ (fun hHeld=>?_)
   clear hK K
   refine nP ?_
   refine oP 6 (some 54) HT_ (fun K hK=>?_)
   refine gO Try.func62 #[.agg #[.slice A0_0 l0_0.length c0_0,.int .i64 a0_1,.int .i64 a0_2],.slice Ao37 t253.length co37] ?_
   with_reducible refine (orders_gains.calls k1 _ _ l0_0 a0_1 a0_2 _ _ t253 t256 _ ?side1 ?side2 ?side3 ?side4 A33.out).mono ?_
   (case side1=>exact cS HR0_0.out)
   (case side2=>exact HC0_0.out)
   (case side3=>exact cR (Kd.R_reads' HO255.out).2.2)
   (case side4=>exact (Kd.R_reads' HO255.out).2.1)
   rintro e w38 ⟨v257,rfl,ho0,hb⟩
   refine ⟨_,rfl,?_⟩
   have HO258:=qK (Kd.R_lower (Kd.R_new' ho0 (Kd.R_lt (rS HO255.out))) bZ)
   replace HO255:=qK (Kd.R_elder' (rS HO255.out) (Kd.R_base ho0) hb)
   replace BK248:=qK (bB BK248.out hb)
   replace BK252:=qK (bB BK252.out hb)
   replace HB:=qK (bS hb)
   (try clear hb)
   (try clear hb2)
   (try clear hk)
   (try clear hi)
   (try clear ho0)
   obtain ⟨Ao39,co39,eo39⟩:=Kd.R_slice HO258.out
   (first|subst eo39|(injection eo39 with f1_ f2_ f3_;have f4_:=f1_.symm;have f5_:=f3_.symm;clear f1_ f2_ f3_;subst f4_;subst f5_))
   refine hK.out _ _ ⟨(blk_cell BK248.out 0).trans rfl,(blk_cell BK248.out 1).trans rfl,(blk_cell BK248.out 2).trans rfl⟩ (fun hHeld=>?_)
   clear hK K
   refine nP ?_
   refine oP 7 (some 55) HT_ (fun K hK=>?_)
   refine gO Try.func66 #[.slice Ao39 t256.length co39] ?_
   with_reducible refine (orders_total.calls k1 _ _ t256 t259 _ ?side1 ?side2 A34.out).mono ?_
   (case side1=>exact cR (Kd.R_reads' HO258.out).2.2)
   (case side2=>exact (Kd.R_reads' HO258.out).2.1)
   rintro e w' ⟨rfl,⟨nd,rfl⟩⟩
   refine ⟨_,rfl,?_⟩
   refine hK.out _ _ ⟨(blk_cell BK248.out 0).trans rfl,(blk_cell BK248.out 1).trans rfl,(blk_cell BK248.out 2).trans rfl⟩ (fun hHeld=>?_)
   clear hK K
   refine nP ?_
   refine pP 9 (some 57) HT_ ?_
   refine pP 10 (some 4) HT_ ?_
   refine pP 11 (some 5) HT_ ?_
   refine pP 12 (some 6) HT_ ?_
   refine done_ (done_of HT_.out (by kernel_rfl)) ?_
   try go_wp2
   go_ret3
   exact ⟨by first|rfl|(simp [errW_none,errW_some] <;> rfl)|(simp [*,errW_none,errW_some] <;> rfl),bA⟩
end Go.Proofs.Ythimaecnpkcmeaa.K
