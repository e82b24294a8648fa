/- Contracts of Go functions and lemmas for them: each theorem states what one function returns and what it leaves of memory; its conditions stand in its statement. -/
import Derived.Test.YthimaecnpkcmeaaA3
import Derived.Test.YthimaecnpkcmeaaA5
import Derived.Test.YthimaecnpkcmeaaA6
set_option linter.unusedVariables false
set_option linter.unusedSimpArgs false
namespace Go.Proofs.Ythimaecnpkcmeaa.K
open Go.RowKit Go.Proofs.YthimaecnpkcmeaaW.PrintWords Go.Proofs.YthimaecnpkcmeaaW.PrintLast Go.Proofs.YthimaecnpkcmeaaW.PrintMore
attribute [local go_sem] max2_int min2_int max_two min_two max_three min_three max_four min_four   -- for this text's walks alone
set_option linter.unusedVariables false
set_option linter.unusedSimpArgs false
def orders_Decides.f (k:Nat) (l0_0:List (S50)) (a0_1:Int) (a0_2:Int) (l1:List Int) (a2:Int) (a3:Int):Option (Bool × Int):=(orders_bounds.f k l0_0 a0_1 a0_2 l1 a2 a3).bind fun t180=>(if t180=0 then ((orders_open.f k l0_0 a0_1 a0_2 l1 a2 a3).bind fun bt181=>(some (!bt181.2,0))) else (some (false,t180)))
set_option maxHeartbeats 8000000 in
set_option maxRecDepth 100000 in
theorem orders_Decides.calls (k:Nat) (A0_0:Option Addr) (c0_0:Nat) (l0_0:List (S50)) (a0_1:Int) (a0_2:Int) (A1:Option Addr) (c1:Nat) (l1:List Int) (a2:Int) (a3:Int) (r1:Bool) (r2:Int) (w:World) (hr0_0:Kd.C k50 w A0_0 l0_0.length l0_0) (hc0_0:l0_0.length≤c0_0) (hr1:Kd.C (Kd.int .i64) w A1 l1.length l1) (hc1:l1.length≤c1) (h:orders_Decides.f k l0_0 a0_1 a0_2 l1 a2 a3=some (r1,r2)) :
 Calls Try.prog 12 #[.agg #[.slice A0_0 l0_0.length c0_0,.int .i64 a0_1,.int .i64 a0_2],.slice A1 l1.length c1,.int .i64 a2,.int .i64 a3] w fun e w'=>e= .returned (.tuple #[.bool r1,.int .i64 r2])∧Below w.heap.size w w':=by
 have hu26:=Try.underlying26
 have HR0_0:=Aside0.mk hr0_0
 have HC0_0:=Aside0.mk hc0_0
 clear hr0_0 hc0_0
 have HR1:=Aside0.mk hr1
 have HC1:=Aside0.mk hc1
 clear hr1 hc1
 have HB:=Aside0.mk (Below.refl w.heap.size w)
 have H:((orders_bounds.f k l0_0 a0_1 a0_2 l1 a2 a3).bind fun t180=>(if t180=0 then ((orders_open.f k l0_0 a0_1 a0_2 l1 a2 a3).bind fun bt181=>(some (!bt181.2,0))) else (some (false,t180))))=some (r1,r2):=h
 clear h
 replace H:=Option.bind_eq_some_iff.mp H
 obtain ⟨t180,A50,H⟩:=H
 replace H:(if t180=0 then ((orders_open.f k l0_0 a0_1 a0_2 l1 a2 a3).bind fun bt181=>(some (!bt181.2,0))) else (some (false,t180)))=some (r1,r2):=H
 have A5:=Aside0.mk A50
 clear A50
 by_cases c6:t180=0
 rotate_left
 ·rw [if_neg c6] at H
  have c6b0:(t180 == 0)=false:=beq_eq_false_iff_ne.mpr c6
  have c6b1:(t180 != 0)=true:=bne_iff_ne.mpr c6
  simp only [Option.some.injEq,Prod.mk.injEq] at H
  obtain ⟨rfl,rfl⟩:=H
  go_enter Try.func12,Try.ntmps12
  go_wp2_with (first|((with_reducible refine gate_dst (N:=4) rfl ?_);refine bE #[.slice A0_0 l0_0.length c0_0,.int .i64 a0_1,.int .i64 a0_2] 26 ?_;intro gb179 hg w13 hbox hb;have BK179:=qK (hbox);have GW179:=qK ((gS hg:w.heap.size≤gb179));have GE179:=qK ((gS hg:w.heap.size≤gb179));replace HB:=qK (bS hb);clear hb hbox hg;obtain ⟨_,_,_,_,_,_⟩:=xC3 BK179.out)|((with_reducible refine gate_callee (f:=47) rfl ?_);refine gL (some 17) Try.func47 #[.agg #[.slice A0_0 l0_0.length c0_0,.int .i64 a0_1,.int .i64 a0_2],.slice A1 l1.length c1,.int .i64 a2,.int .i64 a3] ?_;(with_reducible refine (orders_bounds.calls k _ _ l0_0 a0_1 a0_2 _ _ l1 a2 a3 t180 _ ?side1 ?side2 ?side3 ?side4 A5.out).mono ?_);(case side1=>exact cS HR0_0.out);(case side2=>exact HC0_0.out);(case side3=>exact cS HR1.out);(case side4=>exact HC1.out);rintro e w15 ⟨rfl,hb⟩;refine ⟨_,rfl,?_⟩;replace BK179:=qK (bB BK179.out hb);replace HB:=qK (bS hb)))
  go_ret2
  exact ⟨by first|rfl|(simp [errW_none,errW_some] <;> rfl)|(simp [*,errW_none,errW_some] <;> rfl),bA⟩
 rw [if_pos c6] at H
 have c6b0:(t180 == 0)=true:=beq_iff_eq.mpr c6
 have c6b1:(t180 != 0)=false:=bne_eq_false_iff_eq.mpr c6
 clear c6
 replace H:=Option.bind_eq_some_iff.mp H
 obtain ⟨⟨t181,t184⟩,A70,H⟩:=H
 replace H:(some (!t184,0))=some (r1,r2):=H
 have A7:=Aside0.mk A70
 clear A70
 simp only [Option.some.injEq,Prod.mk.injEq] at H
 obtain ⟨rfl,rfl⟩:=H
 go_enter Try.func12,Try.ntmps12
 go_wp2_with (first|((with_reducible refine gate_dst (N:=4) rfl ?_);refine bE #[.slice A0_0 l0_0.length c0_0,.int .i64 a0_1,.int .i64 a0_2] 26 ?_;intro gb179 hg w8 hbox hb;have BK179:=qK (hbox);have GW179:=qK ((gS hg:w.heap.size≤gb179));have GE179:=qK ((gS hg:w.heap.size≤gb179));replace HB:=qK (bS hb);clear hb hbox hg;obtain ⟨_,_,_,_,_,_⟩:=xC3 BK179.out)|((with_reducible refine gate_callee (f:=47) rfl ?_);refine gL (some 17) Try.func47 #[.agg #[.slice A0_0 l0_0.length c0_0,.int .i64 a0_1,.int .i64 a0_2],.slice A1 l1.length c1,.int .i64 a2,.int .i64 a3] ?_;(with_reducible refine (orders_bounds.calls k _ _ l0_0 a0_1 a0_2 _ _ l1 a2 a3 t180 _ ?side1 ?side2 ?side3 ?side4 A5.out).mono ?_);(case side1=>exact cS HR0_0.out);(case side2=>exact HC0_0.out);(case side3=>exact cS HR1.out);(case side4=>exact HC1.out);rintro e w10 ⟨rfl,hb⟩;refine ⟨_,rfl,?_⟩;replace BK179:=qK (bB BK179.out hb);replace HB:=qK (bS hb);obtain ⟨_,_,_,_,_,_⟩:=xC3 BK179.out)|((with_reducible refine gate_callee (f:=48) rfl ?_);refine gL (some 26) Try.func48 #[.agg #[.slice A0_0 l0_0.length c0_0,.int .i64 a0_1,.int .i64 a0_2],.slice A1 l1.length c1,.int .i64 a2,.int .i64 a3] ?_;(with_reducible refine (orders_open.calls k _ _ l0_0 a0_1 a0_2 _ _ l1 a2 a3 t181 t184 _ ?side1 ?side2 ?side3 ?side4 A7.out).mono ?_);(case side1=>exact cS HR0_0.out);(case side2=>exact HC0_0.out);(case side3=>exact cS HR1.out);(case side4=>exact HC1.out);rintro e w12 ⟨v182,rfl,ho0,hb⟩;refine ⟨_,rfl,?_⟩;have HO183:=qK (Kd.R_lower ho0 bZ);replace BK179:=qK (bB BK179.out hb);replace HB:=qK (bS hb)))
 go_ret2
 exact ⟨by first|rfl|(simp [errW_none,errW_some] <;> rfl)|(simp [*,errW_none,errW_some] <;> rfl),bA⟩
def orders_Open.f (k:Nat) (l0_0:List (S50)) (a0_1:Int) (a0_2:Int) (l1:List Int) (a2:Int) (a3:Int):Option (List Int × Bool × Int):=(orders_bounds.f k l0_0 a0_1 a0_2 l1 a2 a3).bind fun t186=>(if t186=0 then ((orders_open.f k l0_0 a0_1 a0_2 l1 a2 a3).bind fun bt187=>(some (bt187.1,bt187.2,0))) else (some (([]:List Int),false,t186)))
set_option maxHeartbeats 8000000 in
set_option maxRecDepth 100000 in
theorem orders_Open.calls (k:Nat) (A0_0:Option Addr) (c0_0:Nat) (l0_0:List (S50)) (a0_1:Int) (a0_2:Int) (A1:Option Addr) (c1:Nat) (l1:List Int) (a2:Int) (a3:Int) (r1:List Int) (r2:Bool) (r3:Int) (w:World) (hr0_0:Kd.C k50 w A0_0 l0_0.length l0_0) (hc0_0:l0_0.length≤c0_0) (hr1:Kd.C (Kd.int .i64) w A1 l1.length l1) (hc1:l1.length≤c1) (h:orders_Open.f k l0_0 a0_1 a0_2 l1 a2 a3=some (r1,r2,r3)) :
 Calls Try.prog 13 #[.agg #[.slice A0_0 l0_0.length c0_0,.int .i64 a0_1,.int .i64 a0_2],.slice A1 l1.length c1,.int .i64 a2,.int .i64 a3] w fun e w'=>∃ v0_:Value,e= .returned (.tuple #[v0_,.bool r2,.int .i64 r3])∧Kd.R (Kd.int .i64) 3 w' w.heap.size (fun _=>True) v0_ r1∧Below w.heap.size w w':=by
 have hu26:=Try.underlying26
 have HR0_0:=Aside0.mk hr0_0
 have HC0_0:=Aside0.mk hc0_0
 clear hr0_0 hc0_0
 have HR1:=Aside0.mk hr1
 have HC1:=Aside0.mk hc1
 clear hr1 hc1
 have HB:=Aside0.mk (Below.refl w.heap.size w)
 have H:((orders_bounds.f k l0_0 a0_1 a0_2 l1 a2 a3).bind fun t186=>(if t186=0 then ((orders_open.f k l0_0 a0_1 a0_2 l1 a2 a3).bind fun bt187=>(some (bt187.1,bt187.2,0))) else (some (([]:List Int),false,t186))))=some (r1,r2,r3):=h
 clear h
 replace H:=Option.bind_eq_some_iff.mp H
 obtain ⟨t186,A50,H⟩:=H
 replace H:(if t186=0 then ((orders_open.f k l0_0 a0_1 a0_2 l1 a2 a3).bind fun bt187=>(some (bt187.1,bt187.2,0))) else (some (([]:List Int),false,t186)))=some (r1,r2,r3):=H
 have A5:=Aside0.mk A50
 clear A50
 by_cases c6:t186=0
 rotate_left
 ·rw [if_neg c6] at H
  have c6b0:(t186 == 0)=false:=beq_eq_false_iff_ne.mpr c6
  have c6b1:(t186 != 0)=true:=bne_iff_ne.mpr c6
  simp only [Option.some.injEq,Prod.mk.injEq] at H
  obtain ⟨rfl,rfl,rfl⟩:=H
  go_enter Try.func13,Try.ntmps13
  go_wp2_with (first|((with_reducible refine gate_dst (N:=4) rfl ?_);refine bE #[.slice A0_0 l0_0.length c0_0,.int .i64 a0_1,.int .i64 a0_2] 26 ?_;intro gb185 hg w13 hbox hb;have BK185:=qK (hbox);have GW185:=qK ((gS hg:w.heap.size≤gb185));have GE185:=qK ((gS hg:w.heap.size≤gb185));replace HB:=qK (bS hb);clear hb hbox hg;obtain ⟨_,_,_,_,_,_⟩:=xC3 BK185.out)|((with_reducible refine gate_callee (f:=47) rfl ?_);refine gL (some 18) Try.func47 #[.agg #[.slice A0_0 l0_0.length c0_0,.int .i64 a0_1,.int .i64 a0_2],.slice A1 l1.length c1,.int .i64 a2,.int .i64 a3] ?_;(with_reducible refine (orders_bounds.calls k _ _ l0_0 a0_1 a0_2 _ _ l1 a2 a3 t186 _ ?side1 ?side2 ?side3 ?side4 A5.out).mono ?_);(case side1=>exact cS HR0_0.out);(case side2=>exact HC0_0.out);(case side3=>exact cS HR1.out);(case side4=>exact HC1.out);rintro e w15 ⟨rfl,hb⟩;refine ⟨_,rfl,?_⟩;replace BK185:=qK (bB BK185.out hb);replace HB:=qK (bS hb)))
  go_ret3
  exact ⟨_,by first|rfl|(simp [errW_none,errW_some] <;> rfl)|(simp [*,errW_none,errW_some] <;> rfl),by first|exact Kd.R_nil _ _ _ _ _|exact Kd.N_nil _ _ _ _ _|exact Kd.V_nil _ _ _ _ _|exact Kd.Q_nil _ _ _ _ _|exact Kd.S_nil _ _ _ _ _,bA⟩
 rw [if_pos c6] at H
 have c6b0:(t186 == 0)=true:=beq_iff_eq.mpr c6
 have c6b1:(t186 != 0)=false:=bne_eq_false_iff_eq.mpr c6
 clear c6
 replace H:=Option.bind_eq_some_iff.mp H
 obtain ⟨⟨t187,t190⟩,A70,H⟩:=H
 replace H:(some (t187,t190,0))=some (r1,r2,r3):=H
 have A7:=Aside0.mk A70
 clear A70
 simp only [Option.some.injEq,Prod.mk.injEq] at H
 obtain ⟨rfl,rfl,rfl⟩:=H
 go_enter Try.func13,Try.ntmps13
 go_wp2_with (first|((with_reducible refine gate_dst (N:=4) rfl ?_);refine bE #[.slice A0_0 l0_0.length c0_0,.int .i64 a0_1,.int .i64 a0_2] 26 ?_;intro gb185 hg w8 hbox hb;have BK185:=qK (hbox);have GW185:=qK ((gS hg:w.heap.size≤gb185));have GE185:=qK ((gS hg:w.heap.size≤gb185));replace HB:=qK (bS hb);clear hb hbox hg;obtain ⟨_,_,_,_,_,_⟩:=xC3 BK185.out)|((with_reducible refine gate_callee (f:=47) rfl ?_);refine gL (some 18) Try.func47 #[.agg #[.slice A0_0 l0_0.length c0_0,.int .i64 a0_1,.int .i64 a0_2],.slice A1 l1.length c1,.int .i64 a2,.int .i64 a3] ?_;(with_reducible refine (orders_bounds.calls k _ _ l0_0 a0_1 a0_2 _ _ l1 a2 a3 t186 _ ?side1 ?side2 ?side3 ?side4 A5.out).mono ?_);(case side1=>exact cS HR0_0.out);(case side2=>exact HC0_0.out);(case side3=>exact cS HR1.out);(case side4=>exact HC1.out);rintro e w10 ⟨rfl,hb⟩;refine ⟨_,rfl,?_⟩;replace BK185:=qK (bB BK185.out hb);replace HB:=qK (bS hb);obtain ⟨_,_,_,_,_,_⟩:=xC3 BK185.out)|((with_reducible refine gate_callee (f:=48) rfl ?_);refine gL (some 27) Try.func48 #[.agg #[.slice A0_0 l0_0.length c0_0,.int .i64 a0_1,.int .i64 a0_2],.slice A1 l1.length c1,.int .i64 a2,.int .i64 a3] ?_;(with_reducible refine (orders_open.calls k _ _ l0_0 a0_1 a0_2 _ _ l1 a2 a3 t187 t190 _ ?side1 ?side2 ?side3 ?side4 A7.out).mono ?_);(case side1=>exact cS HR0_0.out);(case side2=>exact HC0_0.out);(case side3=>exact cS HR1.out);(case side4=>exact HC1.out);rintro e w12 ⟨v188,rfl,ho0,hb⟩;refine ⟨_,rfl,?_⟩;have HO189:=qK (Kd.R_lower ho0 bZ);replace BK185:=qK (bB BK185.out hb);replace HB:=qK (bS hb)))
 go_ret3
 exact ⟨_,by first|rfl|(simp [errW_none,errW_some] <;> rfl)|(simp [*,errW_none,errW_some] <;> rfl),by (with_reducible repeat (first|apply Kd.R_alloc|apply Kd.R_drewN|apply Kd.R_drew));exact HO189.out,bA⟩
end Go.Proofs.Ythimaecnpkcmeaa.K
namespace Go.Proofs.Ythimaecnpkcmeaa.K
open Go.RowKit Go.Proofs.YthimaecnpkcmeaaW.PrintWords Go.Proofs.YthimaecnpkcmeaaW.PrintLast Go.Proofs.YthimaecnpkcmeaaW.PrintMore
attribute [local go_sem] max2_int min2_int max_two min_two max_three min_three max_four min_four   -- for this text's walks alone
set_option linter.unusedVariables false
set_option linter.unusedSimpArgs false
def slices_Clone_Item.f (l0:List S50):Option (List S50):=if l0.length < 4398046511104 then some l0 else none
theorem slices_Clone_Item.ofK {w W:World} {b:Nat} {x:S50} {cs:List Value} (h:k50.K w x cs):k50.M W b (fun _=>False) x cs:=by
 have:=k50_open h
 subst this
 exact k50_mkM _ _ _ _
set_option maxHeartbeats 800000 in
theorem slices_Clone_Item.calls (A0:Option Addr) (c0:Nat) (l0:List S50) (r:List S50) (w:World) (hr0:Kd.C k50 w A0 l0.length l0) (hc0:l0.length≤c0) (h:slices_Clone_Item.f l0=some r) :
 Calls Try.prog 22 #[.slice A0 l0.length c0] w fun e w'=>∃ v0_:Value,e= .returned (v0_)∧Kd.R k50 50 w' w.heap.size (fun _=>True) v0_ r∧Below w.heap.size w w':=by
 unfold slices_Clone_Item.f at h
 split at h
 case isFalse=>cases h
 case isTrue hlim =>
 obtain rfl:=Option.some.inj h
 clear h
 have heq:=fun W A n c=>Lib.run_eql_slice_nil (P:=Try.prog) W 22 50 A n c 0 0 Try.underlying22
 have HR:=Aside0.mk hr0
 clear hr0
 cases A0 with
 | none =>
  have h0:l0=[]:=by
   rcases Nat.eq_zero_or_pos l0.length with hz|hz
   ·exact List.length_eq_zero_iff.1 hz
   ·obtain ⟨ad,ha,_⟩:=HR.out.2.2 hz
    cases ha
  subst h0
  go_enter Try.func22,Try.ntmps22
  go_wp2
  go_ret
  exact ⟨_,rfl,Kd.R_nil _ _ _ _ _,Below.refl _ _⟩
 | some ad =>
  go_enter Try.func22,Try.ntmps22
  go_wp2_with (at_builtin;refine Kd.R_append_rows k50 (Rr:=k50.K w) (w0:=w) w.heap.size rfl _ _ 22 50 _ 32 rfl Try.underlying22 info50 rfl (by decide) (by decide) _ [] l0 (some ad) l0.length c0 (fun _=>True) (fun _=>False) rfl rfl ?c1 ?c2 (fun x cs hx=>slices_Clone_Item.ofK hx) (fun k hk=>hk.elim) (fun _ _=>trivial) ?c3 ?c4 ?c5 ?_)
  case c1=>exact ⟨fun _ _=>trivial,OwnRow.lit w w.heap.size (Reps.none _ _) (Nat.le_refl _) (by simp)⟩
  case c2=>exact ReadsRow.imp_ HR.out ((Below.refl _ _).alloc (Nat.le_refl _) _) (fun _ _ hp=>hp)
  case c3=>exact (Below.refl _ _).alloc (Nat.le_refl _) _
  case c4=>simp
  case c5=>simp only [List.length_nil];omega
  intro v1 w1 hR hB _ _
  go_wp2
  go_ret
  exact ⟨v1,rfl,hR,hB⟩
end Go.Proofs.Ythimaecnpkcmeaa.K
namespace Go.Proofs.Ythimaecnpkcmeaa.K
open Go.RowKit Go.Proofs.YthimaecnpkcmeaaW.PrintWords Go.Proofs.YthimaecnpkcmeaaW.PrintLast Go.Proofs.YthimaecnpkcmeaaW.PrintMore
attribute [local go_sem] max2_int min2_int max_two min_two max_three min_three max_four min_four   -- for this text's walks alone
set_option linter.unusedVariables false
set_option linter.unusedSimpArgs false
def measBad (n:Int):Bool:=!(decide (-1048576≤n) && decide (n≤1074790400))
set_option maxHeartbeats 800000 in
theorem measured1_any (n:Int) (w:World):Calls Try.prog 51 #[.int .i64 n] w fun e w'=>e= .returned (.bool (measBad n))∧Drawn0 w w':=by
 have hw : ∀ W,Calls Try.prog 52 #[.int .i64 n,.int .i64 (-1048576),.int .i64 1074790400] W fun e w'=>e= .returned (.bool (!measBad n))∧Drawn0 W w':=fun W=>by
  refine orders_within.calls n _ _ _ W ?_
  unfold orders_within.f measBad
  by_cases h:n≥-1048576
  ·rw [if_pos h];simp [h]
  rw [if_neg h];simp [h]
 go_enter Try.func51,Try.ntmps51
 go_wp2_with (go_at_call 52;refine (hw _).mono ?_;rintro e w' ⟨rfl,⟨nd,rfl⟩⟩)
 go_ret
 exact ⟨by simp,⟨_,rfl⟩⟩
set_option maxHeartbeats 800000 in
theorem idxMeasured (A0:Option Addr) (c0:Nat) (l0:List Int) (w:World) (hr0:Kd.C (Kd.int .i64) w A0 l0.length l0) (hc0:l0.length≤c0) :
 Calls Try.prog 80 #[.slice A0 l0.length c0,.func (.func 51) #[] #[]] w fun e w'=>(∃ i:Int,e= .returned (.int .i64 i)∧(decide (0≤i)=l0.any measBad))∧Drawn0 w w':=by
 have HR:=Aside0.mk hr0
 have hlen:l0.length≤9223372036854775807:=hr0.2.1
 clear hr0
 have hm:=measured1_any
 go_enter Try.func80,Try.ntmps80
 go_wp2
 go_loopw [5,8] (fun v5 v8 wr=>∃ k:Nat,k≤l0.length∧v8= .int .i64 k∧(l0.take k).any measBad=false∧Drawn0 w wr) (fun _ v8 _=>l0.length - (intOf v8).toNat)
 case atStart=>exact ⟨0,Nat.zero_le _,rfl,by simp,Drawn0.refl _⟩
 case round =>
  obtain ⟨k,hk,rfl,hpre,⟨nd,rfl⟩⟩:=hrel
  by_cases hlt:k < l0.length
  rotate_left
  ·go_wp2
   go_ret
   exact ⟨⟨_,rfl,by rw [List.take_of_length_le (by omega)] at hpre;rw [hpre];rfl⟩,⟨nd,rfl⟩⟩
  obtain ⟨ad,rfl,hcell⟩:=Kd.at_int HR.out (k:Int) (by omega) (by omega)
  rw [Int.toNat_natCast] at hcell
  have hx:rd l0 (k:Int)=l0[k]:=by unfold rd;rw [Int.toNat_natCast,List.getD_eq_getElem?_getD,List.getElem?_eq_getElem hlt];rfl
  rw [hx] at hcell
  have htake:(l0.take (k+1)).any measBad=((l0.take k).any measBad || measBad l0[k]):=by
   rw [List.take_succ_eq_append_getElem hlt,List.any_append];simp
  have hall:measBad l0[k]=true→l0.any measBad=true:=fun h=>by rw [List.any_eq_true];exact ⟨_,List.getElem_mem hlt,h⟩
  generalize l0[k]=x at *
  have HT:=Aside0.mk htake;have HA:=Aside0.mk hall
  clear htake hall hx
  by_cases hb:measBad x=true
  ·go_wp2_with (go_at_call 51;refine (hm _ _).mono ?_;rintro e w' ⟨rfl,⟨nd2,rfl⟩⟩)
   go_ret
   exact ⟨⟨_,rfl,by rw [HA.out hb];simp⟩,⟨_,by first|rfl|exact World.drewN_drewN _ _ _⟩⟩
  have hb':measBad x=false:=by simpa using hb
  go_wp2_with (go_at_call 51;refine (hm _ _).mono ?_;rintro e w' ⟨rfl,⟨nd2,rfl⟩⟩)
  go_roundw
  case rel=>exact ⟨k+1,by omega,by go_num,by rw [HT.out,hpre,hb'];rfl,⟨_,by first|rfl|exact World.drewN_drewN _ _ _⟩⟩
  case measure=>simp [intOf];omega
def slices_ContainsFunc_Measured.f (l0:List Int):Option Bool:=some (l0.any measBad)
set_option maxHeartbeats 800000 in
theorem slices_ContainsFunc_Measured.calls (A0:Option Addr) (c0:Nat) (l0:List Int) (r:Bool) (w:World) (hr0:Kd.C (Kd.int .i64) w A0 l0.length l0) (hc0:l0.length≤c0) (h:slices_ContainsFunc_Measured.f l0=some r) :
 Calls Try.prog 50 #[.slice A0 l0.length c0,.func (.func 51) #[] #[]] w fun e w'=>e= .returned (.bool r)∧Drawn0 w w':=by
 obtain rfl:=Option.some.inj h
 clear h
 have hi:=idxMeasured A0 c0 l0 w hr0 hc0
 go_enter Try.func50,Try.ntmps50
 go_wp2_with (go_at_call 80;refine hi.mono ?_;rintro e w' ⟨⟨i,rfl,hd⟩,⟨nd2,rfl⟩⟩)
 go_ret
 exact ⟨by simp [hd],⟨_,rfl⟩⟩
end Go.Proofs.Ythimaecnpkcmeaa.K
