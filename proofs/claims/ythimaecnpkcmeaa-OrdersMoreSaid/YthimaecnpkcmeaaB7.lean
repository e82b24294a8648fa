/- Contracts of Go functions and lemmas for them: each theorem states what one function returns and what it leaves of memory; its conditions stand in its statement. -/
import Derived.Test.YthimaecnpkcmeaaB3
import Derived.Test.YthimaecnpkcmeaaB5
import Derived.Test.YthimaecnpkcmeaaB6
set_option linter.unusedVariables false
set_option linter.unusedSimpArgs false
namespace Go.Proofs.Ythimaecnpkcmeaa.K
open Go.RowKit Go.Proofs.YthimaecnpkcmeaaW.PrintWords Go.Proofs.YthimaecnpkcmeaaW.PrintLast Go.Proofs.YthimaecnpkcmeaaW.PrintMore
attribute [local go_sem] zAX zAW zAg zAf zAF zAG zAU zAV   -- for this text's walks alone
set_option linter.unusedVariables false
set_option linter.unusedSimpArgs false
def zBX.f (k:Nat) (a:List (S50)) (b:Int) (c:Int) (l1:List Int) (a2:Int) (a3:Int):Option (Bool × Int):=(zA2.f k a b c l1 a2 a3).bind fun d=>(if d=0 then ((zAO.f k a b c l1 a2 a3).bind fun e=>(some (!e.2,0))) else (some (false,d)))
set_option maxHeartbeats 8000000 in
set_option maxRecDepth 100000 in
theorem zBX.calls (k:Nat) (i:Option Addr) (j:Nat) (a:List (S50)) (b:Int) (c:Int) (A1:Option Addr) (c1:Nat) (l1:List Int) (a2:Int) (a3:Int) (r1:Bool) (r2:Int) (w:World) (p:Kd.C k50 w i a.length a) (q:a.length≤j) (hr1:Kd.C (Kd.int .i64) w A1 l1.length l1) (hc1:l1.length≤c1) (h:zBX.f k a b c l1 a2 a3=some (r1,r2)) :
 Calls Try.prog 12 #[.agg #[.slice i a.length j,.int .i64 b,.int .i64 c],.slice A1 l1.length c1,.int .i64 a2,.int .i64 a3] w fun e w'=>e= .returned (.tuple #[.bool r1,.int .i64 r2])∧Below w.heap.size w w':=by
 have aa:=Try.underlying26
 have n:=zA.mk p
 have HC0_0:=zA.mk q
 clear p q
 have HR1:=zA.mk hr1
 have HC1:=zA.mk hc1
 clear hr1 hc1
 have HB:=zA.mk (Below.refl w.heap.size w)
 have H:((zA2.f k a b c l1 a2 a3).bind fun g=>(if g=0 then ((zAO.f k a b c l1 a2 a3).bind fun o=>(some (!o.2,0))) else (some (false,g))))=some (r1,r2):=h
 clear h
 replace H:=Option.bind_eq_some_iff.mp H
 obtain ⟨g,A50,H⟩:=H
 replace H:(if g=0 then ((zAO.f k a b c l1 a2 a3).bind fun o=>(some (!o.2,0))) else (some (false,g)))=some (r1,r2):=H
 have A5:=zA.mk A50
 clear A50
 by_cases c6:g=0
 rotate_left
 ·rw [if_neg c6] at H
  have u:(g == 0)=false:=beq_eq_false_iff_ne.mpr c6
  have v:(g != 0)=true:=bne_iff_ne.mpr c6
  simp only [Option.some.injEq,Prod.mk.injEq] at H
  obtain ⟨rfl,rfl⟩:=H
  go_enter Try.func12,Try.ntmps12
  go_wp2_with (first|((with_reducible refine zL (N:=4) rfl ?_);refine bE #[.slice i a.length j,.int .i64 b,.int .i64 c] 26 ?_;intro l hg w13 m hb;have d:=qK (m);have s:=qK (gS hg:w.heap.size≤l);have t:=qK (gS hg:w.heap.size≤l);replace HB:=hQ hb;clear hb m hg;obtain ⟨_,_,_,_,_,_⟩:=xC3 d.out)|((with_reducible refine zH (f:=47) rfl ?_);refine gL (some 17) Try.func47 #[.agg #[.slice i a.length j,.int .i64 b,.int .i64 c],.slice A1 l1.length c1,.int .i64 a2,.int .i64 a3] ?_;(with_reducible refine (zA2.calls k _ _ a b c _ _ l1 a2 a3 g _ ?side1 ?side2 ?side3 ?side4 A5.out).mono ?_);(case side1=>exact cS n.out);(case side2=>exact HC0_0.out);(case side3=>exact cS HR1.out);(case side4=>exact HC1.out);rintro e w15 ⟨rfl,hb⟩;refine ⟨_,rfl,?_⟩;replace d:=bQ d hb;replace HB:=hQ hb))
  go_ret2
  exact ⟨eA,bA⟩
 rw [if_pos c6] at H
 have u:(g == 0)=true:=beq_iff_eq.mpr c6
 have v:(g != 0)=false:=bne_eq_false_iff_eq.mpr c6
 clear c6
 replace H:=Option.bind_eq_some_iff.mp H
 obtain ⟨⟨x,r⟩,A70,H⟩:=H
 replace H:(some (!r,0))=some (r1,r2):=H
 have A7:=zA.mk A70
 clear A70
 simp only [Option.some.injEq,Prod.mk.injEq] at H
 obtain ⟨rfl,rfl⟩:=H
 go_enter Try.func12,Try.ntmps12
 go_wp2_with (first|((with_reducible refine zL (N:=4) rfl ?_);refine bE #[.slice i a.length j,.int .i64 b,.int .i64 c] 26 ?_;intro l hg w8 m hb;have d:=qK (m);have s:=qK (gS hg:w.heap.size≤l);have t:=qK (gS hg:w.heap.size≤l);replace HB:=hQ hb;clear hb m hg;obtain ⟨_,_,_,_,_,_⟩:=xC3 d.out)|((with_reducible refine zH (f:=47) rfl ?_);refine gL (some 17) Try.func47 #[.agg #[.slice i a.length j,.int .i64 b,.int .i64 c],.slice A1 l1.length c1,.int .i64 a2,.int .i64 a3] ?_;(with_reducible refine (zA2.calls k _ _ a b c _ _ l1 a2 a3 g _ ?side1 ?side2 ?side3 ?side4 A5.out).mono ?_);(case side1=>exact cS n.out);(case side2=>exact HC0_0.out);(case side3=>exact cS HR1.out);(case side4=>exact HC1.out);rintro e w10 ⟨rfl,hb⟩;refine ⟨_,rfl,?_⟩;replace d:=bQ d hb;replace HB:=hQ hb;obtain ⟨_,_,_,_,_,_⟩:=xC3 d.out)|((with_reducible refine zH (f:=48) rfl ?_);refine gL (some 26) Try.func48 #[.agg #[.slice i a.length j,.int .i64 b,.int .i64 c],.slice A1 l1.length c1,.int .i64 a2,.int .i64 a3] ?_;(with_reducible refine (zAO.calls k _ _ a b c _ _ l1 a2 a3 x r _ ?side1 ?side2 ?side3 ?side4 A7.out).mono ?_);(case side1=>exact cS n.out);(case side2=>exact HC0_0.out);(case side3=>exact cS HR1.out);(case side4=>exact HC1.out);rintro e w12 ⟨v182,rfl,ho0,hb⟩;refine ⟨_,rfl,?_⟩;have y:=qK (Kd.zAH ho0 bZ);replace d:=bQ d hb;replace HB:=hQ hb))
 go_ret2
 exact ⟨eA,bA⟩
def zCS.f (k:Nat) (b:List (S50)) (c:Int) (d:Int) (l1:List Int) (a2:Int) (a3:Int):Option (List Int × Bool × Int):=(zA2.f k b c d l1 a2 a3).bind fun e=>(if e=0 then ((zAO.f k b c d l1 a2 a3).bind fun a=>(some (a.1,a.2,0))) else (some (([]:List Int),false,e)))
set_option maxHeartbeats 8000000 in
set_option maxRecDepth 100000 in
theorem zCS.calls (k:Nat) (i:Option Addr) (j:Nat) (a:List (S50)) (b:Int) (c:Int) (A1:Option Addr) (c1:Nat) (l1:List Int) (a2:Int) (a3:Int) (r1:List Int) (r2:Bool) (r3:Int) (w:World) (p:Kd.C k50 w i a.length a) (q:a.length≤j) (hr1:Kd.C (Kd.int .i64) w A1 l1.length l1) (hc1:l1.length≤c1) (h:zCS.f k a b c l1 a2 a3=some (r1,r2,r3)) :
 Calls Try.prog 13 #[.agg #[.slice i a.length j,.int .i64 b,.int .i64 c],.slice A1 l1.length c1,.int .i64 a2,.int .i64 a3] w fun e w'=>∃ v0_:Value,e= .returned (.tuple #[v0_,.bool r2,.int .i64 r3])∧Kd.R (Kd.int .i64) 3 w' w.heap.size (fun _=>True) v0_ r1∧Below w.heap.size w w':=by
 have aa:=Try.underlying26
 have o:=zA.mk p
 have HC0_0:=zA.mk q
 clear p q
 have HR1:=zA.mk hr1
 have HC1:=zA.mk hc1
 clear hr1 hc1
 have HB:=zA.mk (Below.refl w.heap.size w)
 have H:((zA2.f k a b c l1 a2 a3).bind fun g=>(if g=0 then ((zAO.f k a b c l1 a2 a3).bind fun l=>(some (l.1,l.2,0))) else (some (([]:List Int),false,g))))=some (r1,r2,r3):=h
 clear h
 replace H:=Option.bind_eq_some_iff.mp H
 obtain ⟨g,A50,H⟩:=H
 replace H:(if g=0 then ((zAO.f k a b c l1 a2 a3).bind fun l=>(some (l.1,l.2,0))) else (some (([]:List Int),false,g)))=some (r1,r2,r3):=H
 have A5:=zA.mk A50
 clear A50
 by_cases c6:g=0
 rotate_left
 ·rw [if_neg c6] at H
  have x:(g == 0)=false:=beq_eq_false_iff_ne.mpr c6
  have y:(g != 0)=true:=bne_iff_ne.mpr c6
  simp only [Option.some.injEq,Prod.mk.injEq] at H
  obtain ⟨rfl,rfl,rfl⟩:=H
  go_enter Try.func13,Try.ntmps13
  go_wp2_with (first|((with_reducible refine zL (N:=4) rfl ?_);refine bE #[.slice i a.length j,.int .i64 b,.int .i64 c] 26 ?_;intro m hg w13 n hb;have d:=qK (n);have t:=qK (gS hg:w.heap.size≤m);have u:=qK (gS hg:w.heap.size≤m);replace HB:=hQ hb;clear hb n hg;obtain ⟨_,_,_,_,_,_⟩:=xC3 d.out)|((with_reducible refine zH (f:=47) rfl ?_);refine gL (some 18) Try.func47 #[.agg #[.slice i a.length j,.int .i64 b,.int .i64 c],.slice A1 l1.length c1,.int .i64 a2,.int .i64 a3] ?_;(with_reducible refine (zA2.calls k _ _ a b c _ _ l1 a2 a3 g _ ?side1 ?side2 ?side3 ?side4 A5.out).mono ?_);(case side1=>exact cS o.out);(case side2=>exact HC0_0.out);(case side3=>exact cS HR1.out);(case side4=>exact HC1.out);rintro e w15 ⟨rfl,hb⟩;refine ⟨_,rfl,?_⟩;replace d:=bQ d hb;replace HB:=hQ hb))
  go_ret3
  exact ⟨_,eA,by first|exact Kd.zBW _ _ _ _ _|exact Kd.zCK _ _ _ _ _|exact Kd.zCM _ _ _ _ _|exact Kd.zCL _ _ _ _ _|exact Kd.zCJ _ _ _ _ _,bA⟩
 rw [if_pos c6] at H
 have x:(g == 0)=true:=beq_iff_eq.mpr c6
 have y:(g != 0)=false:=bne_eq_false_iff_eq.mpr c6
 clear c6
 replace H:=Option.bind_eq_some_iff.mp H
 obtain ⟨⟨r,s⟩,A70,H⟩:=H
 replace H:(some (r,s,0))=some (r1,r2,r3):=H
 have A7:=zA.mk A70
 clear A70
 simp only [Option.some.injEq,Prod.mk.injEq] at H
 obtain ⟨rfl,rfl,rfl⟩:=H
 go_enter Try.func13,Try.ntmps13
 go_wp2_with (first|((with_reducible refine zL (N:=4) rfl ?_);refine bE #[.slice i a.length j,.int .i64 b,.int .i64 c] 26 ?_;intro m hg w8 n hb;have d:=qK (n);have t:=qK (gS hg:w.heap.size≤m);have u:=qK (gS hg:w.heap.size≤m);replace HB:=hQ hb;clear hb n hg;obtain ⟨_,_,_,_,_,_⟩:=xC3 d.out)|((with_reducible refine zH (f:=47) rfl ?_);refine gL (some 18) Try.func47 #[.agg #[.slice i a.length j,.int .i64 b,.int .i64 c],.slice A1 l1.length c1,.int .i64 a2,.int .i64 a3] ?_;(with_reducible refine (zA2.calls k _ _ a b c _ _ l1 a2 a3 g _ ?side1 ?side2 ?side3 ?side4 A5.out).mono ?_);(case side1=>exact cS o.out);(case side2=>exact HC0_0.out);(case side3=>exact cS HR1.out);(case side4=>exact HC1.out);rintro e w10 ⟨rfl,hb⟩;refine ⟨_,rfl,?_⟩;replace d:=bQ d hb;replace HB:=hQ hb;obtain ⟨_,_,_,_,_,_⟩:=xC3 d.out)|((with_reducible refine zH (f:=48) rfl ?_);refine gL (some 27) Try.func48 #[.agg #[.slice i a.length j,.int .i64 b,.int .i64 c],.slice A1 l1.length c1,.int .i64 a2,.int .i64 a3] ?_;(with_reducible refine (zAO.calls k _ _ a b c _ _ l1 a2 a3 r s _ ?side1 ?side2 ?side3 ?side4 A7.out).mono ?_);(case side1=>exact cS o.out);(case side2=>exact HC0_0.out);(case side3=>exact cS HR1.out);(case side4=>exact HC1.out);rintro e w12 ⟨v188,rfl,ho0,hb⟩;refine ⟨_,rfl,?_⟩;have v:=qK (Kd.zAH ho0 bZ);replace d:=bQ d hb;replace HB:=hQ hb))
 go_ret3
 exact ⟨_,eA,by (with_reducible repeat (first|apply Kd.zAp|apply Kd.zAn|apply Kd.zAv));exact v.out,bA⟩
end Go.Proofs.Ythimaecnpkcmeaa.K
namespace Go.Proofs.Ythimaecnpkcmeaa.K
open Go.RowKit Go.Proofs.YthimaecnpkcmeaaW.PrintWords Go.Proofs.YthimaecnpkcmeaaW.PrintLast Go.Proofs.YthimaecnpkcmeaaW.PrintMore
attribute [local go_sem] zAX zAW zAg zAf zAF zAG zAU zAV   -- for this text's walks alone
set_option linter.unusedVariables false
set_option linter.unusedSimpArgs false
def zAy.f (l0:List S50):Option (List S50):=if l0.length < 4398046511104 then some l0 else none
theorem zAy.ofK {w W:World} {b:Nat} {x:S50} {cs:List Value} (h:k50.K w x cs):k50.M W b (fun _=>False) x cs:=by
 have:=zEx h
 subst this
 exact zDe _ _ _ _
set_option maxHeartbeats 800000 in
theorem zAy.calls (A0:Option Addr) (c0:Nat) (l0:List S50) (r:List S50) (w:World) (hr0:Kd.C k50 w A0 l0.length l0) (hc0:l0.length≤c0) (h:zAy.f l0=some r) :
 Calls Try.prog 22 #[.slice A0 l0.length c0] w fun e w'=>∃ v0_:Value,e= .returned (v0_)∧Kd.R k50 50 w' w.heap.size (fun _=>True) v0_ r∧Below w.heap.size w w':=by
 unfold zAy.f at h
 split at h
 case isFalse=>cases h
 case isTrue hlim =>
 obtain rfl:=Option.some.inj h
 clear h
 have heq:=fun W A n c=>Lib.run_eql_slice_nil (P:=Try.prog) W 22 50 A n c 0 0 Try.underlying22
 have HR:=zA.mk hr0
 clear hr0
 cases A0 with
 | none =>
  have h0:l0=[]:=by
   rcases Nat.eq_zero_or_pos l0.length with hz|hz
   ·exact List.length_eq_zero_iff.1 hz
   ·obtain ⟨ad,ha,_⟩:=HR.out.2.2 hz
    cases ha
  subst h0
  go_enter Try.func22,Try.ntmps22
  go_wp2
  go_ret
  exact ⟨_,rfl,Kd.zBW _ _ _ _ _,Below.refl _ _⟩
 | some ad =>
  go_enter Try.func22,Try.ntmps22
  go_wp2_with (at_builtin;refine Kd.zCv k50 (Rr:=k50.K w) (w0:=w) w.heap.size rfl _ _ 22 50 _ 32 rfl Try.underlying22 info50 rfl (by decide) (by decide) _ [] l0 (some ad) l0.length c0 (fun _=>True) (fun _=>False) rfl rfl ?c1 ?c2 (fun x cs hx=>zAy.ofK hx) (fun k hk=>hk.elim) (fun _ _=>trivial) ?c3 ?c4 ?c5 ?_)
  case c1=>exact ⟨fun _ _=>trivial,zBL.lit w w.heap.size (zAI.none _ _) (Nat.le_refl _) (by simp)⟩
  case c2=>exact zBI.zCf HR.out ((Below.refl _ _).alloc (Nat.le_refl _) _) (fun _ _ hp=>hp)
  case c3=>exact (Below.refl _ _).alloc (Nat.le_refl _) _
  case c4=>simp
  case c5=>simp only [List.length_nil];omega
  intro v1 w1 hR hB _ _
  go_wp2
  go_ret
  exact ⟨v1,rfl,hR,hB⟩
end Go.Proofs.Ythimaecnpkcmeaa.K
namespace Go.Proofs.Ythimaecnpkcmeaa.K
open Go.RowKit Go.Proofs.YthimaecnpkcmeaaW.PrintWords Go.Proofs.YthimaecnpkcmeaaW.PrintLast Go.Proofs.YthimaecnpkcmeaaW.PrintMore
attribute [local go_sem] zAX zAW zAg zAf zAF zAG zAU zAV   -- for this text's walks alone
set_option linter.unusedVariables false
set_option linter.unusedSimpArgs false
def zBn (n:Int):Bool:=!(decide (-1048576≤n) && decide (n≤1074790400))
set_option maxHeartbeats 800000 in
theorem zD8 (n:Int) (w:World):Calls Try.prog 51 #[.int .i64 n] w fun e w'=>e= .returned (.bool (zBn n))∧zY w w':=by
 have hw : ∀ W,Calls Try.prog 52 #[.int .i64 n,.int .i64 (-1048576),.int .i64 1074790400] W fun e w'=>e= .returned (.bool (!zBn n))∧zY W w':=fun W=>by
  refine zk.calls n _ _ _ W ?_
  unfold zk.f zBn
  by_cases h:n≥-1048576
  ·rw [if_pos h];simp [h]
  rw [if_neg h];simp [h]
 go_enter Try.func51,Try.ntmps51
 go_wp2_with (go_at_call 52;refine (hw _).mono ?_;rintro e w' ⟨rfl,⟨nd,rfl⟩⟩)
 go_ret
 exact ⟨by simp,⟨_,rfl⟩⟩
set_option maxHeartbeats 800000 in
theorem zEj (A0:Option Addr) (c0:Nat) (l0:List Int) (w:World) (hr0:Kd.C (Kd.int .i64) w A0 l0.length l0) (hc0:l0.length≤c0) :
 Calls Try.prog 80 #[.slice A0 l0.length c0,.func (.func 51) #[] #[]] w fun e w'=>(∃ i:Int,e= .returned (.int .i64 i)∧(decide (0≤i)=l0.any zBn))∧zY w w':=by
 have HR:=zA.mk hr0
 have hlen:l0.length≤9223372036854775807:=hr0.2.1
 clear hr0
 have hm:=zD8
 go_enter Try.func80,Try.ntmps80
 go_wp2
 go_loopw [5,8] (fun v5 v8 wr=>∃ k:Nat,k≤l0.length∧v8= .int .i64 k∧(l0.take k).any zBn=false∧zY w wr) (fun _ v8 _=>l0.length - (intOf v8).toNat)
 case atStart=>exact ⟨0,Nat.zero_le _,rfl,by simp,zY.refl _⟩
 case round =>
  obtain ⟨k,hk,rfl,hpre,⟨nd,rfl⟩⟩:=hrel
  by_cases hlt:k < l0.length
  rotate_left
  ·go_wp2
   go_ret
   exact ⟨⟨_,rfl,by rw [List.take_of_length_le (by omega)] at hpre;rw [hpre];rfl⟩,⟨nd,rfl⟩⟩
  obtain ⟨ad,rfl,hcell⟩:=Kd.zAh HR.out (k:Int) (by omega) (by omega)
  rw [Int.toNat_natCast] at hcell
  have hx:rd l0 (k:Int)=l0[k]:=by unfold rd;rw [Int.toNat_natCast,List.getD_eq_getElem?_getD,List.getElem?_eq_getElem hlt];rfl
  rw [hx] at hcell
  have htake:(l0.take (k+1)).any zBn=((l0.take k).any zBn || zBn l0[k]):=by
   rw [List.take_succ_eq_append_getElem hlt,List.any_append];simp
  have hall:zBn l0[k]=true→l0.any zBn=true:=fun h=>by rw [List.any_eq_true];exact ⟨_,List.getElem_mem hlt,h⟩
  generalize l0[k]=x at *
  have HT:=zA.mk htake;have HA:=zA.mk hall
  clear htake hall hx
  by_cases hb:zBn x=true
  ·go_wp2_with (go_at_call 51;refine (hm _ _).mono ?_;rintro e w' ⟨rfl,⟨nd2,rfl⟩⟩)
   go_ret
   exact ⟨⟨_,rfl,by rw [HA.out hb];simp⟩,⟨_,by first|rfl|exact World.drewN_drewN _ _ _⟩⟩
  have hb':zBn x=false:=by simpa using hb
  go_wp2_with (go_at_call 51;refine (hm _ _).mono ?_;rintro e w' ⟨rfl,⟨nd2,rfl⟩⟩)
  go_roundw
  case rel=>exact ⟨k+1,by omega,by go_num,by rw [HT.out,hpre,hb'];rfl,⟨_,by first|rfl|exact World.drewN_drewN _ _ _⟩⟩
  case measure=>simp [intOf];omega
def zAi.f (l0:List Int):Option Bool:=some (l0.any zBn)
set_option maxHeartbeats 800000 in
theorem zAi.calls (A0:Option Addr) (c0:Nat) (l0:List Int) (r:Bool) (w:World) (hr0:Kd.C (Kd.int .i64) w A0 l0.length l0) (hc0:l0.length≤c0) (h:zAi.f l0=some r) :
 Calls Try.prog 50 #[.slice A0 l0.length c0,.func (.func 51) #[] #[]] w fun e w'=>e= .returned (.bool r)∧zY w w':=by
 obtain rfl:=Option.some.inj h
 clear h
 have hi:=zEj A0 c0 l0 w hr0 hc0
 go_enter Try.func50,Try.ntmps50
 go_wp2_with (go_at_call 80;refine hi.mono ?_;rintro e w' ⟨⟨i,rfl,hd⟩,⟨nd2,rfl⟩⟩)
 go_ret
 exact ⟨by simp [hd],⟨_,rfl⟩⟩
end Go.Proofs.Ythimaecnpkcmeaa.K
