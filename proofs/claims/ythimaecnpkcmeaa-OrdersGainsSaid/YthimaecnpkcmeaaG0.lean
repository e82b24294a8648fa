/- The law holds for every input: the row, out of the walk of the code and the pure statement on numbers and lists. -/
import Derived.ArgAppend
import Derived.Below
import Derived.BigQuiet
import Derived.ChangeOld
import Derived.Deep.AppendLies
import Derived.Deep.CutBlock
import Derived.Deep.DeepCutAuto
import Derived.Deep.Draws
import Derived.Deep.LoopGhost
import Derived.Deep.OwnRows
import Derived.Deep.QuietTactic
import Derived.Deep.RegionHeld3
import Derived.KernelRfl
import Derived.Laws.BytesArg
import Derived.Laws.IdiomCopy
import Derived.Laws.MakeOwn
import Derived.Laws.OwnMore
import Derived.Laws.Rows
import Derived.Laws.Slices
import Derived.Lib.AppendStr
import Derived.Lib.ConvBytes
import Derived.Maps.AppendAt
import Derived.OpenShut
import Derived.OwnWalk
import Derived.ProofKit
import Derived.RowKit
import Derived.RowKit3
import Derived.SizedLaws
import Derived.Tactics
import Derived.Test.YthimaecnpkcmeaaRows
import Derived.WalkKit
import Derived.WideLaws
import Derived.Test.YthimaecnpkcmeaaB0
import Derived.Test.YthimaecnpkcmeaaB1
import Derived.Test.YthimaecnpkcmeaaB10
import Derived.Test.YthimaecnpkcmeaaB11
import Derived.Test.YthimaecnpkcmeaaB12
import Derived.Test.YthimaecnpkcmeaaB13
import Derived.Test.YthimaecnpkcmeaaB14
import Derived.Test.YthimaecnpkcmeaaB15
import Derived.Test.YthimaecnpkcmeaaB16
import Derived.Test.YthimaecnpkcmeaaB17
import Derived.Test.YthimaecnpkcmeaaB18
import Derived.Test.YthimaecnpkcmeaaB19
import Derived.Test.YthimaecnpkcmeaaB2
import Derived.Test.YthimaecnpkcmeaaB3
import Derived.Test.YthimaecnpkcmeaaB4
import Derived.Test.YthimaecnpkcmeaaB5
import Derived.Test.YthimaecnpkcmeaaB6
import Derived.Test.YthimaecnpkcmeaaB7
import Derived.Test.YthimaecnpkcmeaaB8
import Derived.Test.YthimaecnpkcmeaaB9
set_option linter.unusedVariables false
set_option linter.unusedSimpArgs false
set_option linter.unusedVariables false
set_option linter.unusedSimpArgs false
namespace Go.Proofs.YthimaecnpkcmeaaW.PrintWords
open Go.RowKit
theorem zBr.own {w w1:World} {g:Nat} {row:Option Nat} {base:Nat} {e:TypeId} {size n:Nat} {v:Value} {xs:List Value} (h:zBr w w1 g row) (ho:w.ownsRow base e size v n xs) (hg:v.ownBlock≠some g) (hr:v.ownBlock=none∨v.ownBlock≠row):w1.ownsRow base e size v n xs:=by
 obtain ⟨h1,h2⟩:=ho
 refine ⟨h1,?_⟩
 rcases h2 with h2|⟨b,cap,cur,rfl,hb,hh,r⟩
 ·exact .inl h2
 ·refine .inr ⟨b,cap,cur,rfl,hb,h.blk hh ?_ ?_,r⟩
  ·intro e
   exact hg (by rw [← e];rfl)
  ·rcases hr with hr|hr
   ·simp [Value.ownBlock] at hr
   ·exact hr
end Go.Proofs.YthimaecnpkcmeaaW.PrintWords
namespace Go.Proofs.YthimaecnpkcmeaaW.PrintWords
open Go.RowKit
namespace zCz
variable {P Q : World → Prop} {W W1 : World} {ok ok' : Nat → Prop}
theorem imp (h:zCz P W ok) (hi : ∀ W',P W'→Q W'):zCz Q W ok:=fun W' hW=>hi W' (h W' hW)
end zCz
end Go.Proofs.YthimaecnpkcmeaaW.PrintWords
namespace Go.Proofs.Ythimaecnpkcmeaa.K
open Go.RowKit Go.Proofs.YthimaecnpkcmeaaW.PrintWords Go.Proofs.YthimaecnpkcmeaaW.PrintLast Go.Proofs.YthimaecnpkcmeaaW.PrintMore
attribute [local go_sem] zAX zAW zAg zAf zAF zAG zAU zAV   -- for this text's walks alone
set_option linter.unusedVariables false
set_option linter.unusedSimpArgs false
def zFa.l0:Nat→List Int→Int→Int→Int→Option (Int)
 | 0,_,_,_,_=>none
 | k+1,x0,x1,x7,x8=>if x8 < x7 then (if 0≤x8 then (if x8 < (x0.length:Int) then (if x1=(rd x0 x8) then (some x8) else (zFa.l0 k x0 x1 x7 (wrap64 (x8+1)))) else (none)) else (none)) else (some (-1))
def zFa.f (k:Nat) (l0:List Int) (a1:Int):Option (Int):=zFa.l0 k l0 a1 (l0.length:Int) 0
set_option maxHeartbeats 8000000 in
set_option maxRecDepth 100000 in
theorem zFa.calls (k:Nat) (A0:Option Addr) (c0:Nat) (l0:List Int) (a1:Int) (r:Int) (w:World) (hr0:Kd.C (Kd.int .i64) w A0 l0.length l0) (hc0:l0.length≤c0) (h:zFa.f k l0 a1=some r) :
 Calls Try.prog 55 #[.slice A0 l0.length c0,.int .i64 a1] w fun e w'=>e= .returned (.int .i64 r)∧zY w w':=by
 have HR0:=zA.mk hr0
 have HC0:=zA.mk hc0
 clear hr0 hc0
 have H:(zFa.l0 k l0 a1 (l0.length:Int) 0)=some r:=h
 clear h
 have H':=zA.mk H
 clear H
 go_enter Try.func55,Try.ntmps55
 go_wp2
 go_loopg [8] k (fun kq v8 w'=>∃ (a:Int),v8= .int .i64 a∧zA (zFa.l0 kq l0 a1 (l0.length:Int) a=some r)∧zA (kq≤k)∧zY w w')
 case atStart=>exact ⟨(0),sA,H',⟨Nat.le_refl _⟩,by repeat (first|exact zY.refl _|apply zY.step)⟩
 case round =>
  clear H'
  try clear p2
  obtain ⟨a,rfl,HA,HK1,⟨m1,rfl⟩⟩:=hrel
  cases gk with
  | zero=>exact absurd HA.out (by simp [zFa.l0])
  | succ k1 =>
   have H:=HA.out
   clear HA
   simp only [zFa.l0] at H
   by_cases c3:a < (l0.length:Int)
   rotate_left
   ·rw [if_neg c3] at H
    have i:decide (a < (l0.length:Int))=false:=decide_eq_false c3
    clear c3
    obtain rfl:=Option.some.inj H
    go_wp2
    go_ret
    exact ⟨by first|rfl|(simp;done)|(simp [*];done),by repeat (first|exact zY.refl _|apply zY.step)⟩
   rw [if_pos c3] at H
   have i:decide (a < (l0.length:Int))=true:=decide_eq_true c3
   clear c3
   by_cases c4:0≤a
   rotate_left
   ·rw [if_neg c4] at H
    exact absurd H (by simp)
   rw [if_pos c4] at H
   have m:decide (0≤a)=true:=decide_eq_true c4
   clear c4
   by_cases c5:a < (l0.length:Int)
   rotate_left
   ·rw [if_neg c5] at H
    exact absurd H (by simp)
   rw [if_pos c5] at H
   have n:decide (a < (l0.length:Int))=true:=decide_eq_true c5
   clear c5
   by_cases c6:a1=(rd l0 a)
   ·rw [if_pos c6] at H
    have j:(a1 == (rd l0 a))=true:=beq_iff_eq.mpr c6
    have l:(a1 != (rd l0 a))=false:=bne_eq_false_iff_eq.mpr c6
    clear c6
    obtain rfl:=Option.some.inj H
    have b:0≤(a:Int):=dA
    have c:a < (l0.length:Int):=dA
    obtain ⟨g,e553,d⟩:=Kd.zAh HR0.out a b c
    cases e553
    replace b:=eq_true b
    replace c:=eq_true c
    go_wp2
    go_ret
    exact ⟨by first|rfl|(simp;done)|(simp [*];done),by repeat (first|exact zY.refl _|apply zY.step)⟩
   rw [if_neg c6] at H
   have j:(a1 == (rd l0 a))=false:=beq_eq_false_iff_ne.mpr c6
   have l:(a1 != (rd l0 a))=true:=bne_iff_ne.mpr c6
   have H':=zA.mk H
   clear H
   have b:0≤(a:Int):=dA
   have c:a < (l0.length:Int):=dA
   obtain ⟨g,e553,d⟩:=Kd.zAh HR0.out a b c
   cases e553
   replace b:=eq_true b
   replace c:=eq_true c
   go_wp2
   go_roundg k1
   case measure=>have:=HK1.out;omega
   case rel=>exact ⟨(wrap64 (a+1)),sA,H',⟨by have:=HK1.out;omega⟩,by repeat (first|exact zY.refl _|apply zY.step)⟩
def zFc.f (k:Nat) (l0:List Int) (a1:Int):Option (Bool):=(zFa.f k l0 a1).bind fun a=>(some (decide (a≥0)))
set_option maxHeartbeats 8000000 in
set_option maxRecDepth 100000 in
theorem zFc.calls (k:Nat) (A0:Option Addr) (c0:Nat) (l0:List Int) (a1:Int) (r:Bool) (w:World) (hr0:Kd.C (Kd.int .i64) w A0 l0.length l0) (hc0:l0.length≤c0) (h:zFc.f k l0 a1=some r) :
 Calls Try.prog 18 #[.slice A0 l0.length c0,.int .i64 a1] w fun e w'=>e= .returned (.bool r)∧zY w w':=by
 have HR0:=zA.mk hr0
 have HC0:=zA.mk hc0
 clear hr0 hc0
 have H:((zFa.f k l0 a1).bind fun a=>(some (decide (a≥0))))=some r:=h
 clear h
 replace H:=Option.bind_eq_some_iff.mp H
 obtain ⟨a,A30,H⟩:=H
 replace H:(some (decide (a≥0)))=some r:=H
 have A3:=zA.mk A30
 clear A30
 obtain rfl:=Option.some.inj H
 go_enter Try.func18,Try.ntmps18
 go_wp2_with (first|((with_reducible refine zH (f:=55) rfl ?_);refine gL (some 7) Try.func55 #[.slice A0 l0.length c0,.int .i64 a1] ?_;(with_reducible refine (zFa.calls k _ _ l0 a1 a _ ?side1 ?side2 A3.out).mono ?_);(case side1=>repeat (first|exact HR0.out|(with_reducible refine Kd.zAo ?_ _)|(with_reducible refine Kd.zAl ?_ _)|(with_reducible refine Kd.zA3 ?_)));(case side2=>exact HC0.out);rintro e w' ⟨rfl,⟨nd,rfl⟩⟩;refine ⟨_,rfl,?_⟩))
 go_ret
 exact ⟨by first|rfl|(simp;done)|(simp [*];done),by repeat (first|exact zY.refl _|apply zY.step)⟩
end Go.Proofs.Ythimaecnpkcmeaa.K
namespace Go.Proofs.Ythimaecnpkcmeaa.K
open Go.RowKit Go.Proofs.YthimaecnpkcmeaaW.PrintWords Go.Proofs.YthimaecnpkcmeaaW.PrintLast Go.Proofs.YthimaecnpkcmeaaW.PrintMore
attribute [local go_sem] zAX zAW zAg zAf zAF zAG zAU zAV   -- for this text's walks alone
set_option linter.unusedVariables false
set_option linter.unusedSimpArgs false
attribute [local go_sem high] eqA64
mutual
def zFZ.j0:Nat→List Int→Int→Bool→List (S50)→Int→Int→Option (Bool)
 | 0,_,_,_,_,_,_=>none
 | k+1,x1,x2,x32,c,e,g=>if x32=true then (some true) else ((zCD.f k c e g x1).bind fun d=>((zBC.f k c e g).bind fun b=>((zAN.f k c e g x2).bind fun a=>(if d.2=0 then (if b.2=0 then (if a.2.2=0 then (if (b.1.length:Int)=(c.length:Int) then (zFZ.j1 k x1 x2 d.1 b.1 a.1 a.2.1 (decide (a.1 < 0))) else (zFZ.j1 k x1 x2 d.1 b.1 a.1 a.2.1 true)) else (zFZ.j1 k x1 x2 d.1 b.1 a.1 a.2.1 true)) else (zFZ.j1 k x1 x2 d.1 b.1 a.1 a.2.1 true)) else (zFZ.j1 k x1 x2 d.1 b.1 a.1 a.2.1 true)))))
def zFZ.j1:Nat→List Int→Int→Int→List Int→Int→Bool→Bool→Option (Bool)
 | 0,_,_,_,_,_,_,_=>none
 | k+1,x1,x2,x7,x9,x11,x12,x72=>if x72=true then (some false) else (zFZ.l0 k x1 x2 x7 x11 x12 0 0 x9 (x9.length:Int) 0)
def zFZ.l0:Nat→List Int→Int→Int→Int→Bool→Int→Int→List Int→Int→Int→Option (Bool)
 | 0,_,_,_,_,_,_,_,_,_,_=>none
 | k+1,x1,x2,x7,x11,x12,x14,x15,x73,x74,x75=>if x75 < x74 then (if 0≤x75 then (if x75 < (x73.length:Int) then (if (rd x73 x75) < 0 then (some false) else ((zFc.f k x1 x75).bind fun h=>(if h=true then (zFZ.l0 k x1 x2 x7 x11 x12 (wrap64 (x14+(rd x73 x75))) (wrap64 (x15+(rd x73 x75))) x73 x74 (wrap64 (x75+1))) else (zFZ.l0 k x1 x2 x7 x11 x12 x14 (wrap64 (x15+(rd x73 x75))) x73 x74 (wrap64 (x75+1)))))) else (none)) else (none)) else (if ((decide (x7≤x2)) == (decide (x14≥x11)))=true then (some (x12 == (decide (x15≥x11)))) else (some false))
end
def zFZ.f (k:Nat) (a:List (S50)) (b:Int) (c:Int) (l1:List Int) (a2:Int):Option (Bool):=(zCR.f).bind fun d=>(if d=true then ((zZ.f k a b c).bind fun e=>(if e=true then ((zAL.f k a b c l1).bind fun g=>(if g=true then (zFZ.j0 k l1 a2 (decide (a2 < 0)) a b c) else (zFZ.j0 k l1 a2 true a b c))) else (zFZ.j0 k l1 a2 true a b c))) else (some false))
set_option maxHeartbeats 8000000 in
set_option maxRecDepth 100000 in
theorem zFZ.calls (k:Nat) (p:Option Addr) (q:Nat) (a:List (S50)) (d:Int) (g:Int) (A1:Option Addr) (c1:Nat) (l1:List Int) (a2:Int) (r:Bool) (w:World) (cr:Kd.C k50 w p a.length a) (cs:a.length≤q) (hr1:Kd.C (Kd.int .i64) w A1 l1.length l1) (hc1:l1.length≤c1) (h:zFZ.f k a d g l1 a2=some r) :
 Calls Try.prog 6 #[.agg #[.slice p a.length q,.int .i64 d,.int .i64 g],.slice A1 l1.length c1,.int .i64 a2] w fun e w'=>e= .returned (.bool r)∧Below w.heap.size w w':=by
 have di:=Try.underlying26
 have aa:=zA.mk cr
 have HC0_0:=zA.mk cs
 clear cr cs
 have HR1:=zA.mk hr1
 have HC1:=zA.mk hc1
 clear hr1 hc1
 have HB:=zA.mk (Below.refl w.heap.size w)
 have H:((zCR.f).bind fun cf=>(if cf=true then ((zZ.f k a d g).bind fun ae=>(if ae=true then ((zAL.f k a d g l1).bind fun t=>(if t=true then (zFZ.j0 k l1 a2 (decide (a2 < 0)) a d g) else (zFZ.j0 k l1 a2 true a d g))) else (zFZ.j0 k l1 a2 true a d g))) else (some false)))=some r:=h
 clear h
 replace H:=Option.bind_eq_some_iff.mp H
 obtain ⟨cf,A40,H⟩:=H
 replace H:(if cf=true then ((zZ.f k a d g).bind fun ae=>(if ae=true then ((zAL.f k a d g l1).bind fun t=>(if t=true then (zFZ.j0 k l1 a2 (decide (a2 < 0)) a d g) else (zFZ.j0 k l1 a2 true a d g))) else (zFZ.j0 k l1 a2 true a d g))) else (some false))=some r:=H
 have A4:=zA.mk A40
 clear A40
 by_cases c5:cf=true
 rotate_left
 ·replace c5:=Bool.eq_false_iff.mpr c5
  subst c5
  have H1:(some false)=some r:=by rw [if_neg (show ¬ (false=true) by decide)] at H;exact H
  clear H
  have H:=H1
  clear H1
  obtain rfl:=Option.some.inj H
  go_enter Try.func6,Try.ntmps6
  go_wp2_with (first|((with_reducible refine zL (N:=3) rfl ?_);(try (refine zAD (by rfl) ?_;dsimp only));refine bE #[.slice p a.length q,.int .i64 d,.int .i64 g] 26 ?_;intro ab hg w51 bi hb;have b:=qK (bi);have cw:=qK (gS hg:w.heap.size≤ab);have cx:=qK (gS hg:w.heap.size≤ab);replace HB:=hQ hb;clear hb bi hg)|((with_reducible refine zH (f:=9) rfl ?_);refine gL (some 18) Try.func9 #[] ?_;(with_reducible refine (zCR.calls false _ A4.out).mono ?_);rintro e w52 ⟨rfl,hb⟩;refine ⟨_,rfl,?_⟩;replace b:=bQ b hb;replace HB:=hQ hb))
  go_ret
  exact ⟨eA,bA⟩
 subst c5
 have H1:((zZ.f k a d g).bind fun ae=>(if ae=true then ((zAL.f k a d g l1).bind fun t=>(if t=true then (zFZ.j0 k l1 a2 (decide (a2 < 0)) a d g) else (zFZ.j0 k l1 a2 true a d g))) else (zFZ.j0 k l1 a2 true a d g)))=some r:=by rw [if_pos rfl] at H;exact H
 clear H
 have H:=H1
 clear H1
 have HC6:=zA.mk H
 clear H
 go_enter Try.func6,Try.ntmps6
 go_upto_region 3 with (first|((with_reducible refine zL (N:=3) rfl ?_);(try (refine zAD (by rfl) ?_;dsimp only));refine bE #[.slice p a.length q,.int .i64 d,.int .i64 g] 26 ?_;intro ab hg w7 bi hb;have b:=qK (bi);have cw:=qK (gS hg:w.heap.size≤ab);have cx:=qK (gS hg:w.heap.size≤ab);replace HB:=hQ hb;clear hb bi hg)|((with_reducible refine zH (f:=9) rfl ?_);refine gL (some 18) Try.func9 #[] ?_;(with_reducible refine (zCR.calls true _ A4.out).mono ?_);rintro e w8 ⟨rfl,hb⟩;refine ⟨_,rfl,?_⟩;replace b:=bQ b hb;replace HB:=hQ hb))
 (try simp only [Act.put,List.setIfInBounds_toArray,List.set_cons_zero,List.set_cons_succ])
 go_cut [32] (fun v32 wc=>∃ (kq:Nat) (bh:Bool),v32= .bool bh∧zA (zFZ.j0 kq l1 a2 bh a d g=some r)∧zA (kq≤k)∧zA (wc.heap[ab]? = some (.cells #[(.slice p a.length q),.int .i64 d,.int .i64 g] 26 (0,0)))∧zA (Below w.heap.size w wc))
 case first =>
  have H:=HC6.out
  clear HC6
  replace H:=Option.bind_eq_some_iff.mp H
  obtain ⟨ae,A90,H⟩:=H
  replace H:(if ae=true then ((zAL.f k a d g l1).bind fun t=>(if t=true then (zFZ.j0 k l1 a2 (decide (a2 < 0)) a d g) else (zFZ.j0 k l1 a2 true a d g))) else (zFZ.j0 k l1 a2 true a d g))=some r:=H
  have A9:=zA.mk A90
  clear A90
  by_cases c10:ae=true
  rotate_left
  ·replace c10:=Bool.eq_false_iff.mpr c10
   subst c10
   have H1:(zFZ.j0 k l1 a2 true a d g)=some r:=by rw [if_neg (show ¬ (false=true) by decide)] at H;exact H
   clear H
   have H:=H1
   clear H1
   have H':=zA.mk H
   clear H
   obtain ⟨ak,al,am,an,ao,ap⟩:=xC3 b.out
   go_wp2_with (first|((with_reducible refine zH (f:=10) rfl ?_);refine gL (some 21) Try.func10 #[.agg #[.slice p a.length q,.int .i64 d,.int .i64 g]] ?_;(with_reducible refine (zZ.calls k _ _ a d g false _ ?side1 ?side2 A9.out).mono ?_);(case side1=>exact cS aa.out);(case side2=>exact HC0_0.out);rintro e w22 ⟨rfl,hb⟩;refine ⟨_,rfl,?_⟩;replace b:=bQ b hb;replace HB:=hQ hb))
   go_meet
   case rel=>exact ⟨_,(true),sA,H',⟨by first|omega|exact Nat.le_refl _⟩,⟨by (repeat with_reducible first|apply zD|apply zF|apply zC);exact b.out⟩,⟨bA⟩⟩
  subst c10
  have H1:((zAL.f k a d g l1).bind fun t=>(if t=true then (zFZ.j0 k l1 a2 (decide (a2 < 0)) a d g) else (zFZ.j0 k l1 a2 true a d g)))=some r:=by rw [if_pos rfl] at H;exact H
  clear H
  have H:=H1
  clear H1
  replace H:=Option.bind_eq_some_iff.mp H
  obtain ⟨t,A110,H⟩:=H
  replace H:(if t=true then (zFZ.j0 k l1 a2 (decide (a2 < 0)) a d g) else (zFZ.j0 k l1 a2 true a d g))=some r:=H
  have A11:=zA.mk A110
  clear A110
  by_cases c12:t=true
  ·subst c12
   have H1:(zFZ.j0 k l1 a2 (decide (a2 < 0)) a d g)=some r:=by rw [if_pos rfl] at H;exact H
   clear H
   have H:=H1
   clear H1
   have H':=zA.mk H
   clear H
   obtain ⟨aq,ar,au,av,aw,ax⟩:=xC3 b.out
   go_wp2_with (first|((with_reducible refine zH (f:=10) rfl ?_);refine gL (some 21) Try.func10 #[.agg #[.slice p a.length q,.int .i64 d,.int .i64 g]] ?_;(with_reducible refine (zZ.calls k _ _ a d g true _ ?side1 ?side2 A9.out).mono ?_);(case side1=>exact cS aa.out);(case side2=>exact HC0_0.out);rintro e w14 ⟨rfl,hb⟩;refine ⟨_,rfl,?_⟩;replace b:=bQ b hb;replace HB:=hQ hb;obtain ⟨ay,az,a0,a1,a3,a4⟩:=xC3 b.out)|(go_at_call 11;(with_reducible refine (zAL.calls k _ _ a d g _ _ l1 true _ ?side1 ?side2 ?side3 ?side4 A11.out).mono ?_);(case side1=>exact cS aa.out);(case side2=>exact HC0_0.out);(case side3=>exact cS HR1.out);(case side4=>exact HC1.out);rintro e w16 ⟨rfl,hb⟩;replace b:=bQ b hb;replace HB:=hQ hb))
   go_meet
   case rel=>exact ⟨_,(decide (a2 < 0)),sA,H',⟨by first|omega|exact Nat.le_refl _⟩,⟨by (repeat with_reducible first|apply zD|apply zF|apply zC);exact b.out⟩,⟨bA⟩⟩
  replace c12:=Bool.eq_false_iff.mpr c12
  subst c12
  have H1:(zFZ.j0 k l1 a2 true a d g)=some r:=by rw [if_neg (show ¬ (false=true) by decide)] at H;exact H
  clear H
  have H:=H1
  clear H1
  have H':=zA.mk H
  clear H
  obtain ⟨a5,a6,a7,a8,a9,ba⟩:=xC3 b.out
  go_wp2_with (first|((with_reducible refine zH (f:=10) rfl ?_);refine gL (some 21) Try.func10 #[.agg #[.slice p a.length q,.int .i64 d,.int .i64 g]] ?_;(with_reducible refine (zZ.calls k _ _ a d g true _ ?side1 ?side2 A9.out).mono ?_);(case side1=>exact cS aa.out);(case side2=>exact HC0_0.out);rintro e w18 ⟨rfl,hb⟩;refine ⟨_,rfl,?_⟩;replace b:=bQ b hb;replace HB:=hQ hb;obtain ⟨bb,bc,bd,be,bf,bg⟩:=xC3 b.out)|(go_at_call 11;(with_reducible refine (zAL.calls k _ _ a d g _ _ l1 false _ ?side1 ?side2 ?side3 ?side4 A11.out).mono ?_);(case side1=>exact cS aa.out);(case side2=>exact HC0_0.out);(case side3=>exact cS HR1.out);(case side4=>exact HC1.out);rintro e w20 ⟨rfl,hb⟩;replace b:=bQ b hb;replace HB:=hQ hb))
  go_meet
  case rel=>exact ⟨_,(true),sA,H',⟨by first|omega|exact Nat.le_refl _⟩,⟨by (repeat with_reducible first|apply zD|apply zF|apply zC);exact b.out⟩,⟨bA⟩⟩
 case rest =>
  clear HC6
  try clear c1
  try clear p2
  try clear c5
  try clear c6
  try clear c9
  try clear c10
  try clear c12
  try clear aq
  try clear ar
  try clear au
  try clear ay
  try clear az
  try clear a0
  try clear a5
  try clear a6
  try clear a7
  try clear bb
  try clear bc
  try clear bd
  try clear ak
  try clear al
  try clear am
  try clear av
  try clear aw
  try clear ax
  try clear a1
  try clear a3
  try clear a4
  try clear a8
  try clear a9
  try clear ba
  try clear be
  try clear bf
  try clear bg
  try clear an
  try clear ao
  try clear ap
  obtain ⟨kq,bh,rfl,HA,HJ5,b,HB⟩:=hcut
  cases kq with
  | zero=>exact absurd HA.out (by simp [zFZ.j0])
  | succ kj5 =>
   have H:=HA.out
   clear HA
   simp only [zFZ.j0] at H
   by_cases c23:bh=true
   ·subst c23
    have H1:(some true)=some r:=by rw [if_pos rfl] at H;exact H
    clear H
    have H:=H1
    clear H1
    obtain rfl:=Option.some.inj H
    go_wp2
    go_ret
    exact ⟨eA,bA⟩
   replace c23:=Bool.eq_false_iff.mpr c23
   subst c23
   have H1:((zCD.f kj5 a d g l1).bind fun ag=>((zBC.f kj5 a d g).bind fun o=>((zAN.f kj5 a d g a2).bind fun j=>(if ag.2=0 then (if o.2=0 then (if j.2.2=0 then (if (o.1.length:Int)=(a.length:Int) then (zFZ.j1 kj5 l1 a2 ag.1 o.1 j.1 j.2.1 (decide (j.1 < 0))) else (zFZ.j1 kj5 l1 a2 ag.1 o.1 j.1 j.2.1 true)) else (zFZ.j1 kj5 l1 a2 ag.1 o.1 j.1 j.2.1 true)) else (zFZ.j1 kj5 l1 a2 ag.1 o.1 j.1 j.2.1 true)) else (zFZ.j1 kj5 l1 a2 ag.1 o.1 j.1 j.2.1 true)))))=some r:=by rw [if_neg (show ¬ (false=true) by decide)] at H;exact H
   clear H
   have H:=H1
   clear H1
   replace H:=Option.bind_eq_some_iff.mp H
   obtain ⟨⟨l,ac⟩,A240,H⟩:=H
   replace H:((zBC.f kj5 a d g).bind fun o=>((zAN.f kj5 a d g a2).bind fun j=>(if ac=0 then (if o.2=0 then (if j.2.2=0 then (if (o.1.length:Int)=(a.length:Int) then (zFZ.j1 kj5 l1 a2 l o.1 j.1 j.2.1 (decide (j.1 < 0))) else (zFZ.j1 kj5 l1 a2 l o.1 j.1 j.2.1 true)) else (zFZ.j1 kj5 l1 a2 l o.1 j.1 j.2.1 true)) else (zFZ.j1 kj5 l1 a2 l o.1 j.1 j.2.1 true)) else (zFZ.j1 kj5 l1 a2 l o.1 j.1 j.2.1 true))))=some r:=H
   have A24:=zA.mk A240
   clear A240
   replace H:=Option.bind_eq_some_iff.mp H
   obtain ⟨⟨c,af⟩,A250,H⟩:=H
   replace H:((zAN.f kj5 a d g a2).bind fun j=>(if ac=0 then (if af=0 then (if j.2.2=0 then (if (c.length:Int)=(a.length:Int) then (zFZ.j1 kj5 l1 a2 l c j.1 j.2.1 (decide (j.1 < 0))) else (zFZ.j1 kj5 l1 a2 l c j.1 j.2.1 true)) else (zFZ.j1 kj5 l1 a2 l c j.1 j.2.1 true)) else (zFZ.j1 kj5 l1 a2 l c j.1 j.2.1 true)) else (zFZ.j1 kj5 l1 a2 l c j.1 j.2.1 true)))=some r:=H
   have A25:=zA.mk A250
   clear A250
   replace H:=Option.bind_eq_some_iff.mp H
   obtain ⟨⟨m,s,ah⟩,A260,H⟩:=H
   replace H:(if ac=0 then (if af=0 then (if ah=0 then (if (c.length:Int)=(a.length:Int) then (zFZ.j1 kj5 l1 a2 l c m s (decide (m < 0))) else (zFZ.j1 kj5 l1 a2 l c m s true)) else (zFZ.j1 kj5 l1 a2 l c m s true)) else (zFZ.j1 kj5 l1 a2 l c m s true)) else (zFZ.j1 kj5 l1 a2 l c m s true))=some r:=H
   have A26:=zA.mk A260
   clear A260
   have cp:=zA.mk H
   clear H
   obtain ⟨bj,bk,bl,bm,bn,bo⟩:=xC3 b.out
   go_upto_region 8 with (first|((with_reducible refine zH (f:=21) rfl ?_);refine gL (some 36) Try.func21 #[.agg #[.slice p a.length q,.int .i64 d,.int .i64 g],.slice A1 l1.length c1] ?_;(with_reducible refine (zCD.calls kj5 _ _ a d g _ _ l1 l ac _ ?side1 ?side2 ?side3 ?side4 A24.out).mono ?_);(case side1=>exact cS aa.out);(case side2=>exact HC0_0.out);(case side3=>exact cS HR1.out);(case side4=>exact HC1.out);rintro e w29 ⟨rfl,hb⟩;refine ⟨_,rfl,?_⟩;replace b:=bQ b hb;replace HB:=hQ hb;obtain ⟨bp,bq,br,bs,bt,bu⟩:=xC3 b.out)|((with_reducible refine zH (f:=25) rfl ?_);refine gL (some 41) Try.func25 #[.agg #[.slice p a.length q,.int .i64 d,.int .i64 g]] ?_;(with_reducible refine (zBC.calls kj5 _ _ a d g c af _ ?side1 ?side2 A25.out).mono ?_);(case side1=>exact cS aa.out);(case side2=>exact HC0_0.out);rintro e w31 ⟨v620,rfl,ho0,hb⟩;refine ⟨_,rfl,?_⟩;have u:=qK (Kd.zAH ho0 bZ);replace b:=bQ b hb;replace HB:=hQ hb;obtain ⟨bv,bw,bx,bz,b0,b1⟩:=xC3 b.out)|((with_reducible refine zH (f:=26) rfl ?_);refine gL (some 47) Try.func26 #[.agg #[.slice p a.length q,.int .i64 d,.int .i64 g],.int .i64 a2] ?_;(with_reducible refine (zAN.calls kj5 _ _ a d g a2 m s ah _ ?side1 ?side2 A26.out).mono ?_);(case side1=>exact cS aa.out);(case side2=>exact HC0_0.out);rintro e w33 ⟨rfl,hb⟩;refine ⟨_,rfl,?_⟩;replace u:=rB u hb;replace b:=bQ b hb;replace HB:=hQ hb))
   (try simp only [Act.put,List.setIfInBounds_toArray,List.set_cons_zero,List.set_cons_succ])
   go_cut [72] (fun v72 wc=>∃ (kq:Nat) (ai:Bool),v72= .bool ai∧zA (zFZ.j1 kq l1 a2 l c m s ai=some r)∧zA (kq≤kj5)∧zA (Kd.R (Kd.int .i64) 3 wc w.heap.size (fun _=>True) v620 c)∧zA (wc.heap[ab]? = some (.cells #[(.slice p a.length q),.int .i64 d,.int .i64 g] 26 (0,0)))∧zA (Below w.heap.size w wc))
   case first =>
    have H:=cp.out
    clear cp
    by_cases c34:ac=0
    rotate_left
    ·rw [if_neg c34] at H
     have ad:(ac == 0)=false:=beq_eq_false_iff_ne.mpr c34
     have cg:(ac != 0)=true:=bne_iff_ne.mpr c34
     (first|rw [ad]|(simp only [zBS,zBg];rw [ad])|skip)
     have H':=zA.mk H
     clear H
     go_wp2
     go_meet
     case rel=>exact ⟨_,(true),sA,H',⟨by have:=HJ5.out;first|omega|exact Nat.le_refl _⟩,⟨by (with_reducible repeat (first|apply Kd.zAp|apply Kd.zAn|apply Kd.zAv));exact u.out⟩,⟨by (repeat with_reducible first|apply zD|apply zF|apply zC);exact b.out⟩,⟨bA⟩⟩
    rw [if_pos c34] at H
    have ad:(ac == 0)=true:=beq_iff_eq.mpr c34
    have cg:(ac != 0)=false:=bne_eq_false_iff_eq.mpr c34
    clear c34
    (first|rw [ad]|(simp only [zBS,zBg];rw [ad])|skip)
    by_cases c35:af=0
    rotate_left
    ·rw [if_neg c35] at H
     have ch:(af == 0)=false:=beq_eq_false_iff_ne.mpr c35
     have ci:(af != 0)=true:=bne_iff_ne.mpr c35
     have H':=zA.mk H
     clear H
     go_wp2
     go_meet
     case rel=>exact ⟨_,(true),sA,H',⟨by have:=HJ5.out;first|omega|exact Nat.le_refl _⟩,⟨by (with_reducible repeat (first|apply Kd.zAp|apply Kd.zAn|apply Kd.zAv));exact u.out⟩,⟨by (repeat with_reducible first|apply zD|apply zF|apply zC);exact b.out⟩,⟨bA⟩⟩
    rw [if_pos c35] at H
    have ch:(af == 0)=true:=beq_iff_eq.mpr c35
    have ci:(af != 0)=false:=bne_eq_false_iff_eq.mpr c35
    clear c35
    by_cases c36:ah=0
    rotate_left
    ·rw [if_neg c36] at H
     have cj:(ah == 0)=false:=beq_eq_false_iff_ne.mpr c36
     have ck:(ah != 0)=true:=bne_iff_ne.mpr c36
     have H':=zA.mk H
     clear H
     go_wp2
     go_meet
     case rel=>exact ⟨_,(true),sA,H',⟨by have:=HJ5.out;first|omega|exact Nat.le_refl _⟩,⟨by (with_reducible repeat (first|apply Kd.zAp|apply Kd.zAn|apply Kd.zAv));exact u.out⟩,⟨by (repeat with_reducible first|apply zD|apply zF|apply zC);exact b.out⟩,⟨bA⟩⟩
    rw [if_pos c36] at H
    have cj:(ah == 0)=true:=beq_iff_eq.mpr c36
    have ck:(ah != 0)=false:=bne_eq_false_iff_eq.mpr c36
    clear c36
    by_cases c37:(c.length:Int)=(a.length:Int)
    rotate_left
    ·rw [if_neg c37] at H
     have cl:((c.length:Int) == (a.length:Int))=false:=beq_eq_false_iff_ne.mpr c37
     have cm:((c.length:Int) != (a.length:Int))=true:=bne_iff_ne.mpr c37
     have cn:(c.length == a.length)=false:=by first|simpa using c37|(simp at c37 ⊢;omega)
     have H':=zA.mk H
     clear H
     obtain ⟨dj,dk,da⟩:=Kd.zq u.out
     subst da
     obtain ⟨b2,b3,b4,b5,b6,b7⟩:=xC3 b.out
     go_wp2
     go_meet
     case rel=>exact ⟨_,(true),sA,H',⟨by have:=HJ5.out;first|omega|exact Nat.le_refl _⟩,⟨by (with_reducible repeat (first|apply Kd.zAp|apply Kd.zAn|apply Kd.zAv));exact u.out⟩,⟨by (repeat with_reducible first|apply zD|apply zF|apply zC);exact b.out⟩,⟨bA⟩⟩
    rw [if_pos c37] at H
    have cl:((c.length:Int) == (a.length:Int))=true:=beq_iff_eq.mpr c37
    have cm:((c.length:Int) != (a.length:Int))=false:=bne_eq_false_iff_eq.mpr c37
    have cn:(c.length == a.length)=true:=by first|simpa using c37|(simp at c37 ⊢;omega)
    clear c37
    have H':=zA.mk H
    clear H
    obtain ⟨dl,dm,db⟩:=Kd.zq u.out
    subst db
    obtain ⟨b8,b9,ca,cb,cc,cd⟩:=xC3 b.out
    go_wp2
    go_meet
    case rel=>exact ⟨_,(decide (m < 0)),sA,H',⟨by have:=HJ5.out;first|omega|exact Nat.le_refl _⟩,⟨by (with_reducible repeat (first|apply Kd.zAp|apply Kd.zAn|apply Kd.zAv));exact u.out⟩,⟨by (repeat with_reducible first|apply zD|apply zF|apply zC);exact b.out⟩,⟨bA⟩⟩
   case rest =>
    clear cp
    try clear c1
    try clear c2
    try clear p2
    try clear c3
    try clear c5
    try clear c6
    try clear c9
    try clear c10
    try clear c12
    try clear c21
    try clear c23
    try clear c25
    try clear c26
    try clear c34
    try clear ad
    try clear cg
    try clear c35
    try clear ch
    try clear ci
    try clear c36
    try clear cj
    try clear ck
    try clear c37
    try clear cl
    try clear cm
    try clear cn
    try clear aq
    try clear ar
    try clear au
    try clear ay
    try clear az
    try clear a0
    try clear a5
    try clear a6
    try clear a7
    try clear bb
    try clear bc
    try clear bd
    try clear ak
    try clear al
    try clear am
    try clear bj
    try clear bk
    try clear bl
    try clear bp
    try clear bq
    try clear br
    try clear bv
    try clear bw
    try clear bx
    try clear b8
    try clear b9
    try clear ca
    try clear b2
    try clear b3
    try clear b4
    try clear av
    try clear aw
    try clear ax
    try clear a1
    try clear a3
    try clear a4
    try clear a8
    try clear a9
    try clear ba
    try clear be
    try clear bf
    try clear bg
    try clear an
    try clear ao
    try clear ap
    try clear bm
    try clear bn
    try clear bo
    try clear bs
    try clear bt
    try clear bu
    try clear bz
    try clear b0
    try clear b1
    try clear cb
    try clear cc
    try clear cd
    try clear b5
    try clear b6
    try clear b7
    try clear p2
    obtain ⟨kq,ai,rfl,HA,co,cu,b,HB⟩:=hcut
    cases kq with
    | zero=>exact absurd HA.out (by simp [zFZ.j1])
    | succ cq =>
     have H:=HA.out
     clear HA
     simp only [zFZ.j1] at H
     by_cases c42:ai=true
     ·subst c42
      have H1:(some false)=some r:=by rw [if_pos rfl] at H;exact H
      clear H
      have H:=H1
      clear H1
      obtain rfl:=Option.some.inj H
      go_wp2
      go_ret
      exact ⟨eA,bA⟩
     replace c42:=Bool.eq_false_iff.mpr c42
     subst c42
     have H1:(zFZ.l0 cq l1 a2 l m s 0 0 c (c.length:Int) 0)=some r:=by rw [if_neg (show ¬ (false=true) by decide)] at H;exact H
     clear H
     have H:=H1
     clear H1
     have H':=zA.mk H
     clear H
     obtain ⟨dc,dd,de⟩:=Kd.zq cu.out
     subst de
     go_wp2
     go_loopg [14,15,75] cq (fun kq v14 v15 v75 w'=>∃ (n:Int) (v:Int) (i:Int),v14= .int .i64 n∧v15= .int .i64 v∧v75= .int .i64 i∧zA (zFZ.l0 kq l1 a2 l m s n v c (c.length:Int) i=some r)∧zA (kq≤cq)∧zA (Kd.R (Kd.int .i64) 3 w' w.heap.size (fun _=>True) (.slice dc c.length dd) c)∧zA (w'.heap[ab]? = some (.cells #[(.slice p a.length q),.int .i64 d,.int .i64 g] 26 (0,0)))∧zA (Below w.heap.size w w'))
     case atStart=>exact ⟨(0),(0),(0),sA,sA,sA,H',⟨Nat.le_refl _⟩,⟨by (with_reducible repeat (first|apply Kd.zAp|apply Kd.zAn|apply Kd.zAv));exact cu.out⟩,⟨by (repeat with_reducible first|apply zD|apply zF|apply zC);exact b.out⟩,⟨bA⟩⟩
     case round =>
      clear H'
      try clear c1
      try clear c2
      try clear p2
      try clear c3
      try clear c4
      try clear c5
      try clear c6
      try clear c9
      try clear c10
      try clear c12
      try clear c21
      try clear c23
      try clear c25
      try clear c26
      try clear c34
      try clear ad
      try clear cg
      try clear c35
      try clear ch
      try clear ci
      try clear c36
      try clear cj
      try clear ck
      try clear c37
      try clear cl
      try clear cm
      try clear cn
      try clear c42
      try clear aq
      try clear ar
      try clear au
      try clear ay
      try clear az
      try clear a0
      try clear a5
      try clear a6
      try clear a7
      try clear bb
      try clear bc
      try clear bd
      try clear ak
      try clear al
      try clear am
      try clear bj
      try clear bk
      try clear bl
      try clear bp
      try clear bq
      try clear br
      try clear bv
      try clear bw
      try clear bx
      try clear b8
      try clear b9
      try clear ca
      try clear b2
      try clear b3
      try clear b4
      try clear av
      try clear aw
      try clear ax
      try clear a1
      try clear a3
      try clear a4
      try clear a8
      try clear a9
      try clear ba
      try clear be
      try clear bf
      try clear bg
      try clear an
      try clear ao
      try clear ap
      try clear bm
      try clear bn
      try clear bo
      try clear bs
      try clear bt
      try clear bu
      try clear bz
      try clear b0
      try clear b1
      try clear cb
      try clear cc
      try clear cd
      try clear b5
      try clear b6
      try clear b7
      try clear p2
      obtain ⟨n,v,i,rfl,rfl,rfl,HA,HK3,aj,b,HB⟩:=hrel
      cases gk with
      | zero=>exact absurd HA.out (by simp [zFZ.l0])
      | succ k3 =>
       have H:=HA.out
       clear HA
       simp only [zFZ.l0] at H
       by_cases c44:i < (c.length:Int)
       rotate_left
       ·rw [if_neg c44] at H
        have cy:decide (i < (c.length:Int))=false:=decide_eq_false c44
        clear c44
        by_cases c50:((decide (l≤a2)) == (decide (n≥m)))=true
        ·rw [if_pos c50] at H
         have cz:((decide (l≤a2)) == (decide (n≥m)))=true:=c50
         (try (have c0:decide ((decide (l≤a2))=(decide (n≥m)))=true:=by simpa using c50))
         (try (have c7:((decide (l≤a2)) == (decide (n≥m)))=true:=by simpa using c50))
         clear c50
         obtain rfl:=Option.some.inj H
         go_wp2
         go_ret
         exact ⟨eA,bA⟩
        rw [if_neg c50] at H
        have cz:((decide (l≤a2)) == (decide (n≥m)))=false:=by simpa using c50
        (try (have c0:decide ((decide (l≤a2))=(decide (n≥m)))=false:=by simpa using c50))
        (try (have c7:((decide (l≤a2)) == (decide (n≥m)))=false:=by simpa using c50))
        (try (have df : ¬ ((decide (l≤a2))=(decide (n≥m))):=by simpa using c50))
        clear c50
        obtain rfl:=Option.some.inj H
        go_wp2
        go_ret
        exact ⟨eA,bA⟩
       rw [if_pos c44] at H
       have cy:decide (i < (c.length:Int))=true:=decide_eq_true c44
       clear c44
       by_cases c45:0≤i
       rotate_left
       ·rw [if_neg c45] at H
        exact absurd H (by simp)
       rw [if_pos c45] at H
       have dg:decide (0≤i)=true:=decide_eq_true c45
       clear c45
       by_cases c46:i < (c.length:Int)
       rotate_left
       ·rw [if_neg c46] at H
        exact absurd H (by simp)
       rw [if_pos c46] at H
       have dh:decide (i < (c.length:Int))=true:=decide_eq_true c46
       clear c46
       by_cases c47:(rd c i) < 0
       ·rw [if_pos c47] at H
        have c8:decide ((rd c i) < 0)=true:=decide_eq_true c47
        clear c47
        obtain rfl:=Option.some.inj H
        have x:0≤(i:Int):=dA
        have y:i < (c.length:Int):=dA
        obtain ⟨ct,e626,ce⟩:=Kd.zAh (Kd.zJ aj.out).2.2 i x y
        cases e626
        replace x:=eq_true x
        replace y:=eq_true y
        go_wp2
        go_ret
        exact ⟨eA,bA⟩
       rw [if_neg c47] at H
       have c8:decide ((rd c i) < 0)=false:=decide_eq_false c47
       clear c47
       replace H:=Option.bind_eq_some_iff.mp H
       obtain ⟨cv,A480,H⟩:=H
       replace H:(if cv=true then (zFZ.l0 k3 l1 a2 l m s (wrap64 (n+(rd c i))) (wrap64 (v+(rd c i))) c (c.length:Int) (wrap64 (i+1))) else (zFZ.l0 k3 l1 a2 l m s n (wrap64 (v+(rd c i))) c (c.length:Int) (wrap64 (i+1))))=some r:=H
       have A48:=zA.mk A480
       clear A480
       by_cases c49:cv=true
       ·subst c49
        have H1:(zFZ.l0 k3 l1 a2 l m s (wrap64 (n+(rd c i))) (wrap64 (v+(rd c i))) c (c.length:Int) (wrap64 (i+1)))=some r:=by rw [if_pos rfl] at H;exact H
        clear H
        have H:=H1
        clear H1
        have H':=zA.mk H
        clear H
        have x:0≤(i:Int):=dA
        have y:i < (c.length:Int):=dA
        obtain ⟨ct,e626,ce⟩:=Kd.zAh (Kd.zJ aj.out).2.2 i x y
        cases e626
        replace x:=eq_true x
        replace y:=eq_true y
        go_wp2_with (first|((with_reducible refine zH (f:=18) rfl ?_);refine gL (some 87) Try.func18 #[.slice A1 l1.length c1,.int .i64 i] ?_;(with_reducible refine (zFc.calls k3 _ _ l1 i true _ ?side1 ?side2 A48.out).mono ?_);(case side1=>exact cS HR1.out);(case side2=>exact HC1.out);rintro e w' ⟨rfl,⟨nd,rfl⟩⟩;refine ⟨_,rfl,?_⟩))
        go_roundg k3
        case measure=>have:=HJ5.out;have:=co.out;have:=HK3.out;omega
        case rel=>exact ⟨(wrap64 (n+(rd c i))),(wrap64 (v+(rd c i))),(wrap64 (i+1)),sA,sA,sA,H',⟨by have:=HJ5.out;have:=co.out;have:=HK3.out;omega⟩,⟨by (with_reducible repeat (first|apply Kd.zAp|apply Kd.zAn|apply Kd.zAv));exact aj.out⟩,⟨by (repeat with_reducible first|apply zD|apply zF|apply zC);exact b.out⟩,⟨bA⟩⟩
       replace c49:=Bool.eq_false_iff.mpr c49
       subst c49
       have H1:(zFZ.l0 k3 l1 a2 l m s n (wrap64 (v+(rd c i))) c (c.length:Int) (wrap64 (i+1)))=some r:=by rw [if_neg (show ¬ (false=true) by decide)] at H;exact H
       clear H
       have H:=H1
       clear H1
       have H':=zA.mk H
       clear H
       have x:0≤(i:Int):=dA
       have y:i < (c.length:Int):=dA
       obtain ⟨ct,e626,ce⟩:=Kd.zAh (Kd.zJ aj.out).2.2 i x y
       cases e626
       replace x:=eq_true x
       replace y:=eq_true y
       go_wp2_with (first|((with_reducible refine zH (f:=18) rfl ?_);refine gL (some 87) Try.func18 #[.slice A1 l1.length c1,.int .i64 i] ?_;(with_reducible refine (zFc.calls k3 _ _ l1 i false _ ?side1 ?side2 A48.out).mono ?_);(case side1=>exact cS HR1.out);(case side2=>exact HC1.out);rintro e w' ⟨rfl,⟨nd,rfl⟩⟩;refine ⟨_,rfl,?_⟩))
       go_roundg k3
       case measure=>have:=HJ5.out;have:=co.out;have:=HK3.out;omega
       case rel=>exact ⟨(n),(wrap64 (v+(rd c i))),(wrap64 (i+1)),sA,sA,sA,H',⟨by have:=HJ5.out;have:=co.out;have:=HK3.out;omega⟩,⟨by (with_reducible repeat (first|apply Kd.zAp|apply Kd.zAn|apply Kd.zAv));exact aj.out⟩,⟨by (repeat with_reducible first|apply zD|apply zF|apply zC);exact b.out⟩,⟨bA⟩⟩
end Go.Proofs.Ythimaecnpkcmeaa.K
namespace Go.Proofs.Ythimaecnpkcmeaa.Pure
open Go.RowKit Go.Proofs.Ythimaecnpkcmeaa.K Go.Proofs.YthimaecnpkcmeaaW.PrintWords Go.Proofs.YthimaecnpkcmeaaW.PrintLast Go.Proofs.YthimaecnpkcmeaaW.PrintMore
theorem sumW_set (l:List S50) (i:Nat) (hi:i < l.length) (x:S50):zBN (l.set i x)=zBN l - l[i].f0.f0+x.f0.f0∧zBE (l.set i x)=zBE l - l[i].f0.f1+x.f0.f1:=by
 induction l generalizing i with
 | nil=>simp at hi
 | cons y ys ih =>
  cases i with
  | zero=>simp [zBN,zBE];omega
  | succ i =>
   have:=ih i (by simpa using hi)
   have a1:zBN (y :: ys)=y.f0.f0+zBN ys:=by simp [zBN]
   have a2:zBE (y :: ys)=y.f0.f1+zBE ys:=by simp [zBE]
   have a3:zBN ((y :: ys).set (i+1) x)=y.f0.f0+zBN (ys.set i x):=by simp [zBN]
   have a4:zBE ((y :: ys).set (i+1) x)=y.f0.f1+zBE (ys.set i x):=by simp [zBE]
   rw [a1,a2,a3,a4,List.getElem_cons_succ]
   omega
theorem zFw (l:List S50) (i j:Int) (x:S50) (hi:0≤i) (hj:0≤j) (h:j≠i):zG (l.set i.toNat x) j=zG l j:=by
 unfold zG
 rw [List.getD_eq_getElem?_getD,List.getD_eq_getElem?_getD,List.getElem?_set_ne (by omega)]
theorem all_set (l:List S50) (h:l.all okB=true) (i:Nat) (x:S50) (hx:okB x=true):(l.set i x).all okB=true:=by
 rw [List.all_eq_true] at h ⊢
 intro y hy
 rcases List.mem_or_eq_of_mem_set hy with hy|rfl
 ·exact h y hy
 ·exact hx
theorem it_toNat (l:List S50) (i:Int) (h0:0≤i) (h:i < l.length):zG l i=l[i.toNat]'(by omega):=by
 have:=zDp l i.toNat (by omega)
 rw [Int.toNat_of_nonneg h0] at this
 exact this
theorem zFl (l0:List S50) : ∀ (items:List Int) (p:Int) (l:List S50),l.length=l0.length→l.all okB=true→rightFrom l0.length p items=true→(∀ j ∈ items,zG l j=zG l0 j)→zDw l0 items≤zBE l - zBN l
 | [],p,l,hl,h,_,_=>by have:=zDz l h;simp [zDw];omega
 | i :: is,p,l,hl,h,hr,hs=>by
  obtain ⟨h1,h2,h3,h4⟩:=zCh.1 hr
  have hi:=hs i (by simp)
  have ho:=zER h i h1 (by omega)
  have hg:=gz_bd ho
  have hm:=zB4.1 ho
  let x:S50:=⟨⟨(zG l i).f0.f0,(zG l i).f0.f0⟩,(zG l i).f1,(zG l i).f2⟩
  have hx:okB x=true:=zB4.2 ⟨hm.1,Int.le_refl _,by show (zG l i).f0.f0≤_;omega,hm.2.2.2⟩
  have:=zFl l0 is i (l.set i.toNat x) (by simp [hl]) (all_set l h _ _ hx) h4 (fun j hj=>by
   have:=zCs h4 j hj
   rw [zFw l i j x h1 this.1 (by omega)]
   exact hs j (by simp [hj]))
  have hw:=sumW_set l i.toNat (by omega) x
  rw [← it_toNat l i h1 (by omega)] at hw
  have e:zDw l0 (i :: is)=gz (zG l0 i)+zDw l0 is:=by simp [zDw]
  have e1:x.f0.f0=(zG l i).f0.f0:=rfl
  have e2:x.f0.f1=(zG l i).f0.f0:=rfl
  rw [e,← hi]
  omega
end Go.Proofs.Ythimaecnpkcmeaa.Pure
namespace Go.Proofs.Ythimaecnpkcmeaa.Pure
open Go.RowKit Go.Proofs.Ythimaecnpkcmeaa.K Go.Proofs.YthimaecnpkcmeaaW.PrintWords Go.Proofs.YthimaecnpkcmeaaW.PrintLast Go.Proofs.YthimaecnpkcmeaaW.PrintMore
theorem zFm (n:Nat) : ∀ (q:List Nat) (p:Int),(∀ x ∈ q,x < n∧p < (x:Int))→q.Pairwise (· < ·)→rightFrom n p (q.map Int.ofNat)=true
 | [],_,_,_=>rfl
 | x :: xs,p,h,hp=>by
  have h1:=h x (by simp)
  rw [List.pairwise_cons] at hp
  rw [List.map_cons]
  refine zCh.2 ⟨by simp,by simp;exact h1.1,by simpa using h1.2,zFm n xs _ (fun y hy=>⟨(h y (by simp [hy])).1,by have:=hp.1 y hy;simp;omega⟩) hp.2⟩
theorem zFi (n:Nat) : ∀ (items:List Int) (p:Int),rightFrom (n+1:Nat) p items=true→rightFrom n p items=true∨∃ init,items=init ++ [(n:Int)]∧rightFrom n p init=true
 | [],p,_=>.inl rfl
 | i :: is,p,h=>by
  obtain ⟨h1,h2,h3,h4⟩:=zCh.1 h
  rcases zFi n is i h4 with h5|⟨init,rfl,h5⟩
  ·by_cases c:i < (n:Int)
   ·exact .inl (zCh.2 ⟨h1,c,h3,h5⟩)
   ·have hin:i=(n:Int):=by omega
    cases is with
    | nil=>exact .inr ⟨[],by simp [hin],rfl⟩
    | cons j js =>
     have:=zCh.1 h4
     omega
  ·by_cases c:i < (n:Int)
   ·exact .inr ⟨i :: init,rfl,zCh.2 ⟨h1,c,h3,h5⟩⟩
   ·exfalso
    have:=zCs h4 (n:Int) (by simp)
    omega
end Go.Proofs.Ythimaecnpkcmeaa.Pure
namespace Go.Proofs.Ythimaecnpkcmeaa.Pure
open Go.RowKit Go.Proofs.Ythimaecnpkcmeaa.K Go.Proofs.YthimaecnpkcmeaaW.PrintWords Go.Proofs.YthimaecnpkcmeaaW.PrintLast Go.Proofs.YthimaecnpkcmeaaW.PrintMore
def wd (L U a b s:Int):Int:=mn (U+s) b - mx (L+s) a
def zFe (f:Int→Int):List Int→Int × Int→Int × Int
 | [],st=>st
 | s :: ss,st=>zFe f ss (if f s > st.1 then (f s,s) else st)
theorem zFj (f:Int→Int) : ∀ (l:List Int) (st:Int × Int),st.1≤(zFe f l st).1∧(∀ s ∈ l,f s≤(zFe f l st).1)∧(zFe f l st=st∨((zFe f l st).2 ∈ l∧f (zFe f l st).2=(zFe f l st).1∧st.1 < (zFe f l st).1)) ∧
 (l.Pairwise (·≤·)→st.1 < (zFe f l st).1→∀ s ∈ l,f s=(zFe f l st).1→(zFe f l st).2≤s)
 | [],st=>⟨Int.le_refl _,fun s h=>by simp at h,.inl rfl,fun _ _ s h=>by simp at h⟩
 | s :: ss,st=>by
  simp only [zFe]
  by_cases c:f s > st.1
  ·rw [if_pos c]
   obtain ⟨h1,h2,h3,h4⟩:=zFj f ss (f s,s)
   have h1':f s≤(zFe f ss (f s,s)).1:=h1
   refine ⟨by omega,fun x hx=>?_,.inr ?_,fun hp _ x hx hfx=>?_⟩
   ·rcases List.mem_cons.1 hx with rfl|hx
    ·exact h1'
    ·exact h2 x hx
   ·rcases h3 with h3|⟨h5,h6,h7⟩
    ·rw [h3];exact ⟨by simp,rfl,c⟩
    ·exact ⟨by simp [h5],h6,by have:f s < (zFe f ss (f s,s)).1:=h7;omega⟩
   ·rw [List.pairwise_cons] at hp
    rcases h3 with h3|⟨h5,h6,h7⟩
    ·rw [h3] at hfx ⊢
     show s≤x
     rcases List.mem_cons.1 hx with rfl|hx
     ·exact Int.le_refl _
     ·exact hp.1 x hx
    ·have h7':f s < (zFe f ss (f s,s)).1:=h7
     rcases List.mem_cons.1 hx with rfl|hx
     ·omega
     ·exact h4 hp.2 h7 x hx hfx
  ·rw [if_neg c]
   obtain ⟨h1,h2,h3,h4⟩:=zFj f ss st
   refine ⟨h1,fun x hx=>?_,?_,fun hp hlt x hx hfx=>?_⟩
   ·rcases List.mem_cons.1 hx with rfl|hx
    ·omega
    ·exact h2 x hx
   ·rcases h3 with h3|⟨h5,h6,h7⟩
    ·exact .inl h3
    ·exact .inr ⟨by simp [h5],h6,h7⟩
   ·rw [List.pairwise_cons] at hp
    rcases List.mem_cons.1 hx with rfl|hx
    ·omega
    ·exact h4 hp.2 hlt x hx hfx
theorem zFx (L U g a b:Int) (hL:0≤L∧L≤68719476736) (hU:0≤U∧U≤68719476736) (ha:0≤a∧a≤68719476736) (hb:0≤b∧b≤68719476736) (cs:List Int) (hc : ∀ s ∈ cs,0≤s∧s≤68719476736) (hn:cs.length≤40) : ∀ d i k st,i+d=cs.length→d < k →
 zS.l0 k st.1 st.2 cs cs.length (i:Int) L U g a b=some (zFe (wd L U a b) (cs.drop i) st):=by
 intro d
 induction d with
 | zero =>
  intro i k st hi hk
  obtain ⟨k,rfl⟩:=fuel hk
  simp only [zS.l0]
  rw [if_neg (by omega),List.drop_of_length_le (by omega)]
  rfl
 | succ d ih =>
  intro i k st hi hk
  obtain ⟨k,rfl⟩:=fuel hk
  have hil:i < cs.length:=by omega
  have hs:=hc _ (List.getElem_mem hil)
  simp only [zS.l0,zAE.f,zEM,Option.bind_some]
  rw [if_pos (by omega),if_pos (by omega),if_pos (by omega),zC3 cs i hil,zDC hil (by omega),w64 (x:=L+_) (by omega) (by omega),w64 (x:=U+_) (by omega) (by omega)]
  have hwd:wrap64 (mn (U+cs[i]) b - mx (L+cs[i]) a)=wd L U a b cs[i]:=by
   unfold wd
   exact w64 (by unfold mn mx;omega) (by unfold mn mx;omega)
  rw [hwd,List.drop_eq_getElem_cons hil]
  simp only [zFe]
  by_cases c:wd L U a b cs[i] > st.1
  ·rw [if_pos c,if_pos c]
   exact ih (i+1) k (wd L U a b cs[i],cs[i]) (by omega) (by omega)
  ·rw [if_neg c,if_neg c]
   exact ih (i+1) k st (by omega) (by omega)
def Wc (L H a b g:Int):Int:=mn (mn (H - L - g) (b - a)) (mn (b - L) (H - a))
theorem zFo (L H a b g:Int) (hL:0≤L) (hH:H≤34359738368) (hg:0≤g) (hgw:g≤H - L) (ha:0≤a) (hab:a≤b) (hb:b≤34359738368) (h1:L≤b) (h2:a≤H) (k:Nat) (hk:20 < k) :
 ∃ s,zS.f k L (H - g) g a b=some (Wc L H a b g,s)∧mx 0 (a - (H - g))≤s∧s≤mn g (b - L)∧wd L (H - g) a b s=Wc L H a b g ∧
  (∀ c,c=mx 0 (a - (H - g))∨c=mn g (b - L)∨c=mn (mx (a - L) (mx 0 (a - (H - g)))) (mn g (b - L))∨c=mn (mx (b - (H - g)) (mx 0 (a - (H - g)))) (mn g (b - L))→wd L (H - g) a b c=Wc L H a b g→s≤c):=by
 unfold zS.f
 simp only [zAM.f,Option.bind_some]
 rw [w64 (x:=a - (H - g)) (by omega) (by omega),w64 (x:=b - L) (by omega) (by omega),w64 (x:=a - L) (by omega) (by omega),w64 (x:=b - (H - g)) (by omega) (by omega)]
 generalize hlo:mx 0 (a - (H - g))=lo
 generalize hhi:mn g (b - L)=hi
 have hlh:0≤lo∧lo≤hi∧hi≤g:=by rw [← hlo,← hhi];unfold mx mn;omega
 have hsort:slices_Sort_int.f [lo,hi,mn (mx (a - L) lo) hi,mn (mx (b - (H - g)) lo) hi]=some (zDS (fun x y=>decide (x≤y)) [lo,hi,mn (mx (a - L) lo) hi,mn (mx (b - (H - g)) lo) hi]):=rfl
 rw [hsort]
 simp only [Option.bind_some]
 generalize hcs:zDS (fun x y:Int=>decide (x≤y)) [lo,hi,mn (mx (a - L) lo) hi,mn (mx (b - (H - g)) lo) hi]=cs
 have hperm:cs.Perm [lo,hi,mn (mx (a - L) lo) hi,mn (mx (b - (H - g)) lo) hi]:=by rw [← hcs];exact zDa _ _
 have hpw:cs.Pairwise (·≤·):=by
  have:=zCc (le:=fun x y:Int=>decide (x≤y)) (fun a b c h1 h2=>by simp at *;omega) (fun a b=>by simp;omega) [lo,hi,mn (mx (a - L) lo) hi,mn (mx (b - (H - g)) lo) hi]
  rw [hcs] at this
  exact this.imp (fun h=>by simpa using h)
 have hmem : ∀ c,c ∈ cs↔c=lo∨c=hi∨c=mn (mx (a - L) lo) hi∨c=mn (mx (b - (H - g)) lo) hi:=fun c=>by rw [hperm.mem_iff];simp
 have hlen:cs.length=4:=by rw [hperm.length_eq];rfl
 have hbd : ∀ c ∈ cs,lo≤c∧c≤hi:=fun c hc=>by
  rcases (hmem c).1 hc with rfl|rfl|rfl|rfl <;> ((try unfold mn);(try unfold mx);omega)
 have hl0:=zFx L (H - g) g a b (by omega) (by omega) (by omega) (by omega) cs (fun s hs=>by have:=hbd s hs;omega) (by omega) cs.length 0 k (-1,0) (by omega) (by omega)
 rw [Int.natCast_zero,List.drop_zero] at hl0
 have hlen2:(([lo,hi,mn (mx (a - L) lo) hi,mn (mx (b - (H - g)) lo) hi]:List Int).length:Int)=cs.length:=by rw [hlen];rfl
 rw [hlen2,hl0]
 obtain ⟨s1,s2,s3,s4⟩:=zFj (wd L (H - g) a b) cs (-1,0)
 -- no place is wider;one is as wide
 have hub : ∀ c,lo≤c→c≤hi→wd L (H - g) a b c≤Wc L H a b g:=by
  intro c h3 h4
  rw [← hhi] at h4
  rw [← hlo] at h3
  unfold wd Wc
  unfold mx at h3 ⊢
  unfold mn at h4 ⊢
  omega
 have hat:wd L (H - g) a b (mn (mx (a - L) lo) hi)=Wc L H a b g:=by
  rw [← hlo,← hhi]
  unfold wd Wc mx mn
  omega
 have hW0:0≤Wc L H a b g:=by unfold Wc mn;omega
 have hm3:=s2 _ ((hmem _).2 (.inr (.inr (.inl rfl))))
 rw [hat] at hm3
 rcases s3 with s3|⟨s5,s6,s7⟩
 ·rw [s3] at hm3
  have:Wc L H a b g≤-1:=hm3
  omega
 ·have hb2:=hbd _ s5
  have hle:=hub _ hb2.1 hb2.2
  have heq:(zFe (wd L (H - g) a b) cs (-1,0)).1=Wc L H a b g:=by omega
  refine ⟨(zFe (wd L (H - g) a b) cs (-1,0)).2,by rw [← heq],hb2.1,hb2.2,by rw [s6,heq],fun c hc hwc=>?_⟩
  exact s4 hpw s7 c ((hmem c).2 hc) (by rw [hwc,heq])
theorem worst_eq (l:List S50) (a b:Int) (items:List Int) (hv:zCB l a b=true) (hr:rightFrom l.length (-1) items=true) (k:Nat) (hk:100 < k):zAd.f k l a b items=some (Wc (zBN l) (zBE l) a b (zDw l items)):=by
 have hv:=zDm.1 hv
 have hok:=hv.2.2.2.2.2.1
 have hs:=zDz l hok
 have hm : ∀ j ∈ items,0≤j∧j < (l.length:Int):=fun j hj=>by have:=zCs hr j hj;omega
 have hn:=zCY hr (by omega) (by omega)
 have hg:=zFE l hok items hm
 have hgw:=zFl l items (-1) l rfl hok hr (fun _ _=>rfl)
 unfold zAd.f
 rw [gains_eq l a b hok items hm (by omega) k (by omega)]
 simp only [Option.bind_some]
 rw [zE0 l hok items hm (by omega) k (by omega)]
 simp only [Option.bind_some]
 rw [zEv l a b _ hok hv.2.1 k (by omega) (by omega) (by omega)]
 simp only [Option.bind_some]
 obtain ⟨s,e,_⟩:=zFo (zBN l) (zBE l) a b (zDw l items) (by omega) (by omega) (by omega) (by omega) (by omega) (by omega) (by omega) (by omega) (by omega) k (by omega)
 rw [e]
 rfl
theorem Worst_eq (l:List S50) (a b:Int) (items:List Int) (hn:items.length≤9223372036854775807) (k:Nat) (hk:100+items.length < k) (hv:zCB l a b=true) (hr:rightFrom l.length (-1) items=true):zCD.f k l a b items=some (Wc (zBN l) (zBE l) a b (zDw l items),0):=by
 unfold zCD.f
 rw [right_eq l a b items hn k (by omega)]
 simp only [Option.bind_some,hv,hr,if_true]
 rw [worst_eq l a b items hv hr k (by omega)]
 rfl
theorem zFu {L H a b g g':Int} (h:g≤g'):Wc L H a b g'≤Wc L H a b g:=by unfold Wc mn;omega
def zFb (n:Nat):List Int:=(List.range n).map Int.ofNat
theorem zFt (n:Nat) (hn:n≤40) : ∀ d i k,i+d=n→d < k→zAc.l0 k (zFb i) n (i:Int)=some (zFb n):=by
 intro d
 induction d with
 | zero =>
  intro i k hi hk
  obtain ⟨k,rfl⟩:=fuel hk
  simp only [zAc.l0]
  rw [if_neg (by omega),show i=n by omega]
 | succ d ih =>
  intro i k hi hk
  obtain ⟨k,rfl⟩:=fuel hk
  simp only [zAc.l0]
  rw [if_pos (by omega),if_pos (by simp [zFb];omega),zDC (n:=n) (by omega) (by omega)]
  have:zFb i ++ [(i:Int)]=zFb (i+1):=by unfold zFb;rw [List.range_succ,List.map_append];rfl
  rw [this]
  exact ih (i+1) k (by omega) (by omega)
theorem zFn (n:Nat) (hn:n≤40) (k:Nat) (hk:40 < k):zAc.f k (n:Int)=some (zFb n):=zFt n hn n 0 k (by omega) (by omega)
theorem zFg {n:Nat} : ∀ j ∈ zFb n,0≤j∧j < (n:Int):=by
 intro j hj
 obtain ⟨i,hi,rfl⟩:=List.mem_map.1 hj
 have:=List.mem_range.1 hi
 simp
 omega
theorem zFq (l:List S50) (a b width:Int) (hv:zCB l a b=true) : ∀ (n:Nat) (k:Nat) (lo hi:Int),0≤lo→lo≤hi→hi≤zBE l - zBN l→hi - lo < 2 ^ n→n+100 < k →
 (∀ g,0≤g→g < lo→width < Wc (zBN l) (zBE l) a b g)→(hi < zBE l - zBN l→Wc (zBN l) (zBE l) a b hi≤width) →
 ∃ r,zAN.l0 k width lo hi l a b=some (r,decide (zDw l (zFb l.length)≥r),0)∧0≤r∧r≤zBE l - zBN l∧(∀ g,0≤g→g < r→width < Wc (zBN l) (zBE l) a b g)∧(r < zBE l - zBN l→Wc (zBN l) (zBE l) a b r≤width)
 | n,k,lo,hi,h0,hlh,hT,hn,hk,hlow,hhigh=>by
  have hv':=zDm.1 hv
  have hok:=hv'.2.2.2.2.2.1
  have hs:=zDz l hok
  obtain ⟨k,rfl⟩:=fuel (show 0 < k by omega)
  simp only [zAN.l0]
  by_cases c:lo < hi
  ·rw [if_pos c]
   cases n with
   | zero=>simp at hn;omega
   | succ n =>
    rw [w64 (x:=lo+hi) (by omega) (by omega),Int.tdiv_eq_ediv_of_nonneg (by omega),w64 (x:=(lo+hi) / 2) (by omega) (by omega)]
    have hm1:lo≤(lo+hi) / 2:=by omega
    have hm2:(lo+hi) / 2 < hi:=by omega
    rw [zEv l a b _ hok hv'.2.1 k (by omega) (by omega) (by omega)]
    simp only [Option.bind_some]
    obtain ⟨s,e,_⟩:=zFo (zBN l) (zBE l) a b ((lo+hi) / 2) (by omega) (by omega) (by omega) (by omega) (by omega) (by omega) (by omega) (by omega) (by omega) k (by omega)
    rw [e]
    simp only [Option.bind_some]
    have hpow:(2:Int) ^ (n+1)=2*2 ^ n:=by rw [Int.pow_succ,Int.mul_comm]
    rw [hpow] at hn
    by_cases c2:Wc (zBN l) (zBE l) a b ((lo+hi) / 2)≤width
    ·rw [if_pos c2]
     exact zFq l a b width hv n k lo ((lo+hi) / 2) h0 hm1 (by omega) (by omega) (by omega) hlow (fun _=>c2)
    ·rw [if_neg c2,w64 (x:=(lo+hi) / 2+1) (by omega) (by omega)]
     exact zFq l a b width hv n k ((lo+hi) / 2+1) hi (by omega) (by omega) hT (by omega) (by omega) (fun g g0 g1=>by
      have:=zFu (L:=zBN l) (H:=zBE l) (a:=a) (b:=b) (show g≤(lo+hi) / 2 by omega)
      omega) hhigh
  ·rw [if_neg c]
   have hle:lo=hi:=by omega
   subst hle
   rw [zFn l.length (by omega) k (by omega)]
   simp only [Option.bind_some]
   have hnl:(zFb l.length).length≤40:=by simp [zFb];omega
   rw [gains_eq l a b hok (zFb l.length) zFg hnl k (by omega)]
   simp only [Option.bind_some]
   rw [zE0 l hok (zFb l.length) zFg hnl k (by omega)]
   simp only [Option.bind_some]
   exact ⟨lo,rfl,h0,hT,hlow,hhigh⟩
theorem zFv (l:List S50) (a b width:Int) (hv:zCB l a b=true) (hw:0≤width) (k:Nat) (hk:200 < k) :
 ∃ r,zAN.f k l a b width=some (r,decide (zDw l (zFb l.length)≥r),0)∧0≤r∧∀ g,0≤g→g≤zBE l - zBN l→(Wc (zBN l) (zBE l) a b g≤width↔r≤g):=by
 have hv':=zDm.1 hv
 have hok:=hv'.2.2.2.2.2.1
 have hs:=zDz l hok
 unfold zAN.f
 rw [check_eq l a b k (by omega)]
 simp only [Option.bind_some,hv,if_true]
 rw [if_neg (by omega),all_eq l a b hok hv'.2.1 k (by omega)]
 simp only [Option.bind_some]
 rw [w64 (x:=zBE l - zBN l) (by omega) (by omega)]
 obtain ⟨r,e,r0,r1,r2,r3⟩:=zFq l a b width hv 40 k 0 (zBE l - zBN l) (Int.le_refl _) (by omega) (Int.le_refl _) (by omega) (by omega) (fun g g0 g1=>by omega) (fun h=>by omega)
 refine ⟨r,e,r0,fun g g0 g1=>⟨fun h=>?_,fun h=>?_⟩⟩
 ·by_cases c:r≤g
  ·exact c
  ·have:=r2 g g0 (by omega)
   omega
 ·have h1:=zFu (L:=zBN l) (H:=zBE l) (a:=a) (b:=b) h
  by_cases c:r < zBE l - zBN l
  ·have:=r3 c
   omega
  ·have:g=zBE l - zBN l:=by omega
   subst this
   unfold Wc mn
   omega
theorem Gains_eq (l:List S50) (a b:Int) (hv:zCB l a b=true) (k:Nat) (hk:100 < k):zm.f k l a b (zFb l.length)=some ((zFb l.length).map fun j=>gz (zG l j)):=by
 have hv':=zDm.1 hv
 exact gains_eq l a b hv'.2.2.2.2.2.1 (zFb l.length) zFg (by simp [zFb];omega) k (by omega)
end Go.Proofs.Ythimaecnpkcmeaa.Pure
namespace Go.Proofs.Ythimaecnpkcmeaa.Pure
open Go.RowKit Go.Proofs.Ythimaecnpkcmeaa.K Go.Proofs.YthimaecnpkcmeaaW.PrintWords Go.Proofs.YthimaecnpkcmeaaW.PrintLast Go.Proofs.YthimaecnpkcmeaaW.PrintMore
def zFd (l:List S50) (items:List Int) (n:Nat):Int:=((List.range n).map fun i=>if (Int.ofNat i) ∈ items then gz (zG l (Int.ofNat i)) else 0).sum
theorem zFf (l:List S50) (items:List Int) (n:Nat):zFd l items (n+1)=zFd l items n+(if (n:Int) ∈ items then gz (zG l n) else 0):=by
 unfold zFd
 rw [List.range_succ,List.map_append,List.sum_append]
 simp only [List.map_cons,List.map_nil,List.sum_cons,List.sum_nil,Int.add_zero]
 rfl
theorem zFh (l:List S50) : ∀ (n:Nat) (items:List Int),rightFrom n (-1) items=true→zDw l items=zFd l items n
 | 0,items,h=>by
  cases items with
  | nil=>rfl
  | cons i is=>have:=zCh.1 h;omega
 | n+1,items,h=>by
  rw [zFf]
  rcases zFi n items (-1) h with h1|⟨init,rfl,h1⟩
  ·have hn:(n:Int) ∉ items:=fun hm=>by have:=zCs h1 _ hm;omega
   rw [if_neg hn,Int.add_zero]
   exact zFh l n items h1
  ·rw [if_pos (by simp)]
   have e1:zDw l (init ++ [(n:Int)])=zDw l init+gz (zG l n):=by simp [zDw]
   have e2:zFd l (init ++ [(n:Int)]) n=zFd l init n:=by
    unfold zFd
    congr 1
    refine List.map_congr_left fun i hi=>?_
    have:=List.mem_range.1 hi
    have e3:(Int.ofNat i ∈ init ++ [(n:Int)])↔Int.ofNat i ∈ init:=by
     rw [List.mem_append,List.mem_singleton]
     refine ⟨fun h=>?_,fun h=>.inl h⟩
     rcases h with h|h
     ·exact h
     ·simp at h;omega
    by_cases c:Int.ofNat i ∈ init
    ·rw [if_pos c,if_pos (e3.2 c)]
    ·rw [if_neg c,if_neg (fun h=>c (e3.1 h))]
   rw [e1,e2,zFh l n init h1]
theorem index_l0 (x:List Int) (v:Int) (hn:x.length≤9223372036854775807) : ∀ d i k,i+d=x.length→d < k→∃ r,zFa.l0 k x v x.length (i:Int)=some r∧(0≤r↔v ∈ x.drop i):=by
 intro d
 induction d with
 | zero =>
  intro i k hi hk
  obtain ⟨k,rfl⟩:=fuel hk
  simp only [zFa.l0]
  rw [if_neg (by omega),List.drop_of_length_le (by omega)]
  exact ⟨-1,rfl,by simp⟩
 | succ d ih =>
  intro i k hi hk
  obtain ⟨k,rfl⟩:=fuel hk
  have hil:i < x.length:=by omega
  simp only [zFa.l0]
  rw [if_pos (by omega),if_pos (by omega),if_pos (by omega),zC3 x i hil,zDC hil hn,List.drop_eq_getElem_cons hil]
  by_cases c:v=x[i]
  ·rw [if_pos c]
   exact ⟨i,rfl,⟨fun _=>by rw [c];exact List.mem_cons_self,fun _=>by omega⟩⟩
  ·rw [if_neg c]
   obtain ⟨r,e,hr⟩:=ih (i+1) k (by omega) (by omega)
   exact ⟨r,e,by rw [hr,List.mem_cons];exact ⟨.inr,fun h=>h.resolve_left c⟩⟩
theorem zFs (x:List Int) (v:Int) (hn:x.length≤9223372036854775807) (k:Nat) (hk:x.length < k):zFc.f k x v=some (decide (v ∈ x)):=by
 obtain ⟨r,e,hr⟩:=index_l0 x v hn x.length 0 k (by omega) (by omega)
 unfold zFc.f zFa.f
 rw [Int.natCast_zero] at e
 rw [e]
 simp only [Option.bind_some]
 rw [List.drop_zero] at hr
 congr 1
 exact decide_eq_decide.2 hr
theorem zFk (l:List S50) (h:l.all okB=true) (items:List Int) : ∀ n,n≤l.length→0≤zFd l items n∧zFd l items n≤1073741824*n
 | 0,_=>by simp [zFd]
 | n+1,hn=>by
  have h1:=zFk l h items n (by omega)
  have h2:=gz_bd (zER h n (by omega) (by omega))
  rw [zFf]
  by_cases c:(n:Int) ∈ items
  ·rw [if_pos c];omega
  ·rw [if_neg c];omega
theorem zFp (l:List S50) (h:l.all okB=true) (hl:l.length≤12) (items:List Int) (hn:items.length≤9223372036854775807) (w width r:Int) (is:Bool) : ∀ d i k,i+d=l.length→d+items.length < k →
 zFZ.l0 k items width w r is (zFd l items i) (zFd l (zFb l.length) i) ((zFb l.length).map fun j=>gz (zG l j)) l.length (i:Int) =
  some (if (decide (w≤width) == decide (zFd l items l.length≥r))=true then is == decide (zFd l (zFb l.length) l.length≥r) else false):=by
 intro d
 have hlen:((zFb l.length).map fun j=>gz (zG l j)).length=l.length:=by simp [zFb]
 induction d with
 | zero =>
  intro i k hi hk
  obtain ⟨k,rfl⟩:=fuel hk
  have:i=l.length:=by omega
  subst this
  simp only [zFZ.l0]
  rw [if_neg (by omega)]
  split <;> rfl
 | succ d ih =>
  intro i k hi hk
  obtain ⟨k,rfl⟩:=fuel (show 0 < k by omega)
  have hil:i < l.length:=by omega
  have hg:rd ((zFb l.length).map fun j=>gz (zG l j)) (i:Int)=gz (zG l i):=by
   rw [zC3 _ i (by omega)]
   simp [zFb]
  have hgz:=gz_bd (zER h i (by omega) (by omega))
  have b1:=zFk l h items i (by omega)
  have b2:=zFk l h (zFb l.length) i (by omega)
  simp only [zFZ.l0]
  rw [if_pos (by omega),if_pos (by omega),if_pos (by omega),hg,if_neg (by omega),zFs items i hn k (by omega)]
  simp only [Option.bind_some]
  rw [w64 (x:=zFd l (zFb l.length) i+_) (by omega) (by omega),zDC hil (by omega)]
  have ihx:=ih (i+1) k (by omega) (by omega)
  rw [zFf,zFf l (zFb l.length),if_pos (show (i:Int) ∈ zFb l.length from List.mem_map.2 ⟨i,List.mem_range.2 hil,rfl⟩)] at ihx
  by_cases c:(i:Int) ∈ items
  ·rw [if_pos (decide_eq_true c),w64 (x:=zFd l items i+_) (by omega) (by omega)]
   rw [if_pos c] at ihx
   exact ihx
  ·rw [if_neg (by simpa using c)]
   rw [if_neg c,Int.add_zero] at ihx
   exact ihx
theorem zFr (l:List S50) (a b:Int) (items:List Int) (width:Int) (h1:items.length≤9223372036854775807) : ∃ k,zFZ.f k l a b items width=some true:=by
 obtain ⟨k,hk⟩ : ∃ k,k=1000+items.length:=⟨_,rfl⟩
 refine ⟨k+1,?_⟩
 unfold zFZ.f
 have hsane:zCR.f=some true:=rfl
 rw [hsane]
 simp only [Option.bind_some,if_true]
 rw [refValid_eq l a b (k+1) (by omega)]
 simp only [Option.bind_some]
 have hj:zFZ.j0 (k+1) items width true l a b=some true:=by simp [zFZ.j0]
 by_cases hv:zCB l a b=true
 rotate_left
 ·rw [if_neg hv];exact hj
 rw [if_pos hv,refRight_eq l a b items h1 (k+1) (by omega)]
 simp only [Option.bind_some]
 by_cases hr:rightFrom l.length (-1) items=true
 rotate_left
 ·rw [if_neg hr];exact hj
 rw [if_pos hr]
 by_cases c4:width < 0
 ·rw [decide_eq_true c4];exact hj
 rw [decide_eq_false c4]
 have hv':=zDm.1 hv
 have hok:=hv'.2.2.2.2.2.1
 have hm : ∀ j ∈ items,0≤j∧j < (l.length:Int):=fun j hj=>by have:=zCs hr j hj;omega
 have hg:=zFE l hok items hm
 have hgw:=zFl l items (-1) l rfl hok hr (fun _ _=>rfl)
 simp only [zFZ.j0,Bool.false_eq_true,if_false]
 obtain ⟨r,e1,r0,r1⟩:=zFv l a b width hv (by omega) k (by omega)
 have hG:zBC.f k l a b=some ((zFb l.length).map fun j=>gz (zG l j),0):=by
  unfold zBC.f
  rw [check_eq l a b k (by omega)]
  simp only [Option.bind_some,hv,if_true]
  rw [zFn l.length (by omega) k (by omega)]
  simp only [Option.bind_some]
  rw [Gains_eq l a b hv k (by omega)]
  rfl
 rw [Worst_eq l a b items h1 k (by omega) hv hr,hG,e1]
 simp only [Option.bind_some,if_true]
 have hlen:(((zFb l.length).map fun j=>gz (zG l j)).length:Int)=l.length:=by simp [zFb]
 rw [if_pos hlen,decide_eq_false (show ¬ r < 0 by omega)]
 obtain ⟨k,rfl⟩:=fuel (show 0 < k by omega)
 simp only [zFZ.j1,Bool.false_eq_true,if_false]
 rw [hlen]
 have hl0:=zFp l hok hv'.2.1 items h1 (Wc (zBN l) (zBE l) a b (zDw l items)) width r (decide (zDw l (zFb l.length)≥r)) l.length 0 k (by omega) (by omega)
 have z1:zFd l items 0=0:=rfl
 have z2:zFd l (zFb l.length) 0=0:=rfl
 rw [Int.natCast_zero,z1,z2] at hl0
 rw [hl0]
 have hall:rightFrom l.length (-1) (zFb l.length)=true:=by
  unfold zFb
  exact zFm l.length _ _ (fun x hx=>by have:=List.mem_range.1 hx;omega) List.pairwise_lt_range
 rw [← zFh l l.length items hr,← zFh l l.length _ hall]
 have hiff:=r1 (zDw l items) hg.1 hgw
 have hd:decide (Wc (zBN l) (zBE l) a b (zDw l items)≤width)=decide (zDw l items≥r):=decide_eq_decide.2 hiff
 rw [hd]
 simp
end Go.Proofs.Ythimaecnpkcmeaa.Pure
namespace Go.Proofs.Ythimaecnpkcmeaa.ordersGains
open Go.ChangeShapes Go.WideShapes Go.ChangeAt Go.RowKit Go.Proofs.Ythimaecnpkcmeaa.K Go.Proofs.YthimaecnpkcmeaaW.PrintWords
set_option linter.unusedVariables false
theorem own:ownKnob Try.prog.godebug=none:=by kernel_rfl
theorem laidOut:laidOutB Try.prog=true:=by kernel_rfl
set_option maxRecDepth 100000 in
theorem lifted (os:Os) (started:os.Started) (H:Type) (enc:TypeId × Value→H) :
 ReturnsInHanded {} Try.checked os 6 .any (Rows.ordersGainsSpec.pre6 enc Try.prog Try.f6 Rows.ordersGainsRow.domain false) (Rows.ordersGainsSpec.post enc Try.prog Try.f6 false true false false):=by
 refine returnsInHanded_of_change_sized (C:=Try.checked) own started (by kernel_rfl) Try.func6
  (ChangeSpec.witness6 (enc:=enc) (C:=Try.checked) false ⟨#[],#[.agg #[.slice none 0 0,.int .i64 0,.int .i64 0],.slice none 0 0,.int .i64 0],[]⟩ 8 (by kernel_rfl) (by kernel_rfl) (by kernel_rfl) (by kernel_rfl)) ?_
 intro W base args ds gs before hval0 hW hcnd hsz0 _
 have hval : ∀ (j:Nat) t v,Try.f6.params[j]? = some t→args[j]? = some v→Value.okWide Try.prog W .any base t v:=hval0
 have hW':=hW
 obtain ⟨p,q,hA0,hV,rfl,hfz,hnd⟩:=hW
 have hA:DataW.TrodAll enc Try.prog W 0 (fun _=>true) true Try.f6.params.toList args.toList ds p:=hA0
 rw [Try.params6] at hA hval
 obtain ⟨v0,vs0,d0,ds0,p0,q0,hargs,rfl,rfl,h0,r0⟩:=trodAll_cons hA
 obtain ⟨v1,vs1,d1,ds1,p1,q1,rfl,rfl,rfl,h1,r1⟩:=trodAll_cons r0
 obtain ⟨v2,vs2,d2,ds2,p2,q2,rfl,rfl,rfl,h2,r2⟩:=trodAll_cons r1
 obtain ⟨rfl,rfl,rfl⟩:=trodAll_nil r2
 obtain rfl:args=#[v0,v1,v2]:=by cases args;simp_all
 obtain ⟨rfl,rfl⟩:=trodVars_none hV
 have k0:=h0
 have lt0 : ∀ x ∈ p0,x.block < W.heap.size:=by obtain ⟨m,hm⟩:=k0;exact DataW.trod_lt m _ _ _ hm
 obtain ⟨A0,c0,l0,a0_1,a0_2,rfl,e0,g0⟩:=open26 (hval 0 26 v0 rfl rfl) h0
 have k1:=h1
 have lt1 : ∀ x ∈ p1,x.block < W.heap.size:=by obtain ⟨m,hm⟩:=k1;exact DataW.trod_lt m _ _ _ hm
 obtain ⟨A1,c1,l1,rfl,e1,g1⟩:=open27 (hval 1 27 v1 rfl rfl) h1
 obtain ⟨a2,rfl,rfl,rfl,w2⟩:=open_int Try.underlying3 (hval 2 3 v2 rfl rfl) h2
 clear hA0 hval0 hsz0
 obtain ⟨k,hk⟩:=Pure.zFr l0 a0_1 a0_2 l1 a2 e1.2.1
 refine (K.zFZ.calls k A0 c0 l0 a0_1 a0_2 A1 c1 l1 a2 true W e0 g0 e1 g1 hk).mono fun e W' ⟨he,bel⟩=>?_
 subst he
 exact ⟨_,rfl,_,_,_,[],_,[],hW',trodAll_mk1 (shut_bool Try.underlying4 _),(trodAll_cons_mk (Below.trod laidOut (by kernel_rfl) (of_decide_eq_true (by kernel_rfl)) k0 bel lt0) (trodAll_cons_mk (Below.trod laidOut (by kernel_rfl) (of_decide_eq_true (by kernel_rfl)) k1 bel lt1) (trodAll_cons_mk (shut_int Try.underlying3 w2) trodAll_mk0))),rfl,bel.frame _,fun h=>by cases h⟩
theorem over:Rows.ordersGainsRow.holds Try.pinned (OpenSpec.ofChange Rows.ordersGainsSpec) :=
 OpenClaim.holds_of_wide 6 Try.f6 rfl rfl rfl rfl rfl rfl rfl ⟨rfl,rfl,rfl,rfl,rfl⟩ rfl rfl rfl rfl rfl (by kernel_rfl) Try.func6 (by kernel_rfl)
  (of_decide_eq_true (by kernel_rfl)) (by unfold Func.isWrapper;first|(rw [if_pos (by decide +kernel)];kernel_rfl)|(rw [if_neg (by decide +kernel)];exact ⟨rfl,rfl⟩))
  (fun os started H enc _=>lifted os started H enc)
theorem proved:Rows.OrdersGainsSaid:=over
#print axioms proved
end Go.Proofs.Ythimaecnpkcmeaa.ordersGains
namespace Go.Proofs.Ythimaecnpkcmeaa
theorem ordersGains_holds:Rows.OrdersGainsSaid:=ordersGains.proved
end Go.Proofs.Ythimaecnpkcmeaa
