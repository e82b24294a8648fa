/- Contracts of Go functions and lemmas for them: each theorem states what one function returns and what it leaves of memory; its conditions stand in its statement. -/
import Derived.ArgAppend
import Derived.Below
import Derived.BigQuiet
import Derived.Deep.AppendLies
import Derived.Deep.CutBlock
import Derived.Deep.DeepCutAuto
import Derived.Deep.Draws
import Derived.Deep.LoopGhost
import Derived.Deep.OwnRows
import Derived.Deep.QuietTactic
import Derived.Deep.RegionHeld3
import Derived.KernelRfl
import Derived.Laws.BytesArg
import Derived.Laws.IdiomCopy
import Derived.Laws.MakeOwn
import Derived.Laws.OwnMore
import Derived.Laws.Rows
import Derived.Laws.Slices
import Derived.Lib.AppendStr
import Derived.Lib.ConvBytes
import Derived.Maps.AppendAt
import Derived.OwnWalk
import Derived.RowKit
import Derived.RowKit3
import Derived.Tactics
import Derived.WalkKit
import Derived.WideLaws
import Derived.Test.YthimaecnpkcmeaaB0
import Derived.Test.YthimaecnpkcmeaaB1
import Derived.Test.YthimaecnpkcmeaaB10
import Derived.Test.YthimaecnpkcmeaaB11
import Derived.Test.YthimaecnpkcmeaaB12
import Derived.Test.YthimaecnpkcmeaaB13
import Derived.Test.YthimaecnpkcmeaaB14
import Derived.Test.YthimaecnpkcmeaaB15
import Derived.Test.YthimaecnpkcmeaaB16
import Derived.Test.YthimaecnpkcmeaaB17
import Derived.Test.YthimaecnpkcmeaaB18
import Derived.Test.YthimaecnpkcmeaaB2
import Derived.Test.YthimaecnpkcmeaaB3
import Derived.Test.YthimaecnpkcmeaaB4
import Derived.Test.YthimaecnpkcmeaaB5
import Derived.Test.YthimaecnpkcmeaaB6
import Derived.Test.YthimaecnpkcmeaaB7
import Derived.Test.YthimaecnpkcmeaaB8
import Derived.Test.YthimaecnpkcmeaaB9
set_option linter.unusedVariables false
set_option linter.unusedSimpArgs false
set_option linter.unusedVariables false
set_option linter.unusedSimpArgs false
namespace Go.Proofs.YthimaecnpkcmeaaW.PrintWords
open Go.RowKit
theorem zBr.own {w w1:World} {g:Nat} {row:Option Nat} {base:Nat} {e:TypeId} {size n:Nat} {v:Value} {xs:List Value} (h:zBr w w1 g row) (ho:w.ownsRow base e size v n xs) (hg:v.ownBlock≠some g) (hr:v.ownBlock=none∨v.ownBlock≠row):w1.ownsRow base e size v n xs:=by
 obtain ⟨h1,h2⟩:=ho
 refine ⟨h1,?_⟩
 rcases h2 with h2|⟨b,cap,cur,rfl,hb,hh,r⟩
 ·exact .inl h2
 ·refine .inr ⟨b,cap,cur,rfl,hb,h.blk hh ?_ ?_,r⟩
  ·intro e
   exact hg (by rw [← e];rfl)
  ·rcases hr with hr|hr
   ·simp [Value.ownBlock] at hr
   ·exact hr
end Go.Proofs.YthimaecnpkcmeaaW.PrintWords
namespace Go.Proofs.YthimaecnpkcmeaaW.PrintWords
open Go.RowKit
namespace zCz
variable {P Q : World → Prop} {W W1 : World} {ok ok' : Nat → Prop}
theorem imp (h:zCz P W ok) (hi : ∀ W',P W'→Q W'):zCz Q W ok:=fun W' hW=>hi W' (h W' hW)
end zCz
end Go.Proofs.YthimaecnpkcmeaaW.PrintWords
namespace Go.Proofs.Ythimaecnpkcmeaa.K
open Go.RowKit Go.Proofs.YthimaecnpkcmeaaW.PrintWords Go.Proofs.YthimaecnpkcmeaaW.PrintLast Go.Proofs.YthimaecnpkcmeaaW.PrintMore
attribute [local go_sem] zAX zAW zAg zAf zAF zAG zAU zAV   -- for this text's walks alone
set_option linter.unusedVariables false
set_option linter.unusedSimpArgs false
def zFa.l0:Nat→List Int→Int→Int→Int→Option (Int)
 | 0,_,_,_,_=>none
 | k+1,x0,x1,x7,x8=>if x8 < x7 then (if 0≤x8 then (if x8 < (x0.length:Int) then (if x1=(rd x0 x8) then (some x8) else (zFa.l0 k x0 x1 x7 (wrap64 (x8+1)))) else (none)) else (none)) else (some (-1))
def zFa.f (k:Nat) (l0:List Int) (a1:Int):Option (Int):=zFa.l0 k l0 a1 (l0.length:Int) 0
set_option maxHeartbeats 8000000 in
set_option maxRecDepth 100000 in
theorem zFa.calls (k:Nat) (A0:Option Addr) (c0:Nat) (l0:List Int) (a1:Int) (r:Int) (w:World) (hr0:Kd.C (Kd.int .i64) w A0 l0.length l0) (hc0:l0.length≤c0) (h:zFa.f k l0 a1=some r) :
 Calls Try.prog 55 #[.slice A0 l0.length c0,.int .i64 a1] w fun e w'=>e= .returned (.int .i64 r)∧zY w w':=by
 have HR0:=zA.mk hr0
 have HC0:=zA.mk hc0
 clear hr0 hc0
 have H:(zFa.l0 k l0 a1 (l0.length:Int) 0)=some r:=h
 clear h
 have H':=zA.mk H
 clear H
 go_enter Try.func55,Try.ntmps55
 go_wp2
 go_loopg [8] k (fun kq v8 w'=>∃ (a:Int),v8= .int .i64 a∧zA (zFa.l0 kq l0 a1 (l0.length:Int) a=some r)∧zA (kq≤k)∧zY w w')
 case atStart=>exact ⟨(0),sA,H',⟨Nat.le_refl _⟩,by repeat (first|exact zY.refl _|apply zY.step)⟩
 case round =>
  clear H'
  try clear p2
  obtain ⟨a,rfl,HA,HK1,⟨m1,rfl⟩⟩:=hrel
  cases gk with
  | zero=>exact absurd HA.out (by simp [zFa.l0])
  | succ k1 =>
   have H:=HA.out
   clear HA
   simp only [zFa.l0] at H
   by_cases c3:a < (l0.length:Int)
   rotate_left
   ·rw [if_neg c3] at H
    have i:decide (a < (l0.length:Int))=false:=decide_eq_false c3
    clear c3
    obtain rfl:=Option.some.inj H
    go_wp2
    go_ret
    exact ⟨by first|rfl|(simp;done)|(simp [*];done),by repeat (first|exact zY.refl _|apply zY.step)⟩
   rw [if_pos c3] at H
   have i:decide (a < (l0.length:Int))=true:=decide_eq_true c3
   clear c3
   by_cases c4:0≤a
   rotate_left
   ·rw [if_neg c4] at H
    exact absurd H (by simp)
   rw [if_pos c4] at H
   have m:decide (0≤a)=true:=decide_eq_true c4
   clear c4
   by_cases c5:a < (l0.length:Int)
   rotate_left
   ·rw [if_neg c5] at H
    exact absurd H (by simp)
   rw [if_pos c5] at H
   have n:decide (a < (l0.length:Int))=true:=decide_eq_true c5
   clear c5
   by_cases c6:a1=(rd l0 a)
   ·rw [if_pos c6] at H
    have j:(a1 == (rd l0 a))=true:=beq_iff_eq.mpr c6
    have l:(a1 != (rd l0 a))=false:=bne_eq_false_iff_eq.mpr c6
    clear c6
    obtain rfl:=Option.some.inj H
    have b:0≤(a:Int):=dA
    have c:a < (l0.length:Int):=dA
    obtain ⟨g,e553,d⟩:=Kd.zAh HR0.out a b c
    cases e553
    replace b:=eq_true b
    replace c:=eq_true c
    go_wp2
    go_ret
    exact ⟨by first|rfl|(simp;done)|(simp [*];done),by repeat (first|exact zY.refl _|apply zY.step)⟩
   rw [if_neg c6] at H
   have j:(a1 == (rd l0 a))=false:=beq_eq_false_iff_ne.mpr c6
   have l:(a1 != (rd l0 a))=true:=bne_iff_ne.mpr c6
   have H':=zA.mk H
   clear H
   have b:0≤(a:Int):=dA
   have c:a < (l0.length:Int):=dA
   obtain ⟨g,e553,d⟩:=Kd.zAh HR0.out a b c
   cases e553
   replace b:=eq_true b
   replace c:=eq_true c
   go_wp2
   go_roundg k1
   case measure=>have:=HK1.out;omega
   case rel=>exact ⟨(wrap64 (a+1)),sA,H',⟨by have:=HK1.out;omega⟩,by repeat (first|exact zY.refl _|apply zY.step)⟩
def zFb.f (k:Nat) (l0:List Int) (a1:Int):Option (Bool):=(zFa.f k l0 a1).bind fun a=>(some (decide (a≥0)))
set_option maxHeartbeats 8000000 in
set_option maxRecDepth 100000 in
theorem zFb.calls (k:Nat) (A0:Option Addr) (c0:Nat) (l0:List Int) (a1:Int) (r:Bool) (w:World) (hr0:Kd.C (Kd.int .i64) w A0 l0.length l0) (hc0:l0.length≤c0) (h:zFb.f k l0 a1=some r) :
 Calls Try.prog 18 #[.slice A0 l0.length c0,.int .i64 a1] w fun e w'=>e= .returned (.bool r)∧zY w w':=by
 have HR0:=zA.mk hr0
 have HC0:=zA.mk hc0
 clear hr0 hc0
 have H:((zFa.f k l0 a1).bind fun a=>(some (decide (a≥0))))=some r:=h
 clear h
 replace H:=Option.bind_eq_some_iff.mp H
 obtain ⟨a,A30,H⟩:=H
 replace H:(some (decide (a≥0)))=some r:=H
 have A3:=zA.mk A30
 clear A30
 obtain rfl:=Option.some.inj H
 go_enter Try.func18,Try.ntmps18
 go_wp2_with (first|((with_reducible refine zH (f:=55) rfl ?_);refine gL (some 7) Try.func55 #[.slice A0 l0.length c0,.int .i64 a1] ?_;(with_reducible refine (zFa.calls k _ _ l0 a1 a _ ?side1 ?side2 A3.out).mono ?_);(case side1=>repeat (first|exact HR0.out|(with_reducible refine Kd.zAo ?_ _)|(with_reducible refine Kd.zAl ?_ _)|(with_reducible refine Kd.zA3 ?_)));(case side2=>exact HC0.out);rintro e w' ⟨rfl,⟨nd,rfl⟩⟩;refine ⟨_,rfl,?_⟩))
 go_ret
 exact ⟨by first|rfl|(simp;done)|(simp [*];done),by repeat (first|exact zY.refl _|apply zY.step)⟩
end Go.Proofs.Ythimaecnpkcmeaa.K
namespace Go.Proofs.Ythimaecnpkcmeaa.K
open Go.RowKit Go.Proofs.YthimaecnpkcmeaaW.PrintWords Go.Proofs.YthimaecnpkcmeaaW.PrintLast Go.Proofs.YthimaecnpkcmeaaW.PrintMore
attribute [local go_sem] zAX zAW zAg zAf zAF zAG zAU zAV   -- for this text's walks alone
set_option linter.unusedVariables false
set_option linter.unusedSimpArgs false
def slices_Clone_int.f (l0:List Int):Option (List Int):=if l0.length < 17592186044416 then some l0 else none
set_option maxHeartbeats 800000 in
theorem slices_Clone_int.calls (A0:Option Addr) (c0:Nat) (l0:List Int) (r:List Int) (w:World) (hr0:Kd.C (Kd.int .i64) w A0 l0.length l0) (hc0:l0.length≤c0) (h:slices_Clone_int.f l0=some r) :
 Calls Try.prog 19 #[.slice A0 l0.length c0] w fun e w'=>∃ v0_:Value,e= .returned (v0_)∧Kd.R (Kd.int .i64) 3 w' w.heap.size (fun _=>True) v0_ r∧Below w.heap.size w w':=by
 unfold slices_Clone_int.f at h
 split at h
 case isFalse=>cases h
 case isTrue hlim =>
 obtain rfl:=Option.some.inj h
 clear h
 have heq:=fun W A n c=>Lib.run_eql_slice_nil (P:=Try.prog) W 27 3 A n c 0 0 Try.underlying27
 have HR:=zA.mk hr0
 clear hr0
 cases A0 with
 | none =>
  have h0:l0=[]:=by
   rcases Nat.eq_zero_or_pos l0.length with hz|hz
   ·exact List.length_eq_zero_iff.1 hz
   ·obtain ⟨ad,ha,_⟩:=HR.out.2.2 hz
    cases ha
  subst h0
  go_enter Try.func19,Try.ntmps19
  go_wp2
  go_ret
  exact ⟨_,rfl,Kd.zBW _ _ _ _ _,Below.refl _ _⟩
 | some ad =>
  go_enter Try.func19,Try.ntmps19
  go_wp2_with (at_builtin;refine Kd.zCv (Kd.int .i64) (Rr:=(Kd.int .i64).K w) (w0:=w) w.heap.size rfl _ _ 27 3 _ 8 rfl Try.underlying27 info3 rfl (by decide) (by decide) _ [] l0 (some ad) l0.length c0 (fun _=>True) (fun _=>False) rfl rfl ?c1 ?c2 (fun x cs hx=>slices_Clone_int.ofK hx) (fun k hk=>hk.elim) (fun _ _=>trivial) ?c3 ?c4 ?c5 ?_)
  case c1=>exact ⟨fun _ _=>trivial,zBL.lit w w.heap.size (zAI.none _ _) (Nat.le_refl _) (by simp)⟩
  case c2=>exact zBI.zCf HR.out ((Below.refl _ _).alloc (Nat.le_refl _) _) (fun _ _ hp=>hp)
  case c3=>exact (Below.refl _ _).alloc (Nat.le_refl _) _
  case c4=>simp
  case c5=>simp only [List.length_nil];omega
  intro v1 w1 hR hB _ _
  go_wp2
  go_ret
  exact ⟨v1,rfl,hR,hB⟩
end Go.Proofs.Ythimaecnpkcmeaa.K
namespace Go.Proofs.Ythimaecnpkcmeaa.K
open Go.RowKit Go.Proofs.YthimaecnpkcmeaaW.PrintWords Go.Proofs.YthimaecnpkcmeaaW.PrintLast Go.Proofs.YthimaecnpkcmeaaW.PrintMore
attribute [local go_sem] zAX zAW zAg zAf zAF zAG zAU zAV   -- for this text's walks alone
set_option linter.unusedVariables false
set_option linter.unusedSimpArgs false
mutual
def zFZ.j0:Nat→List Int→Int→Int→Int→Int→Int→Bool→List (S50)→Int→Int→Int→Int→Option (Bool)
 | 0,_,_,_,_,_,_,_,_,_,_,_,_=>none
 | k+1,x1,x2,x3,x4,x5,x6,x54,c,a,b,d,e=>if x54=true then (some true) else ((slices_Clone_int.f x1).bind fun r=>(if r.length < 17592186044416 then ((slices_Sort_int.f (r ++ [x2])).bind fun m=>((zCD.f k c a b x1).bind fun h=>((zCD.f k c a b m).bind fun n=>(if h.2=0 then (if n.2=0 then (if n.1 > h.1 then (zFZ.j1 k x1 x3 x4 x5 x6 m h.1 true c a b d e) else (zFZ.j1 k x1 x3 x4 x5 x6 m h.1 (decide (n.1 < 0)) c a b d e)) else (zFZ.j1 k x1 x3 x4 x5 x6 m h.1 true c a b d e)) else (zFZ.j1 k x1 x3 x4 x5 x6 m h.1 true c a b d e))))) else (none)))
def zFZ.j1:Nat→List Int→Int→Int→Int→Int→List Int→Int→Bool→List (S50)→Int→Int→Int→Int→Option (Bool)
 | 0,_,_,_,_,_,_,_,_,_,_,_,_,_=>none
 | k+1,x1,x3,x4,x5,x6,x17,x18,x88,c,a,b,d,e=>if x88=true then (some false) else (if x3 < x4 then (if x3≥(-1099511627776) then (zFZ.j2 k x1 x3 x4 x5 x6 x17 x18 (decide (x4≤1099511627776)) c a b d e) else (zFZ.j2 k x1 x3 x4 x5 x6 x17 x18 false c a b d e)) else (zFZ.j2 k x1 x3 x4 x5 x6 x17 x18 false c a b d e))
def zFZ.j2:Nat→List Int→Int→Int→Int→Int→List Int→Int→Bool→List (S50)→Int→Int→Int→Int→Option (Bool)
 | 0,_,_,_,_,_,_,_,_,_,_,_,_,_=>none
 | k+1,x1,x3,x4,x5,x6,x17,x18,x99,c,a,b,d,e=>if x99=true then ((zBX.f k c a b x1 x3 x4).bind fun o=>((zBX.f k c a b x17 x3 x4).bind fun p=>(if o.2=0 then (if p.2=0 then (if o.1=true then (if p.1=true then (zFZ.j3 k x1 x5 x6 x18 c a b d e) else (some false)) else (zFZ.j3 k x1 x5 x6 x18 c a b d e)) else (some false)) else (some false)))) else (zFZ.j3 k x1 x5 x6 x18 c a b d e)
def zFZ.j3:Nat→List Int→Int→Int→Int→List (S50)→Int→Int→Int→Int→Option (Bool)
 | 0,_,_,_,_,_,_,_,_,_=>none
 | k+1,x1,x5,x6,x18,c,a,b,d,e=>(zAy.f c).bind fun i=>(if x5≥0 then (if x5 < (i.length:Int) then (if x6≥0 then (if 0≤x5 then (zFZ.j4 k x1 x5 x6 x18 (decide (x6≤((zG i x5).f2))) c a b d e i a b) else (none)) else (zFZ.j4 k x1 x5 x6 x18 false c a b d e i a b)) else (zFZ.j4 k x1 x5 x6 x18 false c a b d e i a b)) else (zFZ.j4 k x1 x5 x6 x18 false c a b d e i a b))
def zFZ.j4:Nat→List Int→Int→Int→Int→Bool→List (S50)→Int→Int→Int→Int→List (S50)→Int→Int→Option (Bool)
 | 0,_,_,_,_,_,_,_,_,_,_,_,_,_=>none
 | k+1,x1,x5,x6,x18,x157,c,a,b,d,e,g,j,l=>if x157=true then (if 0≤x5 then (if x5 < (g.length:Int) then (zFZ.j5 k x1 x18 c a b d e (g.set (x5:Int).toNat (⟨(⟨(zG g x5).f0.f0,(zG g x5).f0.f1⟩:S24),(zG g x5).f1,x6⟩:S50)) j l) else (none)) else (none)) else (zFZ.j5 k x1 x18 c a b d e g j l)
def zFZ.j5:Nat→List Int→Int→List (S50)→Int→Int→Int→Int→List (S50)→Int→Int→Option (Bool)
 | 0,_,_,_,_,_,_,_,_,_,_=>none
 | k+1,x1,x18,c,a,b,d,e,g,j,l=>(zZ.f k g (mx a d) (mn b e)).bind fun s=>(if s=true then ((zCD.f k g (mx a d) (mn b e) x1).bind fun q=>(if q.2=0 then (some (decide (q.1≤x18))) else (some false))) else (some true))
end
def zFZ.f (k:Nat) (a:List (S50)) (b:Int) (c:Int) (l1:List Int) (a2:Int) (a3:Int) (a4:Int) (a5:Int) (a6:Int) (d:Int) (e:Int):Option (Bool):=(zCR.f).bind fun g=>(if g=true then ((zZ.f k a b c).bind fun h=>(if h=true then ((zAL.f k a b c l1).bind fun i=>(if i=true then (if a2 < 0 then (zFZ.j0 k l1 a2 a3 a4 a5 a6 true a b c d e) else (if a2≥(a.length:Int) then (zFZ.j0 k l1 a2 a3 a4 a5 a6 true a b c d e) else ((zFb.f k l1 a2).bind fun j=>(zFZ.j0 k l1 a2 a3 a4 a5 a6 j a b c d e)))) else (zFZ.j0 k l1 a2 a3 a4 a5 a6 true a b c d e))) else (zFZ.j0 k l1 a2 a3 a4 a5 a6 true a b c d e))) else (some false))
def zFZ.T16:Bool × List (List Nat × List Nat):=(true,[([],[]),([0],[0]),([1],[1]),([],[]),([3],[3]),([2,4],[2,4]),([],[]),([6,5,2,0,1,2,3,4,5,6],[5,6])])
def zFZ.B16:List Nat:=[0,1,3,0,8,31,0,127]
theorem zFZ.tab16:zBQ .any (opsOf Try.f4 16)=zFZ.T16:=by kernel_rfl
theorem zFZ.bits16:zBA zFZ.T16.2 zFZ.B16=true:=by kernel_rfl
set_option maxHeartbeats 8000000 in
set_option maxRecDepth 100000 in
theorem zFZ.calls (k:Nat) (ak:Option Addr) (al:Nat) (m:List (S50)) (l:Int) (d:Int) (A1:Option Addr) (c1:Nat) (l1:List Int) (a2:Int) (a3:Int) (a4:Int) (a5:Int) (a6:Int) (u:Int) (s:Int) (r:Bool) (w:World) (i8:Kd.C k50 w ak m.length m) (i9:m.length≤al) (hr1:Kd.C (Kd.int .i64) w A1 l1.length l1) (hc1:l1.length≤c1) (h:zFZ.f k m l d l1 a2 a3 a4 a5 a6 u s=some r) :
 Calls Try.prog 4 #[.agg #[.slice ak m.length al,.int .i64 l,.int .i64 d],.slice A1 l1.length c1,.int .i64 a2,.int .i64 a3,.int .i64 a4,.int .i64 a5,.int .i64 a6,.agg #[.int .i64 u,.int .i64 s]] w fun e w'=>e= .returned (.bool r)∧Below w.heap.size w w':=by
 have mv:=Try.underlying26
 have mw:=Try.underlying24
 have ax:=zA.mk i8
 have HC0_0:=zA.mk i9
 clear i8 i9
 have HR1:=zA.mk hr1
 have HC1:=zA.mk hc1
 clear hr1 hc1
 have HB:=zA.mk (Below.refl w.heap.size w)
 have H:((zCR.f).bind fun ik=>(if ik=true then ((zZ.f k m l d).bind fun eo=>(if eo=true then ((zAL.f k m l d l1).bind fun br=>(if br=true then (if a2 < 0 then (zFZ.j0 k l1 a2 a3 a4 a5 a6 true m l d u s) else (if a2≥(m.length:Int) then (zFZ.j0 k l1 a2 a3 a4 a5 a6 true m l d u s) else ((zFb.f k l1 a2).bind fun bc=>(zFZ.j0 k l1 a2 a3 a4 a5 a6 bc m l d u s)))) else (zFZ.j0 k l1 a2 a3 a4 a5 a6 true m l d u s))) else (zFZ.j0 k l1 a2 a3 a4 a5 a6 true m l d u s))) else (some false)))=some r:=h
 clear h
 replace H:=Option.bind_eq_some_iff.mp H
 obtain ⟨ik,A90,H⟩:=H
 replace H:(if ik=true then ((zZ.f k m l d).bind fun eo=>(if eo=true then ((zAL.f k m l d l1).bind fun br=>(if br=true then (if a2 < 0 then (zFZ.j0 k l1 a2 a3 a4 a5 a6 true m l d u s) else (if a2≥(m.length:Int) then (zFZ.j0 k l1 a2 a3 a4 a5 a6 true m l d u s) else ((zFb.f k l1 a2).bind fun bc=>(zFZ.j0 k l1 a2 a3 a4 a5 a6 bc m l d u s)))) else (zFZ.j0 k l1 a2 a3 a4 a5 a6 true m l d u s))) else (zFZ.j0 k l1 a2 a3 a4 a5 a6 true m l d u s))) else (some false))=some r:=H
 have A9:=zA.mk A90
 clear A90
 by_cases c10:ik=true
 rotate_left
 ·replace c10:=Bool.eq_false_iff.mpr c10
  subst c10
  have H1:(some false)=some r:=by rw [if_neg (show ¬ (false=true) by decide)] at H;exact H
  clear H
  have H:=H1
  clear H1
  obtain rfl:=Option.some.inj H
  go_enter Try.func4,Try.ntmps4
  go_wp2_with (first|((with_reducible refine zL (N:=8) rfl ?_);(try (refine zAD (by rfl) ?_;dsimp only));refine bE #[.slice ak m.length al,.int .i64 l,.int .i64 d] 26 ?_;intro ah hg my bd hb;have a:=qK (bd);have ju:=qK (gS hg:w.heap.size≤ah);have ja:=qK (gS hg:w.heap.size≤ah);replace HB:=hQ hb;clear hb bd hg)|((with_reducible refine zL (N:=15) rfl ?_);(try (refine zAD (by rfl) ?_;dsimp only));refine bE #[.int .i64 u,.int .i64 s] 24 ?_;intro am hg mz bd hb;have q:=qK (bd);have jv:=qK (gS hg:w.heap.size≤am);have jb:=qK (gS hg:w.heap.size≤am);replace HB:=hQ hb;have ap:=qK (nL hg a.out:ah≠am);have aq:=qK (nG hg a.out:am≠ah);replace a:=bQ a hb;clear hb bd hg)|((with_reducible refine zH (f:=9) rfl ?_);refine gL (some 28) Try.func9 #[] ?_;(with_reducible refine (zCR.calls false _ A9.out).mono ?_);rintro e m0 ⟨rfl,hb⟩;refine ⟨_,rfl,?_⟩;replace a:=bQ a hb;replace q:=bQ q hb;replace HB:=hQ hb))
  go_ret
  exact ⟨eA,bA⟩
 subst c10
 have H1:((zZ.f k m l d).bind fun eo=>(if eo=true then ((zAL.f k m l d l1).bind fun br=>(if br=true then (if a2 < 0 then (zFZ.j0 k l1 a2 a3 a4 a5 a6 true m l d u s) else (if a2≥(m.length:Int) then (zFZ.j0 k l1 a2 a3 a4 a5 a6 true m l d u s) else ((zFb.f k l1 a2).bind fun bc=>(zFZ.j0 k l1 a2 a3 a4 a5 a6 bc m l d u s)))) else (zFZ.j0 k l1 a2 a3 a4 a5 a6 true m l d u s))) else (zFZ.j0 k l1 a2 a3 a4 a5 a6 true m l d u s)))=some r:=by rw [if_pos rfl] at H;exact H
 clear H
 have H:=H1
 clear H1
 have iv:=zA.mk H
 clear H
 go_enter Try.func4,Try.ntmps4
 go_upto_region 3 with (first|((with_reducible refine zL (N:=8) rfl ?_);(try (refine zAD (by rfl) ?_;dsimp only));refine bE #[.slice ak m.length al,.int .i64 l,.int .i64 d] 26 ?_;intro ah hg w12 bd hb;have a:=qK (bd);have ju:=qK (gS hg:w.heap.size≤ah);have ja:=qK (gS hg:w.heap.size≤ah);replace HB:=hQ hb;clear hb bd hg)|((with_reducible refine zL (N:=15) rfl ?_);(try (refine zAD (by rfl) ?_;dsimp only));refine bE #[.int .i64 u,.int .i64 s] 24 ?_;intro am hg w13 bd hb;have q:=qK (bd);have jv:=qK (gS hg:w.heap.size≤am);have jb:=qK (gS hg:w.heap.size≤am);replace HB:=hQ hb;have ap:=qK (nL hg a.out:ah≠am);have aq:=qK (nG hg a.out:am≠ah);replace a:=bQ a hb;clear hb bd hg)|((with_reducible refine zH (f:=9) rfl ?_);refine gL (some 28) Try.func9 #[] ?_;(with_reducible refine (zCR.calls true _ A9.out).mono ?_);rintro e w14 ⟨rfl,hb⟩;refine ⟨_,rfl,?_⟩;replace a:=bQ a hb;replace q:=bQ q hb;replace HB:=hQ hb))
 (try simp only [Act.put,List.setIfInBounds_toArray,List.set_cons_zero,List.set_cons_succ])
 go_cut [54] (fun v54 wc=>∃ (kq:Nat) (fa:Bool),v54= .bool fa∧zA (zFZ.j0 kq l1 a2 a3 a4 a5 a6 fa m l d u s=some r)∧zA (kq≤k)∧zA (wc.heap[ah]? = some (.cells #[(.slice ak m.length al),.int .i64 l,.int .i64 d] 26 (0,0)))∧zA (wc.heap[am]? = some (.cells #[.int .i64 u,.int .i64 s] 24 (0,0)))∧zA (Below w.heap.size w wc))
 case first =>
  as_aux_lemma =>
  have H:=iv.out
  clear iv
  replace H:=Option.bind_eq_some_iff.mp H
  obtain ⟨eo,A150,H⟩:=H
  replace H:(if eo=true then ((zAL.f k m l d l1).bind fun br=>(if br=true then (if a2 < 0 then (zFZ.j0 k l1 a2 a3 a4 a5 a6 true m l d u s) else (if a2≥(m.length:Int) then (zFZ.j0 k l1 a2 a3 a4 a5 a6 true m l d u s) else ((zFb.f k l1 a2).bind fun bc=>(zFZ.j0 k l1 a2 a3 a4 a5 a6 bc m l d u s)))) else (zFZ.j0 k l1 a2 a3 a4 a5 a6 true m l d u s))) else (zFZ.j0 k l1 a2 a3 a4 a5 a6 true m l d u s))=some r:=H
  have A15:=zA.mk A150
  clear A150
  by_cases c16:eo=true
  rotate_left
  ·replace c16:=Bool.eq_false_iff.mpr c16
   subst c16
   have H1:(zFZ.j0 k l1 a2 a3 a4 a5 a6 true m l d u s)=some r:=by rw [if_neg (show ¬ (false=true) by decide)] at H;exact H
   clear H
   have H:=H1
   clear H1
   have H':=zA.mk H
   clear H
   have lw:=ap.out
   have lx:=aq.out
   obtain ⟨bv,bw,bx,bz,b0,b1⟩:=xC3 a.out
   go_wp2_with (first|((with_reducible refine zH (f:=10) rfl ?_);refine gL (some 31) Try.func10 #[.agg #[.slice ak m.length al,.int .i64 l,.int .i64 d]] ?_;(with_reducible refine (zZ.calls k _ _ m l d false _ ?side1 ?side2 A15.out).mono ?_);(case side1=>exact cS ax.out);(case side2=>exact HC0_0.out);rintro e w46 ⟨rfl,hb⟩;refine ⟨_,rfl,?_⟩;replace a:=bQ a hb;replace q:=bQ q hb;replace HB:=hQ hb))
   go_meet
   case rel=>exact ⟨_,(true),sA,H',⟨by first|omega|exact Nat.le_refl _⟩,⟨by (repeat with_reducible first|apply zD|apply zF|apply zC);exact a.out⟩,⟨by (repeat with_reducible first|apply zD|apply zF|apply zC);exact q.out⟩,⟨bA⟩⟩
  subst c16
  have H1:((zAL.f k m l d l1).bind fun br=>(if br=true then (if a2 < 0 then (zFZ.j0 k l1 a2 a3 a4 a5 a6 true m l d u s) else (if a2≥(m.length:Int) then (zFZ.j0 k l1 a2 a3 a4 a5 a6 true m l d u s) else ((zFb.f k l1 a2).bind fun bc=>(zFZ.j0 k l1 a2 a3 a4 a5 a6 bc m l d u s)))) else (zFZ.j0 k l1 a2 a3 a4 a5 a6 true m l d u s)))=some r:=by rw [if_pos rfl] at H;exact H
  clear H
  have H:=H1
  clear H1
  replace H:=Option.bind_eq_some_iff.mp H
  obtain ⟨br,A170,H⟩:=H
  replace H:(if br=true then (if a2 < 0 then (zFZ.j0 k l1 a2 a3 a4 a5 a6 true m l d u s) else (if a2≥(m.length:Int) then (zFZ.j0 k l1 a2 a3 a4 a5 a6 true m l d u s) else ((zFb.f k l1 a2).bind fun bc=>(zFZ.j0 k l1 a2 a3 a4 a5 a6 bc m l d u s)))) else (zFZ.j0 k l1 a2 a3 a4 a5 a6 true m l d u s))=some r:=H
  have A17:=zA.mk A170
  clear A170
  by_cases c18:br=true
  rotate_left
  ·replace c18:=Bool.eq_false_iff.mpr c18
   subst c18
   have H1:(zFZ.j0 k l1 a2 a3 a4 a5 a6 true m l d u s)=some r:=by rw [if_neg (show ¬ (false=true) by decide)] at H;exact H
   clear H
   have H:=H1
   clear H1
   have H':=zA.mk H
   clear H
   have ly:=ap.out
   have lz:=aq.out
   obtain ⟨b2,b3,b4,b5,b6,b7⟩:=xC3 a.out
   go_wp2_with (first|((with_reducible refine zH (f:=10) rfl ?_);refine gL (some 31) Try.func10 #[.agg #[.slice ak m.length al,.int .i64 l,.int .i64 d]] ?_;(with_reducible refine (zZ.calls k _ _ m l d true _ ?side1 ?side2 A15.out).mono ?_);(case side1=>exact cS ax.out);(case side2=>exact HC0_0.out);rintro e w41 ⟨rfl,hb⟩;refine ⟨_,rfl,?_⟩;replace a:=bQ a hb;replace q:=bQ q hb;replace HB:=hQ hb;obtain ⟨b8,b9,ca,cb,cc,cd⟩:=xC3 a.out)|(go_at_call 11;(with_reducible refine (zAL.calls k _ _ m l d _ _ l1 false _ ?side1 ?side2 ?side3 ?side4 A17.out).mono ?_);(case side1=>exact cS ax.out);(case side2=>exact HC0_0.out);(case side3=>exact cS HR1.out);(case side4=>exact HC1.out);rintro e w43 ⟨rfl,hb⟩;replace a:=bQ a hb;replace q:=bQ q hb;replace HB:=hQ hb))
   go_meet
   case rel=>exact ⟨_,(true),sA,H',⟨by first|omega|exact Nat.le_refl _⟩,⟨by (repeat with_reducible first|apply zD|apply zF|apply zC);exact a.out⟩,⟨by (repeat with_reducible first|apply zD|apply zF|apply zC);exact q.out⟩,⟨bA⟩⟩
  subst c18
  have H1:(if a2 < 0 then (zFZ.j0 k l1 a2 a3 a4 a5 a6 true m l d u s) else (if a2≥(m.length:Int) then (zFZ.j0 k l1 a2 a3 a4 a5 a6 true m l d u s) else ((zFb.f k l1 a2).bind fun bc=>(zFZ.j0 k l1 a2 a3 a4 a5 a6 bc m l d u s))))=some r:=by rw [if_pos rfl] at H;exact H
  clear H
  have H:=H1
  clear H1
  by_cases c19:a2 < 0
  ·as_aux_lemma =>
   rw [if_pos c19] at H
   have bm:decide (a2 < 0)=true:=decide_eq_true c19
   clear c19
   (first|rw [bm]|(simp only [zBS,zBg];rw [bm])|skip)
   have H':=zA.mk H
   clear H
   have l0:=ap.out
   have l2:=aq.out
   obtain ⟨ce,cf,cg,ch,ci,cj⟩:=xC3 a.out
   go_wp2_with (first|((with_reducible refine zH (f:=10) rfl ?_);refine gL (some 31) Try.func10 #[.agg #[.slice ak m.length al,.int .i64 l,.int .i64 d]] ?_;(with_reducible refine (zZ.calls k _ _ m l d true _ ?side1 ?side2 A15.out).mono ?_);(case side1=>exact cS ax.out);(case side2=>exact HC0_0.out);rintro e w22 ⟨rfl,hb⟩;refine ⟨_,rfl,?_⟩;replace a:=bQ a hb;replace q:=bQ q hb;replace HB:=hQ hb;obtain ⟨ck,cl,cm,cn,co,cp⟩:=xC3 a.out)|(go_at_call 11;(with_reducible refine (zAL.calls k _ _ m l d _ _ l1 true _ ?side1 ?side2 ?side3 ?side4 A17.out).mono ?_);(case side1=>exact cS ax.out);(case side2=>exact HC0_0.out);(case side3=>exact cS HR1.out);(case side4=>exact HC1.out);rintro e w24 ⟨rfl,hb⟩;replace a:=bQ a hb;replace q:=bQ q hb;replace HB:=hQ hb))
   go_meet
   case rel=>exact ⟨_,(true),sA,H',⟨by first|omega|exact Nat.le_refl _⟩,⟨by (repeat with_reducible first|apply zD|apply zF|apply zC);exact a.out⟩,⟨by (repeat with_reducible first|apply zD|apply zF|apply zC);exact q.out⟩,⟨bA⟩⟩
  rw [if_neg c19] at H
  have bm:decide (a2 < 0)=false:=decide_eq_false c19
  clear c19
  (first|rw [bm]|(simp only [zBS,zBg];rw [bm])|skip)
  by_cases c25:a2≥(m.length:Int)
  ·as_aux_lemma =>
   rw [if_pos c25] at H
   have ek:decide ((m.length:Int)≤a2)=true:=decide_eq_true c25
   clear c25
   have H':=zA.mk H
   clear H
   have l3:=ap.out
   have l4:=aq.out
   obtain ⟨cq,cr,ct,cu,cv,cw⟩:=xC3 a.out
   go_wp2_with (first|((with_reducible refine zH (f:=10) rfl ?_);refine gL (some 31) Try.func10 #[.agg #[.slice ak m.length al,.int .i64 l,.int .i64 d]] ?_;(with_reducible refine (zZ.calls k _ _ m l d true _ ?side1 ?side2 A15.out).mono ?_);(case side1=>exact cS ax.out);(case side2=>exact HC0_0.out);rintro e w28 ⟨rfl,hb⟩;refine ⟨_,rfl,?_⟩;replace a:=bQ a hb;replace q:=bQ q hb;replace HB:=hQ hb;obtain ⟨cx,cy,cz,c0,da,db⟩:=xC3 a.out)|(go_at_call 11;(with_reducible refine (zAL.calls k _ _ m l d _ _ l1 true _ ?side1 ?side2 ?side3 ?side4 A17.out).mono ?_);(case side1=>exact cS ax.out);(case side2=>exact HC0_0.out);(case side3=>exact cS HR1.out);(case side4=>exact HC1.out);rintro e w30 ⟨rfl,hb⟩;replace a:=bQ a hb;replace q:=bQ q hb;replace HB:=hQ hb;obtain ⟨dc,dd,de,df,dg,dh⟩:=xC3 a.out))
   go_meet
   case rel=>exact ⟨_,(true),sA,H',⟨by first|omega|exact Nat.le_refl _⟩,⟨by (repeat with_reducible first|apply zD|apply zF|apply zC);exact a.out⟩,⟨by (repeat with_reducible first|apply zD|apply zF|apply zC);exact q.out⟩,⟨bA⟩⟩
  rw [if_neg c25] at H
  have ek:decide ((m.length:Int)≤a2)=false:=decide_eq_false c25
  clear c25
  replace H:=Option.bind_eq_some_iff.mp H
  obtain ⟨bc,A320,H⟩:=H
  replace H:(zFZ.j0 k l1 a2 a3 a4 a5 a6 bc m l d u s)=some r:=H
  have A32:=zA.mk A320
  clear A320
  have H':=zA.mk H
  clear H
  have l5:=ap.out
  have l6:=aq.out
  obtain ⟨di,dj,dk,dl,dm,dn⟩:=xC3 a.out
  go_wp2_with (first|((with_reducible refine zH (f:=10) rfl ?_);refine gL (some 31) Try.func10 #[.agg #[.slice ak m.length al,.int .i64 l,.int .i64 d]] ?_;(with_reducible refine (zZ.calls k _ _ m l d true _ ?side1 ?side2 A15.out).mono ?_);(case side1=>exact cS ax.out);(case side2=>exact HC0_0.out);rintro e w35 ⟨rfl,hb⟩;refine ⟨_,rfl,?_⟩;replace a:=bQ a hb;replace q:=bQ q hb;replace HB:=hQ hb;obtain ⟨dp,dq,dr,dt,du,dv⟩:=xC3 a.out)|(go_at_call 11;(with_reducible refine (zAL.calls k _ _ m l d _ _ l1 true _ ?side1 ?side2 ?side3 ?side4 A17.out).mono ?_);(case side1=>exact cS ax.out);(case side2=>exact HC0_0.out);(case side3=>exact cS HR1.out);(case side4=>exact HC1.out);rintro e w37 ⟨rfl,hb⟩;replace a:=bQ a hb;replace q:=bQ q hb;replace HB:=hQ hb;obtain ⟨dw,dx,dy,dz,d0,d1⟩:=xC3 a.out)|(go_at_call 18;(with_reducible refine (zFb.calls k _ _ l1 a2 bc _ ?side1 ?side2 A32.out).mono ?_);(case side1=>exact cS HR1.out);(case side2=>exact HC1.out);rintro e w' ⟨rfl,⟨nd,rfl⟩⟩))
  go_meet
  case rel=>exact ⟨_,(bc),sA,H',⟨by first|omega|exact Nat.le_refl _⟩,⟨by (repeat with_reducible first|apply zD|apply zF|apply zC);exact a.out⟩,⟨by (repeat with_reducible first|apply zD|apply zF|apply zC);exact q.out⟩,⟨bA⟩⟩
 case rest =>
  as_aux_lemma =>
  clear iv
  try clear c1
  try clear c2
  try clear p2
  try clear c3
  try clear c4
  try clear c9
  try clear c10
  try clear c16
  try clear c18
  try clear c19
  try clear bm
  try clear c20
  try clear c25
  try clear ek
  try clear c26
  try clear c33
  try clear c39
  try clear c44
  try clear ce
  try clear cf
  try clear cg
  try clear ck
  try clear cl
  try clear cm
  try clear cq
  try clear cr
  try clear ct
  try clear cx
  try clear cy
  try clear cz
  try clear dc
  try clear dd
  try clear de
  try clear di
  try clear dj
  try clear dk
  try clear dp
  try clear dq
  try clear dr
  try clear dw
  try clear dx
  try clear dy
  try clear b2
  try clear b3
  try clear b4
  try clear b8
  try clear b9
  try clear ca
  try clear bv
  try clear bw
  try clear bx
  try clear ch
  try clear ci
  try clear cj
  try clear cn
  try clear co
  try clear cp
  try clear cu
  try clear cv
  try clear cw
  try clear c0
  try clear da
  try clear db
  try clear df
  try clear dg
  try clear dh
  try clear dl
  try clear dm
  try clear dn
  try clear dt
  try clear du
  try clear dv
  try clear dz
  try clear d0
  try clear d1
  try clear b5
  try clear b6
  try clear b7
  try clear cb
  try clear cc
  try clear cd
  try clear bz
  try clear b0
  try clear b1
  obtain ⟨kq,fa,rfl,HA,bg,a,q,HB⟩:=hcut
  cases kq with
  | zero=>exact absurd HA.out (by simp [zFZ.j0])
  | succ ao =>
   have H:=HA.out
   clear HA
   simp only [zFZ.j0] at H
   by_cases c47:fa=true
   ·subst c47
    have H1:(some true)=some r:=by rw [if_pos rfl] at H;exact H
    clear H
    have H:=H1
    clear H1
    obtain rfl:=Option.some.inj H
    go_wp2
    go_ret
    exact ⟨eA,bA⟩
   replace c47:=Bool.eq_false_iff.mpr c47
   subst c47
   have H1:((slices_Clone_int.f l1).bind fun el=>(if el.length < 17592186044416 then ((slices_Sort_int.f (el ++ [a2])).bind fun ag=>((zCD.f ao m l d l1).bind fun ar=>((zCD.f ao m l d ag).bind fun az=>(if ar.2=0 then (if az.2=0 then (if az.1 > ar.1 then (zFZ.j1 ao l1 a3 a4 a5 a6 ag ar.1 true m l d u s) else (zFZ.j1 ao l1 a3 a4 a5 a6 ag ar.1 (decide (az.1 < 0)) m l d u s)) else (zFZ.j1 ao l1 a3 a4 a5 a6 ag ar.1 true m l d u s)) else (zFZ.j1 ao l1 a3 a4 a5 a6 ag ar.1 true m l d u s))))) else (none)))=some r:=by rw [if_neg (show ¬ (false=true) by decide)] at H;exact H
   clear H
   have H:=H1
   clear H1
   replace H:=Option.bind_eq_some_iff.mp H
   obtain ⟨el,A480,H⟩:=H
   replace H:(if el.length < 17592186044416 then ((slices_Sort_int.f (el ++ [a2])).bind fun ag=>((zCD.f ao m l d l1).bind fun ar=>((zCD.f ao m l d ag).bind fun az=>(if ar.2=0 then (if az.2=0 then (if az.1 > ar.1 then (zFZ.j1 ao l1 a3 a4 a5 a6 ag ar.1 true m l d u s) else (zFZ.j1 ao l1 a3 a4 a5 a6 ag ar.1 (decide (az.1 < 0)) m l d u s)) else (zFZ.j1 ao l1 a3 a4 a5 a6 ag ar.1 true m l d u s)) else (zFZ.j1 ao l1 a3 a4 a5 a6 ag ar.1 true m l d u s))))) else (none))=some r:=H
   have A48:=zA.mk A480
   clear A480
   by_cases c49:el.length < 17592186044416
   rotate_left
   ·rw [if_neg c49] at H
    exact absurd H (by simp)
   rw [if_pos c49] at H
   have LMc49:=zA.mk c49
   clear c49
   obtain ⟨ep,fb⟩ : ∃ y_:List Int,y_=(el ++ [a2]):=⟨_,rfl⟩
   replace H:((slices_Sort_int.f ep).bind fun ag=>((zCD.f ao m l d l1).bind fun ar=>((zCD.f ao m l d ag).bind fun az=>(if ar.2=0 then (if az.2=0 then (if az.1 > ar.1 then (zFZ.j1 ao l1 a3 a4 a5 a6 ag ar.1 true m l d u s) else (zFZ.j1 ao l1 a3 a4 a5 a6 ag ar.1 (decide (az.1 < 0)) m l d u s)) else (zFZ.j1 ao l1 a3 a4 a5 a6 ag ar.1 true m l d u s)) else (zFZ.j1 ao l1 a3 a4 a5 a6 ag ar.1 true m l d u s)))))=some r:=by first|(rw [fb];with_reducible exact H)|(have H2_:=(Option.bind_some _ _).symm.trans H;rw [fb];with_reducible exact H2_)|(have H2_:=(Option.bind_some _ _).symm.trans H;with_reducible exact H2_)|with_reducible exact H|(rw [fb];exact H)|exact H
   have jw:=zA.mk fb
   clear fb
   replace H:=Option.bind_eq_some_iff.mp H
   obtain ⟨ag,A500,H⟩:=H
   replace H:((zCD.f ao m l d l1).bind fun ar=>((zCD.f ao m l d ag).bind fun az=>(if ar.2=0 then (if az.2=0 then (if az.1 > ar.1 then (zFZ.j1 ao l1 a3 a4 a5 a6 ag ar.1 true m l d u s) else (zFZ.j1 ao l1 a3 a4 a5 a6 ag ar.1 (decide (az.1 < 0)) m l d u s)) else (zFZ.j1 ao l1 a3 a4 a5 a6 ag ar.1 true m l d u s)) else (zFZ.j1 ao l1 a3 a4 a5 a6 ag ar.1 true m l d u s))))=some r:=H
   have A50:=zA.mk A500
   clear A500
   replace H:=Option.bind_eq_some_iff.mp H
   obtain ⟨⟨aj,eq⟩,A510,H⟩:=H
   replace H:((zCD.f ao m l d ag).bind fun az=>(if eq=0 then (if az.2=0 then (if az.1 > aj then (zFZ.j1 ao l1 a3 a4 a5 a6 ag aj true m l d u s) else (zFZ.j1 ao l1 a3 a4 a5 a6 ag aj (decide (az.1 < 0)) m l d u s)) else (zFZ.j1 ao l1 a3 a4 a5 a6 ag aj true m l d u s)) else (zFZ.j1 ao l1 a3 a4 a5 a6 ag aj true m l d u s)))=some r:=H
   have A51:=zA.mk A510
   clear A510
   replace H:=Option.bind_eq_some_iff.mp H
   obtain ⟨⟨e2,e3⟩,A520,H⟩:=H
   replace H:(if eq=0 then (if e3=0 then (if e2 > aj then (zFZ.j1 ao l1 a3 a4 a5 a6 ag aj true m l d u s) else (zFZ.j1 ao l1 a3 a4 a5 a6 ag aj (decide (e2 < 0)) m l d u s)) else (zFZ.j1 ao l1 a3 a4 a5 a6 ag aj true m l d u s)) else (zFZ.j1 ao l1 a3 a4 a5 a6 ag aj true m l d u s))=some r:=H
   have A52:=zA.mk A520
   clear A520
   have iw:=zA.mk H
   clear H
   go_upto_region 9 with (first|((with_reducible refine zH (f:=19) rfl ?_);refine gL (some 56) Try.func19 #[.slice A1 l1.length c1] ?_;(with_reducible refine (slices_Clone_int.calls _ _ l1 el _ ?side1 ?side2 A48.out).mono ?_);(case side1=>exact cS HR1.out);(case side2=>exact HC1.out);rintro e w54 ⟨v562,rfl,ho0,hb⟩;refine ⟨_,rfl,?_⟩;have g9:=qK (Kd.zAH ho0 bZ);replace a:=bQ a hb;replace q:=bQ q hb;replace HB:=hQ hb)|((with_reducible refine zBF (b:=.append) (xs:=#[.tmp 56,.tmp 58]) rfl ?_);(try (refine zAD (by rfl) ?_;dsimp only));at_builtin;refine Kd.zBq (Kd.int .i64) (w0:=w) w.heap.size rfl (.tmp 56) (.tmp 58) 27 3 (.int .i64 0) 8 rfl Try.underlying27 info3 rfl (by decide) (by omega) v562 el a2 [.int .i64 a2] (fun _=>True) (fun _=>False) rfl rfl ?aP (fun _ hk=>hk.elim) ?aF ?aO ?aB ?aS ?aL ?_;(case aP=>exact rfl);(case aB=>exact bA);(case aF=>exact (fun _ _=>trivial));(case aO=>exact (rS g9.out));(case aS=>exact bZ);(case aL=>have:=LMc49.out;omega);intro v565 w55 ho hb hg hat;rw [← jw.out] at ho;replace a:=qK (zA0 (g:=ah) (o:=.cells #[.slice ak m.length al,.int .i64 l,.int .i64 d] 26 (0,0)) (bX a.out) hg (Kd.zA6 g9.out a.out (by decide)));replace q:=qK (zA0 (g:=am) (o:=.cells #[.int .i64 u,.int .i64 s] 24 (0,0)) (bX q.out) hg (Kd.zA6 g9.out q.out (by decide)));replace HB:=qK (hb);have a9:=qK (ho);clear g9;clear ho hb hg hat;obtain ⟨d2,d3,kb⟩:=Kd.zq a9.out;subst kb)|((with_reducible refine zH (f:=20) rfl ?_);refine gL (some 61) Try.func20 #[.slice d2 ep.length d3] ?_;(with_reducible refine (slices_Sort_int.calls (fun k_=>some k_=(.slice d2 ep.length d3:Value).ownBlock) (.slice d2 ep.length d3) ep ag w _ ?side1 ?side2 A50.out).mono ?_);(case side1=>repeat (first|(with_reducible first|exact HB.out|apply zo|apply zAb|apply zx|refine zBO ?_ ja.out|refine zBO ?_ jb.out)|exact HB.out));(case side2=>exact Kd.zBt rfl a9.out);rintro e w57 ⟨rfl,hy0,hb,hkp⟩;refine ⟨_,rfl,?_⟩;replace a:=qK (blk_kept (bX a.out) hkp (fun hs_=>(fun e_=>(Kd.zA6 a9.out a.out (by decide)) e_) hs_));replace q:=qK (blk_kept (bX q.out) hkp (fun hs_=>(fun e_=>(Kd.zA6 a9.out q.out (by decide)) e_) hs_));replace a9:=qK (Kd.zDM rfl hy0 (fun k_ e_=>a9.out.1 k_ e_));replace HB:=qK (hb);have l7:=ap.out;have l8:=aq.out;obtain ⟨d8,d9,ea,eb,ec,ed⟩:=xC3 a.out)|((with_reducible refine zH (f:=21) rfl ?_);refine gL (some 65) Try.func21 #[.agg #[.slice ak m.length al,.int .i64 l,.int .i64 d],.slice A1 l1.length c1] ?_;(with_reducible refine (zCD.calls ao _ _ m l d _ _ l1 aj eq _ ?side1 ?side2 ?side3 ?side4 A51.out).mono ?_);(case side1=>exact cS ax.out);(case side2=>exact HC0_0.out);(case side3=>exact cS HR1.out);(case side4=>exact HC1.out);rintro e w60 ⟨rfl,hb⟩;refine ⟨_,rfl,?_⟩;replace a9:=rB a9 hb;replace a:=bQ a hb;replace q:=bQ q hb;replace HB:=hQ hb;obtain ⟨ee,ef,eg,eh,ei,ej⟩:=xC3 a.out)|((with_reducible refine zH (f:=21) rfl ?_);refine zDu (some 71) rfl rfl Try.func21 (by kernel_rfl) rfl #[.agg #[.slice ak m.length al,.int .i64 l,.int .i64 d],.slice d2 ag.length d3] rfl (by (try simp only [List.map_toArray,List.map_cons,List.map_nil]);first|done|(rw [show ag.length=ep.length from (Kd.zJ a9.out).1.symm] <;> rfl)|rfl|(simp only [List.length_drop,List.length_take];rfl)) ?_;(with_reducible refine (zCD.calls ao _ _ m l d _ _ ag e2 e3 _ ?side1 ?side2 ?side3 ?side4 A52.out).mono ?_);(case side1=>exact cS ax.out);(case side2=>exact HC0_0.out);(case side3=>exact cR (Kd.zJ a9.out).2.2);(case side4=>rw [show ag.length=ep.length from (Kd.zJ a9.out).1.symm];exact (Kd.zJ a9.out).2.1);rintro e w62 ⟨rfl,hb⟩;refine ⟨_,rfl,?_⟩;replace a9:=rB a9 hb;replace a:=bQ a hb;replace q:=bQ q hb;replace HB:=hQ hb))
   (try simp only [Act.put,List.setIfInBounds_toArray,List.set_cons_zero,List.set_cons_succ])
   go_cut [88] (fun v88 wc=>∃ (kq:Nat) (fc:Bool),v88= .bool fc∧zA (zFZ.j1 kq l1 a3 a4 a5 a6 ag aj fc m l d u s=some r)∧zA (kq≤ao)∧zA (Kd.R (Kd.int .i64) 3 wc w.heap.size (fun _=>True) (.slice d2 ep.length d3) ag)∧zA (wc.heap[ah]? = some (.cells #[(.slice ak m.length al),.int .i64 l,.int .i64 d] 26 (0,0)))∧zA (wc.heap[am]? = some (.cells #[.int .i64 u,.int .i64 s] 24 (0,0)))∧zA (Below w.heap.size w wc))
   case first =>
    as_aux_lemma =>
    have H:=iw.out
    clear iw
    by_cases c63:eq=0
    rotate_left
    ·as_aux_lemma =>
     rw [if_neg c63] at H
     have bp:(eq == 0)=false:=beq_eq_false_iff_ne.mpr c63
     have ev:(eq != 0)=true:=bne_iff_ne.mpr c63
     (first|rw [bp]|(simp only [zBS,zBg];rw [bp])|skip)
     have H':=zA.mk H
     clear H
     go_wp2
     go_meet
     case rel=>exact ⟨_,(true),sA,H',⟨by have:=bg.out;first|omega|exact Nat.le_refl _⟩,⟨by (with_reducible repeat (first|apply Kd.zAp|apply Kd.zAn|apply Kd.zAv));exact a9.out⟩,⟨by (repeat with_reducible first|apply zD|apply zF|apply zC);exact a.out⟩,⟨by (repeat with_reducible first|apply zD|apply zF|apply zC);exact q.out⟩,⟨bA⟩⟩
    rw [if_pos c63] at H
    have bp:(eq == 0)=true:=beq_iff_eq.mpr c63
    have ev:(eq != 0)=false:=bne_eq_false_iff_eq.mpr c63
    clear c63
    (first|rw [bp]|(simp only [zBS,zBg];rw [bp])|skip)
    by_cases c64:e3=0
    rotate_left
    ·as_aux_lemma =>
     rw [if_neg c64] at H
     have ew:(e3 == 0)=false:=beq_eq_false_iff_ne.mpr c64
     have ey:(e3 != 0)=true:=bne_iff_ne.mpr c64
     have H':=zA.mk H
     clear H
     go_wp2
     go_meet
     case rel=>exact ⟨_,(true),sA,H',⟨by have:=bg.out;first|omega|exact Nat.le_refl _⟩,⟨by (with_reducible repeat (first|apply Kd.zAp|apply Kd.zAn|apply Kd.zAv));exact a9.out⟩,⟨by (repeat with_reducible first|apply zD|apply zF|apply zC);exact a.out⟩,⟨by (repeat with_reducible first|apply zD|apply zF|apply zC);exact q.out⟩,⟨bA⟩⟩
    rw [if_pos c64] at H
    have ew:(e3 == 0)=true:=beq_iff_eq.mpr c64
    have ey:(e3 != 0)=false:=bne_eq_false_iff_eq.mpr c64
    clear c64
    by_cases c65:e2 > aj
    ·as_aux_lemma =>
     rw [if_pos c65] at H
     have ez:decide (aj < e2)=true:=decide_eq_true c65
     clear c65
     have H':=zA.mk H
     clear H
     go_wp2
     go_meet
     case rel=>exact ⟨_,(true),sA,H',⟨by have:=bg.out;first|omega|exact Nat.le_refl _⟩,⟨by (with_reducible repeat (first|apply Kd.zAp|apply Kd.zAn|apply Kd.zAv));exact a9.out⟩,⟨by (repeat with_reducible first|apply zD|apply zF|apply zC);exact a.out⟩,⟨by (repeat with_reducible first|apply zD|apply zF|apply zC);exact q.out⟩,⟨bA⟩⟩
    rw [if_neg c65] at H
    have ez:decide (aj < e2)=false:=decide_eq_false c65
    clear c65
    have H':=zA.mk H
    clear H
    go_wp2
    go_meet
    case rel=>exact ⟨_,(decide (e2 < 0)),sA,H',⟨by have:=bg.out;first|omega|exact Nat.le_refl _⟩,⟨by (with_reducible repeat (first|apply Kd.zAp|apply Kd.zAn|apply Kd.zAv));exact a9.out⟩,⟨by (repeat with_reducible first|apply zD|apply zF|apply zC);exact a.out⟩,⟨by (repeat with_reducible first|apply zD|apply zF|apply zC);exact q.out⟩,⟨bA⟩⟩
   case rest =>
    as_aux_lemma =>
    clear iw
    try clear c1
    try clear c2
    try clear p2
    try clear c3
    try clear c4
    try clear c5
    try clear c6
    try clear c9
    try clear c10
    try clear c16
    try clear c18
    try clear c19
    try clear bm
    try clear c20
    try clear c21
    try clear c25
    try clear ek
    try clear c26
    try clear c33
    try clear c39
    try clear c44
    try clear c47
    try clear c49
    try clear c58
    try clear c63
    try clear bp
    try clear ev
    try clear c64
    try clear ew
    try clear ey
    try clear c65
    try clear ez
    try clear ce
    try clear cf
    try clear cg
    try clear ck
    try clear cl
    try clear cm
    try clear cq
    try clear cr
    try clear ct
    try clear cx
    try clear cy
    try clear cz
    try clear dc
    try clear dd
    try clear de
    try clear di
    try clear dj
    try clear dk
    try clear dp
    try clear dq
    try clear dr
    try clear dw
    try clear dx
    try clear dy
    try clear b2
    try clear b3
    try clear b4
    try clear b8
    try clear b9
    try clear ca
    try clear bv
    try clear bw
    try clear bx
    try clear d8
    try clear d9
    try clear ea
    try clear ee
    try clear ef
    try clear eg
    try clear ch
    try clear ci
    try clear cj
    try clear cn
    try clear co
    try clear cp
    try clear cu
    try clear cv
    try clear cw
    try clear c0
    try clear da
    try clear db
    try clear df
    try clear dg
    try clear dh
    try clear dl
    try clear dm
    try clear dn
    try clear dt
    try clear du
    try clear dv
    try clear dz
    try clear d0
    try clear d1
    try clear b5
    try clear b6
    try clear b7
    try clear cb
    try clear cc
    try clear cd
    try clear bz
    try clear b0
    try clear b1
    try clear eb
    try clear ec
    try clear ed
    try clear eh
    try clear ei
    try clear ej
    try clear p2
    obtain ⟨kq,fc,rfl,HA,bs,ai,a,q,HB⟩:=hcut
    have ab:=(Kd.zJ ai.out).1
    rw [ab] at ai
    (try simp only [ab])
    (try simp only [ab] at a)
    (try simp only [ab] at q)
    cases kq with
    | zero=>exact absurd HA.out (by simp [zFZ.j1])
    | succ il =>
     have H:=HA.out
     clear HA
     simp only [zFZ.j1] at H
     by_cases c66:fc=true
     ·subst c66
      have H1:(some false)=some r:=by rw [if_pos rfl] at H;exact H
      clear H
      have H:=H1
      clear H1
      obtain rfl:=Option.some.inj H
      go_wp2
      go_ret
      exact ⟨eA,bA⟩
     replace c66:=Bool.eq_false_iff.mpr c66
     subst c66
     have H1:(if a3 < a4 then (if a3≥(-1099511627776) then (zFZ.j2 il l1 a3 a4 a5 a6 ag aj (decide (a4≤1099511627776)) m l d u s) else (zFZ.j2 il l1 a3 a4 a5 a6 ag aj false m l d u s)) else (zFZ.j2 il l1 a3 a4 a5 a6 ag aj false m l d u s))=some r:=by rw [if_neg (show ¬ (false=true) by decide)] at H;exact H
     clear H
     have H:=H1
     clear H1
     have ix:=zA.mk H
     clear H
     go_upto_region 11 with (fail)
     go_cut [99] (fun v99 wc=>∃ (kq:Nat) (fd:Bool),v99= .bool fd∧zA (zFZ.j2 kq l1 a3 a4 a5 a6 ag aj fd m l d u s=some r)∧zA (kq≤il)∧zA (Kd.R (Kd.int .i64) 3 wc w.heap.size (fun _=>True) (.slice d2 ag.length d3) ag)∧zA (wc.heap[ah]? = some (.cells #[(.slice ak m.length al),.int .i64 l,.int .i64 d] 26 (0,0)))∧zA (wc.heap[am]? = some (.cells #[.int .i64 u,.int .i64 s] 24 (0,0)))∧zA (Below w.heap.size w wc))
     case first =>
      as_aux_lemma =>
      have H:=ix.out
      clear ix
      by_cases c68:a3 < a4
      rotate_left
      ·as_aux_lemma =>
       rw [if_neg c68] at H
       have bu:decide (a3 < a4)=false:=decide_eq_false c68
       clear c68
       (first|rw [bu]|(simp only [zBS,zBg];rw [bu])|skip)
       have H':=zA.mk H
       clear H
       go_wp2
       go_meet
       case rel=>exact ⟨_,(false),sA,H',⟨by have:=bg.out;have:=bs.out;first|omega|exact Nat.le_refl _⟩,⟨by (try simp only [ab]);(with_reducible repeat (first|apply Kd.zAp|apply Kd.zAn|apply Kd.zAv));exact ai.out⟩,⟨by (try simp only [ab]);(repeat with_reducible first|apply zD|apply zF|apply zC);exact a.out⟩,⟨by (try simp only [ab]);(repeat with_reducible first|apply zD|apply zF|apply zC);exact q.out⟩,⟨bA⟩⟩
      rw [if_pos c68] at H
      have bu:decide (a3 < a4)=true:=decide_eq_true c68
      clear c68
      (first|rw [bu]|(simp only [zBS,zBg];rw [bu])|skip)
      by_cases c69:a3≥(-1099511627776)
      rotate_left
      ·as_aux_lemma =>
       rw [if_neg c69] at H
       have fe:decide ((-1099511627776)≤a3)=false:=decide_eq_false c69
       clear c69
       have H':=zA.mk H
       clear H
       go_wp2
       go_meet
       case rel=>exact ⟨_,(false),sA,H',⟨by have:=bg.out;have:=bs.out;first|omega|exact Nat.le_refl _⟩,⟨by (try simp only [ab]);(with_reducible repeat (first|apply Kd.zAp|apply Kd.zAn|apply Kd.zAv));exact ai.out⟩,⟨by (try simp only [ab]);(repeat with_reducible first|apply zD|apply zF|apply zC);exact a.out⟩,⟨by (try simp only [ab]);(repeat with_reducible first|apply zD|apply zF|apply zC);exact q.out⟩,⟨bA⟩⟩
      rw [if_pos c69] at H
      have fe:decide ((-1099511627776)≤a3)=true:=decide_eq_true c69
      clear c69
      have H':=zA.mk H
      clear H
      go_wp2
      go_meet
      case rel=>exact ⟨_,(decide (a4≤1099511627776)),sA,H',⟨by have:=bg.out;have:=bs.out;first|omega|exact Nat.le_refl _⟩,⟨by (try simp only [ab]);(with_reducible repeat (first|apply Kd.zAp|apply Kd.zAn|apply Kd.zAv));exact ai.out⟩,⟨by (try simp only [ab]);(repeat with_reducible first|apply zD|apply zF|apply zC);exact a.out⟩,⟨by (try simp only [ab]);(repeat with_reducible first|apply zD|apply zF|apply zC);exact q.out⟩,⟨bA⟩⟩
     case rest =>
      as_aux_lemma =>
      clear ix
      try clear c1
      try clear c2
      try clear p2
      try clear c3
      try clear c4
      try clear c5
      try clear c6
      try clear c9
      try clear c10
      try clear c16
      try clear c18
      try clear c19
      try clear bm
      try clear c20
      try clear c21
      try clear c25
      try clear ek
      try clear c26
      try clear c33
      try clear c39
      try clear c44
      try clear c47
      try clear c49
      try clear c58
      try clear c63
      try clear bp
      try clear ev
      try clear c64
      try clear ew
      try clear ey
      try clear c65
      try clear ez
      try clear c66
      try clear c68
      try clear bu
      try clear c69
      try clear fe
      try clear ce
      try clear cf
      try clear cg
      try clear ck
      try clear cl
      try clear cm
      try clear cq
      try clear cr
      try clear ct
      try clear cx
      try clear cy
      try clear cz
      try clear dc
      try clear dd
      try clear de
      try clear di
      try clear dj
      try clear dk
      try clear dp
      try clear dq
      try clear dr
      try clear dw
      try clear dx
      try clear dy
      try clear b2
      try clear b3
      try clear b4
      try clear b8
      try clear b9
      try clear ca
      try clear bv
      try clear bw
      try clear bx
      try clear d8
      try clear d9
      try clear ea
      try clear ee
      try clear ef
      try clear eg
      try clear ch
      try clear ci
      try clear cj
      try clear cn
      try clear co
      try clear cp
      try clear cu
      try clear cv
      try clear cw
      try clear c0
      try clear da
      try clear db
      try clear df
      try clear dg
      try clear dh
      try clear dl
      try clear dm
      try clear dn
      try clear dt
      try clear du
      try clear dv
      try clear dz
      try clear d0
      try clear d1
      try clear b5
      try clear b6
      try clear b7
      try clear cb
      try clear cc
      try clear cd
      try clear bz
      try clear b0
      try clear b1
      try clear eb
      try clear ec
      try clear ed
      try clear eh
      try clear ei
      try clear ej
      try clear p2
      obtain ⟨kq,fd,rfl,HA,em,ai,a,q,HB⟩:=hcut
      cases kq with
      | zero=>exact absurd HA.out (by simp [zFZ.j2])
      | succ a0 =>
       have H:=HA.out
       clear HA
       simp only [zFZ.j2] at H
       have iy:=zA.mk H
       clear H
       go_upto_if 99 with (fail)
       go_cut [] (fun wc=>∃ (kq:Nat),zA (zFZ.j3 kq l1 a5 a6 aj m l d u s=some r)∧zA (kq≤a0)∧zA (wc.heap[ah]? = some (.cells #[(.slice ak m.length al),.int .i64 l,.int .i64 d] 26 (0,0)))∧zA (wc.heap[am]? = some (.cells #[.int .i64 u,.int .i64 s] 24 (0,0)))∧zA (Below w.heap.size w wc))
       case first =>
        as_aux_lemma =>
        have H:=iy.out
        clear iy
        by_cases c71:fd=true
        rotate_left
        ·replace c71:=Bool.eq_false_iff.mpr c71
         subst c71
         have H1:(zFZ.j3 a0 l1 a5 a6 aj m l d u s)=some r:=by rw [if_neg (show ¬ (false=true) by decide)] at H;exact H
         clear H
         have H:=H1
         clear H1
         have H':=zA.mk H
         clear H
         go_wp2
         go_meet
         case rel=>exact ⟨_,H',⟨by have:=bg.out;have:=bs.out;have:=em.out;first|omega|exact Nat.le_refl _⟩,⟨by (try simp only [ab]);(repeat with_reducible first|apply zD|apply zF|apply zC);exact a.out⟩,⟨by (try simp only [ab]);(repeat with_reducible first|apply zD|apply zF|apply zC);exact q.out⟩,⟨bA⟩⟩
        subst c71
        have H1:((zBX.f a0 m l d l1 a3 a4).bind fun jc=>((zBX.f a0 m l d ag a3 a4).bind fun ff=>(if jc.2=0 then (if ff.2=0 then (if jc.1=true then (if ff.1=true then (zFZ.j3 a0 l1 a5 a6 aj m l d u s) else (some false)) else (zFZ.j3 a0 l1 a5 a6 aj m l d u s)) else (some false)) else (some false))))=some r:=by rw [if_pos rfl] at H;exact H
        clear H
        have H:=H1
        clear H1
        replace H:=Option.bind_eq_some_iff.mp H
        obtain ⟨⟨hm,bt⟩,A720,H⟩:=H
        replace H:((zBX.f a0 m l d ag a3 a4).bind fun ff=>(if bt=0 then (if ff.2=0 then (if hm=true then (if ff.1=true then (zFZ.j3 a0 l1 a5 a6 aj m l d u s) else (some false)) else (zFZ.j3 a0 l1 a5 a6 aj m l d u s)) else (some false)) else (some false)))=some r:=H
        have A72:=zA.mk A720
        clear A720
        replace H:=Option.bind_eq_some_iff.mp H
        obtain ⟨⟨fk,d4⟩,A730,H⟩:=H
        replace H:(if bt=0 then (if d4=0 then (if hm=true then (if fk=true then (zFZ.j3 a0 l1 a5 a6 aj m l d u s) else (some false)) else (zFZ.j3 a0 l1 a5 a6 aj m l d u s)) else (some false)) else (some false))=some r:=H
        have A73:=zA.mk A730
        clear A730
        by_cases c74:bt=0
        rotate_left
        ·as_aux_lemma =>
         rw [if_neg c74] at H
         have d7:(bt == 0)=false:=beq_eq_false_iff_ne.mpr c74
         have ha:(bt != 0)=true:=bne_iff_ne.mpr c74
         (first|rw [d7]|(simp only [zBS,zBg];rw [d7])|skip)
         obtain rfl:=Option.some.inj H
         have l9:=ap.out
         have ma:=aq.out
         obtain ⟨fl,fm,fn,fo,fp,fq⟩:=xC3 a.out
         go_wp2_with (first|((with_reducible refine zH (f:=12) rfl ?_);refine gL (some 105) Try.func12 #[.agg #[.slice ak m.length al,.int .i64 l,.int .i64 d],.slice A1 l1.length c1,.int .i64 a3,.int .i64 a4] ?_;(with_reducible refine (zBX.calls a0 _ _ m l d _ _ l1 a3 a4 hm bt _ ?side1 ?side2 ?side3 ?side4 A72.out).mono ?_);(case side1=>exact cS ax.out);(case side2=>exact HC0_0.out);(case side3=>exact cS HR1.out);(case side4=>exact HC1.out);rintro e m1 ⟨rfl,hb⟩;refine ⟨_,rfl,?_⟩;replace ai:=rB ai hb;replace a:=bQ a hb;replace q:=bQ q hb;replace HB:=hQ hb;obtain ⟨e4,e5,e6,e7,e8,e9⟩:=xC3 a.out)|((with_reducible refine zH (f:=12) rfl ?_);refine gL (some 113) Try.func12 #[.agg #[.slice ak m.length al,.int .i64 l,.int .i64 d],.slice d2 ag.length d3,.int .i64 a3,.int .i64 a4] ?_;(with_reducible refine (zBX.calls a0 _ _ m l d _ _ ag a3 a4 fk d4 _ ?side1 ?side2 ?side3 ?side4 A73.out).mono ?_);(case side1=>exact cS ax.out);(case side2=>exact HC0_0.out);(case side3=>exact cR (Kd.zJ ai.out).2.2);(case side4=>exact (Kd.zJ ai.out).2.1);rintro e m2 ⟨rfl,hb⟩;refine ⟨_,rfl,?_⟩;replace ai:=rB ai hb;replace a:=bQ a hb;replace q:=bQ q hb;replace HB:=hQ hb))
         go_ret
         exact ⟨eA,bA⟩
        rw [if_pos c74] at H
        have d7:(bt == 0)=true:=beq_iff_eq.mpr c74
        have ha:(bt != 0)=false:=bne_eq_false_iff_eq.mpr c74
        clear c74
        (first|rw [d7]|(simp only [zBS,zBg];rw [d7])|skip)
        by_cases c75:d4=0
        rotate_left
        ·as_aux_lemma =>
         rw [if_neg c75] at H
         have hc:(d4 == 0)=false:=beq_eq_false_iff_ne.mpr c75
         have he:(d4 != 0)=true:=bne_iff_ne.mpr c75
         obtain rfl:=Option.some.inj H
         have mb:=ap.out
         have mc:=aq.out
         obtain ⟨fr,fs,ft,fu,fv,fw⟩:=xC3 a.out
         go_wp2_with (first|((with_reducible refine zH (f:=12) rfl ?_);refine gL (some 105) Try.func12 #[.agg #[.slice ak m.length al,.int .i64 l,.int .i64 d],.slice A1 l1.length c1,.int .i64 a3,.int .i64 a4] ?_;(with_reducible refine (zBX.calls a0 _ _ m l d _ _ l1 a3 a4 hm bt _ ?side1 ?side2 ?side3 ?side4 A72.out).mono ?_);(case side1=>exact cS ax.out);(case side2=>exact HC0_0.out);(case side3=>exact cS HR1.out);(case side4=>exact HC1.out);rintro e w95 ⟨rfl,hb⟩;refine ⟨_,rfl,?_⟩;replace ai:=rB ai hb;replace a:=bQ a hb;replace q:=bQ q hb;replace HB:=hQ hb;obtain ⟨fx,fy,fz,f3,f4,f5⟩:=xC3 a.out)|((with_reducible refine zH (f:=12) rfl ?_);refine gL (some 113) Try.func12 #[.agg #[.slice ak m.length al,.int .i64 l,.int .i64 d],.slice d2 ag.length d3,.int .i64 a3,.int .i64 a4] ?_;(with_reducible refine (zBX.calls a0 _ _ m l d _ _ ag a3 a4 fk d4 _ ?side1 ?side2 ?side3 ?side4 A73.out).mono ?_);(case side1=>exact cS ax.out);(case side2=>exact HC0_0.out);(case side3=>exact cR (Kd.zJ ai.out).2.2);(case side4=>exact (Kd.zJ ai.out).2.1);rintro e w97 ⟨rfl,hb⟩;refine ⟨_,rfl,?_⟩;replace ai:=rB ai hb;replace a:=bQ a hb;replace q:=bQ q hb;replace HB:=hQ hb))
         go_ret
         exact ⟨eA,bA⟩
        rw [if_pos c75] at H
        have hc:(d4 == 0)=true:=beq_iff_eq.mpr c75
        have he:(d4 != 0)=false:=bne_eq_false_iff_eq.mpr c75
        clear c75
        by_cases c76:hm=true
        rotate_left
        ·replace c76:=Bool.eq_false_iff.mpr c76
         subst c76
         have H1:(zFZ.j3 a0 l1 a5 a6 aj m l d u s)=some r:=by rw [if_neg (show ¬ (false=true) by decide)] at H;exact H
         clear H
         have H:=H1
         clear H1
         have H':=zA.mk H
         clear H
         have md:=ap.out
         have me:=aq.out
         obtain ⟨f6,f7,f8,f9,ga,gb⟩:=xC3 a.out
         go_wp2_with (first|((with_reducible refine zH (f:=12) rfl ?_);refine gL (some 105) Try.func12 #[.agg #[.slice ak m.length al,.int .i64 l,.int .i64 d],.slice A1 l1.length c1,.int .i64 a3,.int .i64 a4] ?_;(with_reducible refine (zBX.calls a0 _ _ m l d _ _ l1 a3 a4 false bt _ ?side1 ?side2 ?side3 ?side4 A72.out).mono ?_);(case side1=>exact cS ax.out);(case side2=>exact HC0_0.out);(case side3=>exact cS HR1.out);(case side4=>exact HC1.out);rintro e w90 ⟨rfl,hb⟩;refine ⟨_,rfl,?_⟩;replace ai:=rB ai hb;replace a:=bQ a hb;replace q:=bQ q hb;replace HB:=hQ hb;obtain ⟨gc,gd,ge,gf,gg,gh⟩:=xC3 a.out)|((with_reducible refine zH (f:=12) rfl ?_);refine gL (some 113) Try.func12 #[.agg #[.slice ak m.length al,.int .i64 l,.int .i64 d],.slice d2 ag.length d3,.int .i64 a3,.int .i64 a4] ?_;(with_reducible refine (zBX.calls a0 _ _ m l d _ _ ag a3 a4 fk d4 _ ?side1 ?side2 ?side3 ?side4 A73.out).mono ?_);(case side1=>exact cS ax.out);(case side2=>exact HC0_0.out);(case side3=>exact cR (Kd.zJ ai.out).2.2);(case side4=>exact (Kd.zJ ai.out).2.1);rintro e w92 ⟨rfl,hb⟩;refine ⟨_,rfl,?_⟩;replace ai:=rB ai hb;replace a:=bQ a hb;replace q:=bQ q hb;replace HB:=hQ hb))
         go_meet
         case rel=>exact ⟨_,H',⟨by have:=bg.out;have:=bs.out;have:=em.out;first|omega|exact Nat.le_refl _⟩,⟨by (try simp only [ab]);(repeat with_reducible first|apply zD|apply zF|apply zC);exact a.out⟩,⟨by (try simp only [ab]);(repeat with_reducible first|apply zD|apply zF|apply zC);exact q.out⟩,⟨bA⟩⟩
        subst c76
        have H1:(if fk=true then (zFZ.j3 a0 l1 a5 a6 aj m l d u s) else (some false))=some r:=by rw [if_pos rfl] at H;exact H
        clear H
        have H:=H1
        clear H1
        by_cases c77:fk=true
        rotate_left
        ·replace c77:=Bool.eq_false_iff.mpr c77
         subst c77
         have H1:(some false)=some r:=by rw [if_neg (show ¬ (false=true) by decide)] at H;exact H
         clear H
         have H:=H1
         clear H1
         obtain rfl:=Option.some.inj H
         have mf:=ap.out
         have mg:=aq.out
         obtain ⟨gi,gj,gk,gl,gm,gn⟩:=xC3 a.out
         go_wp2_with (first|((with_reducible refine zH (f:=12) rfl ?_);refine gL (some 105) Try.func12 #[.agg #[.slice ak m.length al,.int .i64 l,.int .i64 d],.slice A1 l1.length c1,.int .i64 a3,.int .i64 a4] ?_;(with_reducible refine (zBX.calls a0 _ _ m l d _ _ l1 a3 a4 true bt _ ?side1 ?side2 ?side3 ?side4 A72.out).mono ?_);(case side1=>exact cS ax.out);(case side2=>exact HC0_0.out);(case side3=>exact cS HR1.out);(case side4=>exact HC1.out);rintro e w85 ⟨rfl,hb⟩;refine ⟨_,rfl,?_⟩;replace ai:=rB ai hb;replace a:=bQ a hb;replace q:=bQ q hb;replace HB:=hQ hb;obtain ⟨gp,gq,gr,gs,gt,gu⟩:=xC3 a.out)|((with_reducible refine zH (f:=12) rfl ?_);refine gL (some 113) Try.func12 #[.agg #[.slice ak m.length al,.int .i64 l,.int .i64 d],.slice d2 ag.length d3,.int .i64 a3,.int .i64 a4] ?_;(with_reducible refine (zBX.calls a0 _ _ m l d _ _ ag a3 a4 false d4 _ ?side1 ?side2 ?side3 ?side4 A73.out).mono ?_);(case side1=>exact cS ax.out);(case side2=>exact HC0_0.out);(case side3=>exact cR (Kd.zJ ai.out).2.2);(case side4=>exact (Kd.zJ ai.out).2.1);rintro e w87 ⟨rfl,hb⟩;refine ⟨_,rfl,?_⟩;replace ai:=rB ai hb;replace a:=bQ a hb;replace q:=bQ q hb;replace HB:=hQ hb))
         go_ret
         exact ⟨eA,bA⟩
        subst c77
        have H1:(zFZ.j3 a0 l1 a5 a6 aj m l d u s)=some r:=by rw [if_pos rfl] at H;exact H
        clear H
        have H:=H1
        clear H1
        have H':=zA.mk H
        clear H
        have mh:=ap.out
        have mi:=aq.out
        obtain ⟨gv,gw,gx,gy,gz,g0⟩:=xC3 a.out
        go_wp2_with (first|((with_reducible refine zH (f:=12) rfl ?_);refine gL (some 105) Try.func12 #[.agg #[.slice ak m.length al,.int .i64 l,.int .i64 d],.slice A1 l1.length c1,.int .i64 a3,.int .i64 a4] ?_;(with_reducible refine (zBX.calls a0 _ _ m l d _ _ l1 a3 a4 true bt _ ?side1 ?side2 ?side3 ?side4 A72.out).mono ?_);(case side1=>exact cS ax.out);(case side2=>exact HC0_0.out);(case side3=>exact cS HR1.out);(case side4=>exact HC1.out);rintro e w80 ⟨rfl,hb⟩;refine ⟨_,rfl,?_⟩;replace ai:=rB ai hb;replace a:=bQ a hb;replace q:=bQ q hb;replace HB:=hQ hb;obtain ⟨g1,g2,g3,g4,g5,g6⟩:=xC3 a.out)|((with_reducible refine zH (f:=12) rfl ?_);refine gL (some 113) Try.func12 #[.agg #[.slice ak m.length al,.int .i64 l,.int .i64 d],.slice d2 ag.length d3,.int .i64 a3,.int .i64 a4] ?_;(with_reducible refine (zBX.calls a0 _ _ m l d _ _ ag a3 a4 true d4 _ ?side1 ?side2 ?side3 ?side4 A73.out).mono ?_);(case side1=>exact cS ax.out);(case side2=>exact HC0_0.out);(case side3=>exact cR (Kd.zJ ai.out).2.2);(case side4=>exact (Kd.zJ ai.out).2.1);rintro e w82 ⟨rfl,hb⟩;refine ⟨_,rfl,?_⟩;replace ai:=rB ai hb;replace a:=bQ a hb;replace q:=bQ q hb;replace HB:=hQ hb))
        go_meet
        case rel=>exact ⟨_,H',⟨by have:=bg.out;have:=bs.out;have:=em.out;first|omega|exact Nat.le_refl _⟩,⟨by (try simp only [ab]);(repeat with_reducible first|apply zD|apply zF|apply zC);exact a.out⟩,⟨by (try simp only [ab]);(repeat with_reducible first|apply zD|apply zF|apply zC);exact q.out⟩,⟨bA⟩⟩
       case rest =>
        as_aux_lemma =>
        clear iy
        try clear c1
        try clear c2
        try clear p2
        try clear c3
        try clear c4
        try clear c5
        try clear c6
        try clear c7
        try clear c8
        try clear c9
        try clear c10
        try clear c12
        try clear c16
        try clear c18
        try clear c19
        try clear bm
        try clear c20
        try clear c21
        try clear c25
        try clear ek
        try clear c26
        try clear c33
        try clear c39
        try clear c44
        try clear c47
        try clear c49
        try clear c58
        try clear c63
        try clear bp
        try clear ev
        try clear c64
        try clear ew
        try clear ey
        try clear c65
        try clear ez
        try clear c66
        try clear c68
        try clear bu
        try clear c69
        try clear fe
        try clear c71
        try clear c74
        try clear d7
        try clear ha
        try clear c75
        try clear hc
        try clear he
        try clear c76
        try clear c77
        try clear c78
        try clear c83
        try clear c88
        try clear c93
        try clear c98
        try clear e4
        try clear e5
        try clear e6
        try clear ce
        try clear cf
        try clear cg
        try clear ck
        try clear cl
        try clear cm
        try clear cq
        try clear cr
        try clear ct
        try clear cx
        try clear cy
        try clear cz
        try clear dc
        try clear dd
        try clear de
        try clear di
        try clear dj
        try clear dk
        try clear dp
        try clear dq
        try clear dr
        try clear dw
        try clear dx
        try clear dy
        try clear b2
        try clear b3
        try clear b4
        try clear b8
        try clear b9
        try clear ca
        try clear bv
        try clear bw
        try clear bx
        try clear d8
        try clear d9
        try clear ea
        try clear ee
        try clear ef
        try clear eg
        try clear gv
        try clear gw
        try clear gx
        try clear g1
        try clear g2
        try clear g3
        try clear gi
        try clear gj
        try clear gk
        try clear gp
        try clear gq
        try clear gr
        try clear f6
        try clear f7
        try clear f8
        try clear gc
        try clear gd
        try clear ge
        try clear fr
        try clear fs
        try clear ft
        try clear fx
        try clear fy
        try clear fz
        try clear fl
        try clear fm
        try clear fn
        try clear e7
        try clear e8
        try clear e9
        try clear ch
        try clear ci
        try clear cj
        try clear cn
        try clear co
        try clear cp
        try clear cu
        try clear cv
        try clear cw
        try clear c0
        try clear da
        try clear db
        try clear df
        try clear dg
        try clear dh
        try clear dl
        try clear dm
        try clear dn
        try clear dt
        try clear du
        try clear dv
        try clear dz
        try clear d0
        try clear d1
        try clear b5
        try clear b6
        try clear b7
        try clear cb
        try clear cc
        try clear cd
        try clear bz
        try clear b0
        try clear b1
        try clear eb
        try clear ec
        try clear ed
        try clear eh
        try clear ei
        try clear ej
        try clear gy
        try clear gz
        try clear g0
        try clear g4
        try clear g5
        try clear g6
        try clear gl
        try clear gm
        try clear gn
        try clear gs
        try clear gt
        try clear gu
        try clear f9
        try clear ga
        try clear gb
        try clear gf
        try clear gg
        try clear gh
        try clear fu
        try clear fv
        try clear fw
        try clear f3
        try clear f4
        try clear f5
        try clear fo
        try clear fp
        try clear fq
        try clear p2
        obtain ⟨kq,HA,g7,a,q,HB⟩:=hcut
        cases kq with
        | zero=>exact absurd HA.out (by simp [zFZ.j3])
        | succ hp =>
         have H:=HA.out
         clear HA
         simp only [zFZ.j3] at H
         replace H:=Option.bind_eq_some_iff.mp H
         obtain ⟨ae,A1030,H⟩:=H
         replace H:(if a5≥0 then (if a5 < (ae.length:Int) then (if a6≥0 then (if 0≤a5 then (zFZ.j4 hp l1 a5 a6 aj (decide (a6≤((zG ae a5).f2))) m l d u s ae l d) else (none)) else (zFZ.j4 hp l1 a5 a6 aj false m l d u s ae l d)) else (zFZ.j4 hp l1 a5 a6 aj false m l d u s ae l d)) else (zFZ.j4 hp l1 a5 a6 aj false m l d u s ae l d))=some r:=H
         have A103:=zA.mk A1030
         clear A1030
         have im:=zA.mk H
         clear H
         try go_wp2
         replace a:=qK (zF a.out)
         replace q:=qK (zF q.out)
         replace HB:=qK (zx HB.out)
         refine zBH (n:=8) (S:=fun w'=>w'.cell? ⟨ah,0,none⟩=some (.slice ak m.length al)∧w'.cell? ⟨ah,1,none⟩=some (.int .i64 l)∧w'.cell? ⟨ah,2,none⟩=some (.int .i64 d)) (ds:=[]) #[false,false,false,false,false,false,false,false] (by kernel_rfl) rfl rfl ⟨(zB a.out 0).trans rfl,(zB a.out 1).trans rfl,(zB a.out 2).trans rfl⟩ (fun bb=>?_);refine zAj zFZ.tab16 zFZ.bits16 (fun HT_ HW_=>?_)
         generalize wc.drew=m3 at a q HB bb ⊢
         refine pP 0 (some 129) HT_ ?_
         refine pP 3 (some 132) HT_ ?_
         refine tP 1 (some 130) HT_ HW_ bb ?_
         refine tP 4 (some 133) HT_ HW_ bb ?_
         refine zBz (σ:=Value × Nat) 1 #[true,true,true,true,true,true,true,false] (fun s_=>[(131,s_.1),(26,.pointer (some ⟨s_.2,0,none⟩)),(134,.agg #[s_.1,.int .i64 l,.int .i64 d])]) (fun s_ w'=>(w'.cell? ⟨ah,0,none⟩=some (.slice ak m.length al)∧w'.cell? ⟨ah,1,none⟩=some (.int .i64 l)∧w'.cell? ⟨ah,2,none⟩=some (.int .i64 d))∧(Kd.R k50 50 w' w.heap.size (fun _=>True) s_.1 ae)∧(w'.heap[ah]? = some (.cells #[.slice ak m.length al,.int .i64 l,.int .i64 d] 26 (0,0)))∧(w'.heap[am]? = some (.cells #[.int .i64 u,.int .i64 s] 24 (0,0)))∧(w'.heap[s_.2]? = some (.cells #[.slice none 0 0,.int .i64 0,.int .i64 0] 26 (0,0)))∧(w.heap.size≤s_.2)∧(w.heap.size≤s_.2)∧(ah≠s_.2)∧(s_.2≠ah)∧(am≠s_.2)∧(s_.2≠am)∧(Below w.heap.size w w')) ?_ ?_
         rotate_left
         ·intro jd
          refine zB6 (i:=2) (j:=6) (Ni:=some 131) (Nj:=some 26) #[true,true,true,true,true,false,false,false] #[true,true,false,true,true,false,true,false] rfl rfl rfl rfl (zBG HT_.out (by kernel_rfl)) (by decide) (by decide) (fun K hK=>?_) (fun K hK=>?_)
          ·skip
           refine gO Try.func22 #[.slice ak m.length al] ?_
           with_reducible refine (zAy.calls _ _ m ae _ ?side1 ?side2 A103.out).mono ?_
           (case side1=>exact cS ax.out)
           (case side2=>exact HC0_0.out)
           rintro e kc ⟨v577,rfl,ho0,hb⟩
           refine ⟨_,rfl,?_⟩
           have ba:=qK (Kd.zAH ho0 bZ)
           replace a:=bQ a hb
           replace q:=bQ q hb
           replace HB:=hQ hb
           (try clear hb)
           (try clear hb2)
           (try clear hk)
           (try clear hi)
           (try clear ho0)
           obtain ⟨jx,jy,je⟩:=Kd.zq ba.out
           (first|subst je|(injection je with f1_ f2_ f3_;have f4_:=f1_.symm;have f5_:=f3_.symm;clear f1_ f2_ f3_;subst f4_;subst f5_))
           refine hK.out _ _ ⟨(zB a.out 0).trans rfl,(zB a.out 1).trans rfl,(zB a.out 2).trans rfl⟩ (fun bb=>?_)
           clear hK K
           refine nP ?_
           refine pP 5 (some 134) HT_ ?_
           refine oP 6 (some 26) HT_ (fun K hK=>?_)
           refine zAK ?hg (N:=26) ?hd (cs:=#[.slice none 0 0,.int .i64 0,.int .i64 0]) (t:=26) ?hr ?_;(case hd=>rfl);(case hg=>rfl);(case hr=>first|(go_simp;done)|(go_simp;rfl))
           intro x hg m4 bd hb
           replace ba:=rB ba hb
           have af:=qK (bd)
           have hf:=qK (gS hg:w.heap.size≤x)
           have hh:=qK (gS hg:w.heap.size≤x)
           replace HB:=hQ hb
           have y:=qK (nL hg a.out:ah≠x)
           have au:=qK (nG hg a.out:x≠ah)
           replace a:=bQ a hb
           have ad:=qK (nL hg q.out:am≠x)
           have av:=qK (nG hg q.out:x≠am)
           replace q:=bQ q hb
           clear hb bd hg
           refine hK.out _ _ ⟨(zB a.out 0).trans rfl,(zB a.out 1).trans rfl,(zB a.out 2).trans rfl⟩ (fun bb=>?_)
           clear hK K
           refine nP ?_
           exact zAe (by simp only [zy,Act.put,List.setIfInBounds_toArray,List.set_cons_zero,List.set_cons_succ]) (jd (.slice jx ae.length jy,x) _ ⟨bb,(rS ba.out),(bX a.out),(bX q.out),(bX af.out),hf.out,hh.out,y.out,au.out,ad.out,av.out,bA⟩)
          ·skip
           refine zAK ?hg (N:=26) ?hd (cs:=#[.slice none 0 0,.int .i64 0,.int .i64 0]) (t:=26) ?hr ?_;(case hd=>rfl);(case hg=>rfl);(case hr=>first|(go_simp;done)|(go_simp;rfl))
           intro x hg kc bd hb
           have af:=qK (bd)
           have hf:=qK (gS hg:w.heap.size≤x)
           have hh:=qK (gS hg:w.heap.size≤x)
           replace HB:=hQ hb
           have y:=qK (nL hg a.out:ah≠x)
           have au:=qK (nG hg a.out:x≠ah)
           replace a:=bQ a hb
           have ad:=qK (nL hg q.out:am≠x)
           have av:=qK (nG hg q.out:x≠am)
           replace q:=bQ q hb
           clear hb bd hg
           refine hK.out _ _ ⟨(zB a.out 0).trans rfl,(zB a.out 1).trans rfl,(zB a.out 2).trans rfl⟩ (fun bb=>?_)
           clear hK K
           refine nP ?_
           refine oP 2 (some 131) HT_ (fun K hK=>?_)
           refine gO Try.func22 #[.slice ak m.length al] ?_
           with_reducible refine (zAy.calls _ _ m ae _ ?side1 ?side2 A103.out).mono ?_
           (case side1=>exact cS ax.out)
           (case side2=>exact HC0_0.out)
           rintro e m5 ⟨v577,rfl,ho0,hb⟩
           refine ⟨_,rfl,?_⟩
           have ba:=qK (Kd.zAH ho0 bZ)
           replace a:=bQ a hb
           replace q:=bQ q hb
           replace af:=bQ af hb
           replace HB:=hQ hb
           (try clear hb)
           (try clear hb2)
           (try clear hk)
           (try clear hi)
           (try clear ho0)
           obtain ⟨jz,j6,jf⟩:=Kd.zq ba.out
           (first|subst jf|(injection jf with f1_ f2_ f3_;have f4_:=f1_.symm;have f5_:=f3_.symm;clear f1_ f2_ f3_;subst f4_;subst f5_))
           refine hK.out _ _ ⟨(zB a.out 0).trans rfl,(zB a.out 1).trans rfl,(zB a.out 2).trans rfl⟩ (fun bb=>?_)
           clear hK K
           refine nP ?_
           refine pP 5 (some 134) HT_ ?_
           exact zAe (by simp only [zy,Act.put,List.setIfInBounds_toArray,List.set_cons_zero,List.set_cons_succ]) (jd (.slice jz ae.length j6,x) _ ⟨bb,(rS ba.out),(bX a.out),(bX q.out),(bX af.out),hf.out,hh.out,y.out,au.out,ad.out,av.out,bA⟩)
         rintro ⟨v577,x⟩ d5 ⟨hS_,h0_,h1_,h2_,h3_,h4_,h5_,h6_,h7_,h8_,h9_,h10_⟩
         have n0_:zA (Kd.R k50 50 d5 w.heap.size (fun _=>True) v577 ae):=⟨h0_⟩
         have n1_:zA (d5.heap[ah]? = some (.cells #[.slice ak m.length al,.int .i64 l,.int .i64 d] 26 (0,0))):=⟨h1_⟩
         have n2_:zA (d5.heap[am]? = some (.cells #[.int .i64 u,.int .i64 s] 24 (0,0))):=⟨h2_⟩
         have n3_:zA (d5.heap[x]? = some (.cells #[.slice none 0 0,.int .i64 0,.int .i64 0] 26 (0,0))):=⟨h3_⟩
         have n4_:zA (w.heap.size≤x):=⟨h4_⟩
         have n5_:zA (w.heap.size≤x):=⟨h5_⟩
         have n6_:zA (ah≠x):=⟨h6_⟩
         have n7_:zA (x≠ah):=⟨h7_⟩
         have n8_:zA (am≠x):=⟨h8_⟩
         have n9_:zA (x≠am):=⟨h9_⟩
         have n10_:zA (Below w.heap.size w d5):=⟨h10_⟩
         clear a
         clear q
         clear HB
         clear h0_ h1_ h2_ h3_ h4_ h5_ h6_ h7_ h8_ h9_ h10_
         have ba:=n0_
         have a:=n1_
         have q:=n2_
         have af:=n3_
         have hf:=n4_
         have hh:=n5_
         have y:=n6_
         have au:=n7_
         have ad:=n8_
         have av:=n9_
         have HB:=n10_
         clear n0_ n1_ n2_ n3_ n4_ n5_ n6_ n7_ n8_ n9_ n10_
         have bb:d5.cell? ⟨ah,0,none⟩=some (.slice ak m.length al)∧d5.cell? ⟨ah,1,none⟩=some (.int .i64 l)∧d5.cell? ⟨ah,2,none⟩=some (.int .i64 d):=hS_
         obtain ⟨bh,ay,jg⟩:=Kd.zq ba.out
         (first|subst jg|(injection jg with f1_ f2_ f3_;have f4_:=f1_.symm;have f5_:=f3_.symm;clear f1_ f2_ f3_;subst f4_;subst f5_))
         refine zAe (a':=?_) ?_ ?_
         rotate_left
         ·simp only [zy,Act.put,List.setIfInBounds_toArray,List.set_cons_zero,List.set_cons_succ]
          rfl
         refine oP 7 none HT_ (fun K hK=>?_)
         have mj:d5.cell? ⟨x,0,none⟩=some (.slice none 0 0):=(zB af.out 0).trans rfl
         have kv:=zW af.out 0
         have kd:=y.out
         have ke:=ad.out
         have kf:=au.out
         have kg:=av.out
         have ml:d5.cell? ⟨x,1,none⟩=some (.int .i64 0):=(zB af.out 1).trans rfl
         have kw:=zW af.out 1
         have kh:=y.out
         have ki:=ad.out
         have kj:=au.out
         have kk:=av.out
         have mm:d5.cell? ⟨x,2,none⟩=some (.int .i64 0):=(zB af.out 2).trans rfl
         have kx:=zW af.out 2
         have kl:=y.out
         have km:=ad.out
         have kn:=au.out
         have ko:=av.out
         refine zB0 (w1:=?_) (by rfl) rfl ?_ ?_
         rotate_left
         ·go_simp
          rfl
         refine hK.out _ _ ⟨((cell_far (p:=⟨x,_,none⟩) y.out _).trans (((cell_far (p:=⟨x,_,none⟩) y.out _).trans (((cell_far (p:=⟨x,_,none⟩) y.out _).trans (bb.1)))))),((cell_far (p:=⟨x,_,none⟩) y.out _).trans (((cell_far (p:=⟨x,_,none⟩) y.out _).trans (((cell_far (p:=⟨x,_,none⟩) y.out _).trans (bb.2.1)))))),((cell_far (p:=⟨x,_,none⟩) y.out _).trans (((cell_far (p:=⟨x,_,none⟩) y.out _).trans (((cell_far (p:=⟨x,_,none⟩) y.out _).trans (bb.2.2))))))⟩ (fun bb=>?_)
         clear hK K
         refine zBZ (zA8 HT_.out (by kernel_rfl)) ?_
         go_upto_region 17 with (fail)
         go_cut [157] (fun v157 wc=>∃ (kq:Nat) (en:Bool),v157= .bool en∧zA (zFZ.j4 kq l1 a5 a6 aj en m l d u s ae l d=some r)∧zA (kq≤hp)∧zA (Kd.R k50 50 wc w.heap.size (fun _=>True) (.slice bh ae.length ay) ae)∧zA (wc.heap[ah]? = some (.cells #[(.slice ak m.length al),.int .i64 l,.int .i64 d] 26 (0,0)))∧zA (wc.heap[am]? = some (.cells #[.int .i64 u,.int .i64 s] 24 (0,0)))∧zA (wc.heap[x]? = some (.cells #[(.slice bh ae.length ay),.int .i64 l,.int .i64 d] 26 (0,0)))∧zA (Below w.heap.size w wc))
         case first =>
          as_aux_lemma =>
          have H:=im.out
          clear im
          by_cases c114:a5≥0
          rotate_left
          ·as_aux_lemma =>
           rw [if_neg c114] at H
           have d6:decide (0≤a5)=false:=decide_eq_false c114
           clear c114
           (first|rw [d6]|(simp only [zBS,zBg];rw [d6])|skip)
           have H':=zA.mk H
           clear H
           go_wp2
           go_meet
           case rel=>exact ⟨_,(false),sA,H',⟨by have:=bg.out;have:=bs.out;have:=em.out;have:=g7.out;first|omega|exact Nat.le_refl _⟩,⟨by (try simp only [ab]);(with_reducible repeat (first|apply Kd.zAp|apply Kd.zAn|apply Kd.zAv));exact Kd.zR (Kd.zM (p:=⟨x,2,none⟩) (Kd.zM (p:=⟨x,1,none⟩) (Kd.zM (p:=⟨x,0,none⟩) (Kd.ze ba.out af.out (by decide)) (fun _ hk=>hk.2) (.slice bh ae.length ay)) (fun _ hk=>hk.2) (.int .i64 l)) (fun _ hk=>hk.2) (.int .i64 d)) (fun _ hk=>trivial)⟩,⟨by (try simp only [ab]);(repeat with_reducible first|apply zD|apply zF|apply zC);refine zO ?_ y.out _;(repeat with_reducible first|apply zD|apply zF|apply zC);refine zO ?_ y.out _;(repeat with_reducible first|apply zD|apply zF|apply zC);refine zO ?_ y.out _;(repeat with_reducible first|apply zD|apply zF|apply zC);exact a.out⟩,⟨by (try simp only [ab]);(repeat with_reducible first|apply zD|apply zF|apply zC);refine zO ?_ ad.out _;(repeat with_reducible first|apply zD|apply zF|apply zC);refine zO ?_ ad.out _;(repeat with_reducible first|apply zD|apply zF|apply zC);refine zO ?_ ad.out _;(repeat with_reducible first|apply zD|apply zF|apply zC);exact q.out⟩,⟨by (try simp only [ab]);(repeat with_reducible first|apply zD|apply zF|apply zC);refine zP (cs:=#[.slice bh ae.length ay,.int .i64 l,.int .i64 0]) ?_ 2 _ rfl;(repeat with_reducible first|apply zD|apply zF|apply zC);refine zP (cs:=#[.slice bh ae.length ay,.int .i64 0,.int .i64 0]) ?_ 1 _ rfl;(repeat with_reducible first|apply zD|apply zF|apply zC);refine zP (cs:=#[.slice none 0 0,.int .i64 0,.int .i64 0]) ?_ 0 _ rfl;(repeat with_reducible first|apply zD|apply zF|apply zC);exact af.out⟩,⟨bA⟩⟩
          rw [if_pos c114] at H
          have d6:decide (0≤a5)=true:=decide_eq_true c114
          clear c114
          (first|rw [d6]|(simp only [zBS,zBg];rw [d6])|skip)
          by_cases c115:a5 < (ae.length:Int)
          rotate_left
          ·as_aux_lemma =>
           rw [if_neg c115] at H
           have er:decide (a5 < (ae.length:Int))=false:=decide_eq_false c115
           (try (have c115r0:=er;simp only [ab] at c115r0))
           clear c115
           have H':=zA.mk H
           clear H
           have ky:=au.out
           have kz:=y.out
           have k0:=av.out
           have k1:=ad.out
           obtain ⟨hq,hs,ht,hu,hv,hx⟩:=xC3 af.out
           go_wp2
           go_meet
           case rel=>exact ⟨_,(false),sA,H',⟨by have:=bg.out;have:=bs.out;have:=em.out;have:=g7.out;first|omega|exact Nat.le_refl _⟩,⟨by (try simp only [ab]);(with_reducible repeat (first|apply Kd.zAp|apply Kd.zAn|apply Kd.zAv));exact Kd.zR (Kd.zM (p:=⟨x,2,none⟩) (Kd.zM (p:=⟨x,1,none⟩) (Kd.zM (p:=⟨x,0,none⟩) (Kd.ze ba.out af.out (by decide)) (fun _ hk=>hk.2) (.slice bh ae.length ay)) (fun _ hk=>hk.2) (.int .i64 l)) (fun _ hk=>hk.2) (.int .i64 d)) (fun _ hk=>trivial)⟩,⟨by (try simp only [ab]);(repeat with_reducible first|apply zD|apply zF|apply zC);refine zO ?_ y.out _;(repeat with_reducible first|apply zD|apply zF|apply zC);refine zO ?_ y.out _;(repeat with_reducible first|apply zD|apply zF|apply zC);refine zO ?_ y.out _;(repeat with_reducible first|apply zD|apply zF|apply zC);exact a.out⟩,⟨by (try simp only [ab]);(repeat with_reducible first|apply zD|apply zF|apply zC);refine zO ?_ ad.out _;(repeat with_reducible first|apply zD|apply zF|apply zC);refine zO ?_ ad.out _;(repeat with_reducible first|apply zD|apply zF|apply zC);refine zO ?_ ad.out _;(repeat with_reducible first|apply zD|apply zF|apply zC);exact q.out⟩,⟨by (try simp only [ab]);(repeat with_reducible first|apply zD|apply zF|apply zC);refine zP (cs:=#[.slice bh ae.length ay,.int .i64 l,.int .i64 0]) ?_ 2 _ rfl;(repeat with_reducible first|apply zD|apply zF|apply zC);refine zP (cs:=#[.slice bh ae.length ay,.int .i64 0,.int .i64 0]) ?_ 1 _ rfl;(repeat with_reducible first|apply zD|apply zF|apply zC);refine zP (cs:=#[.slice none 0 0,.int .i64 0,.int .i64 0]) ?_ 0 _ rfl;(repeat with_reducible first|apply zD|apply zF|apply zC);exact af.out⟩,⟨bA⟩⟩
          rw [if_pos c115] at H
          have er:decide (a5 < (ae.length:Int))=true:=decide_eq_true c115
          (try (have c115r0:=er;simp only [ab] at c115r0))
          clear c115
          by_cases c116:a6≥0
          rotate_left
          ·as_aux_lemma =>
           rw [if_neg c116] at H
           have hy:decide (0≤a6)=false:=decide_eq_false c116
           clear c116
           have H':=zA.mk H
           clear H
           have k2:=au.out
           have k3:=y.out
           have k4:=av.out
           have k5:=ad.out
           obtain ⟨hz,h0,h1,h2,h3,h4⟩:=xC3 af.out
           go_wp2
           go_meet
           case rel=>exact ⟨_,(false),sA,H',⟨by have:=bg.out;have:=bs.out;have:=em.out;have:=g7.out;first|omega|exact Nat.le_refl _⟩,⟨by (try simp only [ab]);(with_reducible repeat (first|apply Kd.zAp|apply Kd.zAn|apply Kd.zAv));exact Kd.zR (Kd.zM (p:=⟨x,2,none⟩) (Kd.zM (p:=⟨x,1,none⟩) (Kd.zM (p:=⟨x,0,none⟩) (Kd.ze ba.out af.out (by decide)) (fun _ hk=>hk.2) (.slice bh ae.length ay)) (fun _ hk=>hk.2) (.int .i64 l)) (fun _ hk=>hk.2) (.int .i64 d)) (fun _ hk=>trivial)⟩,⟨by (try simp only [ab]);(repeat with_reducible first|apply zD|apply zF|apply zC);refine zO ?_ y.out _;(repeat with_reducible first|apply zD|apply zF|apply zC);refine zO ?_ y.out _;(repeat with_reducible first|apply zD|apply zF|apply zC);refine zO ?_ y.out _;(repeat with_reducible first|apply zD|apply zF|apply zC);exact a.out⟩,⟨by (try simp only [ab]);(repeat with_reducible first|apply zD|apply zF|apply zC);refine zO ?_ ad.out _;(repeat with_reducible first|apply zD|apply zF|apply zC);refine zO ?_ ad.out _;(repeat with_reducible first|apply zD|apply zF|apply zC);refine zO ?_ ad.out _;(repeat with_reducible first|apply zD|apply zF|apply zC);exact q.out⟩,⟨by (try simp only [ab]);(repeat with_reducible first|apply zD|apply zF|apply zC);refine zP (cs:=#[.slice bh ae.length ay,.int .i64 l,.int .i64 0]) ?_ 2 _ rfl;(repeat with_reducible first|apply zD|apply zF|apply zC);refine zP (cs:=#[.slice bh ae.length ay,.int .i64 0,.int .i64 0]) ?_ 1 _ rfl;(repeat with_reducible first|apply zD|apply zF|apply zC);refine zP (cs:=#[.slice none 0 0,.int .i64 0,.int .i64 0]) ?_ 0 _ rfl;(repeat with_reducible first|apply zD|apply zF|apply zC);exact af.out⟩,⟨bA⟩⟩
          rw [if_pos c116] at H
          have hy:decide (0≤a6)=true:=decide_eq_true c116
          clear c116
          by_cases c117:0≤a5
          rotate_left
          ·rw [if_neg c117] at H
           exact absurd H (by simp)
          rw [if_pos c117] at H
          have iq:decide (0≤a5)=true:=decide_eq_true c117
          clear c117
          have H':=zA.mk H
          clear H
          have k6:=au.out
          have k7:=y.out
          have k8:=av.out
          have k9:=ad.out
          obtain ⟨h5,h6,h7,h8,h9,ia⟩:=xC3 af.out
          have ib:0≤(a5:Int):=dA
          have ic:a5 < (ae.length:Int):=dA
          obtain ⟨bq,e580,bi,bj,bk,bl⟩:=zA9 (Kd.zJ ba.out).2.2 a5 ib ic
          cases e580
          have a1:bq.block≠x:=Kd.zBP (Kd.zA6 ba.out af.out (by decide))
          have a7:bq.block≠x:=Kd.zBP (Kd.zA6 ba.out af.out (by decide))
          have a8:bq.block≠x:=Kd.zBP (Kd.zA6 ba.out af.out (by decide))
          replace bi:=(cell_far (p:=⟨x,0,none⟩) (by first|(rw [add_block];exact a1)|(show (Addr.add _ _).block≠_;rw [add_block];exact a1)|exact a1) (.slice (some bq) ae.length ay)).trans bi
          replace bj:=(cell_far (p:=⟨x,0,none⟩) (by first|(rw [add_block];exact a1)|(show (Addr.add _ _).block≠_;rw [add_block];exact a1)|exact a1) (.slice (some bq) ae.length ay)).trans bj
          replace bk:=(cell_far (p:=⟨x,0,none⟩) (by first|(rw [add_block];exact a1)|(show (Addr.add _ _).block≠_;rw [add_block];exact a1)|exact a1) (.slice (some bq) ae.length ay)).trans bk
          replace bl:=(cell_far (p:=⟨x,0,none⟩) (by first|(rw [add_block];exact a1)|(show (Addr.add _ _).block≠_;rw [add_block];exact a1)|exact a1) (.slice (some bq) ae.length ay)).trans bl
          replace bi:=(cell_far (p:=⟨x,1,none⟩) (by first|(rw [add_block];exact a7)|(show (Addr.add _ _).block≠_;rw [add_block];exact a7)|exact a7) (.int .i64 l)).trans bi
          replace bj:=(cell_far (p:=⟨x,1,none⟩) (by first|(rw [add_block];exact a7)|(show (Addr.add _ _).block≠_;rw [add_block];exact a7)|exact a7) (.int .i64 l)).trans bj
          replace bk:=(cell_far (p:=⟨x,1,none⟩) (by first|(rw [add_block];exact a7)|(show (Addr.add _ _).block≠_;rw [add_block];exact a7)|exact a7) (.int .i64 l)).trans bk
          replace bl:=(cell_far (p:=⟨x,1,none⟩) (by first|(rw [add_block];exact a7)|(show (Addr.add _ _).block≠_;rw [add_block];exact a7)|exact a7) (.int .i64 l)).trans bl
          replace bi:=(cell_far (p:=⟨x,2,none⟩) (by first|(rw [add_block];exact a8)|(show (Addr.add _ _).block≠_;rw [add_block];exact a8)|exact a8) (.int .i64 d)).trans bi
          replace bj:=(cell_far (p:=⟨x,2,none⟩) (by first|(rw [add_block];exact a8)|(show (Addr.add _ _).block≠_;rw [add_block];exact a8)|exact a8) (.int .i64 d)).trans bj
          replace bk:=(cell_far (p:=⟨x,2,none⟩) (by first|(rw [add_block];exact a8)|(show (Addr.add _ _).block≠_;rw [add_block];exact a8)|exact a8) (.int .i64 d)).trans bk
          replace bl:=(cell_far (p:=⟨x,2,none⟩) (by first|(rw [add_block];exact a8)|(show (Addr.add _ _).block≠_;rw [add_block];exact a8)|exact a8) (.int .i64 d)).trans bl
          clear a1
          clear a7
          clear a8
          replace ib:=eq_true ib
          replace ic:=eq_true ic
          go_wp2
          go_meet
          case rel=>exact ⟨_,(decide (a6≤((zG ae a5).f2))),sA,H',⟨by have:=bg.out;have:=bs.out;have:=em.out;have:=g7.out;first|omega|exact Nat.le_refl _⟩,⟨by (try simp only [ab]);(with_reducible repeat (first|apply Kd.zAp|apply Kd.zAn|apply Kd.zAv));exact Kd.zR (Kd.zM (p:=⟨x,2,none⟩) (Kd.zM (p:=⟨x,1,none⟩) (Kd.zM (p:=⟨x,0,none⟩) (Kd.ze ba.out af.out (by decide)) (fun _ hk=>hk.2) (.slice (some bq) ae.length ay)) (fun _ hk=>hk.2) (.int .i64 l)) (fun _ hk=>hk.2) (.int .i64 d)) (fun _ hk=>trivial)⟩,⟨by (try simp only [ab]);(repeat with_reducible first|apply zD|apply zF|apply zC);refine zO ?_ y.out _;(repeat with_reducible first|apply zD|apply zF|apply zC);refine zO ?_ y.out _;(repeat with_reducible first|apply zD|apply zF|apply zC);refine zO ?_ y.out _;(repeat with_reducible first|apply zD|apply zF|apply zC);exact a.out⟩,⟨by (try simp only [ab]);(repeat with_reducible first|apply zD|apply zF|apply zC);refine zO ?_ ad.out _;(repeat with_reducible first|apply zD|apply zF|apply zC);refine zO ?_ ad.out _;(repeat with_reducible first|apply zD|apply zF|apply zC);refine zO ?_ ad.out _;(repeat with_reducible first|apply zD|apply zF|apply zC);exact q.out⟩,⟨by (try simp only [ab]);(repeat with_reducible first|apply zD|apply zF|apply zC);refine zP (cs:=#[.slice (some bq) ae.length ay,.int .i64 l,.int .i64 0]) ?_ 2 _ rfl;(repeat with_reducible first|apply zD|apply zF|apply zC);refine zP (cs:=#[.slice (some bq) ae.length ay,.int .i64 0,.int .i64 0]) ?_ 1 _ rfl;(repeat with_reducible first|apply zD|apply zF|apply zC);refine zP (cs:=#[.slice none 0 0,.int .i64 0,.int .i64 0]) ?_ 0 _ rfl;(repeat with_reducible first|apply zD|apply zF|apply zC);exact af.out⟩,⟨bA⟩⟩
         case rest =>
          as_aux_lemma =>
          clear im
          try clear c1
          try clear c2
          try clear p2
          try clear c3
          try clear c4
          try clear c5
          try clear p5
          try clear q5
          try clear hx5
          try clear c6
          try clear c7
          try clear c8
          try clear c9
          try clear c10
          try clear c11
          try clear c12
          try clear c16
          try clear c18
          try clear c19
          try clear bm
          try clear c20
          try clear c21
          try clear c22
          try clear c25
          try clear ek
          try clear c26
          try clear c33
          try clear c39
          try clear c44
          try clear c47
          try clear c49
          try clear c58
          try clear p58
          try clear q58
          try clear kp
          try clear c63
          try clear bp
          try clear ev
          try clear c64
          try clear ew
          try clear ey
          try clear c65
          try clear ez
          try clear c66
          try clear c68
          try clear bu
          try clear c69
          try clear fe
          try clear c71
          try clear c74
          try clear d7
          try clear ha
          try clear c75
          try clear hc
          try clear he
          try clear c76
          try clear c77
          try clear c78
          try clear c83
          try clear c88
          try clear c93
          try clear c98
          try clear c114
          try clear d6
          try clear c115
          try clear er
          try clear c116
          try clear hy
          try clear c117
          try clear iq
          try clear c118
          try clear c119
          try clear c121
          try clear c122
          try clear c124
          try clear c125
          try clear e4
          try clear e5
          try clear e6
          try clear h5
          try clear h6
          try clear h7
          try clear hz
          try clear h0
          try clear h1
          try clear hq
          try clear hs
          try clear ht
          try clear ce
          try clear cf
          try clear cg
          try clear ck
          try clear cl
          try clear cm
          try clear cq
          try clear cr
          try clear ct
          try clear cx
          try clear cy
          try clear cz
          try clear dc
          try clear dd
          try clear de
          try clear di
          try clear dj
          try clear dk
          try clear dp
          try clear dq
          try clear dr
          try clear dw
          try clear dx
          try clear dy
          try clear b2
          try clear b3
          try clear b4
          try clear b8
          try clear b9
          try clear ca
          try clear bv
          try clear bw
          try clear bx
          try clear d8
          try clear d9
          try clear ea
          try clear ee
          try clear ef
          try clear eg
          try clear gv
          try clear gw
          try clear gx
          try clear g1
          try clear g2
          try clear g3
          try clear gi
          try clear gj
          try clear gk
          try clear gp
          try clear gq
          try clear gr
          try clear f6
          try clear f7
          try clear f8
          try clear gc
          try clear gd
          try clear ge
          try clear fr
          try clear fs
          try clear ft
          try clear fx
          try clear fy
          try clear fz
          try clear fl
          try clear fm
          try clear fn
          try clear e7
          try clear e8
          try clear e9
          try clear h8
          try clear h9
          try clear ia
          try clear h2
          try clear h3
          try clear h4
          try clear hu
          try clear hv
          try clear hx
          try clear ch
          try clear ci
          try clear cj
          try clear cn
          try clear co
          try clear cp
          try clear cu
          try clear cv
          try clear cw
          try clear c0
          try clear da
          try clear db
          try clear df
          try clear dg
          try clear dh
          try clear dl
          try clear dm
          try clear dn
          try clear dt
          try clear du
          try clear dv
          try clear dz
          try clear d0
          try clear d1
          try clear b5
          try clear b6
          try clear b7
          try clear cb
          try clear cc
          try clear cd
          try clear bz
          try clear b0
          try clear b1
          try clear eb
          try clear ec
          try clear ed
          try clear eh
          try clear ei
          try clear ej
          try clear gy
          try clear gz
          try clear g0
          try clear g4
          try clear g5
          try clear g6
          try clear gl
          try clear gm
          try clear gn
          try clear gs
          try clear gt
          try clear gu
          try clear f9
          try clear ga
          try clear gb
          try clear gf
          try clear gg
          try clear gh
          try clear fu
          try clear fv
          try clear fw
          try clear f3
          try clear f4
          try clear f5
          try clear fo
          try clear fp
          try clear fq
          try clear bi
          try clear bj
          try clear bk
          try clear bl
          try clear p2
          try clear ib
          try clear ic
          obtain ⟨kq,en,rfl,HA,jh,ac,a,q,af,HB⟩:=hcut
          cases kq with
          | zero=>exact absurd HA.out (by simp [zFZ.j4])
          | succ hj =>
           have H:=HA.out
           clear HA
           simp only [zFZ.j4] at H
           have io:=zA.mk H
           clear H
           go_upto_if 157 with (fail)
           go_cut [] (fun wc=>∃ (kq:Nat) (aa:List (S50)) (u580000:Value),zA (zFZ.j5 kq l1 aj m l d u s aa l d=some r)∧zA (kq≤hj)∧zA (Kd.R k50 50 wc w.heap.size (fun _=>True) u580000 aa)∧zA (wc.heap[ah]? = some (.cells #[(.slice ak m.length al),.int .i64 l,.int .i64 d] 26 (0,0)))∧zA (wc.heap[am]? = some (.cells #[.int .i64 u,.int .i64 s] 24 (0,0)))∧zA (wc.heap[x]? = some (.cells #[u580000,.int .i64 l,.int .i64 d] 26 (0,0)))∧zA (Below w.heap.size w wc))
           case first =>
            as_aux_lemma =>
            have H:=io.out
            clear io
            by_cases c128:en=true
            rotate_left
            ·replace c128:=Bool.eq_false_iff.mpr c128
             subst c128
             have H1:(zFZ.j5 hj l1 aj m l d u s ae l d)=some r:=by rw [if_neg (show ¬ (false=true) by decide)] at H;exact H
             clear H
             have H:=H1
             clear H1
             have H':=zA.mk H
             clear H
             go_wp2
             go_meet
             case rel=>exact ⟨_,(ae),(.slice bh ae.length ay),H',⟨by have:=bg.out;have:=bs.out;have:=em.out;have:=g7.out;have:=jh.out;first|omega|exact Nat.le_refl _⟩,⟨by (try simp only [ab]);(with_reducible repeat (first|apply Kd.zAp|apply Kd.zAn|apply Kd.zAv));exact ac.out⟩,⟨by (try simp only [ab]);(repeat with_reducible first|apply zD|apply zF|apply zC);exact a.out⟩,⟨by (try simp only [ab]);(repeat with_reducible first|apply zD|apply zF|apply zC);exact q.out⟩,⟨by (try simp only [ab]);(repeat with_reducible first|apply zD|apply zF|apply zC);exact af.out⟩,⟨bA⟩⟩
            subst c128
            have H1:(if 0≤a5 then (if a5 < (ae.length:Int) then (zFZ.j5 hj l1 aj m l d u s (ae.set (a5:Int).toNat (⟨(⟨(zG ae a5).f0.f0,(zG ae a5).f0.f1⟩:S24),(zG ae a5).f1,a6⟩:S50)) l d) else (none)) else (none))=some r:=by rw [if_pos rfl] at H;exact H
            clear H
            have H:=H1
            clear H1
            by_cases c129:0≤a5
            rotate_left
            ·rw [if_neg c129] at H
             exact absurd H (by simp)
            rw [if_pos c129] at H
            have ie:decide (0≤a5)=true:=decide_eq_true c129
            clear c129
            (first|rw [ie]|(simp only [zBS,zBg];rw [ie])|skip)
            by_cases c130:a5 < (ae.length:Int)
            rotate_left
            ·rw [if_neg c130] at H
             exact absurd H (by simp)
            rw [if_pos c130] at H
            have ir:decide (a5 < (ae.length:Int))=true:=decide_eq_true c130
            (try (have c130r0:=ir;simp only [ab] at c130r0))
            clear c130
            obtain ⟨iz,fg⟩ : ∃ y_:List (S50),y_=(ae.set (a5:Int).toNat (⟨(⟨(zG ae a5).f0.f0,(zG ae a5).f0.f1⟩:S24),(zG ae a5).f1,a6⟩:S50)):=⟨_,rfl⟩
            replace H:(zFZ.j5 hj l1 aj m l d u s iz l d)=some r:=by first|(rw [fg];with_reducible exact H)|(have H2_:=(Option.bind_some _ _).symm.trans H;rw [fg];with_reducible exact H2_)|(have H2_:=(Option.bind_some _ _).symm.trans H;with_reducible exact H2_)|with_reducible exact H|(rw [fg];exact H)|exact H
            have j7:=zA.mk fg
            clear fg
            have H':=zA.mk H
            clear H
            have la:=au.out
            have lb:=y.out
            have lc:=av.out
            have ld:=ad.out
            obtain ⟨i0,i1,i2,i3,i4,i5⟩:=xC3 af.out
            have ig:0≤(a5:Int):=dA
            have ih:(a5:Int) < ((ae.length:Int):Int):=dA
            obtain ⟨go131,mo,ji,jj,gl131,cl131,jk⟩:=Kd.zFB ac.out (by omega)
            (first|cases ji|(injection ji with ea_ en_ ec_;(first|subst ea_|(injection ea_ with ea_;subst ea_));subst ec_;clear en_))
            have GB131:=zA.mk jj
            have GG131:=zA.mk jk
            clear jj gl131 jk
            obtain ⟨ce131,jr,hM131,es,et⟩:=Kd.R_elem ac.out z50 (a5:Int) ig ih
            obtain rfl:=zEN hM131
            have jm:wc.cell? ⟨go131,(a5:Int).toNat*4,none⟩=some (.int .i64 ((zG ae a5).f0.f0)):=es 0 _ rfl
            have jn:wc.cell? ⟨go131,(a5:Int).toNat*4+1,none⟩=some (.int .i64 ((zG ae a5).f0.f1)):=es 1 _ rfl
            have jo:wc.cell? ⟨go131,(a5:Int).toNat*4+2,none⟩=some (.int .i64 ((zG ae a5).f1)):=es 2 _ rfl
            have jp:wc.cell? ⟨go131,(a5:Int).toNat*4+3,none⟩=some (.int .i64 ((zG ae a5).f2)):=es 3 _ rfl
            have kr:wc.frozen? ⟨go131,(a5:Int).toNat*4,none⟩=false:=et 0
            have ks:wc.frozen? ⟨go131,(a5:Int).toNat*4+1,none⟩=false:=et 1
            have kt:wc.frozen? ⟨go131,(a5:Int).toNat*4+2,none⟩=false:=et 2
            have ku:wc.frozen? ⟨go131,(a5:Int).toNat*4+3,none⟩=false:=et 3
            clear jr es et hM131
            replace ig:=eq_true ig
            replace ih:=eq_true ih
            have jl:=zA.mk (show Kd.R k50 50 wc w.heap.size (fun _=>True) (.slice (some ⟨go131,0,none⟩) ae.length ay) ae from (rS ac.out))
            obtain ⟨ce135,it,hM135,ii,iu⟩:=Kd.R_elem jl.out z50 (a5:Int) (dA) (by have h_:(a5:Int) < ((ae.length:Int):Int):=dA;first|exact h_|(have e_:=(Kd.zJ ac.out).1;omega)|simpa using h_)
            obtain rfl:=zEN hM135
            have ip:=Kd.R_seg jl.out (a5:Int) (dA) (by have h_:(a5:Int) < ((ae.length:Int):Int):=dA;first|exact h_|(have e_:=(Kd.zJ ac.out).1;omega)|simpa using h_) (seg:=[.int .i64 a6]) (j:=3) it ii (show 4≤4 from by decide) (x':=(⟨(⟨(zG ae a5).f0.f0,(zG ae a5).f0.f1⟩:S24),(zG ae a5).f1,a6⟩:S50)) (zDe _ _ _ (⟨(⟨(zG ae a5).f0.f0,(zG ae a5).f0.f1⟩:S24),(zG ae a5).f1,a6⟩:S50) ) (fun _ hk=>hk)
            have ij:=ii 3 _ rfl
            (try simp only [show (k50).sz=4 from rfl,Nat.mul_one,Nat.add_zero] at ij)
            have jq:=iu 3
            (try simp only [show (k50).sz=4 from rfl,Nat.mul_one,Nat.add_zero] at jq)
            clear it ii iu hM135
            go_wp2_with (first|((with_reducible refine zEz (t:=3) (p:=163) rfl ?_);refine zEw (t:=3) (p:=163) (v:=?vo_w136) (w1:=(wc.setCell ⟨go131,(a5:Int).toNat*4+3,none⟩ (.int .i64 a6))) ?hg ?ho ?hn ?hr ?_;(case ho=>rfl);(case hg=>rfl);(case hn=>rfl);(case hr=>first|(go_simp;done)|(go_simp;rfl));intro i6 hw;have hg:wc.grownBy i6 (some go131):=(by rw [hw];exact ip.2);have hp_:Kd.R k50 50 i6 w.heap.size (fun _=>True) (.slice (some ⟨go131,0,none⟩) ae.length ay) iz:=(by rw [hw,j7.out];exact ip.1);clear ip;replace a:=qK (zA0 (g:=ah) (o:=.cells #[.slice ak m.length al,.int .i64 l,.int .i64 d] 26 (0,0)) (bX a.out) hg (Kd.zA6 ac.out a.out (by decide)));replace q:=qK (zA0 (g:=am) (o:=.cells #[.int .i64 u,.int .i64 s] 24 (0,0)) (bX q.out) hg (Kd.zA6 ac.out q.out (by decide)));replace af:=qK (zA0 (g:=x) (o:=.cells #[.slice (some ⟨go131,0,none⟩) ae.length ay,.int .i64 l,.int .i64 d] 26 (0,0)) (bX af.out) hg (Kd.zA6 ac.out af.out (by decide)));replace ac:=qK (hp_);replace HB:=qK ((by rw [hw];exact zBO (HB.out) GB131.out:Below w.heap.size w i6));clear hg hw hp_))
            go_meet
            case rel=>exact ⟨_,(iz),(.slice (some ⟨go131,0,none⟩) ae.length ay),H',⟨by have:=bg.out;have:=bs.out;have:=em.out;have:=g7.out;have:=jh.out;first|omega|exact Nat.le_refl _⟩,⟨by (try simp only [ab]);(with_reducible repeat (first|apply Kd.zAp|apply Kd.zAn|apply Kd.zAv));exact ac.out⟩,⟨by (try simp only [ab]);(repeat with_reducible first|apply zD|apply zF|apply zC);exact a.out⟩,⟨by (try simp only [ab]);(repeat with_reducible first|apply zD|apply zF|apply zC);exact q.out⟩,⟨by (try simp only [ab]);(repeat with_reducible first|apply zD|apply zF|apply zC);exact af.out⟩,⟨bA⟩⟩
           case rest =>
            as_aux_lemma =>
            clear io
            try clear c1
            try clear p1
            try clear q1
            try clear hx1
            try clear c2
            try clear p2
            try clear c3
            try clear c4
            try clear c5
            try clear p5
            try clear q5
            try clear hx5
            try clear c6
            try clear c7
            try clear c8
            try clear c9
            try clear c10
            try clear c11
            try clear c12
            try clear c13
            try clear p13
            try clear q13
            try clear m6
            try clear m7
            try clear c16
            try clear c18
            try clear c19
            try clear bm
            try clear c20
            try clear c21
            try clear c22
            try clear c25
            try clear ek
            try clear c26
            try clear c33
            try clear c39
            try clear c44
            try clear c47
            try clear c49
            try clear c58
            try clear p58
            try clear q58
            try clear kp
            try clear c63
            try clear bp
            try clear ev
            try clear c64
            try clear ew
            try clear ey
            try clear c65
            try clear ez
            try clear c66
            try clear c68
            try clear bu
            try clear c69
            try clear fe
            try clear c71
            try clear c74
            try clear d7
            try clear ha
            try clear c75
            try clear hc
            try clear he
            try clear c76
            try clear c77
            try clear c78
            try clear c83
            try clear c88
            try clear c93
            try clear c98
            try clear c114
            try clear d6
            try clear c115
            try clear er
            try clear c116
            try clear hy
            try clear c117
            try clear iq
            try clear c118
            try clear c119
            try clear c121
            try clear c122
            try clear c124
            try clear c125
            try clear c128
            try clear c129
            try clear ie
            try clear c130
            try clear ir
            try clear c131
            try clear ig
            try clear ih
            try clear mq
            try clear mr
            try clear c132
            try clear c133
            try clear c135
            try clear ms
            try clear mt
            try clear e4
            try clear e5
            try clear e6
            try clear h5
            try clear h6
            try clear h7
            try clear hz
            try clear h0
            try clear h1
            try clear hq
            try clear hs
            try clear ht
            try clear i0
            try clear i1
            try clear i2
            try clear ce
            try clear cf
            try clear cg
            try clear ck
            try clear cl
            try clear cm
            try clear cq
            try clear cr
            try clear ct
            try clear cx
            try clear cy
            try clear cz
            try clear dc
            try clear dd
            try clear de
            try clear di
            try clear dj
            try clear dk
            try clear dp
            try clear dq
            try clear dr
            try clear dw
            try clear dx
            try clear dy
            try clear b2
            try clear b3
            try clear b4
            try clear b8
            try clear b9
            try clear ca
            try clear bv
            try clear bw
            try clear bx
            try clear d8
            try clear d9
            try clear ea
            try clear ee
            try clear ef
            try clear eg
            try clear gv
            try clear gw
            try clear gx
            try clear g1
            try clear g2
            try clear g3
            try clear gi
            try clear gj
            try clear gk
            try clear gp
            try clear gq
            try clear gr
            try clear f6
            try clear f7
            try clear f8
            try clear gc
            try clear gd
            try clear ge
            try clear fr
            try clear fs
            try clear ft
            try clear fx
            try clear fy
            try clear fz
            try clear fl
            try clear fm
            try clear fn
            try clear e7
            try clear e8
            try clear e9
            try clear h8
            try clear h9
            try clear ia
            try clear h2
            try clear h3
            try clear h4
            try clear hu
            try clear hv
            try clear hx
            try clear i3
            try clear i4
            try clear i5
            try clear ch
            try clear ci
            try clear cj
            try clear cn
            try clear co
            try clear cp
            try clear cu
            try clear cv
            try clear cw
            try clear c0
            try clear da
            try clear db
            try clear df
            try clear dg
            try clear dh
            try clear dl
            try clear dm
            try clear dn
            try clear dt
            try clear du
            try clear dv
            try clear dz
            try clear d0
            try clear d1
            try clear b5
            try clear b6
            try clear b7
            try clear cb
            try clear cc
            try clear cd
            try clear bz
            try clear b0
            try clear b1
            try clear eb
            try clear ec
            try clear ed
            try clear eh
            try clear ei
            try clear ej
            try clear gy
            try clear gz
            try clear g0
            try clear g4
            try clear g5
            try clear g6
            try clear gl
            try clear gm
            try clear gn
            try clear gs
            try clear gt
            try clear gu
            try clear f9
            try clear ga
            try clear gb
            try clear gf
            try clear gg
            try clear gh
            try clear fu
            try clear fv
            try clear fw
            try clear f3
            try clear f4
            try clear f5
            try clear fo
            try clear fp
            try clear fq
            try clear jm
            try clear jn
            try clear jo
            try clear jp
            try clear ij
            try clear bi
            try clear bj
            try clear bk
            try clear bl
            try clear ig
            try clear p2
            try clear p5
            try clear p58
            try clear ib
            try clear ih
            try clear q5
            try clear q58
            try clear ic
            obtain ⟨kq,aa,u580000,HA,mu,ac,a,q,af,HB⟩:=hcut
            cases kq with
            | zero=>exact absurd HA.out (by simp [zFZ.j5])
            | succ bn =>
             have H:=HA.out
             clear HA
             simp only [zFZ.j5] at H
             obtain ⟨an,be⟩ : ∃ j_:Int,(mx l u)=j_:=⟨_,rfl⟩
             replace H:((zZ.f bn aa (an) (mn d s)).bind fun g8=>(if g8=true then ((zCD.f bn aa (an) (mn d s) l1).bind fun bo=>(if bo.2=0 then (some (decide (bo.1≤aj))) else (some false))) else (some true)))=some r:=by first|(rw [be] at H;exact H)|(simp only [be] at H ⊢;exact H)
             have hji137_:(if l < u then u else l)=an:=be
             obtain ⟨aw,bf⟩ : ∃ j_:Int,(mn d s)=j_:=⟨_,rfl⟩
             replace H:((zZ.f bn aa (an) (aw)).bind fun g8=>(if g8=true then ((zCD.f bn aa (an) (aw) l1).bind fun bo=>(if bo.2=0 then (some (decide (bo.1≤aj))) else (some false))) else (some true)))=some r:=by first|(rw [bf] at H;exact H)|(simp only [bf] at H ⊢;exact H)
             have hji138_:(if s < d then s else d)=aw:=bf
             replace H:=Option.bind_eq_some_iff.mp H
             obtain ⟨g8,A1390,H⟩:=H
             replace H:(if g8=true then ((zCD.f bn aa (an) (aw) l1).bind fun bo=>(if bo.2=0 then (some (decide (bo.1≤aj))) else (some false))) else (some true))=some r:=H
             have A139:=zA.mk A1390
             clear A1390
             by_cases c140:g8=true
             rotate_left
             ·replace c140:=Bool.eq_false_iff.mpr c140
              subst c140
              have H1:(some true)=some r:=by rw [if_neg (show ¬ (false=true) by decide)] at H;exact H
              clear H
              have H:=H1
              clear H1
              obtain rfl:=Option.some.inj H
              have le:=ap.out
              have lf:=aq.out
              have lg:=y.out
              have lh:=au.out
              obtain ⟨_,_,_,_,_,_⟩:=xC3 a.out
              have li:=ad.out
              have lj:=av.out
              obtain ⟨_,_,_,_⟩:=xC2 q.out
              obtain ⟨_,_,_,_,_,_⟩:=xC3 af.out
              obtain ⟨hl,fh,j8⟩:=Kd.zq ac.out
              subst j8
              go_wp2_with (first|((with_reducible refine zH (f:=10) rfl ?_);refine zDu (some 179) rfl rfl Try.func10 (by kernel_rfl) rfl #[.agg #[.slice hl aa.length fh,.int .i64 an,.int .i64 aw]] rfl (by (try simp only [List.map_toArray,List.map_cons,List.map_nil]);first|done|(simp only [be,bf];rfl)|rfl|(simp only [List.length_drop,List.length_take];rfl)) ?_;(with_reducible refine (zZ.calls bn _ _ aa an aw false _ ?side1 ?side2 A139.out).mono ?_);(case side1=>refine (Kd.zJ (e:=50) (base:=w.heap.size) (ok:=fun k_=>True) (n:=aa.length) (c:=fh) ?_).2.2;exact (rS ((Kd.zR (Kd.zM (p:=⟨x,2,none⟩) (Kd.zM (p:=⟨x,1,none⟩) (Kd.ze ac.out af.out (by decide)) (fun _ hk=>hk.2) (.int .i64 an)) (fun _ hk=>hk.2) (.int .i64 aw)) (fun _ h_=>h_.1)))));(case side2=>exact (Kd.zJ ac.out).2.1);rintro e m8 ⟨rfl,hb⟩;refine ⟨_,rfl,?_⟩;replace ac:=qK (Kd.z8 (rS ((Kd.zR (Kd.zM (p:=⟨x,2,none⟩) (Kd.zM (p:=⟨x,1,none⟩) (Kd.ze ac.out af.out (by decide)) (fun _ hk=>hk.2) (.int .i64 an)) (fun _ hk=>hk.2) (.int .i64 aw)) (fun _ h_=>h_.1)))) hb);replace a:=qK (zT (g:=ah) (o:=.cells #[.slice ak m.length al,.int .i64 l,.int .i64 d] 26 (0,0)) (by (repeat with_reducible first|apply zD|apply zF|apply zC);refine zO ?_ y.out _;(repeat with_reducible first|apply zD|apply zF|apply zC);refine zO ?_ y.out _;(repeat with_reducible first|apply zD|apply zF|apply zC);exact a.out) hb);replace q:=qK (zT (g:=am) (o:=.cells #[.int .i64 u,.int .i64 s] 24 (0,0)) (by (repeat with_reducible first|apply zD|apply zF|apply zC);refine zO ?_ ad.out _;(repeat with_reducible first|apply zD|apply zF|apply zC);refine zO ?_ ad.out _;(repeat with_reducible first|apply zD|apply zF|apply zC);exact q.out) hb);replace af:=qK (zT (g:=x) (o:=.cells #[.slice hl aa.length fh,.int .i64 an,.int .i64 aw] 26 (0,0)) (by (repeat with_reducible first|apply zD|apply zF|apply zC);refine zP (cs:=#[.slice hl aa.length fh,.int .i64 an,.int .i64 d]) ?_ 2 _ rfl;(repeat with_reducible first|apply zD|apply zF|apply zC);refine zP (cs:=#[.slice hl aa.length fh,.int .i64 l,.int .i64 d]) ?_ 1 _ rfl;(repeat with_reducible first|apply zD|apply zF|apply zC);exact af.out) hb);replace HB:=hQ hb))
              go_ret
              exact ⟨by first|rfl|(simp [zAQ,zAP] <;> rfl)|(simp only [← be,← bf];first|rfl|(simp [zAQ,zAP] <;> rfl))|(simp [*,zAQ,zAP] <;> rfl),bA⟩
             subst c140
             have H1:((zCD.f bn aa (an) (aw) l1).bind fun bo=>(if bo.2=0 then (some (decide (bo.1≤aj))) else (some false)))=some r:=by rw [if_pos rfl] at H;exact H
             clear H
             have H:=H1
             clear H1
             replace H:=Option.bind_eq_some_iff.mp H
             obtain ⟨⟨i7,eu⟩,A1410,H⟩:=H
             replace H:(if eu=0 then (some (decide (i7≤aj))) else (some false))=some r:=H
             have A141:=zA.mk A1410
             clear A1410
             by_cases c142:eu=0
             rotate_left
             ·as_aux_lemma =>
              rw [if_neg c142] at H
              have js:(eu == 0)=false:=beq_eq_false_iff_ne.mpr c142
              have jt:(eu != 0)=true:=bne_iff_ne.mpr c142
              obtain rfl:=Option.some.inj H
              have lk:=ap.out
              have ll:=aq.out
              have lm:=y.out
              have ln:=au.out
              obtain ⟨_,_,_,_,_,_⟩:=xC3 a.out
              have lo:=ad.out
              have lp:=av.out
              obtain ⟨_,_,_,_⟩:=xC2 q.out
              obtain ⟨_,_,_,_,_,_⟩:=xC3 af.out
              obtain ⟨fi,e0,j9⟩:=Kd.zq ac.out
              subst j9
              go_wp2_with (first|((with_reducible refine zH (f:=10) rfl ?_);refine zDu (some 179) rfl rfl Try.func10 (by kernel_rfl) rfl #[.agg #[.slice fi aa.length e0,.int .i64 an,.int .i64 aw]] rfl (by (try simp only [List.map_toArray,List.map_cons,List.map_nil]);first|done|(simp only [be,bf];rfl)|rfl|(simp only [List.length_drop,List.length_take];rfl)) ?_;(with_reducible refine (zZ.calls bn _ _ aa an aw true _ ?side1 ?side2 A139.out).mono ?_);(case side1=>refine (Kd.zJ (e:=50) (base:=w.heap.size) (ok:=fun k_=>True) (n:=aa.length) (c:=e0) ?_).2.2;exact (rS ((Kd.zR (Kd.zM (p:=⟨x,2,none⟩) (Kd.zM (p:=⟨x,1,none⟩) (Kd.ze ac.out af.out (by decide)) (fun _ hk=>hk.2) (.int .i64 an)) (fun _ hk=>hk.2) (.int .i64 aw)) (fun _ h_=>h_.1)))));(case side2=>exact (Kd.zJ ac.out).2.1);rintro e m9 ⟨rfl,hb⟩;refine ⟨_,rfl,?_⟩;replace ac:=qK (Kd.z8 (rS ((Kd.zR (Kd.zM (p:=⟨x,2,none⟩) (Kd.zM (p:=⟨x,1,none⟩) (Kd.ze ac.out af.out (by decide)) (fun _ hk=>hk.2) (.int .i64 an)) (fun _ hk=>hk.2) (.int .i64 aw)) (fun _ h_=>h_.1)))) hb);replace a:=qK (zT (g:=ah) (o:=.cells #[.slice ak m.length al,.int .i64 l,.int .i64 d] 26 (0,0)) (by (repeat with_reducible first|apply zD|apply zF|apply zC);refine zO ?_ y.out _;(repeat with_reducible first|apply zD|apply zF|apply zC);refine zO ?_ y.out _;(repeat with_reducible first|apply zD|apply zF|apply zC);exact a.out) hb);replace q:=qK (zT (g:=am) (o:=.cells #[.int .i64 u,.int .i64 s] 24 (0,0)) (by (repeat with_reducible first|apply zD|apply zF|apply zC);refine zO ?_ ad.out _;(repeat with_reducible first|apply zD|apply zF|apply zC);refine zO ?_ ad.out _;(repeat with_reducible first|apply zD|apply zF|apply zC);exact q.out) hb);replace af:=qK (zT (g:=x) (o:=.cells #[.slice fi aa.length e0,.int .i64 an,.int .i64 aw] 26 (0,0)) (by (repeat with_reducible first|apply zD|apply zF|apply zC);refine zP (cs:=#[.slice fi aa.length e0,.int .i64 an,.int .i64 d]) ?_ 2 _ rfl;(repeat with_reducible first|apply zD|apply zF|apply zC);refine zP (cs:=#[.slice fi aa.length e0,.int .i64 l,.int .i64 d]) ?_ 1 _ rfl;(repeat with_reducible first|apply zD|apply zF|apply zC);exact af.out) hb);replace HB:=hQ hb;obtain ⟨_,_,_,_,_,_⟩:=xC3 af.out)|((with_reducible refine zH (f:=21) rfl ?_);refine zDu (some 184) rfl rfl Try.func21 (by kernel_rfl) rfl #[.agg #[.slice fi aa.length e0,.int .i64 an,.int .i64 aw],.slice A1 l1.length c1] rfl (by (try simp only [List.map_toArray,List.map_cons,List.map_nil]);first|done|(simp only [be,bf];rfl)|rfl|(simp only [List.length_drop,List.length_take];rfl)) ?_;(with_reducible refine (zCD.calls bn _ _ aa an aw _ _ l1 i7 eu _ ?side1 ?side2 ?side3 ?side4 A141.out).mono ?_);(case side1=>exact cR (Kd.zJ ac.out).2.2);(case side2=>exact (Kd.zJ ac.out).2.1);(case side3=>exact cS HR1.out);(case side4=>exact HC1.out);rintro e na ⟨rfl,hb⟩;refine ⟨_,rfl,?_⟩;replace ac:=rB ac hb;replace a:=bQ a hb;replace q:=bQ q hb;replace af:=bQ af hb;replace HB:=hQ hb))
              go_ret
              exact ⟨by first|rfl|(simp [zAQ,zAP] <;> rfl)|(simp only [← be,← bf];first|rfl|(simp [zAQ,zAP] <;> rfl))|(simp [*,zAQ,zAP] <;> rfl),bA⟩
             rw [if_pos c142] at H
             have js:(eu == 0)=true:=beq_iff_eq.mpr c142
             have jt:(eu != 0)=false:=bne_eq_false_iff_eq.mpr c142
             clear c142
             obtain rfl:=Option.some.inj H
             have lq:=ap.out
             have lr:=aq.out
             have ls:=y.out
             have lt:=au.out
             obtain ⟨_,_,_,_,_,_⟩:=xC3 a.out
             have lu:=ad.out
             have lv:=av.out
             obtain ⟨_,_,_,_⟩:=xC2 q.out
             obtain ⟨_,_,_,_,_,_⟩:=xC3 af.out
             obtain ⟨fj,e1,ka⟩:=Kd.zq ac.out
             subst ka
             go_wp2_with (first|((with_reducible refine zH (f:=10) rfl ?_);refine zDu (some 179) rfl rfl Try.func10 (by kernel_rfl) rfl #[.agg #[.slice fj aa.length e1,.int .i64 an,.int .i64 aw]] rfl (by (try simp only [List.map_toArray,List.map_cons,List.map_nil]);first|done|(simp only [be,bf];rfl)|rfl|(simp only [List.length_drop,List.length_take];rfl)) ?_;(with_reducible refine (zZ.calls bn _ _ aa an aw true _ ?side1 ?side2 A139.out).mono ?_);(case side1=>refine (Kd.zJ (e:=50) (base:=w.heap.size) (ok:=fun k_=>True) (n:=aa.length) (c:=e1) ?_).2.2;exact (rS ((Kd.zR (Kd.zM (p:=⟨x,2,none⟩) (Kd.zM (p:=⟨x,1,none⟩) (Kd.ze ac.out af.out (by decide)) (fun _ hk=>hk.2) (.int .i64 an)) (fun _ hk=>hk.2) (.int .i64 aw)) (fun _ h_=>h_.1)))));(case side2=>exact (Kd.zJ ac.out).2.1);rintro e nb ⟨rfl,hb⟩;refine ⟨_,rfl,?_⟩;replace ac:=qK (Kd.z8 (rS ((Kd.zR (Kd.zM (p:=⟨x,2,none⟩) (Kd.zM (p:=⟨x,1,none⟩) (Kd.ze ac.out af.out (by decide)) (fun _ hk=>hk.2) (.int .i64 an)) (fun _ hk=>hk.2) (.int .i64 aw)) (fun _ h_=>h_.1)))) hb);replace a:=qK (zT (g:=ah) (o:=.cells #[.slice ak m.length al,.int .i64 l,.int .i64 d] 26 (0,0)) (by (repeat with_reducible first|apply zD|apply zF|apply zC);refine zO ?_ y.out _;(repeat with_reducible first|apply zD|apply zF|apply zC);refine zO ?_ y.out _;(repeat with_reducible first|apply zD|apply zF|apply zC);exact a.out) hb);replace q:=qK (zT (g:=am) (o:=.cells #[.int .i64 u,.int .i64 s] 24 (0,0)) (by (repeat with_reducible first|apply zD|apply zF|apply zC);refine zO ?_ ad.out _;(repeat with_reducible first|apply zD|apply zF|apply zC);refine zO ?_ ad.out _;(repeat with_reducible first|apply zD|apply zF|apply zC);exact q.out) hb);replace af:=qK (zT (g:=x) (o:=.cells #[.slice fj aa.length e1,.int .i64 an,.int .i64 aw] 26 (0,0)) (by (repeat with_reducible first|apply zD|apply zF|apply zC);refine zP (cs:=#[.slice fj aa.length e1,.int .i64 an,.int .i64 d]) ?_ 2 _ rfl;(repeat with_reducible first|apply zD|apply zF|apply zC);refine zP (cs:=#[.slice fj aa.length e1,.int .i64 l,.int .i64 d]) ?_ 1 _ rfl;(repeat with_reducible first|apply zD|apply zF|apply zC);exact af.out) hb);replace HB:=hQ hb;obtain ⟨_,_,_,_,_,_⟩:=xC3 af.out)|((with_reducible refine zH (f:=21) rfl ?_);refine zDu (some 184) rfl rfl Try.func21 (by kernel_rfl) rfl #[.agg #[.slice fj aa.length e1,.int .i64 an,.int .i64 aw],.slice A1 l1.length c1] rfl (by (try simp only [List.map_toArray,List.map_cons,List.map_nil]);first|done|(simp only [be,bf];rfl)|rfl|(simp only [List.length_drop,List.length_take];rfl)) ?_;(with_reducible refine (zCD.calls bn _ _ aa an aw _ _ l1 i7 eu _ ?side1 ?side2 ?side3 ?side4 A141.out).mono ?_);(case side1=>exact cR (Kd.zJ ac.out).2.2);(case side2=>exact (Kd.zJ ac.out).2.1);(case side3=>exact cS HR1.out);(case side4=>exact HC1.out);rintro e nc ⟨rfl,hb⟩;refine ⟨_,rfl,?_⟩;replace ac:=rB ac hb;replace a:=bQ a hb;replace q:=bQ q hb;replace af:=bQ af hb;replace HB:=hQ hb))
             go_ret
             exact ⟨by first|rfl|(simp [zAQ,zAP] <;> rfl)|(simp only [← be,← bf];first|rfl|(simp [zAQ,zAP] <;> rfl))|(simp [*,zAQ,zAP] <;> rfl),bA⟩
end Go.Proofs.Ythimaecnpkcmeaa.K
