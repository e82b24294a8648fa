/- Contracts of Go functions and lemmas for them: each theorem states what one function returns and what it leaves of memory; its conditions stand in its statement. -/
import Derived.BigQuiet
import Derived.Deep.QuietTactic
import Derived.Laws.BitsLemmas
import Derived.LoopIn
import Derived.LoopNIn
import Derived.Maps.AppendAt
import Derived.OrdersIn
import Derived.OwnWalkIn
import Derived.RangeFuncBound
import Derived.RangeFuncCalls
import Derived.RangeFuncLeaves
import Derived.RangeFuncNested
import Derived.Shelf.Abstract
import Derived.Shelf.AbstractIn
import Derived.Shelf.RegionOpen
import Derived.TacticsInMore
import Derived.Test.YthimaecnpkcmeaaB10
import Derived.Test.YthimaecnpkcmeaaB13
import Derived.Test.YthimaecnpkcmeaaB14
import Derived.Test.YthimaecnpkcmeaaB3
import Derived.Test.YthimaecnpkcmeaaB4
import Derived.Test.YthimaecnpkcmeaaB9
set_option linter.unusedVariables false
set_option linter.unusedSimpArgs false
namespace Go.Proofs.Ythimaecnpkcmeaa.K
open Go.RowKit Go.Proofs.YthimaecnpkcmeaaW.PrintWords Go.Proofs.YthimaecnpkcmeaaW.PrintLast Go.Proofs.YthimaecnpkcmeaaW.PrintMore
attribute [local go_sem] zAX zAW zAg zAf zAF zAG zAU zAV   -- for this text's walks alone
set_option linter.unusedVariables false
set_option linter.unusedSimpArgs false
def zAu.f (k:Nat) (l0:List S50) (a1 a2:Int) (width:Int) (items:List Int):Option Bool:=(zAd.f k l0 a1 a2 items).bind fun r=>some (decide (r≤width))
def zAu.T1:Bool × List (List Nat × List Nat):=(true,[([],[]),([],[]),([0,1],[0,1]),([],[]),([2,3],[2,3]),([4,2,0,1,2,3,4],[4])])
def zAu.B1:List Nat:=[0,0,3,0,15,31]
theorem zAu.zC6:zBQ .any (opsOf Try.f72 1)=zAu.T1:=by kernel_rfl
theorem zAu.zCQ:zBA zAu.T1.2 zAu.B1=true:=by kernel_rfl
set_option maxHeartbeats 4000000 in
set_option maxRecDepth 100000 in
theorem zAu.calls (k:Nat) (A0:Option Addr) (c0:Nat) (l0:List S50) (a1 a2:Int) (width:Int) (g gw:Nat) (A1:Option Addr) (c1:Nat) (x:List Int) (z:Bool) (w:World)
 (hg:w.heap[g]? = some (.cells #[.slice A0 l0.length c0,.int .i64 a1,.int .i64 a2] 26 (0,0))) (hgw:w.heap[gw]? = some (.cells #[.int .i64 width] 3 (0,0))) (hr0:Kd.C k50 w A0 l0.length l0) (hc0:l0.length≤c0) (hr1:Kd.C (Kd.int .i64) w A1 x.length x) (hc1:x.length≤c1) (h:zAu.f k l0 a1 a2 width x=some z) :
 Calls Try.prog 72 #[.slice A1 x.length c1,.pointer (some ⟨g,0,none⟩),.pointer (some ⟨gw,0,none⟩)] w fun e w'=>e= .returned (.bool z)∧Below w.heap.size w w':=by
 have c:=Try.underlying26
 unfold zAu.f at h
 obtain ⟨a,ha,h⟩:=Option.bind_eq_some_iff.1 h
 have hz:=Option.some.inj h
 have HA:=zA.mk ha
 have HZ:=zA.mk hz
 have HG:=zA.mk hg
 have HGW:=zA.mk hgw
 have HR0:=zA.mk hr0
 have HR1:=zA.mk hr1
 clear h ha hz hg hgw hr0 hr1
 go_enter Try.func72,Try.ntmps72
 go_wp2
 have n1:=zA.mk (zx (Below.refl w.heap.size w))
 have n2:=zA.mk (zF HG.out)
 have n3:=zA.mk (zF HGW.out)
 refine zBH (n:=6) (S:=fun w'=>w'.cell? ⟨g,0,none⟩=some (.slice A0 l0.length c0)∧w'.cell? ⟨g,1,none⟩=some (.int .i64 a1)∧w'.cell? ⟨g,2,none⟩=some (.int .i64 a2)∧w'.cell? ⟨gw,0,none⟩=some (.int .i64 width)) (ds:=[]) #[false,false,false,false,false,false] (by kernel_rfl) rfl rfl ⟨(zB n2.out 0).trans rfl,(zB n2.out 1).trans rfl,(zB n2.out 2).trans rfl,(zB n3.out 0).trans rfl⟩ (fun b=>?_)
 refine zAj zAu.zC6 zAu.zCQ (fun HT_ HW_=>?_)
 generalize w.drew=w0 at n1 n2 n3 b ⊢
 refine pP 1 (some 6) HT_ ?_
 refine tP 0 (some 5) HT_ HW_ b ?_
 refine tP 3 (some 8) HT_ HW_ b ?_
 refine oP 2 (some 7) HT_ (fun K hK=>?_)
 refine gO Try.func58 #[.agg #[.slice A0 l0.length c0,.int .i64 a1,.int .i64 a2],.slice A1 x.length c1] ?_
 with_reducible refine (zAd.calls k A0 c0 l0 a1 a2 A1 c1 x a _ (Kd.zAZ HR0.out n1.out) hc0 (Kd.zAZ HR1.out n1.out) hc1 HA.out).mono ?_
 rintro e w1 ⟨rfl,hb⟩
 refine ⟨_,rfl,?_⟩
 have p1:=zA.mk (zAx n1.out hb)
 have p2:=zA.mk (zT n2.out hb)
 have p3:=zA.mk (zT n3.out hb)
 clear hb
 refine hK.out _ _ ⟨(zB p2.out 0).trans rfl,(zB p2.out 1).trans rfl,(zB p2.out 2).trans rfl,(zB p3.out 0).trans rfl⟩ (fun b=>?_)
 clear hK K
 refine nP ?_
 refine pP 4 (some 9) HT_ ?_
 refine pP 5 (some 4) HT_ ?_
 refine zBZ (zA8 HT_.out (by kernel_rfl)) ?_
 go_wp2
 go_ret
 exact ⟨by rw [← HZ.out];rfl,p1.out⟩
def zB7.f (k:Nat) (a:List (S50)) (b:Int) (c:Int) (a1:Int):Option (List Int × Bool × Int) :=
 (zK.f k a b c).bind fun e=>if e=0 then (if a1 < 0 then some ([],false,1) else if a.length≤40 then (zBV (zAu.f k a b c a1) (zAS.f k a b c) (zAt a.length) ([],false)).bind fun r=>some (r.1,r.2,0) else none) else some ([],false,e)
set_option maxHeartbeats 4000000 in
set_option maxRecDepth 100000 in
theorem zB7.calls (k:Nat) (i:Option Addr) (j:Nat) (a:List (S50)) (d:Int) (g:Int) (a1:Int) (r1:List Int) (r2:Bool) (r3:Int) (w:World) (n:Kd.C k50 w i a.length a) (m:a.length≤j) (h:zB7.f k a d g a1=some (r1,r2,r3)) :
 Calls Try.prog 39 #[.agg #[.slice i a.length j,.int .i64 d,.int .i64 g],.int .i64 a1] w fun e w'=>∃ v0_:Value,e= .returned (.tuple #[v0_,.bool r2,.int .i64 r3])∧Kd.R (Kd.int .i64) 3 w' w.heap.size (fun _=>True) v0_ r1∧Below w.heap.size w w':=by
 have p:=Try.underlying26
 have o:=Try.underlying100
 unfold zB7.f at h
 obtain ⟨er,he,h⟩:=Option.bind_eq_some_iff.1 h
 have HR0:=zA.mk n
 have HE:=zA.mk he
 have ec : ∀ args w,(callFunc 72 args).run Try.prog w= .ok (.enter 72 args) w:=enters_of Try.func72 (by kernel_rfl) rfl
 have EC:=zA.mk ec
 clear he n ec
 have hcells : ∀ W:World,Below ((w.alloc (.cells #[.slice i a.length j,.int .i64 d,.int .i64 g] 26)).alloc (.cells #[.int .i64 a1] 3)).heap.size ((w.alloc (.cells #[.slice i a.length j,.int .i64 d,.int .i64 g] 26)).alloc (.cells #[.int .i64 a1] 3)) W →
  Below w.heap.size w W∧W.heap[w.heap.size]? = some (.cells #[.slice i a.length j,.int .i64 d,.int .i64 g] 26 (0,0))∧W.heap[w.heap.size+1]? = some (.cells #[.int .i64 a1] 3 (0,0)):=by
  intro W hW
  refine ⟨zAx (zo (zo (Below.refl _ _) _) _) hW,zT (zC (zBb _ _) _) hW,?_⟩
  have:=zBb (w.alloc (.cells #[.slice i a.length j,.int .i64 d,.int .i64 g] 26)) (.cells #[.int .i64 a1] 3)
  rw [World.size_alloc] at this
  exact zT this hW
 have HCL:=zA.mk hcells
 clear hcells
 go_enter Try.func39,Try.ntmps39
 by_cases h1:er=0
 rotate_left
 ·rw [if_neg h1] at h
  have hd1:(er != 0)=true:=bne_iff_ne.mpr h1
  simp only [Option.some.injEq,Prod.mk.injEq] at h
  obtain ⟨rfl,rfl,rfl⟩:=h
  go_wp2_with (go_at_call 45;refine (zK.calls k i j a d g er _ (Kd.zAZ HR0.out (zo (zo (Below.refl _ _) _) _)) m HE.out).mono ?_;rintro e W ⟨rfl,hb⟩;obtain ⟨hb0,hbe,hbw⟩:=HCL.out _ hb;have n1:=zA.mk hb0;clear hb hb0 hbe hbw)
  go_ret3
  exact ⟨_,rfl,Kd.zBW _ _ _ _ _,n1.out⟩
 rw [if_pos h1] at h
 by_cases h2:a1 < 0
 ·rw [if_pos h2] at h
  have hd2:decide (a1 < 0)=true:=decide_eq_true h2
  simp only [Option.some.injEq,Prod.mk.injEq] at h
  obtain ⟨rfl,rfl,rfl⟩:=h
  subst h1
  go_wp2_with (go_at_call 45;refine (zK.calls k i j a d g 0 _ (Kd.zAZ HR0.out (zo (zo (Below.refl _ _) _) _)) m HE.out).mono ?_;rintro e W ⟨rfl,hb⟩;obtain ⟨hb0,hbe,hbw⟩:=HCL.out _ hb;have n1:=zA.mk hb0;have hcw:W.cell? ⟨w.heap.size+1,0,none⟩=some (.int .i64 a1):=(zB hbw 0).trans rfl;clear hb hb0 hbe hbw)
  go_ret3
  exact ⟨_,rfl,Kd.zBW _ _ _ _ _,n1.out⟩
 rw [if_neg h2] at h
 have hd2:decide (a1 < 0)=false:=decide_eq_false h2
 split at h
 case isFalse=>cases h
 case isTrue hn =>
 obtain ⟨⟨q1,q2⟩,hq,h⟩:=Option.bind_eq_some_iff.1 h
 simp only [Option.some.injEq,Prod.mk.injEq] at h
 obtain ⟨rfl,rfl,rfl⟩:=h
 subst h1
 have HQ:=zA.mk hq
 have HN:=zA.mk hn
 clear hq hn h2
 go_wp2_with (first
  | (go_at_call 45;refine (zK.calls k i j a d g 0 _ (Kd.zAZ HR0.out (zo (zo (Below.refl _ _) _) _)) m HE.out).mono ?_;rintro e W ⟨rfl,hb⟩;obtain ⟨hb0,hbe,hbw⟩:=HCL.out _ hb;have n1:=zA.mk hb0;have n2:=zA.mk hbe;have n3:=zA.mk hbw;have q:W.cell? ⟨w.heap.size,0,none⟩=some (.slice i a.length j):=(zB hbe 0).trans rfl;have r:W.cell? ⟨w.heap.size,1,none⟩=some (.int .i64 d):=(zB hbe 1).trans rfl;have s:W.cell? ⟨w.heap.size,2,none⟩=some (.int .i64 g):=(zB hbe 2).trans rfl;have hcw:W.cell? ⟨w.heap.size+1,0,none⟩=some (.int .i64 a1):=(zB hbw 0).trans rfl;clear hb hb0 hbe hbw)
  | (go_at_call 59;refine (zDq k i j a d g 72 #[.pointer (some ⟨w.heap.size,0,none⟩),.pointer (some ⟨w.heap.size+1,0,none⟩)] (zAu.f k a d g a1) q1 q2 _ HN.out (Kd.zAZ HR0.out n1.out) m EC.out (fun l b A c W2 h1 h2 h3 h4=>by have hh:=zAu.calls k i j a d g a1 w.heap.size (w.heap.size+1) A c l b W2 (zT n2.out h2) (zT n3.out h2) (Kd.zAZ HR0.out (n1.out.trans (h2.mono n1.out.size))) m h3 h4 h1;simpa using hh) HQ.out).mono ?_;rintro e W2 ⟨v,rfl,hR,hb⟩;have HRR:=zA.mk (Kd.zAH hR n1.out.size);have m1:=zA.mk (zAx n1.out hb);clear hR hb))
 go_ret3
 exact ⟨v,rfl,HRR.out,m1.out⟩
end Go.Proofs.Ythimaecnpkcmeaa.K
namespace Go.Proofs.Ythimaecnpkcmeaa.K
open Go.RowKit Go.Proofs.YthimaecnpkcmeaaW.PrintWords Go.Proofs.YthimaecnpkcmeaaW.PrintLast Go.Proofs.YthimaecnpkcmeaaW.PrintMore
attribute [local go_sem] zAX zAW zAg zAf zAF zAG zAU zAV   -- for this text's walks alone
set_option linter.unusedVariables false
set_option linter.unusedSimpArgs false
open Go.Shelf
attribute [local go_sem] Oper.semAt_some
def zEc (ops:Array Oper):Bool:=ops.all fun o=>match o.op with| .defer _=>false|_=>true
theorem zEb {ops:Array Oper} (h:zEc ops=true) {i:Nat} {o:Oper} (hi:ops[i]? = some o) (c:Call):o.op≠.defer c:=by
 obtain ⟨hlt,hio⟩:=Array.getElem?_eq_some_iff.1 hi
 have:=Array.all_eq_true.1 h i hlt
 rw [hio] at this
 intro e
 rw [e] at this
 cases this
theorem zEo {n:Nat} {P:Program} {row:String} {args:Array Value} {w:World} {R:Value→World→Prop} (h:Rows P row args w R):RowsIn Fence.wide n P row args w R :=
 fun c cs _=>let ⟨v,w',r,s⟩:=h c cs;⟨v,w',r,stepsIn_wide.2 s⟩
theorem zEY {l n:Nat} {P:Program} {o:Oper} {a:Act} {w:World} {next:Act→World→Prop} {Q:Exit→Act→World→Prop} (hd : ∀ c,o.op≠.defer c) (h:o.wp P a w next Q):o.wpIn (Fence.wide.inRound l) n P a w next Q:=by
 refine ⟨fun _ _=>trivial,?_⟩
 rw [show (Fence.wide.inRound l).round=some l from rfl,Oper.semAt_eq _ _ _ hd]
 unfold Oper.wp at h
 cases hr:(execOp a.eval o).run P w with
 | ok x w' =>
  rw [hr] at h
  cases x with
  | value v=>exact h
  | skip=>exact h
  | defer d=>exact h
  | enter f args=>exact ⟨fun e=>by simp [Fence.wide] at e,CallsIn.inRound l (callsIn_wide.2 h)⟩
  | row row args=>exact ⟨fun e=>by simp [Fence.wide] at e,zEo h⟩
  | _=>exact h.elim
 | halt x w' =>
  rw [hr] at h
  cases x with
  | panic v=>exact h
  | _=>exact h.elim
theorem zBo {l n:Nat} {P:Program} {md:Region.Mode} {ops:Array Oper} {Q:Exit→Act→World→Prop} (hd:zEc ops=true) (hQ : ¬ LetsOut Q) : ∀ (fuel:Nat) (listed:Array Bool) (a:Act) (w:World),
 wpAny P md ops Q fuel listed a w→wpAnyIn (Fence.wide.inRound l) n P md ops Q fuel listed a w
 | 0,_,_,_,h=>h
 | fuel+1,listed,a,w,h=>⟨h.1,fun i hi=>by
  have h2:=h.2 i hi
  unfold wpOp at h2
  unfold wpOpIn
  cases ho:ops[i]? with
  | none=>rw [ho] at h2;exact zBo hd hQ fuel _ _ _ h2
  | some o =>
   rw [ho] at h2
   simp only at h2 ⊢
   by_cases hw:Region.wanted o (yielded ops a.tmps)=true
   ·rw [if_pos hw] at h2 ⊢
    rcases h2 with h2|h2
    ·exact Oper.wpIn_mono (fun a w=>zBo hd hQ fuel _ a w) (zEY (zEb hd ho) h2)
    ·exact absurd h2.2 hQ
   ·rw [if_neg hw] at h2 ⊢
    exact ⟨fun _ _=>trivial,zBo hd hQ fuel _ _ _ h2⟩⟩
theorem startR_ {P:Program} {ops:Array Oper} {Q:Exit→Act→World→Prop} {S:World→Prop} {ds:List Nat} {id n l m:Nat} {a:Act} {w:World} (b:Array Bool) (hm:P.follows .mixedOrders=true) (hn:ops.size=n) (hl:Array.replicate n false=b) (hd:zEc ops=true) (hQ : ¬ LetsOut Q) (hS:S w.drew)
 (h:S w.drew→zt P .any ops Q S ds n b a w.drew):(Code.region id ops true).wpIn (Fence.wide.inRound l) m P Q a w:=by
 subst hn
 subst hl
 exact wpIn_region_any hm (zBo hd hQ _ _ _ _ (zCW _ _ _ _ (h hS)))
def zCE (k:Nat) (l0:List S50) (a1 a2:Int) (x:List Int):Option S64:=(zAk.f k l0 a1 a2 x).bind fun a=>(zAd.f k l0 a1 a2 x).bind fun b=>some ⟨a,wrap64 (-b)⟩
def zBR (k:Nat) (l0:List S50) (a1 a2:Int):List (List Int)→Option (List S64)
 | []=>some []
 | x :: xs=>(zCE k l0 a1 a2 x).bind fun p=>(zBR k l0 a1 a2 xs).bind fun ps=>some (p :: ps)
theorem zCe (k:Nat) (l0:List S50) (a1 a2:Int) : ∀ xs ps,zBR k l0 a1 a2 xs=some ps→ps.length=xs.length
 | [],ps,h=>by cases h;rfl
 | x :: xs,ps,h=>by
  unfold zBR at h
  obtain ⟨p,_,h⟩:=Option.bind_eq_some_iff.1 h
  obtain ⟨qs,hq,h⟩:=Option.bind_eq_some_iff.1 h
  cases h
  simp [zCe k l0 a1 a2 xs qs hq]
theorem zCA (k:Nat) (l0:List S50) (a1 a2:Int) : ∀ xs ys,zBR k l0 a1 a2 (xs ++ ys)=(zBR k l0 a1 a2 xs).bind fun a=>(zBR k l0 a1 a2 ys).bind fun b=>some (a ++ b)
 | [],ys=>by
  cases h:zBR k l0 a1 a2 ys <;> simp [zBR,h]
 | x :: xs,ys=>by
  simp only [List.cons_append,zBR,zCA k l0 a1 a2 xs ys]
  cases zCE k l0 a1 a2 x <;> cases zBR k l0 a1 a2 xs <;> cases zBR k l0 a1 a2 ys <;> rfl
theorem zD5 {W:World} {l b:Nat} {v:Value} {xs:List S64} {o o':Obj} (h:Kd.R k64 64 W b (fun _=>True) v xs) (hl:W.heap[l]? = some o) (ho:o.isCells=false):Kd.R k64 64 (W.putObj l o') b (fun _=>True) v xs:=by
 refine Kd.zR (Kd.zDN (Kd.zBt rfl h) (fun k hk _=>World.putObj_heap_other (fun e=>?_))) (fun _ _=>trivial)
 subst e
 obtain ⟨cells,hc⟩:=Kd.zX h k hk.symm
 rw [hc] at hl
 cases hl
 simp [Obj.isCells] at ho
def stepsInv (k:Nat) (A0:Option Addr) (c0:Nat) (l0:List S50) (a1 a2:Int) (w:World) (gE g5 gl:Nat) (pre:List (List Int × Value)) (W:World):Prop :=
 Below w.heap.size w W∧W.heap[gE]? = some (.cells #[.slice A0 l0.length c0,.int .i64 a1,.int .i64 a2] 26 (0,0))∧W.heap[gl]? = some (.cells #[.int .i64 (l0.length:Int)] 3 (0,0))∧pre.map Prod.fst=(zAt l0.length).take pre.length ∧
  ∃ (ps:List S64) (v:Value),zBR k l0 a1 a2 (pre.map Prod.fst)=some ps∧W.heap[g5]? = some (.cells #[v] 63 (0,0))∧Kd.R k64 64 W w.heap.size (fun _=>True) v ps
def zBY (p:S64):S64:=⟨p.f0,wrap64 (-p.f1)⟩
def zAR.f (k:Nat) (a:List S50) (b:Int) (c:Int):Option (List S64 × Int) :=
 (zK.f k a b c).bind fun e=>if e=0 then (if a.length≤40 then (zBR k a b c (zAt a.length)).bind fun l=>(zAa.f k l).bind fun r=>some (r.1.map zBY,0) else none) else some ([],e)
def zAR.T7:Bool × List (List Nat × List Nat):=(true,[([],[]),([],[]),([],[]),([1,2],[1,2]),([],[]),([],[]),([4,5,3],[4,5]),([6],[6]),([3,7],[3,7]),([8],[8]),([0,9,6],[0,9]),([10,10,0,1,2,3,4,5,6,7,8,9,10],[10])])
def zAR.B7:List Nat:=[0,0,0,6,0,0,62,126,254,510,1023,2047]
theorem zAR.tab7:zBQ .any (opsOf Try.f40 7)=zAR.T7:=by kernel_rfl
theorem zAR.bits7:zBA zAR.T7.2 zAR.B7=true:=by kernel_rfl
def zAR.T12:Bool × List (List Nat × List Nat):=(true,[([],[]),([],[]),([],[]),([],[]),([2,3],[2,3]),([4],[4]),([5],[5]),([6],[6]),([0,1],[0,1]),([8,0,1,2,3,4,5,6,7],[8]),([9,7,0,1,2,3,4,5,6,7],[7,9])])
def zAR.B12:List Nat:=[0,0,0,0,12,28,60,124,3,511,1023]
theorem zAR.tab12:zBQ .any (opsOf Try.f40 12)=zAR.T12:=by kernel_rfl
theorem zAR.bits12:zBA zAR.T12.2 zAR.B12=true:=by kernel_rfl
set_option maxHeartbeats 4000000 in
set_option maxRecDepth 100000 in
theorem zAR.calls (k:Nat) (m:Option Addr) (r:Nat) (a:List S50) (b:Int) (d:Int) (r1:List S64) (r2:Int) (w:World) (ac:Kd.C k50 w m a.length a) (t:a.length≤r) (h:zAR.f k a b d=some (r1,r2)) :
 Calls Try.prog 40 #[.agg #[.slice m a.length r,.int .i64 b,.int .i64 d]] w fun e w'=>∃ v0_:Value,e= .returned (.tuple #[v0_,.int .i64 r2])∧Kd.R k64 64 w' w.heap.size (fun _=>True) v0_ r1∧Below w.heap.size w w':=by
 have am:=Try.underlying26
 unfold zAR.f at h
 obtain ⟨er,he,h⟩:=Option.bind_eq_some_iff.1 h
 have HR0:=zA.mk ac
 have HE:=zA.mk he
 clear he ac
 have hcells : ∀ W:World,Below (w.alloc (.cells #[.slice m a.length r,.int .i64 b,.int .i64 d] 26)).heap.size (w.alloc (.cells #[.slice m a.length r,.int .i64 b,.int .i64 d] 26)) W →
  Below w.heap.size w W∧W.heap[w.heap.size]? = some (.cells #[.slice m a.length r,.int .i64 b,.int .i64 d] 26 (0,0)):=by
  intro W hW
  exact ⟨zAx (zo (Below.refl _ _) _) hW,zT (zBb _ _) hW⟩
 have HCL:=zA.mk hcells
 clear hcells
 by_cases h1:er=0
 rotate_left
 ·rw [if_neg h1] at h
  have hd1:(er != 0)=true:=bne_iff_ne.mpr h1
  simp only [Option.some.injEq,Prod.mk.injEq] at h
  obtain ⟨rfl,rfl⟩:=h
  go_enter Try.func40,Try.ntmps40
  go_wp2_with (go_at_call 45;refine (zK.calls k m r a b d er _ (Kd.zAZ HR0.out (zo (Below.refl _ _) _)) t HE.out).mono ?_;rintro e W ⟨rfl,hb⟩;obtain ⟨hb0,hbe⟩:=HCL.out _ hb;have n1:=zA.mk hb0;clear hb hb0 hbe)
  go_ret2
  exact ⟨_,rfl,Kd.zBW _ _ _ _ _,n1.out⟩
 subst h1
 rw [if_pos rfl] at h
 split at h
 case isFalse=>cases h
 case isTrue hn =>
 obtain ⟨la,hla,h⟩:=Option.bind_eq_some_iff.1 h
 obtain ⟨⟨f1,f2⟩,hfr,h⟩:=Option.bind_eq_some_iff.1 h
 simp only [Option.some.injEq,Prod.mk.injEq] at h
 obtain ⟨rfl,rfl⟩:=h
 have HN:=zA.mk hn
 have HLA:=zA.mk hla
 have HFR:=zA.mk hfr
 clear hn hla hfr
 refine (callsIn_wide (n:=3)).1 ?_
 refine callsIn_of_wp_marks Try.func40 rfl trivial ?_ rfl
 simp only [Try.ntmps40,List.size_toArray,List.length_cons,List.length_nil,Nat.reduceAdd,Nat.reduceSub,Array.replicate_succ,Array.replicate_zero,List.push_toArray,List.append_toArray,List.nil_append,List.cons_append]
 gi_wp2
 refine ⟨trivial,?_⟩
 refine (callsIn_wide.2 (zK.calls k m r a b d 0 _ (Kd.zAZ HR0.out (zo (Below.refl _ _) _)) t HE.out)).mono ?_
 rintro e W ⟨rfl,hb⟩
 obtain ⟨hb0,hbe⟩:=HCL.out _ hb
 have n1:=zA.mk hb0
 have n2:=zA.mk hbe
 have ae:W.cell? ⟨w.heap.size,0,none⟩=some (.slice m a.length r):=(zB hbe 0).trans rfl
 have af:W.cell? ⟨w.heap.size,1,none⟩=some (.int .i64 b):=(zB hbe 1).trans rfl
 have ag:W.cell? ⟨w.heap.size,2,none⟩=some (.int .i64 d):=(zB hbe 2).trans rfl
 have hne:w.heap.size≠W.heap.size:=by have:=zBk hbe;omega
 have ah:(W.alloc (.cells #[.slice none 0 0] 63)).cell? ⟨w.heap.size,0,none⟩=some (.slice m a.length r):=(zB (zC hbe (.cells #[.slice none 0 0] 63)) 0).trans rfl
 have n3:=zA.mk (zBb W (.cells #[.slice none 0 0] 63))
 have n1b:=zA.mk (zo n1.out (.cells #[.slice none 0 0] 63))
 have n2b:=zA.mk (zC n2.out (.cells #[.slice none 0 0] 63))
 have hl5:=zA.mk n1.out.size
 clear hb hb0 hbe
 gi_wp2
 refine ⟨trivial,?_⟩
 refine (callsIn_wide.2 (zDY (a.length:Int) _)).mono ?_
 rintro e W1 ⟨gl,rfl,hgl,ad,hb⟩
 have m1:=zA.mk (zAx n1b.out hb)
 have m2:=zA.mk (zT n2b.out hb)
 have m3:=zA.mk (zT n3.out hb)
 have m4:=zA.mk hgl
 have m5:=zA.mk (show W.heap.size < gl by simp at ad;omega)
 clear hb hgl ad n1b n2b n3 ah ae af ag
 obtain ⟨g5,hg5⟩ : ∃ g,g=W.heap.size:=⟨_,rfl⟩
 obtain ⟨gE,hgE⟩ : ∃ g,g=w.heap.size:=⟨_,rfl⟩
 rw [← hg5] at m3 m5 hl5 hne
 rw [← hgE] at m2 hne
 rw [← hg5,← hgE]
 have hgEw:w.heap.size≤gE:=by omega
 clear hg5 hgE
 gi_wp2
 refine zCb rfl (by decide) (gf:=99) (lb:=#[.pointer (some ⟨gl,0,none⟩)]) rfl trivial (enters_of Try.func99 (by kernel_rfl) rfl) (zD1 2 a.length HN.out gl W1 m4.out)
  (fun h1 h2=>⟨Nat.le_trans h1.1 h2.1,h2.2.trans h1.2⟩) (fun W l o hl=>⟨by simp,World.putObj_heap_other (by have:=zBk m4.out;omega)⟩) (Below.refl _ _) (fun _=>rfl)
  (stepsInv k m r a b d w gE g5 gl) ?hI1 ?hI2 ?hY2 ⟨m1.out,m2.out,m4.out,rfl,[],.slice none 0 0,rfl,m3.out,Kd.zBW _ _ _ _ _⟩
  (fun x=>{ tmps:=#[.agg #[.slice m a.length r,.int .i64 b,.int .i64 d],.pointer (some ⟨gE,0,none⟩),.slice none 0 0,.int .i64 0,.int .i64 0,.pointer (some ⟨g5,0,none⟩),x.2,undef,.agg #[.slice m a.length r,.int .i64 b,.int .i64 d],.int .i64 0,.int .i64 0,.bool false,undef,.pointer (some ⟨gE,0,none⟩),.slice m a.length r,.int .i64 (a.length:Int),.func (.func 99) #[] #[.pointer (some ⟨gl,0,none⟩)],x.2,undef,undef,undef,undef,undef,undef,undef,undef,undef,undef,undef,undef,undef,undef,undef,undef,undef,undef,undef,undef,undef,undef,undef,undef,undef,undef,undef,undef,undef,undef],defers:=[] })
  ?assign ?body ?done
 case hI1 =>
  rintro pre A B ⟨h1,h2,hg,h3,ps,v,h4,h5,h6⟩ hAB
  exact ⟨h1.trans (hAB.mono h1.size),zT h2 hAB,zT hg hAB,h3,ps,v,h4,zT h5 hAB,Kd.z8 h6 hAB⟩
 case hI2 =>
  rintro pre W l o o' hl ho hc0 ⟨h1,h2,hg,h3,ps,v,h4,h5,h6⟩
  exact ⟨h1.trans (zCC (Nat.le_trans m1.out.size hl)),zBv h2 ho hc0,zBv hg ho hc0,h3,ps,v,h4,zBv h5 ho hc0,zD5 h6 ho hc0⟩
 case hY2 =>
  rintro pre x W l o o' hl ho hc0 ⟨h1,h2⟩
  exact ⟨h1,zC9 h2 ho hc0⟩
 case assign =>
  intro l x W K hK
  gi_wp2
  exact hK
 case body =>
  rintro l pre ⟨x1,x2⟩ W ⟨h1,h2,hg0,h3,ps,v,h4,h5,h6⟩ ⟨hx1,hx2⟩ hlen
  simp only at hx1 hx2
  have hsub:(zAt a.length).length=2 ^ a.length:=by simp [zAt]
  obtain ⟨p,hst⟩ : ∃ p,zCE k a b d x1=some p:=by
   have hs:zAt a.length=(zAt a.length).take pre.length ++ (x1 :: (zAt a.length).drop (pre.length+1)):=by
    have h9:(zAt a.length)[pre.length]'(by rw [hsub];exact hlen)=x1:=by rw [hx1];simp [zAt]
    rw [← h9,← List.drop_eq_getElem_cons,List.take_append_drop]
   have hl:=HLA.out
   rw [hs,zCA,← h3,h4] at hl
   change ((zCE k a b d x1).bind _).bind _=_ at hl
   obtain ⟨_,h8,_⟩:=Option.bind_eq_some_iff.1 hl
   obtain ⟨p,hp,_⟩:=Option.bind_eq_some_iff.1 h8
   exact ⟨p,hp⟩
  have hf2:zBR k a b d ((pre ++ [(x1,x2)]).map Prod.fst)=some (ps ++ [p]):=by
   rw [List.map_append,zCA,h4]
   show ((zCE k a b d x1).bind _).bind _=_
   rw [hst]
   rfl
  have hp2:(pre ++ [(x1,x2)]).map Prod.fst=(zAt a.length).take (pre ++ [(x1,x2)]).length:=by
   rw [List.map_append,h3,List.length_append]
   show _=(zAt a.length).take (pre.length+1)
   rw [List.take_succ_eq_append_getElem (by rw [hsub];exact hlen),hx1]
   simp [zAt]
  have HPL0:ps.length < 1099511627776:=by
   have e:=zCe k a b d _ _ h4
   rw [List.length_map] at e
   rw [e]
   exact Nat.lt_of_lt_of_le hlen (Nat.le_trans (Nat.pow_le_pow_right (by decide) HN.out) (by decide))
  have HF2:=zA.mk hf2
  have HP2:=zA.mk hp2
  have HST:=zA.mk hst
  have HLEN:=zA.mk (show pre.length < 1099511627776 from Nat.lt_of_lt_of_le hlen (Nat.le_trans (Nat.pow_le_pow_right (by decide) HN.out) (by decide)))
  have HX2:=zA.mk hx2
  have HB:=zA.mk h1
  have KE:=zA.mk h2
  have KG:=zA.mk hg0
  have K5:=zA.mk h5
  have HV:=zA.mk h6
  have hfo:Try.prog.follows .mixedOrders=true:=by kernel_rfl
  clear hf2 hp2 hst hlen hx2 h1 h2 hg0 h5 h6 h3 h4 hx1
  obtain ⟨A2,c2,e2⟩:=Kd.zq HX2.out
  subst e2
  obtain ⟨Av,cv,ev⟩:=Kd.zq HV.out
  subst ev
  have hE0:W.cell? ⟨gE,0,none⟩=some (.slice m a.length r):=(zB KE.out 0).trans rfl
  have hE1:W.cell? ⟨gE,1,none⟩=some (.int .i64 b):=(zB KE.out 1).trans rfl
  have hE2:W.cell? ⟨gE,2,none⟩=some (.int .i64 d):=(zB KE.out 2).trans rfl
  have h50:W.cell? ⟨g5,0,none⟩=some (.slice Av ps.length cv):=(zB K5.out 0).trans rfl
  have HPL:=zA.mk (show ps.length < 1099511627776 from HPL0)
  have hst:=HST.out
  unfold zCE at hst
  obtain ⟨ca,hca,hst⟩:=Option.bind_eq_some_iff.1 hst
  obtain ⟨wb,hwb,hst⟩:=Option.bind_eq_some_iff.1 hst
  have HCA:=zA.mk hca
  have HWB:=zA.mk hwb
  have HP:=zA.mk (Option.some.inj hst)
  clear hca hwb hst HST
  clear hE0 hE1 hE2 h50
  gi_wp2
  have n1:=zA.mk (zx (Below.refl W.heap.size W))
  have n2:=zA.mk (zF KE.out)
  have n3:=zA.mk (zF K5.out)
  refine startR_ (n:=12) (S:=fun w'=>w'.cell? ⟨gE,0,none⟩=some (.slice m a.length r)∧w'.cell? ⟨gE,1,none⟩=some (.int .i64 b)∧w'.cell? ⟨gE,2,none⟩=some (.int .i64 d)∧w'.cell? ⟨g5,0,none⟩=some (.slice Av ps.length cv)) (ds:=[11]) #[false,false,false,false,false,false,false,false,false,false,false,false] (by kernel_rfl) rfl rfl (by kernel_rfl) (by rintro ⟨_,_,hq⟩;exact hq) ⟨(zB n2.out 0).trans rfl,(zB n2.out 1).trans rfl,(zB n2.out 2).trans rfl,(zB n3.out 0).trans rfl⟩ (fun s=>?_)
  refine zAj zAR.tab7 zAR.bits7 (fun HT_ HW_=>?_)
  generalize W.drew=w0 at n1 n2 n3 s ⊢
  refine pP 2 (some 20) HT_ ?_
  refine pP 5 (some 23) HT_ ?_
  refine tP 0 (some 18) HT_ HW_ s ?_
  refine tP 1 (some 19) HT_ HW_ s ?_
  refine tP 4 (some 22) HT_ HW_ s ?_
  refine oP 3 (some 21) HT_ (fun K hK=>?_)
  refine gO Try.func61 #[.agg #[.slice m a.length r,.int .i64 b,.int .i64 d],.slice A2 x1.length c2] ?_
  with_reducible refine (zAk.calls k m r a b d A2 c2 x1 ca _ (Kd.zAZ HR0.out (HB.out.trans (n1.out.mono HB.out.size))) t (Kd.zAZ (Kd.zJ HX2.out).2.2 n1.out) (Kd.zJ HX2.out).2.1 HCA.out).mono ?_
  rintro e w1 ⟨rfl,hb⟩
  refine ⟨_,rfl,?_⟩
  have p1:=zA.mk (zAx n1.out hb)
  have p2:=zA.mk (zT n2.out hb)
  have p3:=zA.mk (zT n3.out hb)
  clear hb
  refine hK.out _ _ ⟨(zB p2.out 0).trans rfl,(zB p2.out 1).trans rfl,(zB p2.out 2).trans rfl,(zB p3.out 0).trans rfl⟩ (fun s=>?_)
  clear hK K
  refine nP ?_
  refine oP 6 (some 24) HT_ (fun K hK=>?_)
  refine gO Try.func58 #[.agg #[.slice m a.length r,.int .i64 b,.int .i64 d],.slice A2 x1.length c2] ?_
  with_reducible refine (zAd.calls k m r a b d A2 c2 x1 wb _ (Kd.zAZ HR0.out (HB.out.trans (p1.out.mono HB.out.size))) t (Kd.zAZ (Kd.zJ HX2.out).2.2 p1.out) (Kd.zJ HX2.out).2.1 HWB.out).mono ?_
  rintro e w2 ⟨rfl,hb⟩
  refine ⟨_,rfl,?_⟩
  have q1:=zA.mk (zAx p1.out hb)
  have q2:=zA.mk (zT p2.out hb)
  have q3:=zA.mk (zT p3.out hb)
  clear hb
  refine hK.out _ _ ⟨(zB q2.out 0).trans rfl,(zB q2.out 1).trans rfl,(zB q2.out 2).trans rfl,(zB q3.out 0).trans rfl⟩ (fun s=>?_)
  clear hK K
  refine nP ?_
  refine pP 7 (some 25) HT_ ?_
  refine pP 8 (some 26) HT_ ?_
  refine oP 9 (some 27) HT_ (fun K hK=>?_)
  refine zE1 (w1:=?_) (v:=?_) (by rfl) rfl ?_ ?_
  rotate_left 2
  ·go_simp
   constructor
   ·rfl
   ·rfl
  refine hK.out _ _ ⟨(zB (zC q2.out _) 0).trans rfl,(zB (zC q2.out _) 1).trans rfl,(zB (zC q2.out _) 2).trans rfl,(zB (zC q3.out _) 0).trans rfl⟩ (fun s=>?_)
  clear hK K
  refine nP ?_
  have hRw:=zA.mk (Kd.z8 HV.out q1.out)
  have ai:some g5≠(Value.slice Av ps.length cv).ownBlock:=Kd.zA6 hRw.out q3.out (by decide)
  have hneE:some gE≠(Value.slice Av ps.length cv).ownBlock:=Kd.zA6 hRw.out q2.out (by decide)
  refine oP 10 (some 28) HT_ (fun K hK=>?_)
  refine Kd.zCt k64 (w0:=w) w.heap.size (by rfl) (.tmp 18) (.tmp 27) 63 64 (.agg #[(.int .i64 0),(.int .i64 0)]) 16 rfl Try.underlying63 zCa rfl (by decide) (by omega) (.slice Av ps.length cv) ps (⟨ca,wrap64 (-wb)⟩:S64) [.int .i64 ca,.int .i64 (wrap64 (-wb))] (fun _=>True) (fun _=>False) rfl rfl ?aP (fun _ hk=>hk.elim) (fun _ _=>trivial) hRw.out (HB.out.trans (q1.out.mono HB.out.size)) (Nat.le_trans HB.out.size q1.out.size) ?aL ?_
  (case aP=>exact zBB _ _ _ (⟨ca,wrap64 (-wb)⟩:S64))
  (case aL=>have:=HPL.out;omega)
  intro v28 w28 ho hb hg hat
  obtain ⟨A28,c28,e28⟩:=Kd.zq ho
  subst e28
  have u1:=zA.mk ho
  have u2:=zA.mk (zA0 q2.out hg hneE)
  have u3:=zA.mk (zA0 q3.out hg ai)
  have u4:=zA.mk hg
  have u5:=zA.mk hb
  clear ho hg hat hb
  refine hK.out _ _ ⟨(zB u2.out 0).trans rfl,(zB u2.out 1).trans rfl,(zB u2.out 2).trans rfl,(zB u3.out 0).trans rfl⟩ (fun s=>?_)
  clear hK K
  refine nP ?_
  refine last_ (i:=11) (N:=none) #[true,true,true,true,true,true,true,true,true,true,true,true] rfl rfl (zDj HT_.out (by kernel_rfl)) (by decide) (fun K hK=>?_)
  have an:w28.cell? ⟨g5,0,none⟩=some (.slice Av ps.length cv):=(zB u3.out 0).trans rfl
  have al:=zW u3.out 0
  refine zB0 (w1:=?_) (by rfl) rfl ?_ ?_
  rotate_left
  ·go_simp
   rfl
  refine hK.out _ _ ?_
  clear hK K
  refine zBZ (zA8 HT_.out (by kernel_rfl)) ?_
  gi_wp2
  have hneG:some gl≠(Value.slice Av ps.length cv).ownBlock:=Kd.zA6 hRw.out (zT KG.out q1.out) (by decide)
  have hgg:gl≠g5:=by have:=m5.out;omega
  have hEg:gE≠g5:=hne
  have KG28:=zA0 (zT KG.out q1.out) u4.out hneG
  have hRs:=Kd.zR (Kd.zM (p:=⟨g5,0,none⟩) (Kd.zBt rfl u1.out) (fun k hk e=>by have hc:=Kd.zA6 u1.out u3.out (by decide);exact hc (by rw [← hk,e])) (Value.slice A28 (ps.length+1) c28)) (ok':=fun _=>True) (fun _ _=>trivial)
  refine ⟨(KeepsOthers.of_below q1.out).trans ((KeepsOthers.of_grownBy u4.out (fun j o hj ho=>?_)).trans (KeepsOthers.setCell _ _ _)),⟨?_,?_⟩,?_,?_,?_,HP2.out,ps ++ [p],.slice A28 (ps.length+1) c28,HF2.out,?_,?_⟩
  ·obtain ⟨cells,hcl⟩:=Kd.zX hRw.out j hj
   rw [hcl] at ho
   cases ho
   rfl
  ·have h1:=q1.out.size
   have h2:=u4.out.size
   simp
   omega
  ·rw [Below.heap_setCell _ _ _ _ hgg,KG28,KG.out]
  ·exact zBO u5.out (by have:=hl5.out;omega)
  ·rw [Below.heap_setCell _ _ _ _ hEg];exact u2.out
  ·rw [Below.heap_setCell _ _ _ _ hgg];exact KG28
  ·exact zP u3.out 0 _ rfl
  ·rw [← HP.out];simp only [List.length_append,List.length_cons,List.length_nil,Nat.zero_add] at hRs;exact hRs
 case done =>
  rintro D xs W hD hS ⟨h1,h2,hg0,h3,ps,v,h4,h5,h6⟩ hK
  rw [hS,HLA.out] at h4
  obtain rfl:=Option.some.inj h4
  have K5:=zA.mk h5
  have HV:=zA.mk h6
  have HB:=zA.mk h1
  have HD:=zA.mk hD
  have HK:=zA.mk hK
  have h50:W.cell? ⟨g5,0,none⟩=some v:=(zB h5 0).trans rfl
  have hf5:=zW h5 0
  clear h1 h2 hg0 h3 h4 h5 h6 hS hD hK
  obtain ⟨Av,cv,ev⟩:=Kd.zq HV.out
  subst ev
  gi_wp2
  refine ⟨trivial,?_⟩
  refine (callsIn_wide.2 (zAa.calls k (fun k_=>some k_=(.slice Av la.length cv:Value).ownBlock) (.slice Av la.length cv) la f1 f2 w W HB.out (Kd.zBt rfl HV.out) HFR.out)).mono ?_
  rintro e W2 ⟨v2,rfl,hR1,-,hB2,hK2⟩
  have K52:W2.heap[g5]? = some (.cells #[.slice Av la.length cv] 63 (0,0)):=(hK2.2 g5 (zBk K5.out) (fun e=>Kd.zA6 HV.out K5.out (by decide) e)).trans K5.out
  have HK2:W2.heap[D]? = some (.deferred (some [])):=(hK2.2 D (Array.getElem?_eq_some_iff.1 HK.out).1 (fun e=>by
   obtain ⟨cells,hc⟩:=Kd.zX HV.out D e.symm
   rw [HK.out] at hc
   cases hc)).trans HK.out
  have aj:W2.cell? ⟨g5,0,none⟩=some (.slice Av la.length cv):=(zB K52 0).trans rfl
  have ak:=zW K52 0
  obtain ⟨A2,c2,e2⟩:=Kd.zq hR1
  subst e2
  have R1:=zA.mk hR1
  have B2:=zA.mk hB2
  have K2:=zA.mk hK2
  have HD2:=zA.mk HK2
  have K52:=zA.mk K52
  clear hR1 hB2 hK2 HK2
  gi_wp2
  refine wpIn_wide.2 ?_
  have K53:zA ((W2.setCell ⟨g5,0,none⟩ (.slice A2 f1.length c2)).heap[g5]? = some (.cells #[.slice A2 f1.length c2] 63 (0,0))):=⟨zP K52.out 0 _ rfl⟩
  have R3:zA (Kd.R k64 64 (W2.setCell ⟨g5,0,none⟩ (.slice A2 f1.length c2)) w.heap.size (fun _=>True) (.slice A2 f1.length c2) f1):=⟨Kd.zR (Kd.zM (p:=⟨g5,0,none⟩) (Kd.zBt rfl R1.out) (fun k hk e=>by have hc:=Kd.zA6 R1.out K52.out (by decide);exact hc (by rw [← hk,e])) _) (fun _ _=>trivial)⟩
  have HD3:zA ((W2.setCell ⟨g5,0,none⟩ (.slice A2 f1.length c2)).heap[D]? = some (.deferred (some []))):=⟨by
   rw [Below.heap_setCell _ _ _ _ (fun e=>by have e2:D=g5:=e;have h1:=K52.out;rw [← e2,HD2.out] at h1;cases h1)]
   exact HD2.out⟩
  have B3:zA (Below w.heap.size w (W2.setCell ⟨g5,0,none⟩ (.slice A2 f1.length c2))):=⟨zBO B2.out (by have:=hl5.out;omega)⟩
  clear R1 B2 K2 HD2 K52 HK K5 aj ak h50 hf5
  go_loopg [33] (f1.length+1) (fun kq v33 w'=>∃ (y:Int) (j:Nat),v33= .int .i64 y∧zA (y=(j:Int))∧zA (kq+j=f1.length+1)∧zA (j≤f1.length)∧zA (Kd.R k64 64 w' w.heap.size (fun _=>True) (.slice A2 f1.length c2) ((f1.take j).map zBY ++ f1.drop j))∧zA (w'.heap[g5]? = some (.cells #[.slice A2 f1.length c2] 63 (0,0)))∧zA (w'.heap[D]? = some (.deferred (some [])))∧zA (Below w.heap.size w w'))
  case atStart=>exact ⟨0,0,rfl,⟨rfl⟩,⟨rfl⟩,⟨Nat.zero_le _⟩,R3,K53,HD3,B3⟩
  case round =>
   clear R3 K53 HD3 B3
   obtain ⟨y,j,rfl,HY,Hk,Hj,HR,K5,HDD,HB⟩:=hrel
   by_cases hj:j < f1.length
   rotate_left
   ·have hjn:j=f1.length:=by have:=Hj.out;omega
    have d0:decide (y < (f1.length:Int))=false:=decide_eq_false (by have:=HY.out;omega)
    have HRf:zA (Kd.R k64 64 wr w.heap.size (fun _=>True) (.slice A2 f1.length c2) (f1.map zBY)):=⟨by have h1:=HR.out;rw [hjn] at h1;simpa using h1⟩
    have h50:wr.cell? ⟨g5,0,none⟩=some (.slice A2 f1.length c2):=(zB K5.out 0).trans rfl
    have hfo:Try.prog.follows .mixedOrders=true:=by kernel_rfl
    clear HR
    go_wp2
    gi_wp2
    refine ⟨by simp,.inl ⟨_,_,rfl,run_takeDeferred HDD.out,?_⟩⟩
    refine ⟨_,results_tmp2 rfl _ _ _,_,rfl,zD5 HRf.out HDD.out rfl,HB.out.trans (zCC (by have:=HD.out;have:=m1.out.size;omega))⟩
   obtain ⟨n1,rfl⟩ : ∃ n,gk=n+1:=⟨gk - 1,by have:=Hk.out;omega⟩
   obtain ⟨gr,cr,er,hgrb,hgrl,-⟩:=Kd.zFB HR.out (by simp;omega)
   have hLl:((f1.take j).map zBY ++ f1.drop j).length=f1.length:=by simp;omega
   rw [hLl] at er
   cases er
   have d0:decide (y < (f1.length:Int))=true:=decide_eq_true (by have:=HY.out;omega)
   have d0p:(y < (f1.length:Int))=True:=eq_true (by have:=HY.out;omega)
   have d00p:(0≤y)=True:=eq_true (by have:=HY.out;omega)
   have d00:decide (0≤y)=true:=decide_eq_true (by have:=HY.out;omega)
   obtain ⟨ad7,e7,aa,ab⟩:=zBa (Kd.zJ HR.out).2.2 y (by have:=HY.out;omega) (by have:=HY.out;rw [hLl];omega)
   cases e7
   have hit:zI ((f1.take j).map zBY ++ f1.drop j) y=f1[j]:=by
    rw [HY.out];unfold zI;rw [Int.toNat_natCast,List.getD_eq_getElem?_getD,List.getElem?_append_right (by simp;omega)]
    simp [Nat.min_eq_left (Nat.le_of_lt hj),hj]
   rw [hit] at aa ab
   have hc1:wr.cell? ⟨gr,y.toNat*2+1,none⟩=some (.int .i64 f1[j].f1):=by
    have:=ab
    rwa [show (⟨((⟨gr,0,none⟩:Addr).add (y.toNat*2)).block,((⟨gr,0,none⟩:Addr).add (y.toNat*2)).off+1,none⟩:Addr)=⟨gr,y.toNat*2+1,none⟩ from by unfold Addr.add;split <;> simp_all] at this
   have hc0:wr.cell? ⟨gr,y.toNat*2+0,none⟩=some (.int .i64 f1[j].f0):=by
    have:=aa
    rwa [show ((⟨gr,0,none⟩:Addr).add (y.toNat*2))=⟨gr,y.toNat*2+0,none⟩ from by unfold Addr.add;split <;> simp_all] at this
   clear aa ab hit
   go_wp2
   have n1_:=zA.mk (Kd.zAv HR.out)
   have n2_:=zA.mk (zF K5.out)
   have hneg:some g5≠(Value.slice (some ⟨gr,0,none⟩) f1.length c2).ownBlock:=Kd.zA6 HR.out K5.out (by decide)
   have hc1d:=(zx (Below.refl wr.heap.size wr)).cell (World.block_lt_of_cell? _ _ hc1)
   have hc0d:=(zx (Below.refl wr.heap.size wr)).cell (World.block_lt_of_cell? _ _ hc0)
   replace hc1d:=hc1d.trans hc1
   replace hc0d:=hc0d.trans hc0
   refine wp_mono (Q:=fun e a' w'=>e= .normal∧Exit.inBlock 3 _ .normal a' w') ?_ (by rintro e a' w' ⟨rfl,h⟩;exact h)
   refine zBH (n:=11) (S:=fun w'=>w'.cell? ⟨g5,0,none⟩=some (.slice (some ⟨gr,0,none⟩) f1.length c2)∧w'.cell? ⟨gr,y.toNat*2+1,none⟩=some (.int .i64 f1[j].f1)) (ds:=[10]) #[false,false,false,false,false,false,false,false,false,false,false] (by kernel_rfl) rfl rfl ⟨(zB n2_.out 0).trans rfl,hc1d⟩ (fun s=>?_)
   refine zAj zAR.tab12 zAR.bits12 (fun HT_ HW_=>?_)
   have n3_:=zA.mk (zx HB.out)
   have n4_:=zA.mk (((zx (Below.refl wr.heap.size wr)).block D (Array.getElem?_eq_some_iff.1 HDD.out).1).trans HDD.out)
   generalize wr.drew=w9 at n1_ n2_ n3_ n4_ hc1d hc0d s ⊢
   clear hc1 hc0
   refine zCX (i:=1) (N:=some 37) (v:=?_) (a':=?_) #[false,true,false,false,false,false,false,false,false,false,false] rfl rfl (zCl HT_.out (by kernel_rfl)) (fun _ _ _ h=>by cases h.1) (Or.inl ⟨by rfl,?_⟩) ?_ ?_
   rotate_left
   ·intro w'
    go_simp
    with_reducible rfl
   rotate_left
   ·simp only [Act.put,List.setIfInBounds_toArray,List.set_cons_zero,List.set_cons_succ,zBS,zBg]
    rfl
   refine zCX (i:=3) (N:=some 39) (v:=?_) (a':=?_) #[false,true,false,true,false,false,false,false,false,false,false] rfl rfl (zCl HT_.out (by kernel_rfl)) (fun _ _ _ h=>by cases h.1) (Or.inl ⟨by rfl,?_⟩) ?_ ?_
   rotate_left
   ·intro w'
    go_simp
    with_reducible rfl
   rotate_left
   ·simp only [Act.put,List.setIfInBounds_toArray,List.set_cons_zero,List.set_cons_succ,zBS,zBg]
    rfl
   refine zDX (i:=0) (N:=some 36) (v:=?_) (a':=?_) #[true,true,false,true,false,false,false,false,false,false,false] rfl rfl (zC5 HT_.out HW_.out (by kernel_rfl)) (fun _ _ _ h=>by cases h.1) (Or.inl ⟨by rfl,?_⟩) s ?_ ?_
   rotate_left
   ·rintro w' ⟨s0,s1⟩
    go_simp
    with_reducible rfl
   rotate_left
   ·simp only [Act.put,List.setIfInBounds_toArray,List.set_cons_zero,List.set_cons_succ,zBS,zBg]
    rfl
   refine zDX (i:=2) (N:=some 38) (v:=?_) (a':=?_) #[true,true,true,true,false,false,false,false,false,false,false] rfl rfl (zC5 HT_.out HW_.out (by kernel_rfl)) (fun _ _ _ h=>by cases h.1) (Or.inl ⟨by rfl,?_⟩) s ?_ ?_
   rotate_left
   ·rintro w' ⟨s0,s1⟩
    go_simp
    with_reducible rfl
   rotate_left
   ·simp only [Act.put,List.setIfInBounds_toArray,List.set_cons_zero,List.set_cons_succ,zBS,zBg]
    rfl
   refine zCX (i:=4) (N:=some 40) (v:=?_) (a':=?_) #[true,true,true,true,true,false,false,false,false,false,false] rfl rfl (zCl HT_.out (by kernel_rfl)) (fun _ _ _ h=>by cases h.1) (Or.inl ⟨by rfl,?_⟩) ?_ ?_
   rotate_left
   ·intro w'
    go_simp
    with_reducible rfl
   rotate_left
   ·simp only [Act.put,List.setIfInBounds_toArray,List.set_cons_zero,List.set_cons_succ,zBS,zBg]
    rfl
   refine zCX (i:=5) (N:=some 41) (v:=?_) (a':=?_) #[true,true,true,true,true,true,false,false,false,false,false] rfl rfl (zCl HT_.out (by kernel_rfl)) (fun _ _ _ h=>by cases h.1) (Or.inl ⟨by rfl,?_⟩) ?_ ?_
   rotate_left
   ·intro w'
    go_simp
    with_reducible rfl
   rotate_left
   ·simp only [Act.put,List.setIfInBounds_toArray,List.set_cons_zero,List.set_cons_succ,zBS,zBg]
    rfl
   refine zCX (i:=8) (N:=some 44) (v:=?_) (a':=?_) #[true,true,true,true,true,true,false,false,true,false,false] rfl rfl (zCl HT_.out (by kernel_rfl)) (fun _ _ _ h=>by cases h.1) (Or.inl ⟨by rfl,?_⟩) ?_ ?_
   rotate_left
   ·intro w'
    go_simp
    with_reducible rfl
   rotate_left
   ·simp only [Act.put,List.setIfInBounds_toArray,List.set_cons_zero,List.set_cons_succ,zBS,zBg]
    rfl
   refine zDX (i:=6) (N:=some 42) (v:=?_) (a':=?_) #[true,true,true,true,true,true,true,false,true,false,false] rfl rfl (zC5 HT_.out HW_.out (by kernel_rfl)) (fun _ _ _ h=>by cases h.1) (Or.inl ⟨by rfl,?_⟩) s ?_ ?_
   rotate_left
   ·rintro w' ⟨s0,s1⟩
    go_simp
    with_reducible rfl
   rotate_left
   ·simp only [Act.put,List.setIfInBounds_toArray,List.set_cons_zero,List.set_cons_succ,zBS,zBg]
    rfl
   refine zCX (i:=7) (N:=some 43) (v:=?_) (a':=?_) #[true,true,true,true,true,true,true,true,true,false,false] rfl rfl (zCl HT_.out (by kernel_rfl)) (fun _ _ _ h=>by cases h.1) (Or.inl ⟨by rfl,?_⟩) ?_ ?_
   rotate_left
   ·intro w'
    go_simp
    with_reducible rfl
   rotate_left
   ·simp only [Act.put,List.setIfInBounds_toArray,List.set_cons_zero,List.set_cons_succ,zBS,zBg]
    rfl
   refine zCX (i:=9) (N:=some 45) (v:=?_) (a':=?_) #[true,true,true,true,true,true,true,true,true,true,false] rfl rfl (zCl HT_.out (by kernel_rfl)) (fun _ _ _ h=>by cases h.1) (Or.inl ⟨by rfl,?_⟩) ?_ ?_
   rotate_left
   ·intro w'
    go_simp
    with_reducible rfl
   rotate_left
   ·simp only [Act.put,List.setIfInBounds_toArray,List.set_cons_zero,List.set_cons_succ,zBS,zBg]
    rfl
   refine last_ (i:=10) (N:=none) #[true,true,true,true,true,true,true,true,true,true,true] rfl rfl (zDj HT_.out (by kernel_rfl)) (by decide) (fun K hK=>?_)
   have hfs:=(show w9.frozen? ⟨gr,y.toNat*2+1,none⟩=false from by obtain ⟨cells,hcl⟩:=Kd.zX n1_.out gr rfl;exact zW hcl _)
   refine zB0 (w1:=?_) (by rfl) rfl ?_ ?_
   rotate_left
   ·go_simp
    rfl
   refine hK.out _ _ ?_
   clear hK K
   refine zBZ (zA8 HT_.out (by kernel_rfl)) ?_
   refine ⟨rfl,?_⟩
   have hsg:=Kd.R_seg n1_.out y (by have:=HY.out;omega) (by have:=HY.out;omega) (c:=[.int .i64 f1[j].f0,.int .i64 f1[j].f1]) (seg:=[.int .i64 (wrap64 (-f1[j].f1))]) (j:=1) rfl (fun q u hq=>by match q,hq with
    | 0,hq=>cases hq;exact hc0d
    | 1,hq=>cases hq;exact hc1d
    | q+2,hq=>simp at hq) (show 1+1≤2 from by decide) (x':=zBY f1[j]) (zBB _ _ (fun _=>False) (zBY f1[j])) (fun _ hk=>hk.elim)
   go_wp2
   go_roundg n1
   case measure=>omega
   case rel =>
    have hLs:((f1.take j).map zBY ++ f1.drop j).set y.toNat (zBY f1[j])=(f1.take (j+1)).map zBY ++ f1.drop (j+1):=by
     have h0:(f1.drop j).set 0 (zBY f1[j])=zBY f1[j] :: f1.drop (j+1):=by rw [List.drop_eq_getElem_cons hj];rfl
     rw [HY.out,Int.toNat_natCast,List.set_append_right _ _ (by simp;omega),List.take_succ_eq_append_getElem hj,List.map_append,List.append_assoc,show j - ((f1.take j).map zBY).length=0 from by simp;omega,h0]
     rfl
    have hR2:=hsg.1
    rw [hLs] at hR2
    have hgD:D≠gr:=fun e=>by obtain ⟨cells,hcl⟩:=Kd.zX n1_.out gr rfl;rw [← e,n4_.out] at hcl;cases hcl
    have hg5r:g5≠gr:=fun e=>hneg (by rw [e];rfl)
    exact ⟨wrap64 (y+1),j+1,rfl,⟨by have h1:=HY.out;have h2:=(Kd.zJ n1_.out).2.2.2.1;rw [hLl] at h2;unfold wrap64;omega⟩,⟨by have:=Hk.out;omega⟩,⟨hj⟩,⟨hR2⟩,⟨by rw [Below.heap_setCell _ _ _ _ hg5r];exact n2_.out⟩,⟨by rw [Below.heap_setCell _ _ _ _ hgD];exact n4_.out⟩,⟨zBO n3_.out hgrb⟩⟩
end Go.Proofs.Ythimaecnpkcmeaa.K
namespace Go.Proofs.Ythimaecnpkcmeaa.K
open Go.RowKit Go.Proofs.YthimaecnpkcmeaaW.PrintWords Go.Proofs.YthimaecnpkcmeaaW.PrintLast Go.Proofs.YthimaecnpkcmeaaW.PrintMore
attribute [local go_sem] zAX zAW zAg zAf zAF zAG zAU zAV   -- for this text's walks alone
set_option linter.unusedVariables false
set_option linter.unusedSimpArgs false
attribute [local go_sem high] eqA64
def zAC.l0:Nat→List Int→List Int→Int→Int→Option (Bool)
 | 0,_,_,_,_=>none
 | k+1,x0,x1,x12,x13=>if x13 < x12 then (if 0≤x13 then (if x13 < (x0.length:Int) then (if x13 < (x1.length:Int) then (if (rd x0 x13)=(rd x1 x13) then (zAC.l0 k x0 x1 x12 (wrap64 (x13+1))) else (some false)) else (none)) else (none)) else (none)) else (some true)
def zAC.f (k:Nat) (l0:List Int) (l1:List Int):Option (Bool):=if (l0.length:Int)=(l1.length:Int) then (zAC.l0 k l0 l1 (l0.length:Int) 0) else (some false)
set_option maxHeartbeats 8000000 in
set_option maxRecDepth 100000 in
theorem zAC.calls (k:Nat) (A0:Option Addr) (c0:Nat) (l0:List Int) (A1:Option Addr) (c1:Nat) (l1:List Int) (r:Bool) (w:World) (hr0:Kd.C (Kd.int .i64) w A0 l0.length l0) (hc0:l0.length≤c0) (hr1:Kd.C (Kd.int .i64) w A1 l1.length l1) (hc1:l1.length≤c1) (h:zAC.f k l0 l1=some r) :
 Calls Try.prog 41 #[.slice A0 l0.length c0,.slice A1 l1.length c1] w fun e w'=>e= .returned (.bool r)∧zY w w':=by
 have HR0:=zA.mk hr0
 have HC0:=zA.mk hc0
 clear hr0 hc0
 have HR1:=zA.mk hr1
 have HC1:=zA.mk hc1
 clear hr1 hc1
 have H:(if (l0.length:Int)=(l1.length:Int) then (zAC.l0 k l0 l1 (l0.length:Int) 0) else (some false))=some r:=h
 clear h
 by_cases c3:(l0.length:Int)=(l1.length:Int)
 rotate_left
 ·rw [if_neg c3] at H
  have l:((l0.length:Int) == (l1.length:Int))=false:=beq_eq_false_iff_ne.mpr c3
  have m:((l0.length:Int) != (l1.length:Int))=true:=bne_iff_ne.mpr c3
  have n:(l0.length == l1.length)=false:=by first|simpa using c3|(simp at c3 ⊢;omega)
  obtain rfl:=Option.some.inj H
  go_enter Try.func41,Try.ntmps41
  go_wp2
  repeat (go_quiet (fail);try go_wp2)
  go_ret
  exact ⟨by first|rfl|(simp;done)|(simp [*];done),by repeat (first|exact zY.refl _|apply zY.step)⟩
 rw [if_pos c3] at H
 have l:((l0.length:Int) == (l1.length:Int))=true:=beq_iff_eq.mpr c3
 have m:((l0.length:Int) != (l1.length:Int))=false:=bne_eq_false_iff_eq.mpr c3
 have n:(l0.length == l1.length)=true:=by first|simpa using c3|(simp at c3 ⊢;omega)
 clear c3
 have H':=zA.mk H
 clear H
 go_enter Try.func41,Try.ntmps41
 go_wp2
 repeat (go_quiet (fail);try go_wp2)
 go_loopg [13] k (fun kq v13 w'=>∃ (a:Int),v13= .int .i64 a∧zA (zAC.l0 kq l0 l1 (l0.length:Int) a=some r)∧zA (kq≤k)∧zY w w')
 case atStart=>exact ⟨(0),sA,H',⟨Nat.le_refl _⟩,by repeat (first|exact zY.refl _|apply zY.step)⟩
 case round =>
  clear H'
  try clear c1
  try clear p2
  try clear c3
  try clear l
  try clear m
  try clear n
  obtain ⟨a,rfl,HA,HK1,⟨m1,rfl⟩⟩:=hrel
  cases gk with
  | zero=>exact absurd HA.out (by simp [zAC.l0])
  | succ k1 =>
   have H:=HA.out
   clear HA
   simp only [zAC.l0] at H
   by_cases c4:a < (l0.length:Int)
   rotate_left
   ·rw [if_neg c4] at H
    have q:decide (a < (l0.length:Int))=false:=decide_eq_false c4
    clear c4
    obtain rfl:=Option.some.inj H
    go_wp2
    repeat (go_quiet (fail);try go_wp2)
    go_ret
    exact ⟨by first|rfl|(simp;done)|(simp [*];done),by repeat (first|exact zY.refl _|apply zY.step)⟩
   rw [if_pos c4] at H
   have q:decide (a < (l0.length:Int))=true:=decide_eq_true c4
   clear c4
   by_cases c5:0≤a
   rotate_left
   ·rw [if_neg c5] at H
    exact absurd H (by simp)
   rw [if_pos c5] at H
   have u:decide (0≤a)=true:=decide_eq_true c5
   clear c5
   by_cases c6:a < (l0.length:Int)
   rotate_left
   ·rw [if_neg c6] at H
    exact absurd H (by simp)
   rw [if_pos c6] at H
   have v:decide (a < (l0.length:Int))=true:=decide_eq_true c6
   clear c6
   by_cases c7:a < (l1.length:Int)
   rotate_left
   ·rw [if_neg c7] at H
    exact absurd H (by simp)
   rw [if_pos c7] at H
   have x:decide (a < (l1.length:Int))=true:=decide_eq_true c7
   clear c7
   by_cases c8:(rd l0 a)=(rd l1 a)
   rotate_left
   ·rw [if_neg c8] at H
    have s:((rd l0 a) == (rd l1 a))=false:=beq_eq_false_iff_ne.mpr c8
    have t:((rd l0 a) != (rd l1 a))=true:=bne_iff_ne.mpr c8
    obtain rfl:=Option.some.inj H
    have b:0≤(a:Int):=dA
    have c:a < (l0.length:Int):=dA
    obtain ⟨o,e334,i⟩:=Kd.zAh HR0.out a b c
    cases e334
    replace b:=eq_true b
    replace c:=eq_true c
    have d:0≤(a:Int):=dA
    have g:a < (l1.length:Int):=dA
    obtain ⟨p,e335,j⟩:=Kd.zAh HR1.out a d g
    cases e335
    replace d:=eq_true d
    replace g:=eq_true g
    go_wp2
    repeat (go_quiet (fail);try go_wp2)
    go_ret
    exact ⟨by first|rfl|(simp;done)|(simp [*];done),by repeat (first|exact zY.refl _|apply zY.step)⟩
   rw [if_pos c8] at H
   have s:((rd l0 a) == (rd l1 a))=true:=beq_iff_eq.mpr c8
   have t:((rd l0 a) != (rd l1 a))=false:=bne_eq_false_iff_eq.mpr c8
   clear c8
   have H':=zA.mk H
   clear H
   have b:0≤(a:Int):=dA
   have c:a < (l0.length:Int):=dA
   obtain ⟨o,e334,i⟩:=Kd.zAh HR0.out a b c
   cases e334
   replace b:=eq_true b
   replace c:=eq_true c
   have d:0≤(a:Int):=dA
   have g:a < (l1.length:Int):=dA
   obtain ⟨p,e335,j⟩:=Kd.zAh HR1.out a d g
   cases e335
   replace d:=eq_true d
   replace g:=eq_true g
   go_wp2
   repeat (go_quiet (fail);try go_wp2)
   go_roundg k1
   case measure=>have:=HK1.out;omega
   case rel=>exact ⟨(wrap64 (a+1)),sA,H',⟨by have:=HK1.out;omega⟩,by repeat (first|exact zY.refl _|apply zY.step)⟩
def zn.l0:Nat→List (S64)→List (S64)→Int→Option (Bool)
 | 0,_,_,_=>none
 | k+1,x0,x1,x5=>if x5 < (x0.length:Int) then (if 0≤x5 then (if x5 < (x1.length:Int) then (if (!(((zI x0 x5).f0) == ((zI x1 x5).f0)) || (!(((zI x0 x5).f1) == ((zI x1 x5).f1))))=true then (some false) else (zn.l0 k x0 x1 (wrap64 (x5+1)))) else (none)) else (none)) else (some true)
def zn.f (k:Nat) (l0:List (S64)) (l1:List (S64)):Option (Bool):=if (l0.length:Int)=(l1.length:Int) then (zn.l0 k l0 l1 0) else (some false)
set_option maxHeartbeats 8000000 in
set_option maxRecDepth 100000 in
theorem zn.calls (k:Nat) (A0:Option Addr) (c0:Nat) (l0:List (S64)) (A1:Option Addr) (c1:Nat) (l1:List (S64)) (r:Bool) (w:World) (hr0:Kd.C k64 w A0 l0.length l0) (hc0:l0.length≤c0) (hr1:Kd.C k64 w A1 l1.length l1) (hc1:l1.length≤c1) (h:zn.f k l0 l1=some r) :
 Calls Try.prog 42 #[.slice A0 l0.length c0,.slice A1 l1.length c1] w fun e w'=>e= .returned (.bool r)∧zY w w':=by
 have v:=Try.underlying64
 have HR0:=zA.mk hr0
 have HC0:=zA.mk hc0
 clear hr0 hc0
 have HR1:=zA.mk hr1
 have HC1:=zA.mk hc1
 clear hr1 hc1
 have H:(if (l0.length:Int)=(l1.length:Int) then (zn.l0 k l0 l1 0) else (some false))=some r:=h
 clear h
 by_cases c3:(l0.length:Int)=(l1.length:Int)
 rotate_left
 ·rw [if_neg c3] at H
  have n:((l0.length:Int) == (l1.length:Int))=false:=beq_eq_false_iff_ne.mpr c3
  have o:((l0.length:Int) != (l1.length:Int))=true:=bne_iff_ne.mpr c3
  have p:(l0.length == l1.length)=false:=by first|simpa using c3|(simp at c3 ⊢;omega)
  obtain rfl:=Option.some.inj H
  go_enter Try.func42,Try.ntmps42
  go_wp2
  repeat (go_quiet (fail);try go_wp2)
  go_ret
  exact ⟨by first|rfl|(simp;done)|(simp [*];done),by repeat (first|exact zY.refl _|apply zY.step)⟩
 rw [if_pos c3] at H
 have n:((l0.length:Int) == (l1.length:Int))=true:=beq_iff_eq.mpr c3
 have o:((l0.length:Int) != (l1.length:Int))=false:=bne_eq_false_iff_eq.mpr c3
 have p:(l0.length == l1.length)=true:=by first|simpa using c3|(simp at c3 ⊢;omega)
 clear c3
 have H':=zA.mk H
 clear H
 go_enter Try.func42,Try.ntmps42
 go_wp2
 repeat (go_quiet (fail);try go_wp2)
 go_loopg [5] k (fun kq v5 w'=>∃ (a:Int),v5= .int .i64 a∧zA (zn.l0 kq l0 l1 a=some r)∧zA (kq≤k)∧zY w w')
 case atStart=>exact ⟨(0),sA,H',⟨Nat.le_refl _⟩,by repeat (first|exact zY.refl _|apply zY.step)⟩
 case round =>
  clear H'
  try clear c1
  try clear p2
  try clear c3
  try clear n
  try clear o
  try clear p
  obtain ⟨a,rfl,HA,HK1,⟨m1,rfl⟩⟩:=hrel
  cases gk with
  | zero=>exact absurd HA.out (by simp [zn.l0])
  | succ k1 =>
   have H:=HA.out
   clear HA
   simp only [zn.l0] at H
   by_cases c4:a < (l0.length:Int)
   rotate_left
   ·rw [if_neg c4] at H
    have t:decide (a < (l0.length:Int))=false:=decide_eq_false c4
    clear c4
    obtain rfl:=Option.some.inj H
    go_wp2
    repeat (go_quiet (fail);try go_wp2)
    go_ret
    exact ⟨by first|rfl|(simp;done)|(simp [*];done),by repeat (first|exact zY.refl _|apply zY.step)⟩
   rw [if_pos c4] at H
   have t:decide (a < (l0.length:Int))=true:=decide_eq_true c4
   clear c4
   by_cases c5:0≤a
   rotate_left
   ·rw [if_neg c5] at H
    exact absurd H (by simp)
   rw [if_pos c5] at H
   have x:decide (0≤a)=true:=decide_eq_true c5
   clear c5
   by_cases c6:a < (l1.length:Int)
   rotate_left
   ·rw [if_neg c6] at H
    exact absurd H (by simp)
   rw [if_pos c6] at H
   have y:decide (a < (l1.length:Int))=true:=decide_eq_true c6
   clear c6
   by_cases c7:(!(((zI l0 a).f0) == ((zI l1 a).f0)) || (!(((zI l0 a).f1) == ((zI l1 a).f1))))=true
   ·rw [if_pos c7] at H
    have u:(!(((zI l0 a).f0) == ((zI l1 a).f0)) || (!(((zI l0 a).f1) == ((zI l1 a).f1))))=true:=c7
    clear c7
    obtain rfl:=Option.some.inj H
    have b:0≤(a:Int):=dA
    have c:a < (l0.length:Int):=dA
    obtain ⟨q,e336,i,j⟩:=zBa HR0.out a b c
    cases e336
    replace b:=eq_true b
    replace c:=eq_true c
    have d:0≤(a:Int):=dA
    have g:a < (l1.length:Int):=dA
    obtain ⟨s,e337,l,m⟩:=zBa HR1.out a d g
    cases e337
    replace d:=eq_true d
    replace g:=eq_true g
    go_wp2
    repeat (go_quiet (fail);try go_wp2)
    go_ret
    exact ⟨by first|rfl|(simp;done)|(simp [*];done),by repeat (first|exact zY.refl _|apply zY.step)⟩
   rw [if_neg c7] at H
   have u:(!(((zI l0 a).f0) == ((zI l1 a).f0)) || (!(((zI l0 a).f1) == ((zI l1 a).f1))))=false:=by simpa using c7
   clear c7
   have H':=zA.mk H
   clear H
   have b:0≤(a:Int):=dA
   have c:a < (l0.length:Int):=dA
   obtain ⟨q,e336,i,j⟩:=zBa HR0.out a b c
   cases e336
   replace b:=eq_true b
   replace c:=eq_true c
   have d:0≤(a:Int):=dA
   have g:a < (l1.length:Int):=dA
   obtain ⟨s,e337,l,m⟩:=zBa HR1.out a d g
   cases e337
   replace d:=eq_true d
   replace g:=eq_true g
   go_wp2
   repeat (go_quiet (fail);try go_wp2)
   go_roundg k1
   case measure=>have:=HK1.out;omega
   case rel=>exact ⟨(wrap64 (a+1)),sA,H',⟨by have:=HK1.out;omega⟩,by repeat (first|exact zY.refl _|apply zY.step)⟩
def zAB.l0:Nat→List (List (S64))→List (List (S64))→Int→Option (Bool)
 | 0,_,_,_=>none
 | k+1,x0,x1,x5=>if x5 < (x0.length:Int) then (if 0≤x5 then (if x5 < (x1.length:Int) then ((zn.f k (zBj x0 x5) (zBj x1 x5)).bind fun a=>(if a=true then (zAB.l0 k x0 x1 (wrap64 (x5+1))) else (some false))) else (none)) else (none)) else (some true)
def zAB.f (k:Nat) (l0:List (List (S64))) (l1:List (List (S64))):Option (Bool):=if (l0.length:Int)=(l1.length:Int) then (zAB.l0 k l0 l1 0) else (some false)
set_option maxHeartbeats 8000000 in
set_option maxRecDepth 100000 in
theorem zAB.calls (k:Nat) (A0:Option Addr) (c0:Nat) (l0:List (List (S64))) (A1:Option Addr) (c1:Nat) (l1:List (List (S64))) (r:Bool) (w:World) (hr0:Kd.C (Kd.slice 64 k64) w A0 l0.length l0) (hc0:l0.length≤c0) (hr1:Kd.C (Kd.slice 64 k64) w A1 l1.length l1) (hc1:l1.length≤c1) (h:zAB.f k l0 l1=some r) :
 Calls Try.prog 43 #[.slice A0 l0.length c0,.slice A1 l1.length c1] w fun e w'=>e= .returned (.bool r)∧zY w w':=by
 have HR0:=zA.mk hr0
 have HC0:=zA.mk hc0
 clear hr0 hc0
 have HR1:=zA.mk hr1
 have HC1:=zA.mk hc1
 clear hr1 hc1
 have H:(if (l0.length:Int)=(l1.length:Int) then (zAB.l0 k l0 l1 0) else (some false))=some r:=h
 clear h
 by_cases c3:(l0.length:Int)=(l1.length:Int)
 rotate_left
 ·rw [if_neg c3] at H
  have s:((l0.length:Int) == (l1.length:Int))=false:=beq_eq_false_iff_ne.mpr c3
  have t:((l0.length:Int) != (l1.length:Int))=true:=bne_iff_ne.mpr c3
  have u:(l0.length == l1.length)=false:=by first|simpa using c3|(simp at c3 ⊢;omega)
  obtain rfl:=Option.some.inj H
  go_enter Try.func43,Try.ntmps43
  go_wp2
  repeat (go_quiet (fail);try go_wp2)
  go_ret
  exact ⟨by first|rfl|(simp;done)|(simp [*];done),by repeat (first|exact zY.refl _|apply zY.step)⟩
 rw [if_pos c3] at H
 have s:((l0.length:Int) == (l1.length:Int))=true:=beq_iff_eq.mpr c3
 have t:((l0.length:Int) != (l1.length:Int))=false:=bne_eq_false_iff_eq.mpr c3
 have u:(l0.length == l1.length)=true:=by first|simpa using c3|(simp at c3 ⊢;omega)
 clear c3
 have H':=zA.mk H
 clear H
 go_enter Try.func43,Try.ntmps43
 go_wp2
 repeat (go_quiet (fail);try go_wp2)
 go_loopg [5] k (fun kq v5 w'=>∃ (a:Int),v5= .int .i64 a∧zA (zAB.l0 kq l0 l1 a=some r)∧zA (kq≤k)∧zY w w')
 case atStart=>exact ⟨(0),sA,H',⟨Nat.le_refl _⟩,by repeat (first|exact zY.refl _|apply zY.step)⟩
 case round =>
  clear H'
  try clear c1
  try clear p2
  try clear c3
  try clear s
  try clear t
  try clear u
  obtain ⟨a,rfl,HA,HK1,⟨m1,rfl⟩⟩:=hrel
  cases gk with
  | zero=>exact absurd HA.out (by simp [zAB.l0])
  | succ k1 =>
   have H:=HA.out
   clear HA
   simp only [zAB.l0] at H
   by_cases c4:a < (l0.length:Int)
   rotate_left
   ·rw [if_neg c4] at H
    have ae:decide (a < (l0.length:Int))=false:=decide_eq_false c4
    clear c4
    obtain rfl:=Option.some.inj H
    go_wp2
    repeat (go_quiet (fail);try go_wp2)
    go_ret
    exact ⟨by first|rfl|(simp;done)|(simp [*];done),by repeat (first|exact zY.refl _|apply zY.step)⟩
   rw [if_pos c4] at H
   have ae:decide (a < (l0.length:Int))=true:=decide_eq_true c4
   clear c4
   by_cases c5:0≤a
   rotate_left
   ·rw [if_neg c5] at H
    exact absurd H (by simp)
   rw [if_pos c5] at H
   have af:decide (0≤a)=true:=decide_eq_true c5
   clear c5
   by_cases c6:a < (l1.length:Int)
   rotate_left
   ·rw [if_neg c6] at H
    exact absurd H (by simp)
   rw [if_pos c6] at H
   have ag:decide (a < (l1.length:Int))=true:=decide_eq_true c6
   clear c6
   replace H:=Option.bind_eq_some_iff.mp H
   obtain ⟨v,A70,H⟩:=H
   replace H:(if v=true then (zAB.l0 k1 l0 l1 (wrap64 (a+1))) else (some false))=some r:=H
   have A7:=zA.mk A70
   clear A70
   by_cases c8:v=true
   rotate_left
   ·replace c8:=Bool.eq_false_iff.mpr c8
    subst c8
    have H1:(some false)=some r:=by rw [if_neg (show ¬ (false=true) by decide)] at H;exact H
    clear H
    have H:=H1
    clear H1
    obtain rfl:=Option.some.inj H
    have l:0≤(a:Int):=dA
    have m:a < (l0.length:Int):=dA
    obtain ⟨ac,x,y,e338,p,d,g⟩:=zDn HR0.out a l m
    cases e338
    have b:=zA.mk g
    have HC338_0:=zA.mk d
    clear g d
    replace l:=eq_true l
    replace m:=eq_true m
    have n:0≤(a:Int):=dA
    have o:a < (l1.length:Int):=dA
    obtain ⟨ad,aa,ab,e339,q,i,j⟩:=zDn HR1.out a n o
    cases e339
    have c:=zA.mk j
    have HC339_0:=zA.mk i
    clear j i
    replace n:=eq_true n
    replace o:=eq_true o
    go_wp2_with (first|(go_at_call 42;(with_reducible refine (zn.calls k1 _ _ (zBj l0 a) _ _ (zBj l1 a) false _ ?side1 ?side2 ?side3 ?side4 A7.out).mono ?_);(case side1=>repeat (first|exact b.out|(with_reducible refine Kd.zAo ?_ _)|(with_reducible refine Kd.zAl ?_ _)|(with_reducible refine Kd.zA3 ?_)));(case side2=>exact HC338_0.out);(case side3=>repeat (first|exact c.out|(with_reducible refine Kd.zAo ?_ _)|(with_reducible refine Kd.zAl ?_ _)|(with_reducible refine Kd.zA3 ?_)));(case side4=>exact HC339_0.out);rintro e w' ⟨rfl,⟨nd,rfl⟩⟩;(try first|exact ⟨rfl,_,World.drewN_drewN _ _ _⟩|exact ⟨rfl,_,Eq.trans (World.drewN_drewN _ _ _) (congrArg (World.drewN _) (Nat.add_assoc _ _ _))⟩)))
    repeat (go_quiet (first|(go_at_call 42;(with_reducible refine (zn.calls k1 _ _ (zBj l0 a) _ _ (zBj l1 a) false _ ?side1 ?side2 ?side3 ?side4 A7.out).mono ?_);(case side1=>repeat (first|exact b.out|(with_reducible refine Kd.zAo ?_ _)|(with_reducible refine Kd.zAl ?_ _)|(with_reducible refine Kd.zA3 ?_)));(case side2=>exact HC338_0.out);(case side3=>repeat (first|exact c.out|(with_reducible refine Kd.zAo ?_ _)|(with_reducible refine Kd.zAl ?_ _)|(with_reducible refine Kd.zA3 ?_)));(case side4=>exact HC339_0.out);rintro e w' ⟨rfl,⟨nd,rfl⟩⟩;(try first|exact ⟨rfl,_,World.drewN_drewN _ _ _⟩|exact ⟨rfl,_,Eq.trans (World.drewN_drewN _ _ _) (congrArg (World.drewN _) (Nat.add_assoc _ _ _))⟩)));try go_wp2_with (first|(go_at_call 42;(with_reducible refine (zn.calls k1 _ _ (zBj l0 a) _ _ (zBj l1 a) false _ ?side1 ?side2 ?side3 ?side4 A7.out).mono ?_);(case side1=>repeat (first|exact b.out|(with_reducible refine Kd.zAo ?_ _)|(with_reducible refine Kd.zAl ?_ _)|(with_reducible refine Kd.zA3 ?_)));(case side2=>exact HC338_0.out);(case side3=>repeat (first|exact c.out|(with_reducible refine Kd.zAo ?_ _)|(with_reducible refine Kd.zAl ?_ _)|(with_reducible refine Kd.zA3 ?_)));(case side4=>exact HC339_0.out);rintro e w' ⟨rfl,⟨nd,rfl⟩⟩;(try first|exact ⟨rfl,_,World.drewN_drewN _ _ _⟩|exact ⟨rfl,_,Eq.trans (World.drewN_drewN _ _ _) (congrArg (World.drewN _) (Nat.add_assoc _ _ _))⟩))))
    go_ret
    exact ⟨by first|rfl|(simp;done)|(simp [*];done),by repeat (first|exact zY.refl _|apply zY.step)⟩
   subst c8
   have H1:(zAB.l0 k1 l0 l1 (wrap64 (a+1)))=some r:=by rw [if_pos rfl] at H;exact H
   clear H
   have H:=H1
   clear H1
   have H':=zA.mk H
   clear H
   have l:0≤(a:Int):=dA
   have m:a < (l0.length:Int):=dA
   obtain ⟨ac,x,y,e338,p,d,g⟩:=zDn HR0.out a l m
   cases e338
   have b:=zA.mk g
   have HC338_0:=zA.mk d
   clear g d
   replace l:=eq_true l
   replace m:=eq_true m
   have n:0≤(a:Int):=dA
   have o:a < (l1.length:Int):=dA
   obtain ⟨ad,aa,ab,e339,q,i,j⟩:=zDn HR1.out a n o
   cases e339
   have c:=zA.mk j
   have HC339_0:=zA.mk i
   clear j i
   replace n:=eq_true n
   replace o:=eq_true o
   go_wp2_with (first|(go_at_call 42;(with_reducible refine (zn.calls k1 _ _ (zBj l0 a) _ _ (zBj l1 a) true _ ?side1 ?side2 ?side3 ?side4 A7.out).mono ?_);(case side1=>repeat (first|exact b.out|(with_reducible refine Kd.zAo ?_ _)|(with_reducible refine Kd.zAl ?_ _)|(with_reducible refine Kd.zA3 ?_)));(case side2=>exact HC338_0.out);(case side3=>repeat (first|exact c.out|(with_reducible refine Kd.zAo ?_ _)|(with_reducible refine Kd.zAl ?_ _)|(with_reducible refine Kd.zA3 ?_)));(case side4=>exact HC339_0.out);rintro e w' ⟨rfl,⟨nd,rfl⟩⟩;(try first|exact ⟨rfl,_,World.drewN_drewN _ _ _⟩|exact ⟨rfl,_,Eq.trans (World.drewN_drewN _ _ _) (congrArg (World.drewN _) (Nat.add_assoc _ _ _))⟩)))
   repeat (go_quiet (first|(go_at_call 42;(with_reducible refine (zn.calls k1 _ _ (zBj l0 a) _ _ (zBj l1 a) true _ ?side1 ?side2 ?side3 ?side4 A7.out).mono ?_);(case side1=>repeat (first|exact b.out|(with_reducible refine Kd.zAo ?_ _)|(with_reducible refine Kd.zAl ?_ _)|(with_reducible refine Kd.zA3 ?_)));(case side2=>exact HC338_0.out);(case side3=>repeat (first|exact c.out|(with_reducible refine Kd.zAo ?_ _)|(with_reducible refine Kd.zAl ?_ _)|(with_reducible refine Kd.zA3 ?_)));(case side4=>exact HC339_0.out);rintro e w' ⟨rfl,⟨nd,rfl⟩⟩;(try first|exact ⟨rfl,_,World.drewN_drewN _ _ _⟩|exact ⟨rfl,_,Eq.trans (World.drewN_drewN _ _ _) (congrArg (World.drewN _) (Nat.add_assoc _ _ _))⟩)));try go_wp2_with (first|(go_at_call 42;(with_reducible refine (zn.calls k1 _ _ (zBj l0 a) _ _ (zBj l1 a) true _ ?side1 ?side2 ?side3 ?side4 A7.out).mono ?_);(case side1=>repeat (first|exact b.out|(with_reducible refine Kd.zAo ?_ _)|(with_reducible refine Kd.zAl ?_ _)|(with_reducible refine Kd.zA3 ?_)));(case side2=>exact HC338_0.out);(case side3=>repeat (first|exact c.out|(with_reducible refine Kd.zAo ?_ _)|(with_reducible refine Kd.zAl ?_ _)|(with_reducible refine Kd.zA3 ?_)));(case side4=>exact HC339_0.out);rintro e w' ⟨rfl,⟨nd,rfl⟩⟩;(try first|exact ⟨rfl,_,World.drewN_drewN _ _ _⟩|exact ⟨rfl,_,Eq.trans (World.drewN_drewN _ _ _) (congrArg (World.drewN _) (Nat.add_assoc _ _ _))⟩))))
   go_roundg k1
   case measure=>have:=HK1.out;omega
   case rel=>exact ⟨(wrap64 (a+1)),sA,H',⟨by have:=HK1.out;omega⟩,by repeat (first|exact zY.refl _|apply zY.step)⟩
def zu.l0:Nat→List (S64)→List (S64)→Int→Int→Option (Bool)
 | 0,_,_,_,_=>none
 | k+1,x0,x1,x12,x13=>if x13 < x12 then (if 0≤x13 then (if x13 < (x0.length:Int) then (if x13 < (x1.length:Int) then (if (!(((zI x0 x13).f0) == ((zI x1 x13).f0)) || (!(((zI x0 x13).f1) == ((zI x1 x13).f1))))=true then (some false) else (zu.l0 k x0 x1 x12 (wrap64 (x13+1)))) else (none)) else (none)) else (none)) else (some true)
def zu.f (k:Nat) (l0:List (S64)) (l1:List (S64)):Option (Bool):=if (l0.length:Int)=(l1.length:Int) then (zu.l0 k l0 l1 (l0.length:Int) 0) else (some false)
set_option maxHeartbeats 8000000 in
set_option maxRecDepth 100000 in
theorem zu.calls (k:Nat) (A0:Option Addr) (c0:Nat) (l0:List (S64)) (A1:Option Addr) (c1:Nat) (l1:List (S64)) (r:Bool) (w:World) (hr0:Kd.C k64 w A0 l0.length l0) (hc0:l0.length≤c0) (hr1:Kd.C k64 w A1 l1.length l1) (hc1:l1.length≤c1) (h:zu.f k l0 l1=some r) :
 Calls Try.prog 28 #[.slice A0 l0.length c0,.slice A1 l1.length c1] w fun e w'=>e= .returned (.bool r)∧zY w w':=by
 have v:=Try.underlying64
 have HR0:=zA.mk hr0
 have HC0:=zA.mk hc0
 clear hr0 hc0
 have HR1:=zA.mk hr1
 have HC1:=zA.mk hc1
 clear hr1 hc1
 have H:(if (l0.length:Int)=(l1.length:Int) then (zu.l0 k l0 l1 (l0.length:Int) 0) else (some false))=some r:=h
 clear h
 by_cases c3:(l0.length:Int)=(l1.length:Int)
 rotate_left
 ·rw [if_neg c3] at H
  have n:((l0.length:Int) == (l1.length:Int))=false:=beq_eq_false_iff_ne.mpr c3
  have o:((l0.length:Int) != (l1.length:Int))=true:=bne_iff_ne.mpr c3
  have p:(l0.length == l1.length)=false:=by first|simpa using c3|(simp at c3 ⊢;omega)
  obtain rfl:=Option.some.inj H
  go_enter Try.func28,Try.ntmps28
  go_wp2
  repeat (go_quiet (fail);try go_wp2)
  go_ret
  exact ⟨by first|rfl|(simp;done)|(simp [*];done),by repeat (first|exact zY.refl _|apply zY.step)⟩
 rw [if_pos c3] at H
 have n:((l0.length:Int) == (l1.length:Int))=true:=beq_iff_eq.mpr c3
 have o:((l0.length:Int) != (l1.length:Int))=false:=bne_eq_false_iff_eq.mpr c3
 have p:(l0.length == l1.length)=true:=by first|simpa using c3|(simp at c3 ⊢;omega)
 clear c3
 have H':=zA.mk H
 clear H
 go_enter Try.func28,Try.ntmps28
 go_wp2
 repeat (go_quiet (fail);try go_wp2)
 go_loopg [13] k (fun kq v13 w'=>∃ (a:Int),v13= .int .i64 a∧zA (zu.l0 kq l0 l1 (l0.length:Int) a=some r)∧zA (kq≤k)∧zY w w')
 case atStart=>exact ⟨(0),sA,H',⟨Nat.le_refl _⟩,by repeat (first|exact zY.refl _|apply zY.step)⟩
 case round =>
  clear H'
  try clear c1
  try clear c2
  try clear p2
  try clear c3
  try clear n
  try clear o
  try clear p
  obtain ⟨a,rfl,HA,HK1,⟨m1,rfl⟩⟩:=hrel
  cases gk with
  | zero=>exact absurd HA.out (by simp [zu.l0])
  | succ k1 =>
   have H:=HA.out
   clear HA
   simp only [zu.l0] at H
   by_cases c4:a < (l0.length:Int)
   rotate_left
   ·rw [if_neg c4] at H
    have t:decide (a < (l0.length:Int))=false:=decide_eq_false c4
    clear c4
    obtain rfl:=Option.some.inj H
    go_wp2
    repeat (go_quiet (fail);try go_wp2)
    go_ret
    exact ⟨by first|rfl|(simp;done)|(simp [*];done),by repeat (first|exact zY.refl _|apply zY.step)⟩
   rw [if_pos c4] at H
   have t:decide (a < (l0.length:Int))=true:=decide_eq_true c4
   clear c4
   by_cases c5:0≤a
   rotate_left
   ·rw [if_neg c5] at H
    exact absurd H (by simp)
   rw [if_pos c5] at H
   have x:decide (0≤a)=true:=decide_eq_true c5
   clear c5
   by_cases c6:a < (l0.length:Int)
   rotate_left
   ·rw [if_neg c6] at H
    exact absurd H (by simp)
   rw [if_pos c6] at H
   have y:decide (a < (l0.length:Int))=true:=decide_eq_true c6
   clear c6
   by_cases c7:a < (l1.length:Int)
   rotate_left
   ·rw [if_neg c7] at H
    exact absurd H (by simp)
   rw [if_pos c7] at H
   have aa:decide (a < (l1.length:Int))=true:=decide_eq_true c7
   clear c7
   by_cases c8:(!(((zI l0 a).f0) == ((zI l1 a).f0)) || (!(((zI l0 a).f1) == ((zI l1 a).f1))))=true
   ·rw [if_pos c8] at H
    have u:(!(((zI l0 a).f0) == ((zI l1 a).f0)) || (!(((zI l0 a).f1) == ((zI l1 a).f1))))=true:=c8
    clear c8
    obtain rfl:=Option.some.inj H
    have b:0≤(a:Int):=dA
    have c:a < (l0.length:Int):=dA
    obtain ⟨q,e341,i,j⟩:=zBa HR0.out a b c
    cases e341
    replace b:=eq_true b
    replace c:=eq_true c
    have d:0≤(a:Int):=dA
    have g:a < (l1.length:Int):=dA
    obtain ⟨s,e342,l,m⟩:=zBa HR1.out a d g
    cases e342
    replace d:=eq_true d
    replace g:=eq_true g
    go_wp2
    repeat (go_quiet (fail);try go_wp2)
    go_ret
    exact ⟨by first|rfl|(simp;done)|(simp [*];done),by repeat (first|exact zY.refl _|apply zY.step)⟩
   rw [if_neg c8] at H
   have u:(!(((zI l0 a).f0) == ((zI l1 a).f0)) || (!(((zI l0 a).f1) == ((zI l1 a).f1))))=false:=by simpa using c8
   clear c8
   have H':=zA.mk H
   clear H
   have b:0≤(a:Int):=dA
   have c:a < (l0.length:Int):=dA
   obtain ⟨q,e341,i,j⟩:=zBa HR0.out a b c
   cases e341
   replace b:=eq_true b
   replace c:=eq_true c
   have d:0≤(a:Int):=dA
   have g:a < (l1.length:Int):=dA
   obtain ⟨s,e342,l,m⟩:=zBa HR1.out a d g
   cases e342
   replace d:=eq_true d
   replace g:=eq_true g
   go_wp2
   repeat (go_quiet (fail);try go_wp2)
   go_roundg k1
   case measure=>have:=HK1.out;omega
   case rel=>exact ⟨(wrap64 (a+1)),sA,H',⟨by have:=HK1.out;omega⟩,by repeat (first|exact zY.refl _|apply zY.step)⟩
end Go.Proofs.Ythimaecnpkcmeaa.K
