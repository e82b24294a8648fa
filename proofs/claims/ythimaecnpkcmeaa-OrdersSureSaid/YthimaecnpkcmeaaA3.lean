/- Contracts of Go functions and lemmas for them: each theorem states what one function returns and what it leaves of memory; its conditions stand in its statement. -/
import Derived.ArgAppend
import Derived.Below
import Derived.BigQuiet
import Derived.ChangeKeysEq
import Derived.Deep.AppendLies
import Derived.Deep.CutBlock
import Derived.Deep.DeepCutAuto
import Derived.Deep.Draws
import Derived.Deep.LoopGhost
import Derived.Deep.OwnRows
import Derived.Deep.QuietTactic
import Derived.Deep.RegionHeld3
import Derived.KernelRfl
import Derived.Laws.BitsLemmas
import Derived.Laws.BytesArg
import Derived.Laws.IdiomCopy
import Derived.Laws.MakeOwn
import Derived.Laws.OwnMore
import Derived.Laws.Rows
import Derived.Laws.Slices
import Derived.Lib.AppendStr
import Derived.Lib.ConvBytes
import Derived.Maps.AppendAt
import Derived.OrdersHeld
import Derived.OwnWalk
import Derived.RowKit
import Derived.RowKit3
import Derived.StillTailTactics
import Derived.Tactics
import Derived.Test.YthimaecnpkcmeaaProg
import Derived.WalkKit
import Derived.WalkSpells
import Derived.WideLaws
import Derived.Test.YthimaecnpkcmeaaA0
import Derived.Test.YthimaecnpkcmeaaA1
import Derived.Test.YthimaecnpkcmeaaA2
set_option linter.unusedVariables false
set_option linter.unusedSimpArgs false
namespace Go.Proofs.YthimaecnpkcmeaaW.PrintWords
open Go.RowKit Go.Proofs.YthimaecnpkcmeaaW.PrintLast Go.Proofs.YthimaecnpkcmeaaW.PrintMore
theorem bB {w0 w w1:World} {g:Nat} {o:Obj} (h:w0.heap[g]? = some o) (hb:Below w.heap.size w w1) (s:w0.heap[g]? = some o→w.heap[g]? = some o:=by intro h;(with_reducible repeat (first|refine blk_drewN ?_ _|refine blk_drew ?_|refine blk_alloc ?_ _));exact h):w1.heap[g]? = some o:=blk_below (s h) hb
theorem bA {w0 w:World} (s:Below w0.heap.size w0 w:=by repeat (first|(with_reducible first|exact HB.out|apply below_alloc|apply pw_below_drewN|apply below_drew1|refine below_set ?_ (Aside0.out (by assumption)))|exact HB.out)):Below w0.heap.size w0 w:=s
theorem bS {w0 w w1:World} (hb:Below w.heap.size w w1) (s:Below w0.heap.size w0 w:=by repeat (first|(with_reducible first|exact HB.out|apply below_alloc|apply pw_below_drewN|apply below_drew1|refine below_set ?_ (Aside0.out (by assumption)))|exact HB.out)):Below w0.heap.size w0 w1:=below_step s hb
theorem bZ {w0 w:World} (s:Below w0.heap.size w0 w:=by repeat (first|(with_reducible first|exact HB.out|apply below_alloc|apply pw_below_drewN|apply below_drew1|refine below_set ?_ (Aside0.out (by assumption)))|exact HB.out)):w0.heap.size≤w.heap.size:=below_size s
theorem gS {w0 w:World} {g:Nat} (hg:g=w.heap.size) (s:Below w0.heap.size w0 w:=by repeat (first|(with_reducible first|exact HB.out|apply below_alloc|apply pw_below_drewN|apply below_drew1|refine below_set ?_ (Aside0.out (by assumption)))|exact HB.out)):w0.heap.size≤g:=by rw [hg];exact below_size s
theorem bX {w0 w:World} {g:Nat} {o:Obj} (h:w0.heap[g]? = some o) (s:w0.heap[g]? = some o→w.heap[g]? = some o:=by intro h;(with_reducible repeat (first|refine blk_drewN ?_ _|refine blk_drew ?_|refine blk_alloc ?_ _));exact h):w.heap[g]? = some o:=s h
theorem rS {α:Type} {d:Kd α} {e:Nat} {w0 w:World} {b:Nat} {ok:Nat→Prop} {v:Value} {xs:List α} (h:d.R e w0 b ok v xs) (s:d.R e w0 b ok v xs→d.R e w b ok v xs:=by intro h;(with_reducible repeat (first|apply Kd.R_alloc|apply Kd.R_drewN|apply Kd.R_drew));exact h):d.R e w b ok v xs:=s h
theorem nS {α:Type} {d:Kd α} {e:Nat} {w0 w:World} {b:Nat} {ok:Nat→Prop} {v:Value} {xs:List α} (h:d.N e w0 b ok v xs) (s:d.N e w0 b ok v xs→d.N e w b ok v xs:=by intro h;(with_reducible repeat (first|apply Kd.N_alloc|apply Kd.N_drewN|apply Kd.N_drew));exact h):d.N e w b ok v xs:=s h
theorem cS {α:Type} {d:Kd α} {w0 w:World} {A:Option Addr} {n:Nat} {xs:List α} (h:d.C w0 A n xs) (s:d.C w0 A n xs→d.C w A n xs:=by intro h;repeat (first|exact (Kd.C_below h HB.out)|(with_reducible refine Kd.C_alloc ?_ _)|(with_reducible refine Kd.C_drewN ?_ _)|(with_reducible refine Kd.C_drew ?_))):d.C w A n xs:=s h
theorem cR {α:Type} {d:Kd α} {w0 w:World} {A:Option Addr} {n:Nat} {xs:List α} (h:d.C w0 A n xs) (s:d.C w0 A n xs→d.C w A n xs:=by intro h;repeat (first|exact h|(with_reducible refine Kd.C_alloc ?_ _)|(with_reducible refine Kd.C_drewN ?_ _)|(with_reducible refine Kd.C_drew ?_))):d.C w A n xs:=s h
theorem dA {p:Prop} [Decidable p] (h:decide p=true:=by first|(with_reducible assumption)|assumption):p:=of_decide_eq_true h
theorem sA {p:Prop} (h:p:=by first|rfl|(simp;done)|(simp [*];done)):p:=h
theorem rA {p:Prop} (h:p:=by first|(go_simp;done)|(go_simp;rfl)):p:=h
theorem qK {p:Prop} (h:p):Aside0 p:=⟨h⟩
section
variable {P : Program} {md : Region.Mode} {ops : Array Oper} {Q : Exit → Act → World → Prop} {S : World → Prop} {ds : List Nat} {T : Bool × List (List Nat × List Nat)} {B : List Nat} {oi : Oper} {v : Value} {fuel : Nat} {l l' : Array Bool} {a a' : Act} {w : World}
theorem pP (i:Nat) (N:Option Tmp) (hT:Aside0 (rtab md ops=T)) (h:wpAnyLast P md ops Q S ds fuel l' a' w) (hi:ops[i]? = some oi:=by exact rfl) (hN:oi.dst=N:=by exact rfl) (hl:l.setIfInBounds i true=l':=by simp only [List.setIfInBounds_toArray,List.set_cons_zero,List.set_cons_succ];exact rfl) (hc:anyT T l.toList l'.toList i=true:=by kernel_rfl) (hQ : ∀ c a w,Q (.panic c) (a.put oi.dst v) w→Q (.panic c) a w:=by exact fun _ _ _ h=>h) (hw:Region.wanted oi (yielded ops a.tmps)=true:=by rfl) (hy : ∀ w',(execOp a.eval oi).run P w'= .ok (.value v) w':=by intro w';go_simp;with_reducible rfl) (ha:a.put N v=a':=by simp only [Act.put,List.setIfInBounds_toArray,List.set_cons_zero,List.set_cons_succ,i64_w,i32_w];rfl):wpAnyLast P md ops Q S ds (fuel+1) l a w :=
 pure_ l' hi hN (any_of hT.out hc) hQ (Or.inl ⟨hw,hy⟩) ha h
theorem tP (i:Nat) (N:Option Tmp) (hT:Aside0 (rtab md ops=T)) (hB:Aside0 (waitsOk T.2 B=true)) (hS:S w) (h:wpAnyLast P md ops Q S ds fuel l' a' w) (hi:ops[i]? = some oi:=by exact rfl) (hN:oi.dst=N:=by exact rfl) (hl:l.setIfInBounds i true=l':=by simp only [List.setIfInBounds_toArray,List.set_cons_zero,List.set_cons_succ];exact rfl) (hc:takeW T B ds l.toList l'.toList i=true:=by kernel_rfl) (hQ : ∀ c a w,Q (.panic c) (a.put oi.dst v) w→Q (.panic c) a w:=by exact fun _ _ _ h=>h) (hw:Region.wanted oi (yielded ops a.tmps)=true:=by rfl) (hy : ∀ w',S w'→(execOp a.eval oi).run P w'= .ok (.value v) w':=by intro w' hs;go_simp;with_reducible rfl) (ha:a.put N v=a':=by simp only [Act.put,List.setIfInBounds_toArray,List.set_cons_zero,List.set_cons_succ,i64_w,i32_w];rfl):wpAnyLast P md ops Q S ds (fuel+1) l a w :=
 take_ l' hi hN (take_ofW hT.out hB.out hc) hQ (Or.inl ⟨hw,hy⟩) hS ha h
theorem nP (h:wpAnyLast P md ops Q S ds fuel l a' w) (ha:a=a':=by first|(show Act.put _ (some _) _=_;simp only [Act.put,List.setIfInBounds_toArray,List.set_cons_zero,List.set_cons_succ,i64_w,i32_w];rfl)|(simp only [Act.put,List.setIfInBounds_toArray,List.set_cons_zero,List.set_cons_succ,i64_w,i32_w];rfl)):wpAnyLast P md ops Q S ds fuel l a w:=norm_ ha h
theorem oP (i:Nat) (N:Option Tmp) (hT:Aside0 (rtab md ops=T)) (h : ∀ K:Act→World→Prop,Shut (∀ a' w',S w'→(S w'→wpAnyLast P md ops Q S ds fuel l' a' w')→K a' w')→if Region.wanted oi (yielded ops a.tmps)=true then Oper.wp P oi a w K Q else K (a.put N undef) w) (hi:ops[i]? = some oi:=by exact rfl) (hN:oi.dst=N:=by exact rfl) (hl:l.setIfInBounds i true=l':=by simp only [List.setIfInBounds_toArray,List.set_cons_zero,List.set_cons_succ];exact rfl) (hc:(readyT T.2 l.toList == [i] && l.toList.set i true == l'.toList)=true:=by kernel_rfl) (hd:i ∉ ds:=by decide):wpAnyLast P md ops Q S ds (fuel+1) l a w :=
 one_ l' hi hN (one_of hT.out hc) hd h
theorem gO {f : FuncId} {fn : Func} {ao : Array Operand} {ts : Array TypeId} {N : Option Tmp} {K : Act → World → Prop} (hf : P.funcs[f]? = some fn) (args : Array Value) (h : Calls P f args w fun e w' => ∃ v, e = .returned v ∧ K (a.put N v) w') (hname : (fn.name == "runtime.NumGoroutine") = false := by kernel_rfl) (hb : fn.body.isSome = true := by rfl) (hw : Region.wanted oi (yielded ops a.tmps) = true := by rfl) (hN : oi.dst = N := by exact rfl) (hop : oi.op = .call { callee := .value (.func f), args := ao, argTypes := ts } := by exact rfl) (hargs : ao.map a.eval = args := by (try simp only [List.map_toArray, List.map_cons, List.map_nil]); first | done | rfl | (simp only [List.length_drop, List.length_take]; rfl)) : if Region.wanted oi (yielded ops a.tmps) = true then Oper.wp P oi a w K Q else K (a.put N undef) w :=
 goes_ hf hname hb args hw hN hop hargs h
theorem gL {rest : List Oper} {f : FuncId} {fn : Func} {ao : Array Operand} {ts : Array TypeId} (N : Option Tmp) (hf : P.funcs[f]? = some fn) (args : Array Value) (h : Calls P f args w fun e w' => ∃ v, e = .returned v ∧ wpList P ops Q rest (a.put N v) w') (hd : oi.dst = N := by exact rfl) (hg : oi.guard = none := by exact rfl) (hname : (fn.name == "runtime.NumGoroutine") = false := by kernel_rfl) (hb : fn.body.isSome = true := by rfl) (hop : oi.op = .call { callee := .value (.func f), args := ao, argTypes := ts } := by exact rfl) (hargs : ao.map a.eval = args := by (try simp only [List.map_toArray, List.map_cons, List.map_nil]); first | done | rfl | (simp only [List.length_drop, List.length_take]; rfl)) : wpList P ops Q (oi :: rest) a w :=
 goesL_ N hd hg hf hname hb args hop hargs h
theorem bE {rest:List Oper} (cs:Array Value) (t:TypeId) (h : ∀ g,g=w.heap.size→∀ w1,w1.heap[g]? = some (.cells cs t (0,0))→Below w.heap.size w w1→wpList P ops Q rest (a.put oi.dst (.pointer (some ⟨g,0,none⟩))) w1) (hgd:oi.guard=none:=by exact rfl) (hrun:(execOp a.eval oi).run P w= .ok (.value (.pointer (some ⟨w.heap.size,0,none⟩))) (w.alloc (.cells cs t (0,0))):=by first|(go_simp;done)|(go_simp;rfl)):wpList P ops Q (oi :: rest) a w :=
 Kd.event_run hgd hrun (h _ rfl _ (blk_new w _) (below_alloc (Below.refl _ _) _))
end
theorem hC {w0 w:World} {p:Addr} {v:Value} (hb:Below w0.heap.size w0 w) (h:w0.cell? p=some v):w.cell? p=some v:=(hb.cell (World.block_lt_of_cell? w0 _ h)).trans h
theorem nL {w0 w:World} {g g':Nat} {o:Obj} (hg:g'=w.heap.size) (h:w0.heap[g]? = some o) (s:w0.heap[g]? = some o→w.heap[g]? = some o:=by intro h;(with_reducible repeat (first|refine blk_drewN ?_ _|refine blk_drew ?_|refine blk_alloc ?_ _));exact h):g≠g':=by rw [hg];exact Nat.ne_of_lt (blk_lt (s h))
theorem nG {w0 w:World} {g g':Nat} {o:Obj} (hg:g'=w.heap.size) (h:w0.heap[g]? = some o) (s:w0.heap[g]? = some o→w.heap[g]? = some o:=by intro h;(with_reducible repeat (first|refine blk_drewN ?_ _|refine blk_drew ?_|refine blk_alloc ?_ _));exact h):g'≠g:=by rw [hg];exact Nat.ne_of_gt (blk_lt (s h))
theorem oB {p q:Prop} (h:q) (s:q→p:=by intro h;first|exact Kd.own_blk h|(rw [add_block];exact Kd.own_blk h)|(show (Addr.add _ _).block≠_;rw [add_block];exact Kd.own_blk h)|(dsimp only;exact Kd.own_blk h)):p:=s h
theorem xC2 {w:World} {g:Nat} {t:TypeId} {a b:Value} (h:w.heap[g]? = some (.cells #[a,b] t (0,0))):w.cell? ⟨g,0,none⟩=some a∧w.cell? ⟨g,1,none⟩=some b∧w.frozen? ⟨g,0,none⟩=false∧w.frozen? ⟨g,1,none⟩=false:=⟨(blk_cell h 0).trans rfl,(blk_cell h 1).trans rfl,blk_frozen h 0,blk_frozen h 1⟩
theorem xC3 {w:World} {g:Nat} {t:TypeId} {a b c:Value} (h:w.heap[g]? = some (.cells #[a,b,c] t (0,0))):w.cell? ⟨g,0,none⟩=some a∧w.cell? ⟨g,1,none⟩=some b∧w.cell? ⟨g,2,none⟩=some c∧w.frozen? ⟨g,0,none⟩=false∧w.frozen? ⟨g,1,none⟩=false∧w.frozen? ⟨g,2,none⟩=false:=⟨(blk_cell h 0).trans rfl,(blk_cell h 1).trans rfl,(blk_cell h 2).trans rfl,blk_frozen h 0,blk_frozen h 1,blk_frozen h 2⟩
theorem xC4 {w:World} {g:Nat} {t:TypeId} {a0 a1 a2 a3:Value} (h:w.heap[g]? = some (.cells #[a0,a1,a2,a3] t (0,0))):w.cell? ⟨g,0,none⟩=some a0∧w.cell? ⟨g,1,none⟩=some a1∧w.cell? ⟨g,2,none⟩=some a2∧w.cell? ⟨g,3,none⟩=some a3∧w.frozen? ⟨g,0,none⟩=false∧w.frozen? ⟨g,1,none⟩=false∧w.frozen? ⟨g,2,none⟩=false∧w.frozen? ⟨g,3,none⟩=false:=⟨(blk_cell h 0).trans rfl,(blk_cell h 1).trans rfl,(blk_cell h 2).trans rfl,(blk_cell h 3).trans rfl,blk_frozen h 0,blk_frozen h 1,blk_frozen h 2,blk_frozen h 3⟩
theorem xC5 {w:World} {g:Nat} {t:TypeId} {a0 a1 a2 a3 a4:Value} (h:w.heap[g]? = some (.cells #[a0,a1,a2,a3,a4] t (0,0))):w.cell? ⟨g,0,none⟩=some a0∧w.cell? ⟨g,1,none⟩=some a1∧w.cell? ⟨g,2,none⟩=some a2∧w.cell? ⟨g,3,none⟩=some a3∧w.cell? ⟨g,4,none⟩=some a4∧w.frozen? ⟨g,0,none⟩=false∧w.frozen? ⟨g,1,none⟩=false∧w.frozen? ⟨g,2,none⟩=false∧w.frozen? ⟨g,3,none⟩=false∧w.frozen? ⟨g,4,none⟩=false:=⟨(blk_cell h 0).trans rfl,(blk_cell h 1).trans rfl,(blk_cell h 2).trans rfl,(blk_cell h 3).trans rfl,(blk_cell h 4).trans rfl,blk_frozen h 0,blk_frozen h 1,blk_frozen h 2,blk_frozen h 3,blk_frozen h 4⟩
end Go.Proofs.YthimaecnpkcmeaaW.PrintWords
namespace Go.Proofs.Ythimaecnpkcmeaa.K
open Go.RowKit Go.Proofs.YthimaecnpkcmeaaW.PrintWords Go.Proofs.YthimaecnpkcmeaaW.PrintLast Go.Proofs.YthimaecnpkcmeaaW.PrintMore
attribute [local go_sem] max2_int min2_int max_two min_two max_three min_three max_four min_four   -- for this text's walks alone
set_option linter.unusedVariables false
set_option linter.unusedSimpArgs false
def errW:Option Int→Value
 | none=>.nilIface
 | some c=>.iface 0 (.int .i64 c)
theorem errW_none:errW none= .nilIface:=rfl
theorem errW_some (c:Int):errW (some c)= .iface 0 (.int .i64 c):=rfl
theorem info3:(Try.prog.info? 3).map (fun i=>(i.zero,i.size,i.bytes))=some (some (.int .i64 0),1,8):=by kernel_rfl
theorem info50:(Try.prog.info? 50).map (fun i=>(i.zero,i.size,i.bytes))=some (some (.agg #[(.int .i64 0),(.int .i64 0),(.int .i64 0),(.int .i64 0)]),4,32):=by kernel_rfl
theorem info63:(Try.prog.info? 63).map (fun i=>(i.zero,i.size,i.bytes))=some (some (.slice none 0 0),1,24):=by kernel_rfl
theorem info64:(Try.prog.info? 64).map (fun i=>(i.zero,i.size,i.bytes))=some (some (.agg #[(.int .i64 0),(.int .i64 0)]),2,16):=by kernel_rfl
structure S24 where
 f0:Int
 f1:Int
def z24:S24:=⟨(0:Int),(0:Int)⟩
def k24:Kd S24:=Kd.iso (Kd.pair (Kd.int .i64) (Kd.int .i64)) (fun x:S24=>(x.f0,x.f1))
theorem k24_open {w:World} {x:S24} {cs:List Value} (h:k24.K w x cs):cs=[.int .i64 x.f0,.int .i64 x.f1]:=by
 obtain ⟨_,_,rfl,rfl,rfl⟩:=h
 exact rfl
theorem k24_openM {w:World} {base:Nat} {ok:Nat→Prop} {x:S24} {cs:List Value} (h:k24.M w base ok x cs):cs=[.int .i64 x.f0,.int .i64 x.f1]:=by
 obtain ⟨_,_,rfl,rfl,rfl⟩:=h
 exact rfl
theorem k24_mk (w:World) (x:S24):k24.K w x [.int .i64 x.f0,.int .i64 x.f1]:=⟨[.int .i64 x.f0],[.int .i64 x.f1],rfl,rfl,rfl⟩
theorem k24_mkM (w:World) (base:Nat) (ok:Nat→Prop) (x:S24):k24.M w base ok x [.int .i64 x.f0,.int .i64 x.f1]:=⟨[.int .i64 x.f0],[.int .i64 x.f1],rfl,rfl,rfl⟩
structure S50 where
 f0:S24
 f1:Int
 f2:Int
def z50:S50:=⟨z24,(0:Int),(0:Int)⟩
def k50:Kd S50:=Kd.iso (Kd.pair k24 (Kd.pair (Kd.int .i64) (Kd.int .i64))) (fun x:S50=>(x.f0,x.f1,x.f2))
theorem k50_open {w:World} {x:S50} {cs:List Value} (h:k50.K w x cs):cs=[.int .i64 x.f0.f0,.int .i64 x.f0.f1,.int .i64 x.f1,.int .i64 x.f2]:=by
 obtain ⟨_,_,rfl,s0,⟨_,_,rfl,rfl,rfl⟩⟩:=h
 obtain rfl:=k24_open s0
 exact rfl
theorem k50_openM {w:World} {base:Nat} {ok:Nat→Prop} {x:S50} {cs:List Value} (h:k50.M w base ok x cs):cs=[.int .i64 x.f0.f0,.int .i64 x.f0.f1,.int .i64 x.f1,.int .i64 x.f2]:=by
 obtain ⟨_,_,rfl,s0,⟨_,_,rfl,rfl,rfl⟩⟩:=h
 obtain rfl:=k24_openM s0
 exact rfl
theorem k50_mk (w:World) (x:S50):k50.K w x [.int .i64 x.f0.f0,.int .i64 x.f0.f1,.int .i64 x.f1,.int .i64 x.f2]:=⟨[.int .i64 x.f0.f0,.int .i64 x.f0.f1],[.int .i64 x.f1,.int .i64 x.f2],rfl,(k24_mk w x.f0 ),⟨[.int .i64 x.f1],[.int .i64 x.f2],rfl,rfl,rfl⟩⟩
theorem k50_mkM (w:World) (base:Nat) (ok:Nat→Prop) (x:S50):k50.M w base ok x [.int .i64 x.f0.f0,.int .i64 x.f0.f1,.int .i64 x.f1,.int .i64 x.f2]:=⟨[.int .i64 x.f0.f0,.int .i64 x.f0.f1],[.int .i64 x.f1,.int .i64 x.f2],rfl,(k24_mkM w base ok x.f0 ),⟨[.int .i64 x.f1],[.int .i64 x.f2],rfl,rfl,rfl⟩⟩
def rd_T50 (xs:List S50) (i:Int):S50:=xs.getD i.toNat z50
theorem at_T50 {w:World} {A:Option Addr} {n:Nat} {xs:List S50} (h:Kd.C k50 w A n xs) (i:Int) (h0:0≤i) (h1:i < n) : ∃ ad ,A=some ad∧w.cell? (ad.add (i.toNat*4))=some (.int .i64 (rd_T50 xs i).f0.f0)∧w.cell? ⟨(ad.add (i.toNat*4)).block,(ad.add (i.toNat*4)).off+1,none⟩=some (.int .i64 (rd_T50 xs i).f0.f1)∧w.cell? ⟨(ad.add (i.toNat*4)).block,(ad.add (i.toNat*4)).off+2,none⟩=some (.int .i64 (rd_T50 xs i).f1)∧w.cell? ⟨(ad.add (i.toNat*4)).block,(ad.add (i.toNat*4)).off+3,none⟩=some (.int .i64 (rd_T50 xs i).f2):=by
 obtain ⟨ad,c,e,_,hK,hc0⟩:=Kd.C_get h z50 i h0 h1
 have hc : ∀ j u,c[j]? = some u→w.cell? (ad.add (i.toNat*4+j))=some u:=hc0
 obtain rfl:=k50_open hK
 exact ⟨ad,e,hc 0 _ rfl,by rw [← add_field _ _ 1 (by omega)];exact hc 1 _ rfl,by rw [← add_field _ _ 2 (by omega)];exact hc 2 _ rfl,by rw [← add_field _ _ 3 (by omega)];exact hc 3 _ rfl⟩
structure S64 where
 f0:Int
 f1:Int
def z64:S64:=⟨(0:Int),(0:Int)⟩
def k64:Kd S64:=Kd.iso (Kd.pair (Kd.int .i64) (Kd.int .i64)) (fun x:S64=>(x.f0,x.f1))
theorem k64_open {w:World} {x:S64} {cs:List Value} (h:k64.K w x cs):cs=[.int .i64 x.f0,.int .i64 x.f1]:=by
 obtain ⟨_,_,rfl,rfl,rfl⟩:=h
 exact rfl
theorem k64_openM {w:World} {base:Nat} {ok:Nat→Prop} {x:S64} {cs:List Value} (h:k64.M w base ok x cs):cs=[.int .i64 x.f0,.int .i64 x.f1]:=by
 obtain ⟨_,_,rfl,rfl,rfl⟩:=h
 exact rfl
theorem k64_mkM (w:World) (base:Nat) (ok:Nat→Prop) (x:S64):k64.M w base ok x [.int .i64 x.f0,.int .i64 x.f1]:=⟨[.int .i64 x.f0],[.int .i64 x.f1],rfl,rfl,rfl⟩
def rd_T64 (xs:List S64) (i:Int):S64:=xs.getD i.toNat z64
theorem at_T64 {w:World} {A:Option Addr} {n:Nat} {xs:List S64} (h:Kd.C k64 w A n xs) (i:Int) (h0:0≤i) (h1:i < n) : ∃ ad ,A=some ad∧w.cell? (ad.add (i.toNat*2))=some (.int .i64 (rd_T64 xs i).f0)∧w.cell? ⟨(ad.add (i.toNat*2)).block,(ad.add (i.toNat*2)).off+1,none⟩=some (.int .i64 (rd_T64 xs i).f1):=by
 obtain ⟨ad,c,e,_,hK,hc0⟩:=Kd.C_get h z64 i h0 h1
 have hc : ∀ j u,c[j]? = some u→w.cell? (ad.add (i.toNat*2+j))=some u:=hc0
 obtain rfl:=k64_open hK
 exact ⟨ad,e,hc 0 _ rfl,by rw [← add_field _ _ 1 (by omega)];exact hc 1 _ rfl⟩
def rd_L6 (xs:List (List S64)) (i:Int):(List S64):=xs.getD i.toNat ([]:List S64)
theorem at_L6 {w:World} {A:Option Addr} {n:Nat} {xs:List (List S64)} (h:Kd.C (Kd.slice 64 k64) w A n xs) (i:Int) (h0:0≤i) (h1:i < n) : ∃ ad A0 c0,A=some ad∧w.cell? (ad.add i.toNat)=some (.slice A0 (rd_L6 xs i).length c0)∧(rd_L6 xs i).length≤c0∧k64.C w A0 (rd_L6 xs i).length (rd_L6 xs i):=by
 obtain ⟨ad,c,e,_,hK,hc0⟩:=Kd.C_get h ([]:List S64) i h0 h1
 have hc : ∀ j u,c[j]? = some u→w.cell? (ad.add (i.toNat*1+j))=some u:=hc0
 obtain ⟨A0,c0,rfl,l0,g0⟩:=hK
 exact ⟨ad,A0,c0,e,by have hq:=hc 0 _ rfl;rwa [Nat.mul_one,Nat.add_zero] at hq,l0,g0⟩
end Go.Proofs.Ythimaecnpkcmeaa.K
namespace Go.Proofs.Ythimaecnpkcmeaa.K
open Go.RowKit Go.Proofs.YthimaecnpkcmeaaW.PrintWords Go.Proofs.YthimaecnpkcmeaaW.PrintLast Go.Proofs.YthimaecnpkcmeaaW.PrintMore
attribute [local go_sem] max2_int min2_int max_two min_two max_three min_three max_four min_four   -- for this text's walks alone
set_option linter.unusedVariables false
set_option linter.unusedSimpArgs false
def orders_within.f (a0:Int) (a1:Int) (a2:Int):Option (Bool):=if a0≥a1 then (some (decide (a0≤a2))) else (some false)
set_option maxHeartbeats 8000000 in
set_option maxRecDepth 100000 in
theorem orders_within.calls (a0:Int) (a1:Int) (a2:Int) (r:Bool) (w:World) (h:orders_within.f a0 a1 a2=some r) :
 Calls Try.prog 52 #[.int .i64 a0,.int .i64 a1,.int .i64 a2] w fun e w'=>e= .returned (.bool r)∧Drawn0 w w':=by
 have H:(if a0≥a1 then (some (decide (a0≤a2))) else (some false))=some r:=h
 clear h
 by_cases c4:a0≥a1
 ·rw [if_pos c4] at H
  have c4b0:decide (a1≤a0)=true:=decide_eq_true c4
  clear c4
  obtain rfl:=Option.some.inj H
  go_enter Try.func52,Try.ntmps52
  go_wp2
  go_ret
  exact ⟨by first|rfl|(simp;done)|(simp [*];done),by repeat (first|exact Drawn0.refl _|apply Drawn0.step)⟩
 rw [if_neg c4] at H
 have c4b0:decide (a1≤a0)=false:=decide_eq_false c4
 clear c4
 obtain rfl:=Option.some.inj H
 go_enter Try.func52,Try.ntmps52
 go_wp2
 go_ret
 exact ⟨by first|rfl|(simp;done)|(simp [*];done),by repeat (first|exact Drawn0.refl _|apply Drawn0.step)⟩
def orders_common.f (a0_0:Int) (a0_1:Int) (a1_0:Int) (a1_1:Int):Option (Int × Int × Bool):=some (mx a0_0 a1_0,mn a0_1 a1_1,decide ((mx a0_0 a1_0)≤(mn a0_1 a1_1)))
def orders_common.T2:Bool × List (List Nat × List Nat):=(true,[([],[]),([],[]),([1],[1]),([],[]),([3],[3]),([2,4],[2,4]),([0,0],[0]),([5,6,0,1,2,3,4,5,6],[5])])
def orders_common.B2:List Nat:=[0,0,2,0,8,30,1,127]
theorem orders_common.tab2:rtab .any (opsOf Try.f53 2)=orders_common.T2:=by kernel_rfl
theorem orders_common.bits2:waitsOk orders_common.T2.2 orders_common.B2=true:=by kernel_rfl
set_option maxHeartbeats 8000000 in
set_option maxRecDepth 100000 in
theorem orders_common.calls (a0_0:Int) (a0_1:Int) (a1_0:Int) (a1_1:Int) (r1:Int) (r2:Int) (r3:Bool) (w:World) (h:orders_common.f a0_0 a0_1 a1_0 a1_1=some (r1,r2,r3)) :
 Calls Try.prog 53 #[.agg #[.int .i64 a0_0,.int .i64 a0_1],.agg #[.int .i64 a1_0,.int .i64 a1_1]] w fun e w'=>e= .returned (.tuple #[.agg #[.int .i64 r1,.int .i64 r2],.bool r3])∧Below w.heap.size w w':=by
 have hu24:=Try.underlying24
 have HB:=Aside0.mk (Below.refl w.heap.size w)
 have H:(some (mx a0_0 a1_0,mn a0_1 a1_1,decide ((mx a0_0 a1_0)≤(mn a0_1 a1_1))))=some (r1,r2,r3):=h
 clear h
 obtain ⟨ji3,hji3⟩ : ∃ j_:Int,(mx a0_0 a1_0)=j_:=⟨_,rfl⟩
 replace H:(some (ji3,mn a0_1 a1_1,decide ((ji3)≤(mn a0_1 a1_1))))=some (r1,r2,r3):=by first|(rw [hji3] at H;exact H)|(simp only [hji3] at H ⊢;exact H)
 have hji3_:(if a0_0 < a1_0 then a1_0 else a0_0)=ji3:=hji3
 obtain ⟨ji4,hji4⟩ : ∃ j_:Int,(mn a0_1 a1_1)=j_:=⟨_,rfl⟩
 replace H:(some (ji3,ji4,decide ((ji3)≤(ji4))))=some (r1,r2,r3):=by first|(rw [hji4] at H;exact H)|(simp only [hji4] at H ⊢;exact H)
 have hji4_:(if a1_1 < a0_1 then a1_1 else a0_1)=ji4:=hji4
 simp only [Option.some.injEq,Prod.mk.injEq] at H
 obtain ⟨rfl,rfl,rfl⟩:=H
 go_enter Try.func53,Try.ntmps53
 try go_wp2_with (first|((with_reducible refine gate_dst (N:=2) rfl ?_);refine bE #[.int .i64 a0_0,.int .i64 a0_1] 24 ?_;intro gb101 hg w5 hbox hb;have BK101:=qK (hbox);have GW101:=qK ((gS hg:w.heap.size≤gb101));have GE101:=qK ((gS hg:w.heap.size≤gb101));replace HB:=qK (bS hb);clear hb hbox hg)|((with_reducible refine gate_dst (N:=3) rfl ?_);refine bE #[.int .i64 a1_0,.int .i64 a1_1] 24 ?_;intro gb102 hg w6 hbox hb;have BK102:=qK (hbox);have GW102:=qK ((gS hg:w.heap.size≤gb102));have GE102:=qK ((gS hg:w.heap.size≤gb102));replace HB:=qK (bS hb);have NB101_102:=qK ((nL hg BK101.out:gb101≠gb102));have NB102_101:=qK ((nG hg BK101.out:gb102≠gb101));replace BK101:=qK (bB BK101.out hb);clear hb hbox hg)|((with_reducible refine gate_dst (N:=4) rfl ?_);refine bE #[.int .i64 0,.int .i64 0] 24 ?_;intro gb103 hg w7 hbox hb;have BK103:=qK (hbox);have GW103:=qK ((gS hg:w.heap.size≤gb103));have GE103:=qK ((gS hg:w.heap.size≤gb103));replace HB:=qK (bS hb);have NB101_103:=qK ((nL hg BK101.out:gb101≠gb103));have NB103_101:=qK ((nG hg BK101.out:gb103≠gb101));replace BK101:=qK (bB BK101.out hb);have NB102_103:=qK ((nL hg BK102.out:gb102≠gb103));have NB103_102:=qK ((nG hg BK102.out:gb103≠gb102));replace BK102:=qK (bB BK102.out hb);clear hb hbox hg;have hnb8:=NB101_102.out;have hnc8:=NB102_101.out;have hnb9:=NB101_103.out;have hnc9:=NB103_101.out;obtain ⟨_,_,_,_⟩:=xC2 BK101.out;have hnb11:=NB102_103.out;have hnc11:=NB103_102.out;obtain ⟨_,_,_,_⟩:=xC2 BK102.out)|((with_reducible refine gate_dst (N:=6) rfl ?_);refine bE #[.int .i64 0,.int .i64 0] 24 ?_;intro gb104 hg w13 hbox hb;have BK104:=qK (hbox);have GW104:=qK ((gS hg:w.heap.size≤gb104));have GE104:=qK ((gS hg:w.heap.size≤gb104));replace HB:=qK (bS hb);have NB101_104:=qK ((nL hg BK101.out:gb101≠gb104));have NB104_101:=qK ((nG hg BK101.out:gb104≠gb101));replace BK101:=qK (bB BK101.out hb);have NB102_104:=qK ((nL hg BK102.out:gb102≠gb104));have NB104_102:=qK ((nG hg BK102.out:gb104≠gb102));replace BK102:=qK (bB BK102.out hb);have NB103_104:=qK ((nL hg BK103.out:gb103≠gb104));have NB104_103:=qK ((nG hg BK103.out:gb104≠gb103));replace BK103:=qK (bB BK103.out hb);clear hb hbox hg;have hnb14:=NB104_101.out;have hnc14:=NB101_104.out;have hnb15:=NB104_102.out;have hnc15:=NB102_104.out;have hnb16:=NB104_103.out;have hnc16:=NB103_104.out;obtain ⟨_,_,_,_⟩:=xC2 BK104.out))
 have n0_:Aside0 (((w13.setCell ⟨gb104,0,none⟩ (.int .i64 ji3)).setCell ⟨gb104,1,none⟩ (.int .i64 ji4)).heap[gb101]? = some (.cells #[.int .i64 a0_0,.int .i64 a0_1] 24 (0,0))):=⟨by (with_reducible repeat (first|refine blk_drewN ?_ _|refine blk_drew ?_|refine blk_alloc ?_ _));refine blk_far ?_ NB101_104.out _;(with_reducible repeat (first|refine blk_drewN ?_ _|refine blk_drew ?_|refine blk_alloc ?_ _));refine blk_far ?_ NB101_104.out _;(with_reducible repeat (first|refine blk_drewN ?_ _|refine blk_drew ?_|refine blk_alloc ?_ _));exact BK101.out⟩
 have n1_:Aside0 (((w13.setCell ⟨gb104,0,none⟩ (.int .i64 ji3)).setCell ⟨gb104,1,none⟩ (.int .i64 ji4)).heap[gb102]? = some (.cells #[.int .i64 a1_0,.int .i64 a1_1] 24 (0,0))):=⟨by (with_reducible repeat (first|refine blk_drewN ?_ _|refine blk_drew ?_|refine blk_alloc ?_ _));refine blk_far ?_ NB102_104.out _;(with_reducible repeat (first|refine blk_drewN ?_ _|refine blk_drew ?_|refine blk_alloc ?_ _));refine blk_far ?_ NB102_104.out _;(with_reducible repeat (first|refine blk_drewN ?_ _|refine blk_drew ?_|refine blk_alloc ?_ _));exact BK102.out⟩
 have n2_:Aside0 (((w13.setCell ⟨gb104,0,none⟩ (.int .i64 ji3)).setCell ⟨gb104,1,none⟩ (.int .i64 ji4)).heap[gb103]? = some (.cells #[.int .i64 0,.int .i64 0] 24 (0,0))):=⟨by (with_reducible repeat (first|refine blk_drewN ?_ _|refine blk_drew ?_|refine blk_alloc ?_ _));refine blk_far ?_ NB103_104.out _;(with_reducible repeat (first|refine blk_drewN ?_ _|refine blk_drew ?_|refine blk_alloc ?_ _));refine blk_far ?_ NB103_104.out _;(with_reducible repeat (first|refine blk_drewN ?_ _|refine blk_drew ?_|refine blk_alloc ?_ _));exact BK103.out⟩
 have n3_:Aside0 (((w13.setCell ⟨gb104,0,none⟩ (.int .i64 ji3)).setCell ⟨gb104,1,none⟩ (.int .i64 ji4)).heap[gb104]? = some (.cells #[.int .i64 ji3,.int .i64 ji4] 24 (0,0))):=⟨by (with_reducible repeat (first|refine blk_drewN ?_ _|refine blk_drew ?_|refine blk_alloc ?_ _));refine blk_put (cs:=#[.int .i64 ji3,.int .i64 0]) ?_ 1 _ rfl;(with_reducible repeat (first|refine blk_drewN ?_ _|refine blk_drew ?_|refine blk_alloc ?_ _));refine blk_put (cs:=#[.int .i64 0,.int .i64 0]) ?_ 0 _ rfl;(with_reducible repeat (first|refine blk_drewN ?_ _|refine blk_drew ?_|refine blk_alloc ?_ _));exact BK104.out⟩
 have n4_:Aside0 (Below w.heap.size w ((w13.setCell ⟨gb104,0,none⟩ (.int .i64 ji3)).setCell ⟨gb104,1,none⟩ (.int .i64 ji4))):=⟨bA⟩
 (try clear BK101)
 (try clear BK102)
 (try clear BK103)
 (try clear BK104)
 (try clear HB)
 generalize ((w13.setCell ⟨gb104,0,none⟩ (.int .i64 ji3)).setCell ⟨gb104,1,none⟩ (.int .i64 ji4))=w18 at n0_ n1_ n2_ n3_ n4_ ⊢
 have BK101:=n0_
 have BK102:=n1_
 have BK103:=n2_
 have BK104:=n3_
 have HB:=n4_
 clear n0_ n1_ n2_ n3_ n4_
 replace BK101:=qK (blk_drew BK101.out)
 replace BK102:=qK (blk_drew BK102.out)
 replace BK103:=qK (blk_drew BK103.out)
 replace BK104:=qK (blk_drew BK104.out)
 replace HB:=qK (below_drew1 HB.out)
 refine start_ (n:=8) (S:=fun w'=>w'.cell? ⟨gb104,0,none⟩=some (.int .i64 ji3)∧w'.cell? ⟨gb104,1,none⟩=some (.int .i64 ji4)) (ds:=[]) #[false,false,false,false,false,false,false,false] (by kernel_rfl) rfl rfl ⟨(blk_cell BK104.out 0).trans rfl,(blk_cell BK104.out 1).trans rfl⟩ (fun hHeld=>?_);refine with_tabW orders_common.tab2 orders_common.bits2 (fun HT_ HW_=>?_)
 generalize w18.drew=w19 at BK101 BK102 BK103 BK104 HB hHeld ⊢
 refine pP 1 (some 19) HT_ ?_
 refine pP 3 (some 21) HT_ ?_
 refine tP 0 (some 18) HT_ HW_ hHeld ?_
 refine tP 2 (some 20) HT_ HW_ hHeld ?_
 refine tP 4 (some 22) HT_ HW_ hHeld ?_
 refine pP 5 (some 23) HT_ ?_
 refine oP 6 none HT_ (fun K hK=>?_)
 have hs20:w19.cell? ⟨gb103,0,none⟩=some (.int .i64 0):=(blk_cell BK103.out 0).trans rfl
 have hfs20:=blk_frozen BK103.out 0
 have hns20_0:=NB101_103.out
 have hns20_1:=NB102_103.out
 have hns20_3:=NB104_103.out
 have hms20_0:=NB103_101.out
 have hms20_1:=NB103_102.out
 have hms20_3:=NB103_104.out
 have hs21:w19.cell? ⟨gb103,1,none⟩=some (.int .i64 0):=(blk_cell BK103.out 1).trans rfl
 have hfs21:=blk_frozen BK103.out 1
 have hns21_0:=NB101_103.out
 have hns21_1:=NB102_103.out
 have hns21_3:=NB104_103.out
 have hms21_0:=NB103_101.out
 have hms21_1:=NB103_102.out
 have hms21_3:=NB103_104.out
 refine skip_ (w1:=?_) (by rfl) rfl ?_ ?_
 rotate_left
 ·go_simp
  rfl
 refine hK.out _ _ ⟨((cell_far (p:=⟨gb103,_,none⟩) NB104_103.out _).trans (((cell_far (p:=⟨gb103,_,none⟩) NB104_103.out _).trans (hHeld.1)))),((cell_far (p:=⟨gb103,_,none⟩) NB104_103.out _).trans (((cell_far (p:=⟨gb103,_,none⟩) NB104_103.out _).trans (hHeld.2))))⟩ (fun hHeld=>?_)
 clear hK K
 refine pP 7 (some 5) HT_ ?_
 refine done_ (done_of HT_.out (by kernel_rfl)) ?_
 try go_wp2
 refine bodyPost_ret (results_ct rfl _ _ gb103 24 #[.int .i64 ji3,.int .i64 ji4] (0,0) _ rfl (by (with_reducible repeat (first|refine blk_drewN ?_ _|refine blk_drew ?_|refine blk_alloc ?_ _));refine blk_put (cs:=#[.int .i64 ji3,.int .i64 0]) ?_ 1 _ rfl;(with_reducible repeat (first|refine blk_drewN ?_ _|refine blk_drew ?_|refine blk_alloc ?_ _));refine blk_put (cs:=#[.int .i64 0,.int .i64 0]) ?_ 0 _ rfl;(with_reducible repeat (first|refine blk_drewN ?_ _|refine blk_drew ?_|refine blk_alloc ?_ _));exact BK103.out) Try.underlying24 rfl (by kernel_rfl)) rfl ?_
 exact ⟨by first|rfl|(simp [errW_none,errW_some] <;> rfl)|(simp only [← hji3,← hji4];first|rfl|(simp [errW_none,errW_some] <;> rfl))|(simp [*,errW_none,errW_some] <;> rfl),bA⟩
def orders_all.l0:Nat→List (S50)→Int→Int→Int→Int→Option (Int × Int)
 | 0,_,_,_,_,_=>none
 | k+1,x6,x7,x8,x107000,x107001=>if x8 < x7 then (if 0≤x8 then (if x8 < (x6.length:Int) then (orders_all.l0 k x6 x7 (wrap64 (x8+1)) (wrap64 (x107000+((rd_T50 x6 x8).f0.f0))) (wrap64 (x107001+((rd_T50 x6 x8).f0.f1)))) else (none)) else (none)) else (some (x107000,x107001))
def orders_all.f (k:Nat) (l0_0:List (S50)) (a0_1:Int) (a0_2:Int):Option (Int × Int):=orders_all.l0 k l0_0 (l0_0.length:Int) 0 0 0
set_option maxHeartbeats 8000000 in
set_option maxRecDepth 100000 in
theorem orders_all.calls (k:Nat) (A0_0:Option Addr) (c0_0:Nat) (l0_0:List (S50)) (a0_1:Int) (a0_2:Int) (r1:Int) (r2:Int) (w:World) (hr0_0:Kd.C k50 w A0_0 l0_0.length l0_0) (hc0_0:l0_0.length≤c0_0) (h:orders_all.f k l0_0 a0_1 a0_2=some (r1,r2)) :
 Calls Try.prog 54 #[.agg #[.slice A0_0 l0_0.length c0_0,.int .i64 a0_1,.int .i64 a0_2]] w fun e w'=>e= .returned (.agg #[.int .i64 r1,.int .i64 r2])∧Below w.heap.size w w':=by
 have hu26:=Try.underlying26
 have hu24:=Try.underlying24
 have hu50:=Try.underlying50
 have HR0_0:=Aside0.mk hr0_0
 have HC0_0:=Aside0.mk hc0_0
 clear hr0_0 hc0_0
 have HB:=Aside0.mk (Below.refl w.heap.size w)
 have H:(orders_all.l0 k l0_0 (l0_0.length:Int) 0 0 0)=some (r1,r2):=h
 clear h
 have H':=Aside0.mk H
 clear H
 go_enter Try.func54,Try.ntmps54
 go_wp2_with (first|((with_reducible refine gate_dst (N:=1) rfl ?_);refine bE #[.slice A0_0 l0_0.length c0_0,.int .i64 a0_1,.int .i64 a0_2] 26 ?_;intro gb105 hg w2 hbox hb;have BK105:=qK (hbox);have GW105:=qK ((gS hg:w.heap.size≤gb105));have GE105:=qK ((gS hg:w.heap.size≤gb105));replace HB:=qK (bS hb);clear hb hbox hg)|((with_reducible refine gate_dst (N:=2) rfl ?_);refine bE #[.int .i64 0,.int .i64 0] 24 ?_;intro gb106 hg w3 hbox hb;have BK106:=qK (hbox);have GW106:=qK ((gS hg:w.heap.size≤gb106));have GE106:=qK ((gS hg:w.heap.size≤gb106));replace HB:=qK (bS hb);have NB105_106:=qK ((nL hg BK105.out:gb105≠gb106));have NB106_105:=qK ((nG hg BK105.out:gb106≠gb105));replace BK105:=qK (bB BK105.out hb);clear hb hbox hg;have hnb4:=NB105_106.out;have hnc4:=NB106_105.out;obtain ⟨hcz5_0,hcz5_1,hcz5_2,hfz5_0,hfz5_1,hfz5_2⟩:=xC3 BK105.out))
 go_loopg [8] k (fun kq v8 w'=>∃ (x8_1:Int) (x107000_1:Int) (x107001_1:Int),v8= .int .i64 x8_1∧Aside0 (orders_all.l0 kq l0_0 (l0_0.length:Int) x8_1 x107000_1 x107001_1=some (r1,r2))∧Aside0 (kq≤k)∧Aside0 (w'.heap[gb105]? = some (.cells #[(.slice A0_0 l0_0.length c0_0),.int .i64 a0_1,.int .i64 a0_2] 26 (0,0)))∧Aside0 (w'.heap[gb106]? = some (.cells #[.int .i64 x107000_1,.int .i64 x107001_1] 24 (0,0)))∧Aside0 (Below w.heap.size w w'))
 case atStart=>exact ⟨(0),(0),(0),sA,H',⟨Nat.le_refl _⟩,⟨by (with_reducible repeat (first|refine blk_drewN ?_ _|refine blk_drew ?_|refine blk_alloc ?_ _));exact BK105.out⟩,⟨by (with_reducible repeat (first|refine blk_drewN ?_ _|refine blk_drew ?_|refine blk_alloc ?_ _));exact BK106.out⟩,⟨bA⟩⟩
 case round =>
  clear H'
  try clear p2
  try clear c4
  try clear c5
  try clear hcz5_0
  try clear hcz5_1
  try clear hcz5_2
  try clear hfz5_0
  try clear hfz5_1
  try clear hfz5_2
  obtain ⟨x8_1,x107000_1,x107001_1,rfl,HA,HK1,BK105,BK106,HB⟩:=hrel
  cases gk with
  | zero=>exact absurd HA.out (by simp [orders_all.l0])
  | succ k1 =>
   have H:=HA.out
   clear HA
   simp only [orders_all.l0] at H
   by_cases c6:x8_1 < (l0_0.length:Int)
   rotate_left
   ·rw [if_neg c6] at H
    have c6b0:decide (x8_1 < (l0_0.length:Int))=false:=decide_eq_false c6
    clear c6
    simp only [Option.some.injEq,Prod.mk.injEq] at H
    obtain ⟨rfl,rfl⟩:=H
    have hnb15:=NB106_105.out
    have hnc15:=NB105_106.out
    obtain ⟨_,_,_,_⟩:=xC2 BK106.out
    go_wp2
    refine bodyPost_ret (results_cell_row rfl _ _ gb106 24 #[.int .i64 x107000_1,.int .i64 x107001_1] (0,0) _ rfl (by (with_reducible repeat (first|refine blk_drewN ?_ _|refine blk_drew ?_|refine blk_alloc ?_ _));refine blk_put (cs:=#[.int .i64 x107000_1,.int .i64 x107001_1]) ?_ 1 _ rfl;(with_reducible repeat (first|refine blk_drewN ?_ _|refine blk_drew ?_|refine blk_alloc ?_ _));refine blk_put (cs:=#[.int .i64 x107000_1,.int .i64 x107001_1]) ?_ 0 _ rfl;(with_reducible repeat (first|refine blk_drewN ?_ _|refine blk_drew ?_|refine blk_alloc ?_ _));exact BK106.out) Try.underlying24 rfl (by kernel_rfl)) rfl ?_
    exact ⟨by first|rfl|(simp [errW_none,errW_some] <;> rfl)|(simp [*,errW_none,errW_some] <;> rfl),bA⟩
   rw [if_pos c6] at H
   have c6b0:decide (x8_1 < (l0_0.length:Int))=true:=decide_eq_true c6
   clear c6
   by_cases c7:0≤x8_1
   rotate_left
   ·rw [if_neg c7] at H
    exact absurd H (by simp)
   rw [if_pos c7] at H
   have c7b0:decide (0≤x8_1)=true:=decide_eq_true c7
   clear c7
   by_cases c8:x8_1 < (l0_0.length:Int)
   rotate_left
   ·rw [if_neg c8] at H
    exact absurd H (by simp)
   rw [if_pos c8] at H
   have c8b0:decide (x8_1 < (l0_0.length:Int))=true:=decide_eq_true c8
   clear c8
   have H':=Aside0.mk H
   clear H
   have p107:0≤(x8_1:Int):=dA
   have q107:x8_1 < (l0_0.length:Int):=dA
   obtain ⟨ad107,e107,hx107_0,hx107_1,hx107_2,hx107_3⟩:=at_T50 HR0_0.out x8_1 p107 q107
   cases e107
   replace hx107_0:=hC HB.out hx107_0
   replace hx107_1:=hC HB.out hx107_1
   replace hx107_2:=hC HB.out hx107_2
   replace hx107_3:=hC HB.out hx107_3
   replace p107:=eq_true p107
   replace q107:=eq_true q107
   go_wp2_with (first|((with_reducible refine gate_dst (N:=4) rfl ?_);refine bE #[.int .i64 0,.int .i64 0,.int .i64 0,.int .i64 0] 50 ?_;intro gb108 hg w9 hbox hb;have BK108:=qK (hbox);have GW108:=qK ((gS hg:w.heap.size≤gb108));have GE108:=qK ((gS hg:w.heap.size≤gb108));replace HB:=qK (bS hb);have NB105_108:=qK ((nL hg BK105.out:gb105≠gb108));have NB108_105:=qK ((nG hg BK105.out:gb108≠gb105));replace BK105:=qK (bB BK105.out hb);have NB106_108:=qK ((nL hg BK106.out:gb106≠gb108));have NB108_106:=qK ((nG hg BK106.out:gb108≠gb106));replace BK106:=qK (bB BK106.out hb);clear hb hbox hg;have hnb10:=NB108_105.out;have hnc10:=NB105_108.out;have hnb11:=NB108_106.out;have hnc11:=NB106_108.out;obtain ⟨_,_,_,_,_,_,_,_⟩:=xC4 BK108.out;have hnb13:=NB106_105.out;have hnc13:=NB105_106.out;obtain ⟨_,_,_,_⟩:=xC2 BK106.out))
   go_roundg k1
   case measure=>have:=HK1.out;omega
   case rel=>exact ⟨(wrap64 (x8_1+1)),(wrap64 (x107000_1+((rd_T50 l0_0 x8_1).f0.f0))),(wrap64 (x107001_1+((rd_T50 l0_0 x8_1).f0.f1))),sA,H',⟨by have:=HK1.out;omega⟩,⟨by (with_reducible repeat (first|refine blk_drewN ?_ _|refine blk_drew ?_|refine blk_alloc ?_ _));refine blk_far ?_ NB105_106.out _;(with_reducible repeat (first|refine blk_drewN ?_ _|refine blk_drew ?_|refine blk_alloc ?_ _));refine blk_far ?_ NB105_106.out _;(with_reducible repeat (first|refine blk_drewN ?_ _|refine blk_drew ?_|refine blk_alloc ?_ _));refine blk_far ?_ NB105_108.out _;(with_reducible repeat (first|refine blk_drewN ?_ _|refine blk_drew ?_|refine blk_alloc ?_ _));refine blk_far ?_ NB105_108.out _;(with_reducible repeat (first|refine blk_drewN ?_ _|refine blk_drew ?_|refine blk_alloc ?_ _));refine blk_far ?_ NB105_108.out _;(with_reducible repeat (first|refine blk_drewN ?_ _|refine blk_drew ?_|refine blk_alloc ?_ _));refine blk_far ?_ NB105_108.out _;(with_reducible repeat (first|refine blk_drewN ?_ _|refine blk_drew ?_|refine blk_alloc ?_ _));exact BK105.out⟩,⟨by (with_reducible repeat (first|refine blk_drewN ?_ _|refine blk_drew ?_|refine blk_alloc ?_ _));refine blk_put (cs:=#[.int .i64 (wrap64 (x107000_1+((rd_T50 l0_0 x8_1).f0.f0))),.int .i64 x107001_1]) ?_ 1 _ rfl;(with_reducible repeat (first|refine blk_drewN ?_ _|refine blk_drew ?_|refine blk_alloc ?_ _));refine blk_put (cs:=#[.int .i64 x107000_1,.int .i64 x107001_1]) ?_ 0 _ rfl;(with_reducible repeat (first|refine blk_drewN ?_ _|refine blk_drew ?_|refine blk_alloc ?_ _));refine blk_far ?_ NB106_108.out _;(with_reducible repeat (first|refine blk_drewN ?_ _|refine blk_drew ?_|refine blk_alloc ?_ _));refine blk_far ?_ NB106_108.out _;(with_reducible repeat (first|refine blk_drewN ?_ _|refine blk_drew ?_|refine blk_alloc ?_ _));refine blk_far ?_ NB106_108.out _;(with_reducible repeat (first|refine blk_drewN ?_ _|refine blk_drew ?_|refine blk_alloc ?_ _));refine blk_far ?_ NB106_108.out _;(with_reducible repeat (first|refine blk_drewN ?_ _|refine blk_drew ?_|refine blk_alloc ?_ _));exact BK106.out⟩,⟨bA⟩⟩
def orders_span.f (a0_0:Int) (a0_1:Int) (a1:Int):Option (Bool):=if a0_0≥0 then (if a0_0≤a0_1 then (some (decide (a0_1≤a1))) else (some false)) else (some false)
set_option maxHeartbeats 8000000 in
set_option maxRecDepth 100000 in
theorem orders_span.calls (a0_0:Int) (a0_1:Int) (a1:Int) (r:Bool) (w:World) (h:orders_span.f a0_0 a0_1 a1=some r) :
 Calls Try.prog 77 #[.agg #[.int .i64 a0_0,.int .i64 a0_1],.int .i64 a1] w fun e w'=>e= .returned (.bool r)∧Below w.heap.size w w':=by
 have hu24:=Try.underlying24
 have HB:=Aside0.mk (Below.refl w.heap.size w)
 have H:(if a0_0≥0 then (if a0_0≤a0_1 then (some (decide (a0_1≤a1))) else (some false)) else (some false))=some r:=h
 clear h
 by_cases c3:a0_0≥0
 rotate_left
 ·rw [if_neg c3] at H
  have c3b0:decide (0≤a0_0)=false:=decide_eq_false c3
  clear c3
  obtain rfl:=Option.some.inj H
  go_enter Try.func77,Try.ntmps77
  go_wp2_with (first|((with_reducible refine gate_dst (N:=2) rfl ?_);refine bE #[.int .i64 a0_0,.int .i64 a0_1] 24 ?_;intro gb109 hg w9 hbox hb;have BK109:=qK (hbox);have GW109:=qK ((gS hg:w.heap.size≤gb109));have GE109:=qK ((gS hg:w.heap.size≤gb109));replace HB:=qK (bS hb);clear hb hbox hg;obtain ⟨_,_,_,_⟩:=xC2 BK109.out))
  go_ret
  exact ⟨by first|rfl|(simp [errW_none,errW_some] <;> rfl)|(simp [*,errW_none,errW_some] <;> rfl),bA⟩
 rw [if_pos c3] at H
 have c3b0:decide (0≤a0_0)=true:=decide_eq_true c3
 clear c3
 by_cases c4:a0_0≤a0_1
 ·rw [if_pos c4] at H
  have c4b0:decide (a0_0≤a0_1)=true:=decide_eq_true c4
  clear c4
  obtain rfl:=Option.some.inj H
  go_enter Try.func77,Try.ntmps77
  go_wp2_with (first|((with_reducible refine gate_dst (N:=2) rfl ?_);refine bE #[.int .i64 a0_0,.int .i64 a0_1] 24 ?_;intro gb109 hg w5 hbox hb;have BK109:=qK (hbox);have GW109:=qK ((gS hg:w.heap.size≤gb109));have GE109:=qK ((gS hg:w.heap.size≤gb109));replace HB:=qK (bS hb);clear hb hbox hg;obtain ⟨_,_,_,_⟩:=xC2 BK109.out))
  go_ret
  exact ⟨by first|rfl|(simp [errW_none,errW_some] <;> rfl)|(simp [*,errW_none,errW_some] <;> rfl),bA⟩
 rw [if_neg c4] at H
 have c4b0:decide (a0_0≤a0_1)=false:=decide_eq_false c4
 clear c4
 obtain rfl:=Option.some.inj H
 go_enter Try.func77,Try.ntmps77
 go_wp2_with (first|((with_reducible refine gate_dst (N:=2) rfl ?_);refine bE #[.int .i64 a0_0,.int .i64 a0_1] 24 ?_;intro gb109 hg w7 hbox hb;have BK109:=qK (hbox);have GW109:=qK ((gS hg:w.heap.size≤gb109));have GE109:=qK ((gS hg:w.heap.size≤gb109));replace HB:=qK (bS hb);clear hb hbox hg;obtain ⟨_,_,_,_⟩:=xC2 BK109.out))
 go_ret
 exact ⟨by first|rfl|(simp [errW_none,errW_some] <;> rfl)|(simp [*,errW_none,errW_some] <;> rfl),bA⟩
end Go.Proofs.Ythimaecnpkcmeaa.K
