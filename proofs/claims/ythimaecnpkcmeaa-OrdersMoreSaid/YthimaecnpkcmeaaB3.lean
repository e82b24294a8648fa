/- Contracts of Go functions and lemmas for them: each theorem states what one function returns and what it leaves of memory; its conditions stand in its statement. -/
import Derived.ArgAppend
import Derived.Below
import Derived.BigQuiet
import Derived.ChangeKeysEq
import Derived.Deep.AppendLies
import Derived.Deep.CutBlock
import Derived.Deep.DeepCutAuto
import Derived.Deep.Draws
import Derived.Deep.LoopGhost
import Derived.Deep.OwnRows
import Derived.Deep.QuietTactic
import Derived.Deep.RegionHeld3
import Derived.KernelRfl
import Derived.Laws.BitsLemmas
import Derived.Laws.BytesArg
import Derived.Laws.IdiomCopy
import Derived.Laws.MakeOwn
import Derived.Laws.OwnMore
import Derived.Laws.Rows
import Derived.Laws.Slices
import Derived.Lib.AppendStr
import Derived.Lib.ConvBytes
import Derived.Maps.AppendAt
import Derived.OrdersHeld
import Derived.OwnWalk
import Derived.RowKit
import Derived.RowKit3
import Derived.StillTailTactics
import Derived.Tactics
import Derived.Test.YthimaecnpkcmeaaProg
import Derived.WalkKit
import Derived.WalkSpells
import Derived.WideLaws
import Derived.Test.YthimaecnpkcmeaaB0
import Derived.Test.YthimaecnpkcmeaaB1
import Derived.Test.YthimaecnpkcmeaaB2
set_option linter.unusedVariables false
set_option linter.unusedSimpArgs false
namespace Go.Proofs.YthimaecnpkcmeaaW.PrintWords
open Go.RowKit Go.Proofs.YthimaecnpkcmeaaW.PrintLast Go.Proofs.YthimaecnpkcmeaaW.PrintMore
theorem bA {w0 w:World} (s:Below w0.heap.size w0 w:=by repeat (first|(with_reducible first|exact HB.out|apply zo|apply zAb|apply zx|refine zBO ?_ (zA.out (by assumption)))|exact HB.out)):Below w0.heap.size w0 w:=s
theorem bZ {w0 w:World} (s:Below w0.heap.size w0 w:=by repeat (first|(with_reducible first|exact HB.out|apply zo|apply zAb|apply zx|refine zBO ?_ (zA.out (by assumption)))|exact HB.out)):w0.heap.size≤w.heap.size:=zB3 s
theorem gS {w0 w:World} {g:Nat} (hg:g=w.heap.size) (s:Below w0.heap.size w0 w:=by repeat (first|(with_reducible first|exact HB.out|apply zo|apply zAb|apply zx|refine zBO ?_ (zA.out (by assumption)))|exact HB.out)):w0.heap.size≤g:=by rw [hg];exact zB3 s
theorem bX {w0 w:World} {g:Nat} {o:Obj} (h:w0.heap[g]? = some o) (s:w0.heap[g]? = some o→w.heap[g]? = some o:=by intro h;(with_reducible repeat (first|refine zD ?_ _|refine zF ?_|refine zC ?_ _));exact h):w.heap[g]? = some o:=s h
theorem rS {α:Type} {d:Kd α} {e:Nat} {w0 w:World} {b:Nat} {ok:Nat→Prop} {v:Value} {xs:List α} (h:d.R e w0 b ok v xs) (s:d.R e w0 b ok v xs→d.R e w b ok v xs:=by intro h;(with_reducible repeat (first|apply Kd.zAp|apply Kd.zAn|apply Kd.zAv));exact h):d.R e w b ok v xs:=s h
theorem nS {α:Type} {d:Kd α} {e:Nat} {w0 w:World} {b:Nat} {ok:Nat→Prop} {v:Value} {xs:List α} (h:d.N e w0 b ok v xs) (s:d.N e w0 b ok v xs→d.N e w b ok v xs:=by intro h;(with_reducible repeat (first|apply Kd.zEZ|apply Kd.zFM|apply Kd.N_drew));exact h):d.N e w b ok v xs:=s h
theorem cS {α:Type} {d:Kd α} {w0 w:World} {A:Option Addr} {n:Nat} {xs:List α} (h:d.C w0 A n xs) (s:d.C w0 A n xs→d.C w A n xs:=by intro h;repeat (first|exact (Kd.zAZ h HB.out)|(with_reducible refine Kd.zAo ?_ _)|(with_reducible refine Kd.zAl ?_ _)|(with_reducible refine Kd.zA3 ?_))):d.C w A n xs:=s h
theorem cR {α:Type} {d:Kd α} {w0 w:World} {A:Option Addr} {n:Nat} {xs:List α} (h:d.C w0 A n xs) (s:d.C w0 A n xs→d.C w A n xs:=by intro h;repeat (first|exact h|(with_reducible refine Kd.zAo ?_ _)|(with_reducible refine Kd.zAl ?_ _)|(with_reducible refine Kd.zA3 ?_))):d.C w A n xs:=s h
theorem dA {p:Prop} [Decidable p] (h:decide p=true:=by first|(with_reducible assumption)|assumption):p:=of_decide_eq_true h
theorem sA {p:Prop} (h:p:=by first|rfl|(simp;done)|(simp [*];done)):p:=h
theorem rA {p:Prop} (h:p:=by first|(go_simp;done)|(go_simp;rfl)):p:=h
theorem qK {p:Prop} (h:p):zA p:=⟨h⟩
section
variable {P : Program} {md : Region.Mode} {ops : Array Oper} {Q : Exit → Act → World → Prop} {S : World → Prop} {ds : List Nat} {T : Bool × List (List Nat × List Nat)} {B : List Nat} {oi : Oper} {v : Value} {fuel : Nat} {l l' : Array Bool} {a a' : Act} {w : World}
theorem pP (i:Nat) (N:Option Tmp) (hT:zA (zBQ md ops=T)) (h:zt P md ops Q S ds fuel l' a' w) (hi:ops[i]? = some oi:=by exact rfl) (hN:oi.dst=N:=by exact rfl) (hl:l.setIfInBounds i true=l':=by simp only [List.setIfInBounds_toArray,List.set_cons_zero,List.set_cons_succ];exact rfl) (hc:anyT T l.toList l'.toList i=true:=by kernel_rfl) (hQ : ∀ c a w,Q (.panic c) (a.put oi.dst v) w→Q (.panic c) a w:=by exact fun _ _ _ h=>h) (hw:Region.wanted oi (yielded ops a.tmps)=true:=by rfl) (hy : ∀ w',(execOp a.eval oi).run P w'= .ok (.value v) w':=by intro w';go_simp;with_reducible rfl) (ha:a.put N v=a':=by simp only [Act.put,List.setIfInBounds_toArray,List.set_cons_zero,List.set_cons_succ,zBS,zBg];rfl):zt P md ops Q S ds (fuel+1) l a w :=
 zCX l' hi hN (zCl hT.out hc) hQ (Or.inl ⟨hw,hy⟩) ha h
theorem tP (i:Nat) (N:Option Tmp) (hT:zA (zBQ md ops=T)) (hB:zA (zBA T.2 B=true)) (hS:S w) (h:zt P md ops Q S ds fuel l' a' w) (hi:ops[i]? = some oi:=by exact rfl) (hN:oi.dst=N:=by exact rfl) (hl:l.setIfInBounds i true=l':=by simp only [List.setIfInBounds_toArray,List.set_cons_zero,List.set_cons_succ];exact rfl) (hc:takeW T B ds l.toList l'.toList i=true:=by kernel_rfl) (hQ : ∀ c a w,Q (.panic c) (a.put oi.dst v) w→Q (.panic c) a w:=by exact fun _ _ _ h=>h) (hw:Region.wanted oi (yielded ops a.tmps)=true:=by rfl) (hy : ∀ w',S w'→(execOp a.eval oi).run P w'= .ok (.value v) w':=by intro w' hs;go_simp;with_reducible rfl) (ha:a.put N v=a':=by simp only [Act.put,List.setIfInBounds_toArray,List.set_cons_zero,List.set_cons_succ,zBS,zBg];rfl):zt P md ops Q S ds (fuel+1) l a w :=
 zDX l' hi hN (zC5 hT.out hB.out hc) hQ (Or.inl ⟨hw,hy⟩) hS ha h
theorem nP (h:zt P md ops Q S ds fuel l a' w) (ha:a=a':=by first|(show Act.put _ (some _) _=_;simp only [Act.put,List.setIfInBounds_toArray,List.set_cons_zero,List.set_cons_succ,zBS,zBg];rfl)|(simp only [Act.put,List.setIfInBounds_toArray,List.set_cons_zero,List.set_cons_succ,zBS,zBg];rfl)):zt P md ops Q S ds fuel l a w:=zAe ha h
theorem oP (i:Nat) (N:Option Tmp) (hT:zA (zBQ md ops=T)) (h : ∀ K:Act→World→Prop,Shut (∀ a' w',S w'→(S w'→zt P md ops Q S ds fuel l' a' w')→K a' w')→if Region.wanted oi (yielded ops a.tmps)=true then Oper.wp P oi a w K Q else K (a.put N undef) w) (hi:ops[i]? = some oi:=by exact rfl) (hN:oi.dst=N:=by exact rfl) (hl:l.setIfInBounds i true=l':=by simp only [List.setIfInBounds_toArray,List.set_cons_zero,List.set_cons_succ];exact rfl) (hc:(zCg T.2 l.toList == [i] && l.toList.set i true == l'.toList)=true:=by kernel_rfl) (hd:i ∉ ds:=by decide):zt P md ops Q S ds (fuel+1) l a w :=
 one_ l' hi hN (zDj hT.out hc) hd h
theorem gO {f : FuncId} {fn : Func} {ao : Array Operand} {ts : Array TypeId} {N : Option Tmp} {K : Act → World → Prop} (hf : P.funcs[f]? = some fn) (args : Array Value) (h : Calls P f args w fun e w' => ∃ v, e = .returned v ∧ K (a.put N v) w') (hname : (fn.name == "runtime.NumGoroutine") = false := by kernel_rfl) (hb : fn.body.isSome = true := by rfl) (hw : Region.wanted oi (yielded ops a.tmps) = true := by rfl) (hN : oi.dst = N := by exact rfl) (hop : oi.op = .call { callee := .value (.func f), args := ao, argTypes := ts } := by exact rfl) (hargs : ao.map a.eval = args := by (try simp only [List.map_toArray, List.map_cons, List.map_nil]); first | done | rfl | (simp only [List.length_drop, List.length_take]; rfl)) : if Region.wanted oi (yielded ops a.tmps) = true then Oper.wp P oi a w K Q else K (a.put N undef) w :=
 goes_ hf hname hb args hw hN hop hargs h
theorem gL {rest : List Oper} {f : FuncId} {fn : Func} {ao : Array Operand} {ts : Array TypeId} (N : Option Tmp) (hf : P.funcs[f]? = some fn) (args : Array Value) (h : Calls P f args w fun e w' => ∃ v, e = .returned v ∧ wpList P ops Q rest (a.put N v) w') (hd : oi.dst = N := by exact rfl) (hg : oi.guard = none := by exact rfl) (hname : (fn.name == "runtime.NumGoroutine") = false := by kernel_rfl) (hb : fn.body.isSome = true := by rfl) (hop : oi.op = .call { callee := .value (.func f), args := ao, argTypes := ts } := by exact rfl) (hargs : ao.map a.eval = args := by (try simp only [List.map_toArray, List.map_cons, List.map_nil]); first | done | rfl | (simp only [List.length_drop, List.length_take]; rfl)) : wpList P ops Q (oi :: rest) a w :=
 zDu N hd hg hf hname hb args hop hargs h
theorem bE {rest:List Oper} (cs:Array Value) (t:TypeId) (h : ∀ g,g=w.heap.size→∀ w1,w1.heap[g]? = some (.cells cs t (0,0))→Below w.heap.size w w1→wpList P ops Q rest (a.put oi.dst (.pointer (some ⟨g,0,none⟩))) w1) (hgd:oi.guard=none:=by exact rfl) (hrun:(execOp a.eval oi).run P w= .ok (.value (.pointer (some ⟨w.heap.size,0,none⟩))) (w.alloc (.cells cs t (0,0))):=by first|(go_simp;done)|(go_simp;rfl)):wpList P ops Q (oi :: rest) a w :=
 Kd.zEF hgd hrun (h _ rfl _ (zBb w _) (zo (Below.refl _ _) _))
end
theorem hC {w0 w:World} {p:Addr} {v:Value} (hb:Below w0.heap.size w0 w) (h:w0.cell? p=some v):w.cell? p=some v:=(hb.cell (World.block_lt_of_cell? w0 _ h)).trans h
theorem nL {w0 w:World} {g g':Nat} {o:Obj} (hg:g'=w.heap.size) (h:w0.heap[g]? = some o) (s:w0.heap[g]? = some o→w.heap[g]? = some o:=by intro h;(with_reducible repeat (first|refine zD ?_ _|refine zF ?_|refine zC ?_ _));exact h):g≠g':=by rw [hg];exact Nat.ne_of_lt (zBk (s h))
theorem nG {w0 w:World} {g g':Nat} {o:Obj} (hg:g'=w.heap.size) (h:w0.heap[g]? = some o) (s:w0.heap[g]? = some o→w.heap[g]? = some o:=by intro h;(with_reducible repeat (first|refine zD ?_ _|refine zF ?_|refine zC ?_ _));exact h):g'≠g:=by rw [hg];exact Nat.ne_of_gt (zBk (s h))
theorem oB {p q:Prop} (h:q) (s:q→p:=by intro h;first|exact Kd.zBP h|(rw [add_block];exact Kd.zBP h)|(show (Addr.add _ _).block≠_;rw [add_block];exact Kd.zBP h)|(dsimp only;exact Kd.zBP h)):p:=s h
theorem rB {α:Type} {d:Kd α} {e:Nat} {w0 w w1:World} {b:Nat} {ok:Nat→Prop} {v:Value} {xs:List α} (h:zA (d.R e w0 b ok v xs)) (hb:Below w.heap.size w w1) (s:d.R e w0 b ok v xs→d.R e w b ok v xs:=by intro h;(with_reducible repeat (first|apply Kd.zAp|apply Kd.zAn|apply Kd.zAv));exact h):zA (d.R e w1 b ok v xs):=⟨Kd.z8 (s h.out) hb⟩
theorem bQ {w0 w w1:World} {g:Nat} {o:Obj} (h:zA (w0.heap[g]? = some o)) (hb:Below w.heap.size w w1) (s:w0.heap[g]? = some o→w.heap[g]? = some o:=by intro h;(with_reducible repeat (first|refine zD ?_ _|refine zF ?_|refine zC ?_ _));exact h):zA (w1.heap[g]? = some o):=⟨zT (s h.out) hb⟩
theorem hQ {w0 w w1:World} (hb:Below w.heap.size w w1) (s:Below w0.heap.size w0 w:=by repeat (first|(with_reducible first|exact HB.out|apply zo|apply zAb|apply zx|refine zBO ?_ (zA.out (by assumption)))|exact HB.out)):zA (Below w0.heap.size w0 w1):=⟨zAx s hb⟩
theorem xC2 {w:World} {g:Nat} {t:TypeId} {a b:Value} (h:w.heap[g]? = some (.cells #[a,b] t (0,0))):w.cell? ⟨g,0,none⟩=some a∧w.cell? ⟨g,1,none⟩=some b∧w.frozen? ⟨g,0,none⟩=false∧w.frozen? ⟨g,1,none⟩=false:=⟨(zB h 0).trans rfl,(zB h 1).trans rfl,zW h 0,zW h 1⟩
theorem xC3 {w:World} {g:Nat} {t:TypeId} {a b c:Value} (h:w.heap[g]? = some (.cells #[a,b,c] t (0,0))):w.cell? ⟨g,0,none⟩=some a∧w.cell? ⟨g,1,none⟩=some b∧w.cell? ⟨g,2,none⟩=some c∧w.frozen? ⟨g,0,none⟩=false∧w.frozen? ⟨g,1,none⟩=false∧w.frozen? ⟨g,2,none⟩=false:=⟨(zB h 0).trans rfl,(zB h 1).trans rfl,(zB h 2).trans rfl,zW h 0,zW h 1,zW h 2⟩
theorem xC4 {w:World} {g:Nat} {t:TypeId} {a0 a1 a2 a3:Value} (h:w.heap[g]? = some (.cells #[a0,a1,a2,a3] t (0,0))):w.cell? ⟨g,0,none⟩=some a0∧w.cell? ⟨g,1,none⟩=some a1∧w.cell? ⟨g,2,none⟩=some a2∧w.cell? ⟨g,3,none⟩=some a3∧w.frozen? ⟨g,0,none⟩=false∧w.frozen? ⟨g,1,none⟩=false∧w.frozen? ⟨g,2,none⟩=false∧w.frozen? ⟨g,3,none⟩=false:=⟨(zB h 0).trans rfl,(zB h 1).trans rfl,(zB h 2).trans rfl,(zB h 3).trans rfl,zW h 0,zW h 1,zW h 2,zW h 3⟩
theorem xC5 {w:World} {g:Nat} {t:TypeId} {a0 a1 a2 a3 a4:Value} (h:w.heap[g]? = some (.cells #[a0,a1,a2,a3,a4] t (0,0))):w.cell? ⟨g,0,none⟩=some a0∧w.cell? ⟨g,1,none⟩=some a1∧w.cell? ⟨g,2,none⟩=some a2∧w.cell? ⟨g,3,none⟩=some a3∧w.cell? ⟨g,4,none⟩=some a4∧w.frozen? ⟨g,0,none⟩=false∧w.frozen? ⟨g,1,none⟩=false∧w.frozen? ⟨g,2,none⟩=false∧w.frozen? ⟨g,3,none⟩=false∧w.frozen? ⟨g,4,none⟩=false:=⟨(zB h 0).trans rfl,(zB h 1).trans rfl,(zB h 2).trans rfl,(zB h 3).trans rfl,(zB h 4).trans rfl,zW h 0,zW h 1,zW h 2,zW h 3,zW h 4⟩
end Go.Proofs.YthimaecnpkcmeaaW.PrintWords
namespace Go.Proofs.Ythimaecnpkcmeaa.K
open Go.RowKit Go.Proofs.YthimaecnpkcmeaaW.PrintWords Go.Proofs.YthimaecnpkcmeaaW.PrintLast Go.Proofs.YthimaecnpkcmeaaW.PrintMore
attribute [local go_sem] zAX zAW zAg zAf zAF zAG zAU zAV   -- for this text's walks alone
set_option linter.unusedVariables false
set_option linter.unusedSimpArgs false
def errW:Option Int→Value
 | none=>.nilIface
 | some c=>.iface 0 (.int .i64 c)
theorem zAQ:errW none= .nilIface:=rfl
theorem zAP (c:Int):errW (some c)= .iface 0 (.int .i64 c):=rfl
theorem eA {p:Prop} (h:p:=by first|rfl|(simp [zAQ,zAP] <;> rfl)|(simp [*,zAQ,zAP] <;> rfl)):p:=h
theorem info3:(Try.prog.info? 3).map (fun i=>(i.zero,i.size,i.bytes))=some (some (.int .i64 0),1,8):=by kernel_rfl
theorem info50:(Try.prog.info? 50).map (fun i=>(i.zero,i.size,i.bytes))=some (some (.agg #[(.int .i64 0),(.int .i64 0),(.int .i64 0),(.int .i64 0)]),4,32):=by kernel_rfl
theorem info63:(Try.prog.info? 63).map (fun i=>(i.zero,i.size,i.bytes))=some (some (.slice none 0 0),1,24):=by kernel_rfl
theorem zCa:(Try.prog.info? 64).map (fun i=>(i.zero,i.size,i.bytes))=some (some (.agg #[(.int .i64 0),(.int .i64 0)]),2,16):=by kernel_rfl
structure S24 where
 f0:Int
 f1:Int
def z24:S24:=⟨(0:Int),(0:Int)⟩
def k24:Kd S24:=Kd.iso (Kd.pair (Kd.int .i64) (Kd.int .i64)) (fun x:S24=>(x.f0,x.f1))
theorem zDt {w:World} {x:S24} {cs:List Value} (h:k24.K w x cs):cs=[.int .i64 x.f0,.int .i64 x.f1]:=by
 obtain ⟨_,_,rfl,rfl,rfl⟩:=h
 exact rfl
theorem zFW {w:World} {base:Nat} {ok:Nat→Prop} {x:S24} {cs:List Value} (h:k24.M w base ok x cs):cs=[.int .i64 x.f0,.int .i64 x.f1]:=by
 obtain ⟨_,_,rfl,rfl,rfl⟩:=h
 exact rfl
theorem k24_mk (w:World) (x:S24):k24.K w x [.int .i64 x.f0,.int .i64 x.f1]:=⟨[.int .i64 x.f0],[.int .i64 x.f1],rfl,rfl,rfl⟩
theorem k24_mkM (w:World) (base:Nat) (ok:Nat→Prop) (x:S24):k24.M w base ok x [.int .i64 x.f0,.int .i64 x.f1]:=⟨[.int .i64 x.f0],[.int .i64 x.f1],rfl,rfl,rfl⟩
structure S50 where
 f0:S24
 f1:Int
 f2:Int
def z50:S50:=⟨z24,(0:Int),(0:Int)⟩
def k50:Kd S50:=Kd.iso (Kd.pair k24 (Kd.pair (Kd.int .i64) (Kd.int .i64))) (fun x:S50=>(x.f0,x.f1,x.f2))
theorem zEx {w:World} {x:S50} {cs:List Value} (h:k50.K w x cs):cs=[.int .i64 x.f0.f0,.int .i64 x.f0.f1,.int .i64 x.f1,.int .i64 x.f2]:=by
 obtain ⟨_,_,rfl,s0,⟨_,_,rfl,rfl,rfl⟩⟩:=h
 obtain rfl:=zDt s0
 exact rfl
theorem zEN {w:World} {base:Nat} {ok:Nat→Prop} {x:S50} {cs:List Value} (h:k50.M w base ok x cs):cs=[.int .i64 x.f0.f0,.int .i64 x.f0.f1,.int .i64 x.f1,.int .i64 x.f2]:=by
 obtain ⟨_,_,rfl,s0,⟨_,_,rfl,rfl,rfl⟩⟩:=h
 obtain rfl:=zFW s0
 exact rfl
theorem k50_mk (w:World) (x:S50):k50.K w x [.int .i64 x.f0.f0,.int .i64 x.f0.f1,.int .i64 x.f1,.int .i64 x.f2]:=⟨[.int .i64 x.f0.f0,.int .i64 x.f0.f1],[.int .i64 x.f1,.int .i64 x.f2],rfl,(k24_mk w x.f0 ),⟨[.int .i64 x.f1],[.int .i64 x.f2],rfl,rfl,rfl⟩⟩
theorem zDe (w:World) (base:Nat) (ok:Nat→Prop) (x:S50):k50.M w base ok x [.int .i64 x.f0.f0,.int .i64 x.f0.f1,.int .i64 x.f1,.int .i64 x.f2]:=⟨[.int .i64 x.f0.f0,.int .i64 x.f0.f1],[.int .i64 x.f1,.int .i64 x.f2],rfl,(k24_mkM w base ok x.f0 ),⟨[.int .i64 x.f1],[.int .i64 x.f2],rfl,rfl,rfl⟩⟩
def zG (xs:List S50) (i:Int):S50:=xs.getD i.toNat z50
theorem zA9 {w:World} {A:Option Addr} {n:Nat} {xs:List S50} (h:Kd.C k50 w A n xs) (i:Int) (h0:0≤i) (h1:i < n) : ∃ ad ,A=some ad∧w.cell? (ad.add (i.toNat*4))=some (.int .i64 (zG xs i).f0.f0)∧w.cell? ⟨(ad.add (i.toNat*4)).block,(ad.add (i.toNat*4)).off+1,none⟩=some (.int .i64 (zG xs i).f0.f1)∧w.cell? ⟨(ad.add (i.toNat*4)).block,(ad.add (i.toNat*4)).off+2,none⟩=some (.int .i64 (zG xs i).f1)∧w.cell? ⟨(ad.add (i.toNat*4)).block,(ad.add (i.toNat*4)).off+3,none⟩=some (.int .i64 (zG xs i).f2):=by
 obtain ⟨ad,c,e,_,hK,hc0⟩:=Kd.C_get h z50 i h0 h1
 have hc : ∀ j u,c[j]? = some u→w.cell? (ad.add (i.toNat*4+j))=some u:=hc0
 obtain rfl:=zEx hK
 exact ⟨ad,e,hc 0 _ rfl,by rw [← zCp _ _ 1 (by omega)];exact hc 1 _ rfl,by rw [← zCp _ _ 2 (by omega)];exact hc 2 _ rfl,by rw [← zCp _ _ 3 (by omega)];exact hc 3 _ rfl⟩
structure S64 where
 f0:Int
 f1:Int
def z64:S64:=⟨(0:Int),(0:Int)⟩
def k64:Kd S64:=Kd.iso (Kd.pair (Kd.int .i64) (Kd.int .i64)) (fun x:S64=>(x.f0,x.f1))
theorem zEm {w:World} {x:S64} {cs:List Value} (h:k64.K w x cs):cs=[.int .i64 x.f0,.int .i64 x.f1]:=by
 obtain ⟨_,_,rfl,rfl,rfl⟩:=h
 exact rfl
theorem zEP {w:World} {base:Nat} {ok:Nat→Prop} {x:S64} {cs:List Value} (h:k64.M w base ok x cs):cs=[.int .i64 x.f0,.int .i64 x.f1]:=by
 obtain ⟨_,_,rfl,rfl,rfl⟩:=h
 exact rfl
theorem zBB (w:World) (base:Nat) (ok:Nat→Prop) (x:S64):k64.M w base ok x [.int .i64 x.f0,.int .i64 x.f1]:=⟨[.int .i64 x.f0],[.int .i64 x.f1],rfl,rfl,rfl⟩
def zI (xs:List S64) (i:Int):S64:=xs.getD i.toNat z64
theorem zBa {w:World} {A:Option Addr} {n:Nat} {xs:List S64} (h:Kd.C k64 w A n xs) (i:Int) (h0:0≤i) (h1:i < n) : ∃ ad ,A=some ad∧w.cell? (ad.add (i.toNat*2))=some (.int .i64 (zI xs i).f0)∧w.cell? ⟨(ad.add (i.toNat*2)).block,(ad.add (i.toNat*2)).off+1,none⟩=some (.int .i64 (zI xs i).f1):=by
 obtain ⟨ad,c,e,_,hK,hc0⟩:=Kd.C_get h z64 i h0 h1
 have hc : ∀ j u,c[j]? = some u→w.cell? (ad.add (i.toNat*2+j))=some u:=hc0
 obtain rfl:=zEm hK
 exact ⟨ad,e,hc 0 _ rfl,by rw [← zCp _ _ 1 (by omega)];exact hc 1 _ rfl⟩
def zBj (xs:List (List S64)) (i:Int):(List S64):=xs.getD i.toNat ([]:List S64)
theorem zDn {w:World} {A:Option Addr} {n:Nat} {xs:List (List S64)} (h:Kd.C (Kd.slice 64 k64) w A n xs) (i:Int) (h0:0≤i) (h1:i < n) : ∃ ad A0 c0,A=some ad∧w.cell? (ad.add i.toNat)=some (.slice A0 (zBj xs i).length c0)∧(zBj xs i).length≤c0∧k64.C w A0 (zBj xs i).length (zBj xs i):=by
 obtain ⟨ad,c,e,_,hK,hc0⟩:=Kd.C_get h ([]:List S64) i h0 h1
 have hc : ∀ j u,c[j]? = some u→w.cell? (ad.add (i.toNat*1+j))=some u:=hc0
 obtain ⟨A0,c0,rfl,l0,g0⟩:=hK
 exact ⟨ad,A0,c0,e,by have hq:=hc 0 _ rfl;rwa [Nat.mul_one,Nat.add_zero] at hq,l0,g0⟩
end Go.Proofs.Ythimaecnpkcmeaa.K
namespace Go.Proofs.Ythimaecnpkcmeaa.K
open Go.RowKit Go.Proofs.YthimaecnpkcmeaaW.PrintWords Go.Proofs.YthimaecnpkcmeaaW.PrintLast Go.Proofs.YthimaecnpkcmeaaW.PrintMore
attribute [local go_sem] zAX zAW zAg zAf zAF zAG zAU zAV   -- for this text's walks alone
set_option linter.unusedVariables false
set_option linter.unusedSimpArgs false
theorem eqA24 (d:Nat) (w:World) (x0 y0:Int) (x1 y1:Int) :
 (Op.equalIn (d+2) 24 (.agg #[.int .i64 x0,.int .i64 x1]) (.agg #[.int .i64 y0,.int .i64 y1])).run Try.prog w= .ok (x0 == y0 && (x1 == y1)) w:=by
 refine eqA_of Try.underlying24 (by kernel_rfl) ?_
 refine zD4 (by rfl) (by go_simp;rfl) (by go_simp;rfl) (by go_simp) ?_
 exact zEr (by rfl) (by go_simp;rfl) (by go_simp;rfl) (by go_simp)
end Go.Proofs.Ythimaecnpkcmeaa.K
namespace Go.Proofs.Ythimaecnpkcmeaa.K
open Go.RowKit Go.Proofs.YthimaecnpkcmeaaW.PrintWords Go.Proofs.YthimaecnpkcmeaaW.PrintLast Go.Proofs.YthimaecnpkcmeaaW.PrintMore
attribute [local go_sem] zAX zAW zAg zAf zAF zAG zAU zAV   -- for this text's walks alone
set_option linter.unusedVariables false
set_option linter.unusedSimpArgs false
theorem eqA50 (d:Nat) (w:World) (x0 y0:Int) (x1 y1:Int) (x2 y2:Int) (x3 y3:Int) :
 (Op.equalIn (d+3) 50 (.agg #[.int .i64 x0,.int .i64 x1,.int .i64 x2,.int .i64 x3]) (.agg #[.int .i64 y0,.int .i64 y1,.int .i64 y2,.int .i64 y3])).run Try.prog w= .ok ((x0 == y0 && (x1 == y1)) && (x2 == y2 && (x3 == y3))) w:=by
 refine eqA_of Try.underlying50 (by kernel_rfl) ?_
 refine zD4 (by rfl) (by go_simp) (by go_simp) (eqA24 (d+0) w _ _ _ _) ?_
 refine zD4 (by rfl) (by go_simp;rfl) (by go_simp;rfl) (by go_simp) ?_
 exact zEr (by rfl) (by go_simp;rfl) (by go_simp;rfl) (by go_simp)
end Go.Proofs.Ythimaecnpkcmeaa.K
namespace Go.Proofs.Ythimaecnpkcmeaa.K
open Go.RowKit Go.Proofs.YthimaecnpkcmeaaW.PrintWords Go.Proofs.YthimaecnpkcmeaaW.PrintLast Go.Proofs.YthimaecnpkcmeaaW.PrintMore
attribute [local go_sem] zAX zAW zAg zAf zAF zAG zAU zAV   -- for this text's walks alone
set_option linter.unusedVariables false
set_option linter.unusedSimpArgs false
theorem eqA64 (d:Nat) (w:World) (x0 y0:Int) (x1 y1:Int) :
 (Op.equalIn (d+2) 64 (.agg #[.int .i64 x0,.int .i64 x1]) (.agg #[.int .i64 y0,.int .i64 y1])).run Try.prog w= .ok (x0 == y0 && (x1 == y1)) w:=by
 obtain ⟨i0,hi,hz0,hz1,hz2⟩:=info_parts info3
 have hc:Try.prog.cellsOf 3=1:=by kernel_rfl
 rw [run_equalIn_array (w:=w) (d+1) _ _ Try.underlying64 hi,hc]
 have ha:(part 3 #[.int .i64 x0,.int .i64 x1] 0).run Try.prog w= .ok (.int .i64 x0) w:=by go_simp
 have hb:(part 3 #[.int .i64 y0,.int .i64 y1] 0).run Try.prog w= .ok (.int .i64 y0) w:=by go_simp
 have ha':(part 3 #[.int .i64 x0,.int .i64 x1] 1).run Try.prog w= .ok (.int .i64 x1) w:=by go_simp
 have hb':(part 3 #[.int .i64 y0,.int .i64 y1] 1).run Try.prog w= .ok (.int .i64 y1) w:=by go_simp
 have he:(Op.equalIn (d+1) 3 (.int .i64 x0) (.int .i64 y0)).run Try.prog w= .ok (x0 == y0) w:=by go_simp
 have he':(Op.equalIn (d+1) 3 (.int .i64 x1) (.int .i64 y1)).run Try.prog w= .ok (x1 == y1) w:=by go_simp
 show (Op.eqItems (d+1) 3 1 _ _ [0,1]).run Try.prog w=_
 simp only [Op.eqItems,Sem.run_bind,Nat.zero_mul,Nat.one_mul,ha,hb,he,Result.andThen_ok]
 cases x0 == y0
 ·simp
 ·simp only [ha',hb',he',Sem.run_bind,Result.andThen_ok,Bool.not_true,Bool.false_eq_true,if_false]
  cases x1 == y1 <;> simp
end Go.Proofs.Ythimaecnpkcmeaa.K
namespace Go.Proofs.Ythimaecnpkcmeaa.K
open Go.RowKit Go.Proofs.YthimaecnpkcmeaaW.PrintWords Go.Proofs.YthimaecnpkcmeaaW.PrintLast Go.Proofs.YthimaecnpkcmeaaW.PrintMore
attribute [local go_sem] zAX zAW zAg zAf zAF zAG zAU zAV   -- for this text's walks alone
set_option linter.unusedVariables false
set_option linter.unusedSimpArgs false
def zk.f (a0:Int) (a1:Int) (a2:Int):Option (Bool):=if a0≥a1 then (some (decide (a0≤a2))) else (some false)
set_option maxHeartbeats 8000000 in
set_option maxRecDepth 100000 in
theorem zk.calls (a0:Int) (a1:Int) (a2:Int) (r:Bool) (w:World) (h:zk.f a0 a1 a2=some r) :
 Calls Try.prog 52 #[.int .i64 a0,.int .i64 a1,.int .i64 a2] w fun e w'=>e= .returned (.bool r)∧zY w w':=by
 have H:(if a0≥a1 then (some (decide (a0≤a2))) else (some false))=some r:=h
 clear h
 by_cases c4:a0≥a1
 ·rw [if_pos c4] at H
  have a:decide (a1≤a0)=true:=decide_eq_true c4
  clear c4
  obtain rfl:=Option.some.inj H
  go_enter Try.func52,Try.ntmps52
  go_wp2
  go_ret
  exact ⟨by first|rfl|(simp;done)|(simp [*];done),by repeat (first|exact zY.refl _|apply zY.step)⟩
 rw [if_neg c4] at H
 have a:decide (a1≤a0)=false:=decide_eq_false c4
 clear c4
 obtain rfl:=Option.some.inj H
 go_enter Try.func52,Try.ntmps52
 go_wp2
 go_ret
 exact ⟨by first|rfl|(simp;done)|(simp [*];done),by repeat (first|exact zY.refl _|apply zY.step)⟩
def zh.f (a:Int) (b:Int) (c:Int) (d:Int):Option (Int × Int × Bool):=some (mx a c,mn b d,decide ((mx a c)≤(mn b d)))
def zh.T2:Bool × List (List Nat × List Nat):=(true,[([],[]),([],[]),([1],[1]),([],[]),([3],[3]),([2,4],[2,4]),([0,0],[0]),([5,6,0,1,2,3,4,5,6],[5])])
def zh.B2:List Nat:=[0,0,2,0,8,30,1,127]
theorem zh.tab2:zBQ .any (opsOf Try.f53 2)=zh.T2:=by kernel_rfl
theorem zh.bits2:zBA zh.T2.2 zh.B2=true:=by kernel_rfl
set_option maxHeartbeats 8000000 in
set_option maxRecDepth 100000 in
theorem zh.calls (s:Int) (o:Int) (t:Int) (q:Int) (r1:Int) (r2:Int) (r3:Bool) (w:World) (h:zh.f s o t q=some (r1,r2,r3)) :
 Calls Try.prog 53 #[.agg #[.int .i64 s,.int .i64 o],.agg #[.int .i64 t,.int .i64 q]] w fun e w'=>e= .returned (.tuple #[.agg #[.int .i64 r1,.int .i64 r2],.bool r3])∧Below w.heap.size w w':=by
 have bf:=Try.underlying24
 have HB:=zA.mk (Below.refl w.heap.size w)
 have H:(some (mx s t,mn o q,decide ((mx s t)≤(mn o q))))=some (r1,r2,r3):=h
 clear h
 obtain ⟨ji3,ad⟩ : ∃ j_:Int,(mx s t)=j_:=⟨_,rfl⟩
 replace H:(some (ji3,mn o q,decide ((ji3)≤(mn o q))))=some (r1,r2,r3):=by first|(rw [ad] at H;exact H)|(simp only [ad] at H ⊢;exact H)
 have hji3_:(if s < t then t else s)=ji3:=ad
 obtain ⟨ji4,ae⟩ : ∃ j_:Int,(mn o q)=j_:=⟨_,rfl⟩
 replace H:(some (ji3,ji4,decide ((ji3)≤(ji4))))=some (r1,r2,r3):=by first|(rw [ae] at H;exact H)|(simp only [ae] at H ⊢;exact H)
 have hji4_:(if q < o then q else o)=ji4:=ae
 simp only [Option.some.injEq,Prod.mk.injEq] at H
 obtain ⟨rfl,rfl,rfl⟩:=H
 go_enter Try.func53,Try.ntmps53
 try go_wp2_with (first|((with_reducible refine zL (N:=2) rfl ?_);refine bE #[.int .i64 s,.int .i64 o] 24 ?_;intro k hg w5 r hb;have b:=qK (r);have ax:=qK (gS hg:w.heap.size≤k);have ay:=qK (gS hg:w.heap.size≤k);replace HB:=hQ hb;clear hb r hg)|((with_reducible refine zL (N:=3) rfl ?_);refine bE #[.int .i64 t,.int .i64 q] 24 ?_;intro l hg w6 r hb;have d:=qK (r);have az:=qK (gS hg:w.heap.size≤l);have a0:=qK (gS hg:w.heap.size≤l);replace HB:=hQ hb;have af:=qK (nL hg b.out:k≠l);have ag:=qK (nG hg b.out:l≠k);replace b:=bQ b hb;clear hb r hg)|((with_reducible refine zL (N:=4) rfl ?_);refine bE #[.int .i64 0,.int .i64 0] 24 ?_;intro c hg w7 r hb;have g:=qK (r);have a1:=qK (gS hg:w.heap.size≤c);have a2:=qK (gS hg:w.heap.size≤c);replace HB:=hQ hb;have v:=qK (nL hg b.out:k≠c);have x:=qK (nG hg b.out:c≠k);replace b:=bQ b hb;have y:=qK (nL hg d.out:l≠c);have aa:=qK (nG hg d.out:c≠l);replace d:=bQ d hb;clear hb r hg;have bg:=af.out;have bh:=ag.out;have bi:=v.out;have bj:=x.out;obtain ⟨_,_,_,_⟩:=xC2 b.out;have a3:=y.out;have a4:=aa.out;obtain ⟨_,_,_,_⟩:=xC2 d.out)|((with_reducible refine zL (N:=6) rfl ?_);refine bE #[.int .i64 0,.int .i64 0] 24 ?_;intro a hg w13 r hb;have m:=qK (r);have a5:=qK (gS hg:w.heap.size≤a);have a6:=qK (gS hg:w.heap.size≤a);replace HB:=hQ hb;have ab:=qK (nL hg b.out:k≠a);have ah:=qK (nG hg b.out:a≠k);replace b:=bQ b hb;have ac:=qK (nL hg d.out:l≠a);have ai:=qK (nG hg d.out:a≠l);replace d:=bQ d hb;have j:=qK (nL hg g.out:c≠a);have i:=qK (nG hg g.out:a≠c);replace g:=bQ g hb;clear hb r hg;have a7:=ah.out;have a8:=ab.out;have a9:=ai.out;have ba:=ac.out;have bb:=i.out;have bc:=j.out;obtain ⟨_,_,_,_⟩:=xC2 m.out))
 have n0_:zA (((w13.setCell ⟨a,0,none⟩ (.int .i64 ji3)).setCell ⟨a,1,none⟩ (.int .i64 ji4)).heap[k]? = some (.cells #[.int .i64 s,.int .i64 o] 24 (0,0))):=⟨by (repeat with_reducible first|apply zD|apply zF|apply zC);refine zO ?_ ab.out _;(repeat with_reducible first|apply zD|apply zF|apply zC);refine zO ?_ ab.out _;(repeat with_reducible first|apply zD|apply zF|apply zC);exact b.out⟩
 have n1_:zA (((w13.setCell ⟨a,0,none⟩ (.int .i64 ji3)).setCell ⟨a,1,none⟩ (.int .i64 ji4)).heap[l]? = some (.cells #[.int .i64 t,.int .i64 q] 24 (0,0))):=⟨by (repeat with_reducible first|apply zD|apply zF|apply zC);refine zO ?_ ac.out _;(repeat with_reducible first|apply zD|apply zF|apply zC);refine zO ?_ ac.out _;(repeat with_reducible first|apply zD|apply zF|apply zC);exact d.out⟩
 have n2_:zA (((w13.setCell ⟨a,0,none⟩ (.int .i64 ji3)).setCell ⟨a,1,none⟩ (.int .i64 ji4)).heap[c]? = some (.cells #[.int .i64 0,.int .i64 0] 24 (0,0))):=⟨by (repeat with_reducible first|apply zD|apply zF|apply zC);refine zO ?_ j.out _;(repeat with_reducible first|apply zD|apply zF|apply zC);refine zO ?_ j.out _;(repeat with_reducible first|apply zD|apply zF|apply zC);exact g.out⟩
 have n3_:zA (((w13.setCell ⟨a,0,none⟩ (.int .i64 ji3)).setCell ⟨a,1,none⟩ (.int .i64 ji4)).heap[a]? = some (.cells #[.int .i64 ji3,.int .i64 ji4] 24 (0,0))):=⟨by (repeat with_reducible first|apply zD|apply zF|apply zC);refine zP (cs:=#[.int .i64 ji3,.int .i64 0]) ?_ 1 _ rfl;(repeat with_reducible first|apply zD|apply zF|apply zC);refine zP (cs:=#[.int .i64 0,.int .i64 0]) ?_ 0 _ rfl;(repeat with_reducible first|apply zD|apply zF|apply zC);exact m.out⟩
 have n4_:zA (Below w.heap.size w ((w13.setCell ⟨a,0,none⟩ (.int .i64 ji3)).setCell ⟨a,1,none⟩ (.int .i64 ji4))):=⟨bA⟩
 (try clear b)
 (try clear d)
 (try clear g)
 (try clear m)
 (try clear HB)
 generalize ((w13.setCell ⟨a,0,none⟩ (.int .i64 ji3)).setCell ⟨a,1,none⟩ (.int .i64 ji4))=w18 at n0_ n1_ n2_ n3_ n4_ ⊢
 have b:=n0_
 have d:=n1_
 have g:=n2_
 have m:=n3_
 have HB:=n4_
 clear n0_ n1_ n2_ n3_ n4_
 replace b:=qK (zF b.out)
 replace d:=qK (zF d.out)
 replace g:=qK (zF g.out)
 replace m:=qK (zF m.out)
 replace HB:=qK (zx HB.out)
 refine zBH (n:=8) (S:=fun w'=>w'.cell? ⟨a,0,none⟩=some (.int .i64 ji3)∧w'.cell? ⟨a,1,none⟩=some (.int .i64 ji4)) (ds:=[]) #[false,false,false,false,false,false,false,false] (by kernel_rfl) rfl rfl ⟨(zB m.out 0).trans rfl,(zB m.out 1).trans rfl⟩ (fun u=>?_);refine zAj zh.tab2 zh.bits2 (fun HT_ HW_=>?_)
 generalize w18.drew=w19 at b d g m HB u ⊢
 refine pP 1 (some 19) HT_ ?_
 refine pP 3 (some 21) HT_ ?_
 refine tP 0 (some 18) HT_ HW_ u ?_
 refine tP 2 (some 20) HT_ HW_ u ?_
 refine tP 4 (some 22) HT_ HW_ u ?_
 refine pP 5 (some 23) HT_ ?_
 refine oP 6 none HT_ (fun K hK=>?_)
 have bk:w19.cell? ⟨c,0,none⟩=some (.int .i64 0):=(zB g.out 0).trans rfl
 have bd:=zW g.out 0
 have aj:=v.out
 have ak:=y.out
 have al:=i.out
 have am:=x.out
 have an:=aa.out
 have ao:=j.out
 have bl:w19.cell? ⟨c,1,none⟩=some (.int .i64 0):=(zB g.out 1).trans rfl
 have be:=zW g.out 1
 have ap:=v.out
 have aq:=y.out
 have ar:=i.out
 have au:=x.out
 have av:=aa.out
 have aw:=j.out
 refine zB0 (w1:=?_) (by rfl) rfl ?_ ?_
 rotate_left
 ·go_simp
  rfl
 refine hK.out _ _ ⟨((cell_far (p:=⟨c,_,none⟩) i.out _).trans (((cell_far (p:=⟨c,_,none⟩) i.out _).trans (u.1)))),((cell_far (p:=⟨c,_,none⟩) i.out _).trans (((cell_far (p:=⟨c,_,none⟩) i.out _).trans (u.2))))⟩ (fun u=>?_)
 clear hK K
 refine pP 7 (some 5) HT_ ?_
 refine zBZ (zA8 HT_.out (by kernel_rfl)) ?_
 try go_wp2
 refine bodyPost_ret (zBd rfl _ _ c 24 #[.int .i64 ji3,.int .i64 ji4] (0,0) _ rfl (by (repeat with_reducible first|apply zD|apply zF|apply zC);refine zP (cs:=#[.int .i64 ji3,.int .i64 0]) ?_ 1 _ rfl;(repeat with_reducible first|apply zD|apply zF|apply zC);refine zP (cs:=#[.int .i64 0,.int .i64 0]) ?_ 0 _ rfl;(repeat with_reducible first|apply zD|apply zF|apply zC);exact g.out) Try.underlying24 rfl (by kernel_rfl)) rfl ?_
 exact ⟨by first|rfl|(simp [zAQ,zAP] <;> rfl)|(simp only [← ad,← ae];first|rfl|(simp [zAQ,zAP] <;> rfl))|(simp [*,zAQ,zAP] <;> rfl),bA⟩
def zAA.l0:Nat→List (S50)→Int→Int→Int→Int→Option (Int × Int)
 | 0,_,_,_,_,_=>none
 | k+1,x6,x7,x8,a,b=>if x8 < x7 then (if 0≤x8 then (if x8 < (x6.length:Int) then (zAA.l0 k x6 x7 (wrap64 (x8+1)) (wrap64 (a+((zG x6 x8).f0.f0))) (wrap64 (b+((zG x6 x8).f0.f1)))) else (none)) else (none)) else (some (a,b))
def zAA.f (k:Nat) (a:List (S50)) (b:Int) (c:Int):Option (Int × Int):=zAA.l0 k a (a.length:Int) 0 0 0
set_option maxHeartbeats 8000000 in
set_option maxRecDepth 100000 in
theorem zAA.calls (k:Nat) (x:Option Addr) (y:Nat) (c:List (S50)) (aa:Int) (ab:Int) (r1:Int) (r2:Int) (w:World) (ag:Kd.C k50 w x c.length c) (ah:c.length≤y) (h:zAA.f k c aa ab=some (r1,r2)) :
 Calls Try.prog 54 #[.agg #[.slice x c.length y,.int .i64 aa,.int .i64 ab]] w fun e w'=>e= .returned (.agg #[.int .i64 r1,.int .i64 r2])∧Below w.heap.size w w':=by
 have a8:=Try.underlying26
 have a9:=Try.underlying24
 have ba:=Try.underlying50
 have ao:=zA.mk ag
 have HC0_0:=zA.mk ah
 clear ag ah
 have HB:=zA.mk (Below.refl w.heap.size w)
 have H:(zAA.l0 k c (c.length:Int) 0 0 0)=some (r1,r2):=h
 clear h
 have H':=zA.mk H
 clear H
 go_enter Try.func54,Try.ntmps54
 go_wp2_with (first|((with_reducible refine zL (N:=1) rfl ?_);refine bE #[.slice x c.length y,.int .i64 aa,.int .i64 ab] 26 ?_;intro o hg w2 p hb;have g:=qK (p);have ar:=qK (gS hg:w.heap.size≤o);have au:=qK (gS hg:w.heap.size≤o);replace HB:=hQ hb;clear hb p hg)|((with_reducible refine zL (N:=2) rfl ?_);refine bE #[.int .i64 0,.int .i64 0] 24 ?_;intro n hg w3 p hb;have i:=qK (p);have av:=qK (gS hg:w.heap.size≤n);have aw:=qK (gS hg:w.heap.size≤n);replace HB:=hQ hb;have j:=qK (nL hg g.out:o≠n);have q:=qK (nG hg g.out:n≠o);replace g:=bQ g hb;clear hb p hg;have bb:=j.out;have bc:=q.out;obtain ⟨ai,aj,ak,al,am,an⟩:=xC3 g.out))
 go_loopg [8] k (fun kq v8 w'=>∃ (d:Int) (a:Int) (b:Int),v8= .int .i64 d∧zA (zAA.l0 kq c (c.length:Int) d a b=some (r1,r2))∧zA (kq≤k)∧zA (w'.heap[o]? = some (.cells #[(.slice x c.length y),.int .i64 aa,.int .i64 ab] 26 (0,0)))∧zA (w'.heap[n]? = some (.cells #[.int .i64 a,.int .i64 b] 24 (0,0)))∧zA (Below w.heap.size w w'))
 case atStart=>exact ⟨(0),(0),(0),sA,H',⟨Nat.le_refl _⟩,⟨by (repeat with_reducible first|apply zD|apply zF|apply zC);exact g.out⟩,⟨by (repeat with_reducible first|apply zD|apply zF|apply zC);exact i.out⟩,⟨bA⟩⟩
 case round =>
  clear H'
  try clear p2
  try clear c4
  try clear c5
  try clear ai
  try clear aj
  try clear ak
  try clear al
  try clear am
  try clear an
  obtain ⟨d,a,b,rfl,HA,HK1,g,i,HB⟩:=hrel
  cases gk with
  | zero=>exact absurd HA.out (by simp [zAA.l0])
  | succ k1 =>
   have H:=HA.out
   clear HA
   simp only [zAA.l0] at H
   by_cases c6:d < (c.length:Int)
   rotate_left
   ·rw [if_neg c6] at H
    have aq:decide (d < (c.length:Int))=false:=decide_eq_false c6
    clear c6
    simp only [Option.some.injEq,Prod.mk.injEq] at H
    obtain ⟨rfl,rfl⟩:=H
    have ax:=q.out
    have ay:=j.out
    obtain ⟨_,_,_,_⟩:=xC2 i.out
    go_wp2
    refine bodyPost_ret (results_cell_row rfl _ _ n 24 #[.int .i64 a,.int .i64 b] (0,0) _ rfl (by (repeat with_reducible first|apply zD|apply zF|apply zC);refine zP (cs:=#[.int .i64 a,.int .i64 b]) ?_ 1 _ rfl;(repeat with_reducible first|apply zD|apply zF|apply zC);refine zP (cs:=#[.int .i64 a,.int .i64 b]) ?_ 0 _ rfl;(repeat with_reducible first|apply zD|apply zF|apply zC);exact i.out) Try.underlying24 rfl (by kernel_rfl)) rfl ?_
    exact ⟨eA,bA⟩
   rw [if_pos c6] at H
   have aq:decide (d < (c.length:Int))=true:=decide_eq_true c6
   clear c6
   by_cases c7:0≤d
   rotate_left
   ·rw [if_neg c7] at H
    exact absurd H (by simp)
   rw [if_pos c7] at H
   have bd:decide (0≤d)=true:=decide_eq_true c7
   clear c7
   by_cases c8:d < (c.length:Int)
   rotate_left
   ·rw [if_neg c8] at H
    exact absurd H (by simp)
   rw [if_pos c8] at H
   have be:decide (d < (c.length:Int))=true:=decide_eq_true c8
   clear c8
   have H':=zA.mk H
   clear H
   have ae:0≤(d:Int):=dA
   have af:d < (c.length:Int):=dA
   obtain ⟨az,e107,s,t,u,v⟩:=zA9 ao.out d ae af
   cases e107
   replace s:=hC HB.out s
   replace t:=hC HB.out t
   replace u:=hC HB.out u
   replace v:=hC HB.out v
   replace ae:=eq_true ae
   replace af:=eq_true af
   go_wp2_with (first|((with_reducible refine zL (N:=4) rfl ?_);refine bE #[.int .i64 0,.int .i64 0,.int .i64 0,.int .i64 0] 50 ?_;intro r hg w9 p hb;have ap:=qK (p);have a0:=qK (gS hg:w.heap.size≤r);have a1:=qK (gS hg:w.heap.size≤r);replace HB:=hQ hb;have l:=qK (nL hg g.out:o≠r);have ac:=qK (nG hg g.out:r≠o);replace g:=bQ g hb;have m:=qK (nL hg i.out:n≠r);have ad:=qK (nG hg i.out:r≠n);replace i:=bQ i hb;clear hb p hg;have a2:=ac.out;have a3:=l.out;have a4:=ad.out;have a5:=m.out;obtain ⟨_,_,_,_,_,_,_,_⟩:=xC4 ap.out;have a6:=q.out;have a7:=j.out;obtain ⟨_,_,_,_⟩:=xC2 i.out))
   go_roundg k1
   case measure=>have:=HK1.out;omega
   case rel=>exact ⟨(wrap64 (d+1)),(wrap64 (a+((zG c d).f0.f0))),(wrap64 (b+((zG c d).f0.f1))),sA,H',⟨by have:=HK1.out;omega⟩,⟨by (repeat with_reducible first|apply zD|apply zF|apply zC);refine zO ?_ j.out _;(repeat with_reducible first|apply zD|apply zF|apply zC);refine zO ?_ j.out _;(repeat with_reducible first|apply zD|apply zF|apply zC);refine zO ?_ l.out _;(repeat with_reducible first|apply zD|apply zF|apply zC);refine zO ?_ l.out _;(repeat with_reducible first|apply zD|apply zF|apply zC);refine zO ?_ l.out _;(repeat with_reducible first|apply zD|apply zF|apply zC);refine zO ?_ l.out _;(repeat with_reducible first|apply zD|apply zF|apply zC);exact g.out⟩,⟨by (repeat with_reducible first|apply zD|apply zF|apply zC);refine zP (cs:=#[.int .i64 (wrap64 (a+((zG c d).f0.f0))),.int .i64 b]) ?_ 1 _ rfl;(repeat with_reducible first|apply zD|apply zF|apply zC);refine zP (cs:=#[.int .i64 a,.int .i64 b]) ?_ 0 _ rfl;(repeat with_reducible first|apply zD|apply zF|apply zC);refine zO ?_ m.out _;(repeat with_reducible first|apply zD|apply zF|apply zC);refine zO ?_ m.out _;(repeat with_reducible first|apply zD|apply zF|apply zC);refine zO ?_ m.out _;(repeat with_reducible first|apply zD|apply zF|apply zC);refine zO ?_ m.out _;(repeat with_reducible first|apply zD|apply zF|apply zC);exact i.out⟩,⟨bA⟩⟩
def zA5.f (a:Int) (b:Int) (a1:Int):Option (Bool):=if a≥0 then (if a≤b then (some (decide (b≤a1))) else (some false)) else (some false)
set_option maxHeartbeats 8000000 in
set_option maxRecDepth 100000 in
theorem zA5.calls (a:Int) (c:Int) (a1:Int) (r:Bool) (w:World) (h:zA5.f a c a1=some r) :
 Calls Try.prog 77 #[.agg #[.int .i64 a,.int .i64 c],.int .i64 a1] w fun e w'=>e= .returned (.bool r)∧Below w.heap.size w w':=by
 have m:=Try.underlying24
 have HB:=zA.mk (Below.refl w.heap.size w)
 have H:(if a≥0 then (if a≤c then (some (decide (c≤a1))) else (some false)) else (some false))=some r:=h
 clear h
 by_cases c3:a≥0
 rotate_left
 ·rw [if_neg c3] at H
  have k:decide (0≤a)=false:=decide_eq_false c3
  clear c3
  obtain rfl:=Option.some.inj H
  go_enter Try.func77,Try.ntmps77
  go_wp2_with (first|((with_reducible refine zL (N:=2) rfl ?_);refine bE #[.int .i64 a,.int .i64 c] 24 ?_;intro b hg w9 d hb;have g:=qK (d);have i:=qK (gS hg:w.heap.size≤b);have j:=qK (gS hg:w.heap.size≤b);replace HB:=hQ hb;clear hb d hg;obtain ⟨_,_,_,_⟩:=xC2 g.out))
  go_ret
  exact ⟨eA,bA⟩
 rw [if_pos c3] at H
 have k:decide (0≤a)=true:=decide_eq_true c3
 clear c3
 by_cases c4:a≤c
 ·rw [if_pos c4] at H
  have l:decide (a≤c)=true:=decide_eq_true c4
  clear c4
  obtain rfl:=Option.some.inj H
  go_enter Try.func77,Try.ntmps77
  go_wp2_with (first|((with_reducible refine zL (N:=2) rfl ?_);refine bE #[.int .i64 a,.int .i64 c] 24 ?_;intro b hg w5 d hb;have g:=qK (d);have i:=qK (gS hg:w.heap.size≤b);have j:=qK (gS hg:w.heap.size≤b);replace HB:=hQ hb;clear hb d hg;obtain ⟨_,_,_,_⟩:=xC2 g.out))
  go_ret
  exact ⟨eA,bA⟩
 rw [if_neg c4] at H
 have l:decide (a≤c)=false:=decide_eq_false c4
 clear c4
 obtain rfl:=Option.some.inj H
 go_enter Try.func77,Try.ntmps77
 go_wp2_with (first|((with_reducible refine zL (N:=2) rfl ?_);refine bE #[.int .i64 a,.int .i64 c] 24 ?_;intro b hg w7 d hb;have g:=qK (d);have i:=qK (gS hg:w.heap.size≤b);have j:=qK (gS hg:w.heap.size≤b);replace HB:=hQ hb;clear hb d hg;obtain ⟨_,_,_,_⟩:=xC2 g.out))
 go_ret
 exact ⟨eA,bA⟩
end Go.Proofs.Ythimaecnpkcmeaa.K
