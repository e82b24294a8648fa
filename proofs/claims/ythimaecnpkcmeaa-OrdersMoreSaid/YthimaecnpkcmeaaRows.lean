/-
  No cell of these rows narrows 'for every input' (looked for: loops, veiled, ifaces, maps, wideKeys, modest, calm, conditions, laid).
  DERIVED. THE GIVEN ROWS OF THIS SEAT. 6 by the template 'for every input the law returns true; each argument reads behind the call as it read before'; 0 by the template 'total and deterministic' (their statements: YthimaecnpkcmeaaTotals.lean).
  GIVEN WITH THE SEED: the statements are not yours to turn. If you find one false, say at which input.
  Laid BY PROGRAM, IN A SANDBOX (cutbox-rows.mjs): the forced cells as the released guide's own fill.sh prints them over the translation febdd64f6fb5a69c… (all of the seat's roots in one cut). By AI agents, Wed Nov 11 2026. No macro, syntax, notation, axiom, sorry.
-/
import Derived.Test.YthimaecnpkcmeaaChecked
import GoSem.Claim
import GoSem.ClaimJoined
import GoSem.ClaimMapViews
import Derived.JoinedTies
import Derived.KernelRfl
namespace Go.Proofs.Ythimaecnpkcmeaa
/- THE CELL 'sum', in the pinned program and in every row, IS THE sha256 OF THE DUMP (.gsa) THAT YthimaecnpkcmeaaProg.lean LOADS. Nothing in Lean hashes anything: it is a label: what it is worth is what the hold of that sum in a sandbox is worth. -/
noncomputable def Try.pinned : Pinned := { name := "ythimaecnpkcmeaa", sum := "febdd64f6fb5a69cefa7e6f744334154d1224be6cfbdd13d680c918784c7324a", checked := Try.checked }
namespace Rows
def none {H : Type} : Left H := { results := [], args := [] }

/-- 'acreagelaw08.OrdersSure': WHATEVER THE INPUT: true; the input reads as it did. -/
def ordersSureSpec : ChangeSpec := { name := "ordersSure", fn := fun _ => fun
  | [d1, d2, d3, d4, d5, d6] => { results := [.lit (.bool true)], args := [d1, d2, d3, d4, d5, d6] }
  | _ => none }
def ordersSureRow : OpenClaim := { program := "ythimaecnpkcmeaa", sum := "febdd64f6fb5a69cefa7e6f744334154d1224be6cfbdd13d680c918784c7324a", func := "acreage/acreagelaw08.OrdersSure", spec := "ordersSure", unfollowed := true, recurses := true, apart := false }
def OrdersSureSaid : Prop := ordersSureRow.holds Try.pinned (OpenSpec.ofChange ordersSureSpec)

/-- ITS FALSE NEIGHBOUR: 'it returns false'. Refute it at one input. -/
def ordersSureWrong : ChangeSpec := { name := "ordersSure", fn := fun _ => fun
  | [d1, d2, d3, d4, d5, d6] => { results := [.lit (.bool false)], args := [d1, d2, d3, d4, d5, d6] }
  | _ => none }
def OrdersSureWrongFalsely : Prop := ordersSureRow.holds Try.pinned (OpenSpec.ofChange ordersSureWrong)

/-- 'acreagelaw08.OrdersMore': WHATEVER THE INPUT: true; the input reads as it did. -/
def ordersMoreSpec : ChangeSpec := { name := "ordersMore", fn := fun _ => fun
  | [d1, d2, d3, d4, d5, d6, d7, d8] => { results := [.lit (.bool true)], args := [d1, d2, d3, d4, d5, d6, d7, d8] }
  | _ => none }
def ordersMoreRow : OpenClaim := { program := "ythimaecnpkcmeaa", sum := "febdd64f6fb5a69cefa7e6f744334154d1224be6cfbdd13d680c918784c7324a", func := "acreage/acreagelaw08.OrdersMore", spec := "ordersMore", unfollowed := true, recurses := true, apart := false }
def OrdersMoreSaid : Prop := ordersMoreRow.holds Try.pinned (OpenSpec.ofChange ordersMoreSpec)

/-- ITS FALSE NEIGHBOUR: 'it returns false'. Refute it at one input. -/
def ordersMoreWrong : ChangeSpec := { name := "ordersMore", fn := fun _ => fun
  | [d1, d2, d3, d4, d5, d6, d7, d8] => { results := [.lit (.bool false)], args := [d1, d2, d3, d4, d5, d6, d7, d8] }
  | _ => none }
def OrdersMoreWrongFalsely : Prop := ordersMoreRow.holds Try.pinned (OpenSpec.ofChange ordersMoreWrong)

/-- 'acreagelaw08.OrdersCheapest': WHATEVER THE INPUT: true; the input reads as it did. -/
def ordersCheapestSpec : ChangeSpec := { name := "ordersCheapest", fn := fun _ => fun
  | [d1, d2, d3, d4] => { results := [.lit (.bool true)], args := [d1, d2, d3, d4] }
  | _ => none }
def ordersCheapestRow : OpenClaim := { program := "ythimaecnpkcmeaa", sum := "febdd64f6fb5a69cefa7e6f744334154d1224be6cfbdd13d680c918784c7324a", func := "acreage/acreagelaw08.OrdersCheapest", spec := "ordersCheapest", unfollowed := true, recurses := true, apart := false }
def OrdersCheapestSaid : Prop := ordersCheapestRow.holds Try.pinned (OpenSpec.ofChange ordersCheapestSpec)

/-- ITS FALSE NEIGHBOUR: 'it returns false'. Refute it at one input. -/
def ordersCheapestWrong : ChangeSpec := { name := "ordersCheapest", fn := fun _ => fun
  | [d1, d2, d3, d4] => { results := [.lit (.bool false)], args := [d1, d2, d3, d4] }
  | _ => none }
def OrdersCheapestWrongFalsely : Prop := ordersCheapestRow.holds Try.pinned (OpenSpec.ofChange ordersCheapestWrong)

/-- 'acreagelaw08.OrdersGains': WHATEVER THE INPUT: true; the input reads as it did. -/
def ordersGainsSpec : ChangeSpec := { name := "ordersGains", fn := fun _ => fun
  | [d1, d2, d3] => { results := [.lit (.bool true)], args := [d1, d2, d3] }
  | _ => none }
def ordersGainsRow : OpenClaim := { program := "ythimaecnpkcmeaa", sum := "febdd64f6fb5a69cefa7e6f744334154d1224be6cfbdd13d680c918784c7324a", func := "acreage/acreagelaw08.OrdersGains", spec := "ordersGains", unfollowed := true, recurses := true, apart := false }
def OrdersGainsSaid : Prop := ordersGainsRow.holds Try.pinned (OpenSpec.ofChange ordersGainsSpec)

/-- ITS FALSE NEIGHBOUR: 'it returns false'. Refute it at one input. -/
def ordersGainsWrong : ChangeSpec := { name := "ordersGains", fn := fun _ => fun
  | [d1, d2, d3] => { results := [.lit (.bool false)], args := [d1, d2, d3] }
  | _ => none }
def OrdersGainsWrongFalsely : Prop := ordersGainsRow.holds Try.pinned (OpenSpec.ofChange ordersGainsWrong)

/-- 'acreagelaw08.OrdersProved': WHATEVER THE INPUT: true; the input reads as it did. -/
def ordersProvedSpec : ChangeSpec := { name := "ordersProved", fn := fun _ => fun
  | [d] => { results := [.lit (.bool true)], args := [d] }
  | _ => none }
def ordersProvedRow : OpenClaim := { program := "ythimaecnpkcmeaa", sum := "febdd64f6fb5a69cefa7e6f744334154d1224be6cfbdd13d680c918784c7324a", func := "acreage/acreagelaw08.OrdersProved", spec := "ordersProved", unfollowed := true, recurses := true, apart := false }
def OrdersProvedSaid : Prop := ordersProvedRow.holds Try.pinned (OpenSpec.ofChange ordersProvedSpec)

/-- ITS FALSE NEIGHBOUR: 'it returns false'. Refute it at one input. -/
def ordersProvedWrong : ChangeSpec := { name := "ordersProved", fn := fun _ => fun
  | [d] => { results := [.lit (.bool false)], args := [d] }
  | _ => none }
def OrdersProvedWrongFalsely : Prop := ordersProvedRow.holds Try.pinned (OpenSpec.ofChange ordersProvedWrong)

/-- 'acreagelaw08.OrdersExact': WHATEVER THE INPUT: true; the input reads as it did. -/
def ordersExactSpec : ChangeSpec := { name := "ordersExact", fn := fun _ => fun
  | [d1, d2, d3, d4, d5] => { results := [.lit (.bool true)], args := [d1, d2, d3, d4, d5] }
  | _ => none }
def ordersExactRow : OpenClaim := { program := "ythimaecnpkcmeaa", sum := "febdd64f6fb5a69cefa7e6f744334154d1224be6cfbdd13d680c918784c7324a", func := "acreage/acreagelaw08.OrdersExact", spec := "ordersExact", unfollowed := true, recurses := true, apart := false }
def OrdersExactSaid : Prop := ordersExactRow.holds Try.pinned (OpenSpec.ofChange ordersExactSpec)

/-- ITS FALSE NEIGHBOUR: 'it returns false'. Refute it at one input. -/
def ordersExactWrong : ChangeSpec := { name := "ordersExact", fn := fun _ => fun
  | [d1, d2, d3, d4, d5] => { results := [.lit (.bool false)], args := [d1, d2, d3, d4, d5] }
  | _ => none }
def OrdersExactWrongFalsely : Prop := ordersExactRow.holds Try.pinned (OpenSpec.ofChange ordersExactWrong)

/- THE SECOND FORM. 'bulk': how many values and letters a reading holds, each counted each time it is reached (what is shared counts as often as it is met; a slice's spare places count too). A statement '..UptoSaid' is the law's where the arguments, and the package variables that the reading takes, are together of bulk at most 1048576: NARROWER than '..Said'. Prove '..Said' where nothing that the law and all that it calls make is longer than what came in: it says more and counts as full. Else prove '..UptoSaid'. A law counts once. -/
mutual
def uptoBulk {H : Type} : DataW H → Nat
  | .lit (.string bytes) => bytes.length + 1
  | .lit _ => 1
  | .nil => 1
  | .ptr d => uptoBulk d + 1
  | .slice elems spare => uptoBulkAll elems + uptoBulkAll spare + 1
  | .agg parts => uptoBulkAll parts + 1
  | .iface _ d => uptoBulk d + 1
  | .map entries => uptoBulkEntries entries + 1
  | .held _ => 1
def uptoBulkAll {H : Type} : List (DataW H) → Nat
  | [] => 0
  | d :: r => uptoBulk d + uptoBulkAll r
def uptoBulkEntries {H : Type} : List (Lit × DataW H) → Nat
  | [] => 0
  | x :: r => uptoBulkEntry x + uptoBulkEntries r
def uptoBulkEntry {H : Type} : Lit × DataW H → Nat
  | (.string bytes, d) => bytes.length + uptoBulk d + 1
  | (_, d) => uptoBulk d + 1
 end
def uptoSmall : (H : Type) → List (DataW H) → Bool := fun _ ds => decide (uptoBulkAll ds ≤ 1048576)
def OpenSpec.upto (s : _root_.Go.ChangeSpec) : _root_.Go.OpenSpec := { _root_.Go.OpenSpec.ofChange s with cond := some uptoSmall }

/-- 'acreagelaw08.OrdersSure', WHERE WHAT IT READS IS OF BULK AT MOST 1048576: true; the input reads as it did. -/
def ordersSureUptoRow : OpenClaim := { program := "ythimaecnpkcmeaa", sum := "febdd64f6fb5a69cefa7e6f744334154d1224be6cfbdd13d680c918784c7324a", func := "acreage/acreagelaw08.OrdersSure", spec := "ordersSure", unfollowed := true, recurses := true, apart := false, narrowed := true }
def OrdersSureUptoSaid : Prop := ordersSureUptoRow.holds Try.pinned (OpenSpec.upto ordersSureSpec)

/-- 'acreagelaw08.OrdersMore', WHERE WHAT IT READS IS OF BULK AT MOST 1048576: true; the input reads as it did. -/
def ordersMoreUptoRow : OpenClaim := { program := "ythimaecnpkcmeaa", sum := "febdd64f6fb5a69cefa7e6f744334154d1224be6cfbdd13d680c918784c7324a", func := "acreage/acreagelaw08.OrdersMore", spec := "ordersMore", unfollowed := true, recurses := true, apart := false, narrowed := true }
def OrdersMoreUptoSaid : Prop := ordersMoreUptoRow.holds Try.pinned (OpenSpec.upto ordersMoreSpec)

/-- 'acreagelaw08.OrdersCheapest', WHERE WHAT IT READS IS OF BULK AT MOST 1048576: true; the input reads as it did. -/
def ordersCheapestUptoRow : OpenClaim := { program := "ythimaecnpkcmeaa", sum := "febdd64f6fb5a69cefa7e6f744334154d1224be6cfbdd13d680c918784c7324a", func := "acreage/acreagelaw08.OrdersCheapest", spec := "ordersCheapest", unfollowed := true, recurses := true, apart := false, narrowed := true }
def OrdersCheapestUptoSaid : Prop := ordersCheapestUptoRow.holds Try.pinned (OpenSpec.upto ordersCheapestSpec)

/-- 'acreagelaw08.OrdersGains', WHERE WHAT IT READS IS OF BULK AT MOST 1048576: true; the input reads as it did. -/
def ordersGainsUptoRow : OpenClaim := { program := "ythimaecnpkcmeaa", sum := "febdd64f6fb5a69cefa7e6f744334154d1224be6cfbdd13d680c918784c7324a", func := "acreage/acreagelaw08.OrdersGains", spec := "ordersGains", unfollowed := true, recurses := true, apart := false, narrowed := true }
def OrdersGainsUptoSaid : Prop := ordersGainsUptoRow.holds Try.pinned (OpenSpec.upto ordersGainsSpec)

/-- 'acreagelaw08.OrdersProved', WHERE WHAT IT READS IS OF BULK AT MOST 1048576: true; the input reads as it did. -/
def ordersProvedUptoRow : OpenClaim := { program := "ythimaecnpkcmeaa", sum := "febdd64f6fb5a69cefa7e6f744334154d1224be6cfbdd13d680c918784c7324a", func := "acreage/acreagelaw08.OrdersProved", spec := "ordersProved", unfollowed := true, recurses := true, apart := false, narrowed := true }
def OrdersProvedUptoSaid : Prop := ordersProvedUptoRow.holds Try.pinned (OpenSpec.upto ordersProvedSpec)

/-- 'acreagelaw08.OrdersExact', WHERE WHAT IT READS IS OF BULK AT MOST 1048576: true; the input reads as it did. -/
def ordersExactUptoRow : OpenClaim := { program := "ythimaecnpkcmeaa", sum := "febdd64f6fb5a69cefa7e6f744334154d1224be6cfbdd13d680c918784c7324a", func := "acreage/acreagelaw08.OrdersExact", spec := "ordersExact", unfollowed := true, recurses := true, apart := false, narrowed := true }
def OrdersExactUptoSaid : Prop := ordersExactUptoRow.holds Try.pinned (OpenSpec.upto ordersExactSpec)

end Rows
end Go.Proofs.Ythimaecnpkcmeaa
