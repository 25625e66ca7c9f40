/-
  No cell of these rows narrows 'for every input' (looked for: loops, veiled, ifaces, maps, wideKeys, modest, calm, conditions, laid).
  DERIVED. THE GIVEN ROWS OF THIS SEAT. 6 by the template 'for every input the law returns true; each argument reads behind the call as it read before'; 0 by the template 'total and deterministic' (their statements: YthfglkpmjamhmaaTotals.lean).
  GIVEN WITH THE SEED: the statements are not yours to turn. If you find one false, say at which input.
  Laid BY PROGRAM, IN A SANDBOX (cutbox-rows.mjs): the forced cells as the released guide's own fill.sh prints them over the translation 6f58170f7507c084… (all of the seat's roots in one cut). By AI agents, Wed Nov 11 2026. No macro, syntax, notation, axiom, sorry.
-/
import Derived.Test.YthfglkpmjamhmaaChecked
import GoSem.Claim
import GoSem.ClaimJoined
import GoSem.ClaimMapViews
import Derived.JoinedTies
import Derived.KernelRfl
namespace Go.Proofs.Ythfglkpmjamhmaa
/- THE CELL 'sum', in the pinned program and in every row, IS THE sha256 OF THE DUMP (.gsa) THAT YthfglkpmjamhmaaProg.lean LOADS. Nothing in Lean hashes anything: it is a label: what it is worth is what the hold of that sum in a sandbox is worth. -/
noncomputable def Try.pinned : Pinned := { name := "ythfglkpmjamhmaa", sum := "6f58170f7507c084580dcc29e5a57ac972aef769a9cf678af9996f1d7401346f", checked := Try.checked }
namespace Rows
def none {H : Type} : Left H := { results := [], args := [] }

/-- 'warderlaw01.TlvPuts': WHATEVER THE INPUT: true; the input reads as it did. -/
def tlvPutsSpec : ChangeSpec := { name := "tlvPuts", fn := fun _ => fun
  | [d1, d2] => { results := [.lit (.bool true)], args := [d1, d2] }
  | _ => none }
def tlvPutsRow : OpenClaim := { program := "ythfglkpmjamhmaa", sum := "6f58170f7507c084580dcc29e5a57ac972aef769a9cf678af9996f1d7401346f", func := "warder/warderlaw01.TlvPuts", spec := "tlvPuts", apart := false }
def TlvPutsSaid : Prop := tlvPutsRow.holds Try.pinned (OpenSpec.ofChange tlvPutsSpec)

/-- ITS FALSE NEIGHBOUR: 'it returns false'. Refute it at one input. -/
def tlvPutsWrong : ChangeSpec := { name := "tlvPuts", fn := fun _ => fun
  | [d1, d2] => { results := [.lit (.bool false)], args := [d1, d2] }
  | _ => none }
def TlvPutsWrongFalsely : Prop := tlvPutsRow.holds Try.pinned (OpenSpec.ofChange tlvPutsWrong)

/-- 'warderlaw01.TlvSizes': WHATEVER THE INPUT: true; the input reads as it did. -/
def tlvSizesSpec : ChangeSpec := { name := "tlvSizes", fn := fun _ => fun
  | [d1, d2] => { results := [.lit (.bool true)], args := [d1, d2] }
  | _ => none }
def tlvSizesRow : OpenClaim := { program := "ythfglkpmjamhmaa", sum := "6f58170f7507c084580dcc29e5a57ac972aef769a9cf678af9996f1d7401346f", func := "warder/warderlaw01.TlvSizes", spec := "tlvSizes", apart := false }
def TlvSizesSaid : Prop := tlvSizesRow.holds Try.pinned (OpenSpec.ofChange tlvSizesSpec)

/-- ITS FALSE NEIGHBOUR: 'it returns false'. Refute it at one input. -/
def tlvSizesWrong : ChangeSpec := { name := "tlvSizes", fn := fun _ => fun
  | [d1, d2] => { results := [.lit (.bool false)], args := [d1, d2] }
  | _ => none }
def TlvSizesWrongFalsely : Prop := tlvSizesRow.holds Try.pinned (OpenSpec.ofChange tlvSizesWrong)

/-- 'warderlaw01.TlvHeads': WHATEVER THE INPUT: true; the input reads as it did. -/
def tlvHeadsSpec : ChangeSpec := { name := "tlvHeads", fn := fun _ => fun
  | [d1, d2] => { results := [.lit (.bool true)], args := [d1, d2] }
  | _ => none }
def tlvHeadsRow : OpenClaim := { program := "ythfglkpmjamhmaa", sum := "6f58170f7507c084580dcc29e5a57ac972aef769a9cf678af9996f1d7401346f", func := "warder/warderlaw01.TlvHeads", spec := "tlvHeads", apart := false }
def TlvHeadsSaid : Prop := tlvHeadsRow.holds Try.pinned (OpenSpec.ofChange tlvHeadsSpec)

/-- ITS FALSE NEIGHBOUR: 'it returns false'. Refute it at one input. -/
def tlvHeadsWrong : ChangeSpec := { name := "tlvHeads", fn := fun _ => fun
  | [d1, d2] => { results := [.lit (.bool false)], args := [d1, d2] }
  | _ => none }
def TlvHeadsWrongFalsely : Prop := tlvHeadsRow.holds Try.pinned (OpenSpec.ofChange tlvHeadsWrong)

/-- 'warderlaw01.TlvBack': WHATEVER THE INPUT: true; the input reads as it did. -/
def tlvBackSpec : ChangeSpec := { name := "tlvBack", fn := fun _ => fun
  | [d1, d2, d3, d4] => { results := [.lit (.bool true)], args := [d1, d2, d3, d4] }
  | _ => none }
def tlvBackRow : OpenClaim := { program := "ythfglkpmjamhmaa", sum := "6f58170f7507c084580dcc29e5a57ac972aef769a9cf678af9996f1d7401346f", func := "warder/warderlaw01.TlvBack", spec := "tlvBack", apart := false }
def TlvBackSaid : Prop := tlvBackRow.holds Try.pinned (OpenSpec.ofChange tlvBackSpec)

/-- ITS FALSE NEIGHBOUR: 'it returns false'. Refute it at one input. -/
def tlvBackWrong : ChangeSpec := { name := "tlvBack", fn := fun _ => fun
  | [d1, d2, d3, d4] => { results := [.lit (.bool false)], args := [d1, d2, d3, d4] }
  | _ => none }
def TlvBackWrongFalsely : Prop := tlvBackRow.holds Try.pinned (OpenSpec.ofChange tlvBackWrong)

/-- 'warderlaw01.TlvCuts': WHATEVER THE INPUT: true; the input reads as it did. -/
def tlvCutsSpec : ChangeSpec := { name := "tlvCuts", fn := fun _ => fun
  | [d1, d2, d3] => { results := [.lit (.bool true)], args := [d1, d2, d3] }
  | _ => none }
def tlvCutsRow : OpenClaim := { program := "ythfglkpmjamhmaa", sum := "6f58170f7507c084580dcc29e5a57ac972aef769a9cf678af9996f1d7401346f", func := "warder/warderlaw01.TlvCuts", spec := "tlvCuts", apart := false }
def TlvCutsSaid : Prop := tlvCutsRow.holds Try.pinned (OpenSpec.ofChange tlvCutsSpec)

/-- ITS FALSE NEIGHBOUR: 'it returns false'. Refute it at one input. -/
def tlvCutsWrong : ChangeSpec := { name := "tlvCuts", fn := fun _ => fun
  | [d1, d2, d3] => { results := [.lit (.bool false)], args := [d1, d2, d3] }
  | _ => none }
def TlvCutsWrongFalsely : Prop := tlvCutsRow.holds Try.pinned (OpenSpec.ofChange tlvCutsWrong)

/-- 'warderlaw01.TlvRow': WHATEVER THE INPUT: true; the input reads as it did. -/
def tlvRowSpec : ChangeSpec := { name := "tlvRow", fn := fun _ => fun
  | [d1, d2] => { results := [.lit (.bool true)], args := [d1, d2] }
  | _ => none }
def tlvRowRow : OpenClaim := { program := "ythfglkpmjamhmaa", sum := "6f58170f7507c084580dcc29e5a57ac972aef769a9cf678af9996f1d7401346f", func := "warder/warderlaw01.TlvRow", spec := "tlvRow", apart := false }
def TlvRowSaid : Prop := tlvRowRow.holds Try.pinned (OpenSpec.ofChange tlvRowSpec)

/-- ITS FALSE NEIGHBOUR: 'it returns false'. Refute it at one input. -/
def tlvRowWrong : ChangeSpec := { name := "tlvRow", fn := fun _ => fun
  | [d1, d2] => { results := [.lit (.bool false)], args := [d1, d2] }
  | _ => none }
def TlvRowWrongFalsely : Prop := tlvRowRow.holds Try.pinned (OpenSpec.ofChange tlvRowWrong)

/- THE SECOND FORM. 'bulk': how many values and letters a reading holds, each counted each time it is reached (what is shared counts as often as it is met; a slice's spare places count too). A statement '..UptoSaid' is the law's where the arguments, and the package variables that the reading takes, are together of bulk at most 1048576: NARROWER than '..Said'. Prove '..Said' where nothing that the law and all that it calls make is longer than what came in: it says more and counts as full. Else prove '..UptoSaid'. A law counts once. -/
mutual
def uptoBulk {H : Type} : DataW H → Nat
  | .lit (.string bytes) => bytes.length + 1
  | .lit _ => 1
  | .nil => 1
  | .ptr d => uptoBulk d + 1
  | .slice elems spare => uptoBulkAll elems + uptoBulkAll spare + 1
  | .agg parts => uptoBulkAll parts + 1
  | .iface _ d => uptoBulk d + 1
  | .map entries => uptoBulkEntries entries + 1
  | .held _ => 1
def uptoBulkAll {H : Type} : List (DataW H) → Nat
  | [] => 0
  | d :: r => uptoBulk d + uptoBulkAll r
def uptoBulkEntries {H : Type} : List (Lit × DataW H) → Nat
  | [] => 0
  | x :: r => uptoBulkEntry x + uptoBulkEntries r
def uptoBulkEntry {H : Type} : Lit × DataW H → Nat
  | (.string bytes, d) => bytes.length + uptoBulk d + 1
  | (_, d) => uptoBulk d + 1
 end
def uptoSmall : (H : Type) → List (DataW H) → Bool := fun _ ds => decide (uptoBulkAll ds ≤ 1048576)
def OpenSpec.upto (s : _root_.Go.ChangeSpec) : _root_.Go.OpenSpec := { _root_.Go.OpenSpec.ofChange s with cond := some uptoSmall }

/-- 'warderlaw01.TlvPuts', WHERE WHAT IT READS IS OF BULK AT MOST 1048576: true; the input reads as it did. -/
def tlvPutsUptoRow : OpenClaim := { program := "ythfglkpmjamhmaa", sum := "6f58170f7507c084580dcc29e5a57ac972aef769a9cf678af9996f1d7401346f", func := "warder/warderlaw01.TlvPuts", spec := "tlvPuts", apart := false, narrowed := true }
def TlvPutsUptoSaid : Prop := tlvPutsUptoRow.holds Try.pinned (OpenSpec.upto tlvPutsSpec)

/-- 'warderlaw01.TlvSizes', WHERE WHAT IT READS IS OF BULK AT MOST 1048576: true; the input reads as it did. -/
def tlvSizesUptoRow : OpenClaim := { program := "ythfglkpmjamhmaa", sum := "6f58170f7507c084580dcc29e5a57ac972aef769a9cf678af9996f1d7401346f", func := "warder/warderlaw01.TlvSizes", spec := "tlvSizes", apart := false, narrowed := true }
def TlvSizesUptoSaid : Prop := tlvSizesUptoRow.holds Try.pinned (OpenSpec.upto tlvSizesSpec)

/-- 'warderlaw01.TlvHeads', WHERE WHAT IT READS IS OF BULK AT MOST 1048576: true; the input reads as it did. -/
def tlvHeadsUptoRow : OpenClaim := { program := "ythfglkpmjamhmaa", sum := "6f58170f7507c084580dcc29e5a57ac972aef769a9cf678af9996f1d7401346f", func := "warder/warderlaw01.TlvHeads", spec := "tlvHeads", apart := false, narrowed := true }
def TlvHeadsUptoSaid : Prop := tlvHeadsUptoRow.holds Try.pinned (OpenSpec.upto tlvHeadsSpec)

/-- 'warderlaw01.TlvBack', WHERE WHAT IT READS IS OF BULK AT MOST 1048576: true; the input reads as it did. -/
def tlvBackUptoRow : OpenClaim := { program := "ythfglkpmjamhmaa", sum := "6f58170f7507c084580dcc29e5a57ac972aef769a9cf678af9996f1d7401346f", func := "warder/warderlaw01.TlvBack", spec := "tlvBack", apart := false, narrowed := true }
def TlvBackUptoSaid : Prop := tlvBackUptoRow.holds Try.pinned (OpenSpec.upto tlvBackSpec)

/-- 'warderlaw01.TlvCuts', WHERE WHAT IT READS IS OF BULK AT MOST 1048576: true; the input reads as it did. -/
def tlvCutsUptoRow : OpenClaim := { program := "ythfglkpmjamhmaa", sum := "6f58170f7507c084580dcc29e5a57ac972aef769a9cf678af9996f1d7401346f", func := "warder/warderlaw01.TlvCuts", spec := "tlvCuts", apart := false, narrowed := true }
def TlvCutsUptoSaid : Prop := tlvCutsUptoRow.holds Try.pinned (OpenSpec.upto tlvCutsSpec)

/-- 'warderlaw01.TlvRow', WHERE WHAT IT READS IS OF BULK AT MOST 1048576: true; the input reads as it did. -/
def tlvRowUptoRow : OpenClaim := { program := "ythfglkpmjamhmaa", sum := "6f58170f7507c084580dcc29e5a57ac972aef769a9cf678af9996f1d7401346f", func := "warder/warderlaw01.TlvRow", spec := "tlvRow", apart := false, narrowed := true }
def TlvRowUptoSaid : Prop := tlvRowUptoRow.holds Try.pinned (OpenSpec.upto tlvRowSpec)

end Rows
end Go.Proofs.Ythfglkpmjamhmaa
