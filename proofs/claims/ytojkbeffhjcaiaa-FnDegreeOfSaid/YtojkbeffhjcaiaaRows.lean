/-
  No cell of these rows narrows 'for every input' (looked for: loops, veiled, ifaces, maps, wideKeys, modest, calm, conditions, laid).
  DERIVED. THE GIVEN ROWS OF THIS SEAT. 14 by the template 'for every input the law returns true; each argument reads behind the call as it read before'; 0 by the template 'total and deterministic' (their statements: YtojkbeffhjcaiaaTotals.lean).
  GIVEN WITH THE SEED: the statements are not yours to turn. If you find one false, say at which input.
  Laid BY PROGRAM, IN A SANDBOX (cutbox-rows.mjs): the forced cells as the released guide's own fill.sh prints them over the translation bbe41dc1dd14cc25… (all of the seat's roots in one cut). By AI agents, Wed Nov 11 2026. No macro, syntax, notation, axiom, sorry.
-/
import Derived.Test.YtojkbeffhjcaiaaChecked
import GoSem.Claim
import GoSem.ClaimJoined
import GoSem.ClaimMapViews
import Derived.JoinedTies
import Derived.KernelRfl
namespace Go.Proofs.Ytojkbeffhjcaiaa
/- THE CELL 'sum', in the pinned program and in every row, IS THE sha256 OF THE DUMP (.gsa) THAT YtojkbeffhjcaiaaProg.lean LOADS. Nothing in Lean hashes anything: it is a label: what it is worth is what the hold of that sum in a sandbox is worth. -/
noncomputable def Try.pinned : Pinned := { name := "ytojkbeffhjcaiaa", sum := "bbe41dc1dd14cc25b71926af2866ae0b7c0b7ed172c7d421c10099ba1f71b1e1", checked := Try.checked }
namespace Rows
def none {H : Type} : Left H := { results := [], args := [] }

/-- 'laws.FnExactKeyAlter': WHATEVER THE INPUT: true; the input reads as it did. -/
def fnExactKeyAlterSpec : ChangeSpec := { name := "fnExactKeyAlter", fn := fun _ => fun
  | [d1, d2] => { results := [.lit (.bool true)], args := [d1, d2] }
  | _ => none }
def fnExactKeyAlterRow : OpenClaim := { program := "ytojkbeffhjcaiaa", sum := "bbe41dc1dd14cc25b71926af2866ae0b7c0b7ed172c7d421c10099ba1f71b1e1", func := "loop.example/musicengine/laws.FnExactKeyAlter", spec := "fnExactKeyAlter", apart := false }
def FnExactKeyAlterSaid : Prop := fnExactKeyAlterRow.holds Try.pinned (OpenSpec.ofChange fnExactKeyAlterSpec)

/-- ITS FALSE NEIGHBOUR: 'it returns false'. Refute it at one input. -/
def fnExactKeyAlterWrong : ChangeSpec := { name := "fnExactKeyAlter", fn := fun _ => fun
  | [d1, d2] => { results := [.lit (.bool false)], args := [d1, d2] }
  | _ => none }
def FnExactKeyAlterWrongFalsely : Prop := fnExactKeyAlterRow.holds Try.pinned (OpenSpec.ofChange fnExactKeyAlterWrong)

/-- 'laws.FnExactInKey': WHATEVER THE INPUT: true; the input reads as it did. -/
def fnExactInKeySpec : ChangeSpec := { name := "fnExactInKey", fn := fun _ => fun
  | [d1, d2] => { results := [.lit (.bool true)], args := [d1, d2] }
  | _ => none }
def fnExactInKeyRow : OpenClaim := { program := "ytojkbeffhjcaiaa", sum := "bbe41dc1dd14cc25b71926af2866ae0b7c0b7ed172c7d421c10099ba1f71b1e1", func := "loop.example/musicengine/laws.FnExactInKey", spec := "fnExactInKey", apart := false }
def FnExactInKeySaid : Prop := fnExactInKeyRow.holds Try.pinned (OpenSpec.ofChange fnExactInKeySpec)

/-- ITS FALSE NEIGHBOUR: 'it returns false'. Refute it at one input. -/
def fnExactInKeyWrong : ChangeSpec := { name := "fnExactInKey", fn := fun _ => fun
  | [d1, d2] => { results := [.lit (.bool false)], args := [d1, d2] }
  | _ => none }
def FnExactInKeyWrongFalsely : Prop := fnExactInKeyRow.holds Try.pinned (OpenSpec.ofChange fnExactInKeyWrong)

/-- 'laws.FnExactKeyTonic': WHATEVER THE INPUT: true; the input reads as it did. -/
def fnExactKeyTonicSpec : ChangeSpec := { name := "fnExactKeyTonic", fn := fun _ => fun
  | [d1, d2] => { results := [.lit (.bool true)], args := [d1, d2] }
  | _ => none }
def fnExactKeyTonicRow : OpenClaim := { program := "ytojkbeffhjcaiaa", sum := "bbe41dc1dd14cc25b71926af2866ae0b7c0b7ed172c7d421c10099ba1f71b1e1", func := "loop.example/musicengine/laws.FnExactKeyTonic", spec := "fnExactKeyTonic", apart := false }
def FnExactKeyTonicSaid : Prop := fnExactKeyTonicRow.holds Try.pinned (OpenSpec.ofChange fnExactKeyTonicSpec)

/-- ITS FALSE NEIGHBOUR: 'it returns false'. Refute it at one input. -/
def fnExactKeyTonicWrong : ChangeSpec := { name := "fnExactKeyTonic", fn := fun _ => fun
  | [d1, d2] => { results := [.lit (.bool false)], args := [d1, d2] }
  | _ => none }
def FnExactKeyTonicWrongFalsely : Prop := fnExactKeyTonicRow.holds Try.pinned (OpenSpec.ofChange fnExactKeyTonicWrong)

/-- 'laws.FnExactDegreeOf': WHATEVER THE INPUT: true; the input reads as it did. -/
def fnExactDegreeOfSpec : ChangeSpec := { name := "fnExactDegreeOf", fn := fun _ => fun
  | [d1, d2, d3] => { results := [.lit (.bool true)], args := [d1, d2, d3] }
  | _ => none }
def fnExactDegreeOfRow : OpenClaim := { program := "ytojkbeffhjcaiaa", sum := "bbe41dc1dd14cc25b71926af2866ae0b7c0b7ed172c7d421c10099ba1f71b1e1", func := "loop.example/musicengine/laws.FnExactDegreeOf", spec := "fnExactDegreeOf", apart := false }
def FnExactDegreeOfSaid : Prop := fnExactDegreeOfRow.holds Try.pinned (OpenSpec.ofChange fnExactDegreeOfSpec)

/-- ITS FALSE NEIGHBOUR: 'it returns false'. Refute it at one input. -/
def fnExactDegreeOfWrong : ChangeSpec := { name := "fnExactDegreeOf", fn := fun _ => fun
  | [d1, d2, d3] => { results := [.lit (.bool false)], args := [d1, d2, d3] }
  | _ => none }
def FnExactDegreeOfWrongFalsely : Prop := fnExactDegreeOfRow.holds Try.pinned (OpenSpec.ofChange fnExactDegreeOfWrong)

/-- 'laws.FnExactKeyOf': WHATEVER THE INPUT: true; the input reads as it did. -/
def fnExactKeyOfSpec : ChangeSpec := { name := "fnExactKeyOf", fn := fun _ => fun
  | [d1, d2] => { results := [.lit (.bool true)], args := [d1, d2] }
  | _ => none }
def fnExactKeyOfRow : OpenClaim := { program := "ytojkbeffhjcaiaa", sum := "bbe41dc1dd14cc25b71926af2866ae0b7c0b7ed172c7d421c10099ba1f71b1e1", func := "loop.example/musicengine/laws.FnExactKeyOf", spec := "fnExactKeyOf", apart := false }
def FnExactKeyOfSaid : Prop := fnExactKeyOfRow.holds Try.pinned (OpenSpec.ofChange fnExactKeyOfSpec)

/-- ITS FALSE NEIGHBOUR: 'it returns false'. Refute it at one input. -/
def fnExactKeyOfWrong : ChangeSpec := { name := "fnExactKeyOf", fn := fun _ => fun
  | [d1, d2] => { results := [.lit (.bool false)], args := [d1, d2] }
  | _ => none }
def FnExactKeyOfWrongFalsely : Prop := fnExactKeyOfRow.holds Try.pinned (OpenSpec.ofChange fnExactKeyOfWrong)

/-- 'laws.FnExactKeyScale': WHATEVER THE INPUT: true; the input reads as it did. -/
def fnExactKeyScaleSpec : ChangeSpec := { name := "fnExactKeyScale", fn := fun _ => fun
  | [d1, d2] => { results := [.lit (.bool true)], args := [d1, d2] }
  | _ => none }
def fnExactKeyScaleRow : OpenClaim := { program := "ytojkbeffhjcaiaa", sum := "bbe41dc1dd14cc25b71926af2866ae0b7c0b7ed172c7d421c10099ba1f71b1e1", func := "loop.example/musicengine/laws.FnExactKeyScale", spec := "fnExactKeyScale", apart := false }
def FnExactKeyScaleSaid : Prop := fnExactKeyScaleRow.holds Try.pinned (OpenSpec.ofChange fnExactKeyScaleSpec)

/-- ITS FALSE NEIGHBOUR: 'it returns false'. Refute it at one input. -/
def fnExactKeyScaleWrong : ChangeSpec := { name := "fnExactKeyScale", fn := fun _ => fun
  | [d1, d2] => { results := [.lit (.bool false)], args := [d1, d2] }
  | _ => none }
def FnExactKeyScaleWrongFalsely : Prop := fnExactKeyScaleRow.holds Try.pinned (OpenSpec.ofChange fnExactKeyScaleWrong)

/-- 'laws.FnKeyAlter': WHATEVER THE INPUT: true; the input reads as it did. -/
def fnKeyAlterSpec : ChangeSpec := { name := "fnKeyAlter", fn := fun _ => fun
  | [d] => { results := [.lit (.bool true)], args := [d] }
  | _ => none }
def fnKeyAlterRow : OpenClaim := { program := "ytojkbeffhjcaiaa", sum := "bbe41dc1dd14cc25b71926af2866ae0b7c0b7ed172c7d421c10099ba1f71b1e1", func := "loop.example/musicengine/laws.FnKeyAlter", spec := "fnKeyAlter", apart := false }
def FnKeyAlterSaid : Prop := fnKeyAlterRow.holds Try.pinned (OpenSpec.ofChange fnKeyAlterSpec)

/-- ITS FALSE NEIGHBOUR: 'it returns false'. Refute it at one input. -/
def fnKeyAlterWrong : ChangeSpec := { name := "fnKeyAlter", fn := fun _ => fun
  | [d] => { results := [.lit (.bool false)], args := [d] }
  | _ => none }
def FnKeyAlterWrongFalsely : Prop := fnKeyAlterRow.holds Try.pinned (OpenSpec.ofChange fnKeyAlterWrong)

/-- 'laws.FnInKey': WHATEVER THE INPUT: true; the input reads as it did. -/
def fnInKeySpec : ChangeSpec := { name := "fnInKey", fn := fun _ => fun
  | [d] => { results := [.lit (.bool true)], args := [d] }
  | _ => none }
def fnInKeyRow : OpenClaim := { program := "ytojkbeffhjcaiaa", sum := "bbe41dc1dd14cc25b71926af2866ae0b7c0b7ed172c7d421c10099ba1f71b1e1", func := "loop.example/musicengine/laws.FnInKey", spec := "fnInKey", apart := false }
def FnInKeySaid : Prop := fnInKeyRow.holds Try.pinned (OpenSpec.ofChange fnInKeySpec)

/-- ITS FALSE NEIGHBOUR: 'it returns false'. Refute it at one input. -/
def fnInKeyWrong : ChangeSpec := { name := "fnInKey", fn := fun _ => fun
  | [d] => { results := [.lit (.bool false)], args := [d] }
  | _ => none }
def FnInKeyWrongFalsely : Prop := fnInKeyRow.holds Try.pinned (OpenSpec.ofChange fnInKeyWrong)

/-- 'laws.FnKeyTonic': WHATEVER THE INPUT: true; the input reads as it did. -/
def fnKeyTonicSpec : ChangeSpec := { name := "fnKeyTonic", fn := fun _ => fun
  | [d] => { results := [.lit (.bool true)], args := [d] }
  | _ => none }
def fnKeyTonicRow : OpenClaim := { program := "ytojkbeffhjcaiaa", sum := "bbe41dc1dd14cc25b71926af2866ae0b7c0b7ed172c7d421c10099ba1f71b1e1", func := "loop.example/musicengine/laws.FnKeyTonic", spec := "fnKeyTonic", apart := false }
def FnKeyTonicSaid : Prop := fnKeyTonicRow.holds Try.pinned (OpenSpec.ofChange fnKeyTonicSpec)

/-- ITS FALSE NEIGHBOUR: 'it returns false'. Refute it at one input. -/
def fnKeyTonicWrong : ChangeSpec := { name := "fnKeyTonic", fn := fun _ => fun
  | [d] => { results := [.lit (.bool false)], args := [d] }
  | _ => none }
def FnKeyTonicWrongFalsely : Prop := fnKeyTonicRow.holds Try.pinned (OpenSpec.ofChange fnKeyTonicWrong)

/-- 'laws.FnKeyScale': WHATEVER THE INPUT: true; the input reads as it did. -/
def fnKeyScaleSpec : ChangeSpec := { name := "fnKeyScale", fn := fun _ => fun
  | [d] => { results := [.lit (.bool true)], args := [d] }
  | _ => none }
def fnKeyScaleRow : OpenClaim := { program := "ytojkbeffhjcaiaa", sum := "bbe41dc1dd14cc25b71926af2866ae0b7c0b7ed172c7d421c10099ba1f71b1e1", func := "loop.example/musicengine/laws.FnKeyScale", spec := "fnKeyScale", apart := false }
def FnKeyScaleSaid : Prop := fnKeyScaleRow.holds Try.pinned (OpenSpec.ofChange fnKeyScaleSpec)

/-- ITS FALSE NEIGHBOUR: 'it returns false'. Refute it at one input. -/
def fnKeyScaleWrong : ChangeSpec := { name := "fnKeyScale", fn := fun _ => fun
  | [d] => { results := [.lit (.bool false)], args := [d] }
  | _ => none }
def FnKeyScaleWrongFalsely : Prop := fnKeyScaleRow.holds Try.pinned (OpenSpec.ofChange fnKeyScaleWrong)

/-- 'laws.FnKeyOf': WHATEVER THE INPUT: true; the input reads as it did. -/
def fnKeyOfSpec : ChangeSpec := { name := "fnKeyOf", fn := fun _ => fun
  | [d] => { results := [.lit (.bool true)], args := [d] }
  | _ => none }
def fnKeyOfRow : OpenClaim := { program := "ytojkbeffhjcaiaa", sum := "bbe41dc1dd14cc25b71926af2866ae0b7c0b7ed172c7d421c10099ba1f71b1e1", func := "loop.example/musicengine/laws.FnKeyOf", spec := "fnKeyOf", apart := false }
def FnKeyOfSaid : Prop := fnKeyOfRow.holds Try.pinned (OpenSpec.ofChange fnKeyOfSpec)

/-- ITS FALSE NEIGHBOUR: 'it returns false'. Refute it at one input. -/
def fnKeyOfWrong : ChangeSpec := { name := "fnKeyOf", fn := fun _ => fun
  | [d] => { results := [.lit (.bool false)], args := [d] }
  | _ => none }
def FnKeyOfWrongFalsely : Prop := fnKeyOfRow.holds Try.pinned (OpenSpec.ofChange fnKeyOfWrong)

/-- 'laws.FnDegreeOf': WHATEVER THE INPUT: true; the input reads as it did. -/
def fnDegreeOfSpec : ChangeSpec := { name := "fnDegreeOf", fn := fun _ => fun
  | [d] => { results := [.lit (.bool true)], args := [d] }
  | _ => none }
def fnDegreeOfRow : OpenClaim := { program := "ytojkbeffhjcaiaa", sum := "bbe41dc1dd14cc25b71926af2866ae0b7c0b7ed172c7d421c10099ba1f71b1e1", func := "loop.example/musicengine/laws.FnDegreeOf", spec := "fnDegreeOf", apart := false }
def FnDegreeOfSaid : Prop := fnDegreeOfRow.holds Try.pinned (OpenSpec.ofChange fnDegreeOfSpec)

/-- ITS FALSE NEIGHBOUR: 'it returns false'. Refute it at one input. -/
def fnDegreeOfWrong : ChangeSpec := { name := "fnDegreeOf", fn := fun _ => fun
  | [d] => { results := [.lit (.bool false)], args := [d] }
  | _ => none }
def FnDegreeOfWrongFalsely : Prop := fnDegreeOfRow.holds Try.pinned (OpenSpec.ofChange fnDegreeOfWrong)

/-- 'laws.FnKeysNear': WHATEVER THE INPUT: true; the input reads as it did. -/
def fnKeysNearSpec : ChangeSpec := { name := "fnKeysNear", fn := fun _ => fun
  | [d] => { results := [.lit (.bool true)], args := [d] }
  | _ => none }
def fnKeysNearRow : OpenClaim := { program := "ytojkbeffhjcaiaa", sum := "bbe41dc1dd14cc25b71926af2866ae0b7c0b7ed172c7d421c10099ba1f71b1e1", func := "loop.example/musicengine/laws.FnKeysNear", spec := "fnKeysNear", apart := false }
def FnKeysNearSaid : Prop := fnKeysNearRow.holds Try.pinned (OpenSpec.ofChange fnKeysNearSpec)

/-- ITS FALSE NEIGHBOUR: 'it returns false'. Refute it at one input. -/
def fnKeysNearWrong : ChangeSpec := { name := "fnKeysNear", fn := fun _ => fun
  | [d] => { results := [.lit (.bool false)], args := [d] }
  | _ => none }
def FnKeysNearWrongFalsely : Prop := fnKeysNearRow.holds Try.pinned (OpenSpec.ofChange fnKeysNearWrong)

/-- 'laws.FnOctaveUp': WHATEVER THE INPUT: true; the input reads as it did. -/
def fnOctaveUpSpec : ChangeSpec := { name := "fnOctaveUp", fn := fun _ => fun
  | [d] => { results := [.lit (.bool true)], args := [d] }
  | _ => none }
def fnOctaveUpRow : OpenClaim := { program := "ytojkbeffhjcaiaa", sum := "bbe41dc1dd14cc25b71926af2866ae0b7c0b7ed172c7d421c10099ba1f71b1e1", func := "loop.example/musicengine/laws.FnOctaveUp", spec := "fnOctaveUp", apart := false }
def FnOctaveUpSaid : Prop := fnOctaveUpRow.holds Try.pinned (OpenSpec.ofChange fnOctaveUpSpec)

/-- ITS FALSE NEIGHBOUR: 'it returns false'. Refute it at one input. -/
def fnOctaveUpWrong : ChangeSpec := { name := "fnOctaveUp", fn := fun _ => fun
  | [d] => { results := [.lit (.bool false)], args := [d] }
  | _ => none }
def FnOctaveUpWrongFalsely : Prop := fnOctaveUpRow.holds Try.pinned (OpenSpec.ofChange fnOctaveUpWrong)

/- THE SECOND FORM. 'bulk': how many values and letters a reading holds, each counted each time it is reached (what is shared counts as often as it is met; a slice's spare places count too). A statement '..UptoSaid' is the law's where the arguments, and the package variables that the reading takes, are together of bulk at most 1048576: NARROWER than '..Said'. Prove '..Said' where nothing that the law and all that it calls make is longer than what came in: it says more and counts as full. Else prove '..UptoSaid'. A law counts once. -/
mutual
def uptoBulk {H : Type} : DataW H → Nat
  | .lit (.string bytes) => bytes.length + 1
  | .lit _ => 1
  | .nil => 1
  | .ptr d => uptoBulk d + 1
  | .slice elems spare => uptoBulkAll elems + uptoBulkAll spare + 1
  | .agg parts => uptoBulkAll parts + 1
  | .iface _ d => uptoBulk d + 1
  | .map entries => uptoBulkEntries entries + 1
  | .held _ => 1
def uptoBulkAll {H : Type} : List (DataW H) → Nat
  | [] => 0
  | d :: r => uptoBulk d + uptoBulkAll r
def uptoBulkEntries {H : Type} : List (Lit × DataW H) → Nat
  | [] => 0
  | x :: r => uptoBulkEntry x + uptoBulkEntries r
def uptoBulkEntry {H : Type} : Lit × DataW H → Nat
  | (.string bytes, d) => bytes.length + uptoBulk d + 1
  | (_, d) => uptoBulk d + 1
 end
def uptoSmall : (H : Type) → List (DataW H) → Bool := fun _ ds => decide (uptoBulkAll ds ≤ 1048576)
def OpenSpec.upto (s : _root_.Go.ChangeSpec) : _root_.Go.OpenSpec := { _root_.Go.OpenSpec.ofChange s with cond := some uptoSmall }

/-- 'laws.FnExactKeyAlter', WHERE WHAT IT READS IS OF BULK AT MOST 1048576: true; the input reads as it did. -/
def fnExactKeyAlterUptoRow : OpenClaim := { program := "ytojkbeffhjcaiaa", sum := "bbe41dc1dd14cc25b71926af2866ae0b7c0b7ed172c7d421c10099ba1f71b1e1", func := "loop.example/musicengine/laws.FnExactKeyAlter", spec := "fnExactKeyAlter", apart := false, narrowed := true }
def FnExactKeyAlterUptoSaid : Prop := fnExactKeyAlterUptoRow.holds Try.pinned (OpenSpec.upto fnExactKeyAlterSpec)

/-- 'laws.FnExactInKey', WHERE WHAT IT READS IS OF BULK AT MOST 1048576: true; the input reads as it did. -/
def fnExactInKeyUptoRow : OpenClaim := { program := "ytojkbeffhjcaiaa", sum := "bbe41dc1dd14cc25b71926af2866ae0b7c0b7ed172c7d421c10099ba1f71b1e1", func := "loop.example/musicengine/laws.FnExactInKey", spec := "fnExactInKey", apart := false, narrowed := true }
def FnExactInKeyUptoSaid : Prop := fnExactInKeyUptoRow.holds Try.pinned (OpenSpec.upto fnExactInKeySpec)

/-- 'laws.FnExactKeyTonic', WHERE WHAT IT READS IS OF BULK AT MOST 1048576: true; the input reads as it did. -/
def fnExactKeyTonicUptoRow : OpenClaim := { program := "ytojkbeffhjcaiaa", sum := "bbe41dc1dd14cc25b71926af2866ae0b7c0b7ed172c7d421c10099ba1f71b1e1", func := "loop.example/musicengine/laws.FnExactKeyTonic", spec := "fnExactKeyTonic", apart := false, narrowed := true }
def FnExactKeyTonicUptoSaid : Prop := fnExactKeyTonicUptoRow.holds Try.pinned (OpenSpec.upto fnExactKeyTonicSpec)

/-- 'laws.FnExactDegreeOf', WHERE WHAT IT READS IS OF BULK AT MOST 1048576: true; the input reads as it did. -/
def fnExactDegreeOfUptoRow : OpenClaim := { program := "ytojkbeffhjcaiaa", sum := "bbe41dc1dd14cc25b71926af2866ae0b7c0b7ed172c7d421c10099ba1f71b1e1", func := "loop.example/musicengine/laws.FnExactDegreeOf", spec := "fnExactDegreeOf", apart := false, narrowed := true }
def FnExactDegreeOfUptoSaid : Prop := fnExactDegreeOfUptoRow.holds Try.pinned (OpenSpec.upto fnExactDegreeOfSpec)

/-- 'laws.FnExactKeyOf', WHERE WHAT IT READS IS OF BULK AT MOST 1048576: true; the input reads as it did. -/
def fnExactKeyOfUptoRow : OpenClaim := { program := "ytojkbeffhjcaiaa", sum := "bbe41dc1dd14cc25b71926af2866ae0b7c0b7ed172c7d421c10099ba1f71b1e1", func := "loop.example/musicengine/laws.FnExactKeyOf", spec := "fnExactKeyOf", apart := false, narrowed := true }
def FnExactKeyOfUptoSaid : Prop := fnExactKeyOfUptoRow.holds Try.pinned (OpenSpec.upto fnExactKeyOfSpec)

/-- 'laws.FnExactKeyScale', WHERE WHAT IT READS IS OF BULK AT MOST 1048576: true; the input reads as it did. -/
def fnExactKeyScaleUptoRow : OpenClaim := { program := "ytojkbeffhjcaiaa", sum := "bbe41dc1dd14cc25b71926af2866ae0b7c0b7ed172c7d421c10099ba1f71b1e1", func := "loop.example/musicengine/laws.FnExactKeyScale", spec := "fnExactKeyScale", apart := false, narrowed := true }
def FnExactKeyScaleUptoSaid : Prop := fnExactKeyScaleUptoRow.holds Try.pinned (OpenSpec.upto fnExactKeyScaleSpec)

/-- 'laws.FnKeyAlter', WHERE WHAT IT READS IS OF BULK AT MOST 1048576: true; the input reads as it did. -/
def fnKeyAlterUptoRow : OpenClaim := { program := "ytojkbeffhjcaiaa", sum := "bbe41dc1dd14cc25b71926af2866ae0b7c0b7ed172c7d421c10099ba1f71b1e1", func := "loop.example/musicengine/laws.FnKeyAlter", spec := "fnKeyAlter", apart := false, narrowed := true }
def FnKeyAlterUptoSaid : Prop := fnKeyAlterUptoRow.holds Try.pinned (OpenSpec.upto fnKeyAlterSpec)

/-- 'laws.FnInKey', WHERE WHAT IT READS IS OF BULK AT MOST 1048576: true; the input reads as it did. -/
def fnInKeyUptoRow : OpenClaim := { program := "ytojkbeffhjcaiaa", sum := "bbe41dc1dd14cc25b71926af2866ae0b7c0b7ed172c7d421c10099ba1f71b1e1", func := "loop.example/musicengine/laws.FnInKey", spec := "fnInKey", apart := false, narrowed := true }
def FnInKeyUptoSaid : Prop := fnInKeyUptoRow.holds Try.pinned (OpenSpec.upto fnInKeySpec)

/-- 'laws.FnKeyTonic', WHERE WHAT IT READS IS OF BULK AT MOST 1048576: true; the input reads as it did. -/
def fnKeyTonicUptoRow : OpenClaim := { program := "ytojkbeffhjcaiaa", sum := "bbe41dc1dd14cc25b71926af2866ae0b7c0b7ed172c7d421c10099ba1f71b1e1", func := "loop.example/musicengine/laws.FnKeyTonic", spec := "fnKeyTonic", apart := false, narrowed := true }
def FnKeyTonicUptoSaid : Prop := fnKeyTonicUptoRow.holds Try.pinned (OpenSpec.upto fnKeyTonicSpec)

/-- 'laws.FnKeyScale', WHERE WHAT IT READS IS OF BULK AT MOST 1048576: true; the input reads as it did. -/
def fnKeyScaleUptoRow : OpenClaim := { program := "ytojkbeffhjcaiaa", sum := "bbe41dc1dd14cc25b71926af2866ae0b7c0b7ed172c7d421c10099ba1f71b1e1", func := "loop.example/musicengine/laws.FnKeyScale", spec := "fnKeyScale", apart := false, narrowed := true }
def FnKeyScaleUptoSaid : Prop := fnKeyScaleUptoRow.holds Try.pinned (OpenSpec.upto fnKeyScaleSpec)

/-- 'laws.FnKeyOf', WHERE WHAT IT READS IS OF BULK AT MOST 1048576: true; the input reads as it did. -/
def fnKeyOfUptoRow : OpenClaim := { program := "ytojkbeffhjcaiaa", sum := "bbe41dc1dd14cc25b71926af2866ae0b7c0b7ed172c7d421c10099ba1f71b1e1", func := "loop.example/musicengine/laws.FnKeyOf", spec := "fnKeyOf", apart := false, narrowed := true }
def FnKeyOfUptoSaid : Prop := fnKeyOfUptoRow.holds Try.pinned (OpenSpec.upto fnKeyOfSpec)

/-- 'laws.FnDegreeOf', WHERE WHAT IT READS IS OF BULK AT MOST 1048576: true; the input reads as it did. -/
def fnDegreeOfUptoRow : OpenClaim := { program := "ytojkbeffhjcaiaa", sum := "bbe41dc1dd14cc25b71926af2866ae0b7c0b7ed172c7d421c10099ba1f71b1e1", func := "loop.example/musicengine/laws.FnDegreeOf", spec := "fnDegreeOf", apart := false, narrowed := true }
def FnDegreeOfUptoSaid : Prop := fnDegreeOfUptoRow.holds Try.pinned (OpenSpec.upto fnDegreeOfSpec)

/-- 'laws.FnKeysNear', WHERE WHAT IT READS IS OF BULK AT MOST 1048576: true; the input reads as it did. -/
def fnKeysNearUptoRow : OpenClaim := { program := "ytojkbeffhjcaiaa", sum := "bbe41dc1dd14cc25b71926af2866ae0b7c0b7ed172c7d421c10099ba1f71b1e1", func := "loop.example/musicengine/laws.FnKeysNear", spec := "fnKeysNear", apart := false, narrowed := true }
def FnKeysNearUptoSaid : Prop := fnKeysNearUptoRow.holds Try.pinned (OpenSpec.upto fnKeysNearSpec)

/-- 'laws.FnOctaveUp', WHERE WHAT IT READS IS OF BULK AT MOST 1048576: true; the input reads as it did. -/
def fnOctaveUpUptoRow : OpenClaim := { program := "ytojkbeffhjcaiaa", sum := "bbe41dc1dd14cc25b71926af2866ae0b7c0b7ed172c7d421c10099ba1f71b1e1", func := "loop.example/musicengine/laws.FnOctaveUp", spec := "fnOctaveUp", apart := false, narrowed := true }
def FnOctaveUpUptoSaid : Prop := fnOctaveUpUptoRow.holds Try.pinned (OpenSpec.upto fnOctaveUpSpec)

end Rows
end Go.Proofs.Ytojkbeffhjcaiaa
