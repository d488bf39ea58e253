/-
  No cell of these rows narrows 'for every input' (looked for: loops, veiled, ifaces, maps, wideKeys, modest, calm, conditions, laid).
  DERIVED. THE GIVEN ROWS OF THIS SEAT. 12 by the template 'for every input the law returns true; each argument reads behind the call as it read before'; 0 by the template 'total and deterministic' (their statements: YtgogpjlemaajeaaTotals.lean).
  GIVEN WITH THE SEED: the statements are not yours to turn. If you find one false, say at which input.
  Laid BY PROGRAM, IN A SANDBOX (cutbox-rows.mjs): the forced cells as the released guide's own fill.sh prints them over the translation 08a7de1c21cd8d6f… (all of the seat's roots in one cut). By AI agents, Wed Nov 11 2026. No macro, syntax, notation, axiom, sorry.
-/
import Derived.Test.YtgogpjlemaajeaaChecked
import GoSem.Claim
import GoSem.ClaimJoined
import GoSem.ClaimMapViews
import Derived.JoinedTies
import Derived.KernelRfl
namespace Go.Proofs.Ytgogpjlemaajeaa
/- THE CELL 'sum', in the pinned program and in every row, IS THE sha256 OF THE DUMP (.gsa) THAT YtgogpjlemaajeaaProg.lean LOADS. Nothing in Lean hashes anything: it is a label: what it is worth is what the hold of that sum in a sandbox is worth. -/
noncomputable def Try.pinned : Pinned := { name := "ytgogpjlemaajeaa", sum := "08a7de1c21cd8d6ffe4df82cf833daf22ed4f712362e1ca3fbdd2372560bf6b8", checked := Try.checked }
namespace Rows
def none {H : Type} : Left H := { results := [], args := [] }

/-- 'laws.FnExactPitchValid': WHATEVER THE INPUT: true; the input reads as it did. -/
def fnExactPitchValidSpec : ChangeSpec := { name := "fnExactPitchValid", fn := fun _ => fun
  | [d] => { results := [.lit (.bool true)], args := [d] }
  | _ => none }
def fnExactPitchValidRow : OpenClaim := { program := "ytgogpjlemaajeaa", sum := "08a7de1c21cd8d6ffe4df82cf833daf22ed4f712362e1ca3fbdd2372560bf6b8", func := "loop.example/musicengine/laws.FnExactPitchValid", spec := "fnExactPitchValid", apart := false }
def FnExactPitchValidSaid : Prop := fnExactPitchValidRow.holds Try.pinned (OpenSpec.ofChange fnExactPitchValidSpec)

/-- ITS FALSE NEIGHBOUR: 'it returns false'. Refute it at one input. -/
def fnExactPitchValidWrong : ChangeSpec := { name := "fnExactPitchValid", fn := fun _ => fun
  | [d] => { results := [.lit (.bool false)], args := [d] }
  | _ => none }
def FnExactPitchValidWrongFalsely : Prop := fnExactPitchValidRow.holds Try.pinned (OpenSpec.ofChange fnExactPitchValidWrong)

/-- 'laws.FnExactPitchPlace': WHATEVER THE INPUT: true; the input reads as it did. -/
def fnExactPitchPlaceSpec : ChangeSpec := { name := "fnExactPitchPlace", fn := fun _ => fun
  | [d] => { results := [.lit (.bool true)], args := [d] }
  | _ => none }
def fnExactPitchPlaceRow : OpenClaim := { program := "ytgogpjlemaajeaa", sum := "08a7de1c21cd8d6ffe4df82cf833daf22ed4f712362e1ca3fbdd2372560bf6b8", func := "loop.example/musicengine/laws.FnExactPitchPlace", spec := "fnExactPitchPlace", apart := false }
def FnExactPitchPlaceSaid : Prop := fnExactPitchPlaceRow.holds Try.pinned (OpenSpec.ofChange fnExactPitchPlaceSpec)

/-- ITS FALSE NEIGHBOUR: 'it returns false'. Refute it at one input. -/
def fnExactPitchPlaceWrong : ChangeSpec := { name := "fnExactPitchPlace", fn := fun _ => fun
  | [d] => { results := [.lit (.bool false)], args := [d] }
  | _ => none }
def FnExactPitchPlaceWrongFalsely : Prop := fnExactPitchPlaceRow.holds Try.pinned (OpenSpec.ofChange fnExactPitchPlaceWrong)

/-- 'laws.FnExactPitchKey': WHATEVER THE INPUT: true; the input reads as it did. -/
def fnExactPitchKeySpec : ChangeSpec := { name := "fnExactPitchKey", fn := fun _ => fun
  | [d] => { results := [.lit (.bool true)], args := [d] }
  | _ => none }
def fnExactPitchKeyRow : OpenClaim := { program := "ytgogpjlemaajeaa", sum := "08a7de1c21cd8d6ffe4df82cf833daf22ed4f712362e1ca3fbdd2372560bf6b8", func := "loop.example/musicengine/laws.FnExactPitchKey", spec := "fnExactPitchKey", apart := false }
def FnExactPitchKeySaid : Prop := fnExactPitchKeyRow.holds Try.pinned (OpenSpec.ofChange fnExactPitchKeySpec)

/-- ITS FALSE NEIGHBOUR: 'it returns false'. Refute it at one input. -/
def fnExactPitchKeyWrong : ChangeSpec := { name := "fnExactPitchKey", fn := fun _ => fun
  | [d] => { results := [.lit (.bool false)], args := [d] }
  | _ => none }
def FnExactPitchKeyWrongFalsely : Prop := fnExactPitchKeyRow.holds Try.pinned (OpenSpec.ofChange fnExactPitchKeyWrong)

/-- 'laws.FnExactReadPitch': WHATEVER THE INPUT: true; the input reads as it did. -/
def fnExactReadPitchSpec : ChangeSpec := { name := "fnExactReadPitch", fn := fun _ => fun
  | [d] => { results := [.lit (.bool true)], args := [d] }
  | _ => none }
def fnExactReadPitchRow : OpenClaim := { program := "ytgogpjlemaajeaa", sum := "08a7de1c21cd8d6ffe4df82cf833daf22ed4f712362e1ca3fbdd2372560bf6b8", func := "loop.example/musicengine/laws.FnExactReadPitch", spec := "fnExactReadPitch", inPlace := ["internal/bytealg.IndexByteString", "internal/bytealg.CountString", "internal/bytealg.IndexString", "internal/abi.NoEscape", "internal/bytealg.MakeNoZero"], named := ["internal/bytealg.MaxLen"], apart := false }
def FnExactReadPitchSaid : Prop := fnExactReadPitchRow.holds Try.pinned (OpenSpec.ofChange fnExactReadPitchSpec)

/-- ITS FALSE NEIGHBOUR: 'it returns false'. Refute it at one input. -/
def fnExactReadPitchWrong : ChangeSpec := { name := "fnExactReadPitch", fn := fun _ => fun
  | [d] => { results := [.lit (.bool false)], args := [d] }
  | _ => none }
def FnExactReadPitchWrongFalsely : Prop := fnExactReadPitchRow.holds Try.pinned (OpenSpec.ofChange fnExactReadPitchWrong)

/-- 'laws.FnExactPitchText': WHATEVER THE INPUT: true; the input reads as it did. -/
def fnExactPitchTextSpec : ChangeSpec := { name := "fnExactPitchText", fn := fun _ => fun
  | [d] => { results := [.lit (.bool true)], args := [d] }
  | _ => none }
def fnExactPitchTextRow : OpenClaim := { program := "ytgogpjlemaajeaa", sum := "08a7de1c21cd8d6ffe4df82cf833daf22ed4f712362e1ca3fbdd2372560bf6b8", func := "loop.example/musicengine/laws.FnExactPitchText", spec := "fnExactPitchText", inPlace := ["internal/abi.NoEscape", "internal/bytealg.MakeNoZero"], apart := false }
def FnExactPitchTextSaid : Prop := fnExactPitchTextRow.holds Try.pinned (OpenSpec.ofChange fnExactPitchTextSpec)

/-- ITS FALSE NEIGHBOUR: 'it returns false'. Refute it at one input. -/
def fnExactPitchTextWrong : ChangeSpec := { name := "fnExactPitchText", fn := fun _ => fun
  | [d] => { results := [.lit (.bool false)], args := [d] }
  | _ => none }
def FnExactPitchTextWrongFalsely : Prop := fnExactPitchTextRow.holds Try.pinned (OpenSpec.ofChange fnExactPitchTextWrong)

/-- 'laws.FnExactSpellKey': WHATEVER THE INPUT: true; the input reads as it did. -/
def fnExactSpellKeySpec : ChangeSpec := { name := "fnExactSpellKey", fn := fun _ => fun
  | [d1, d2] => { results := [.lit (.bool true)], args := [d1, d2] }
  | _ => none }
def fnExactSpellKeyRow : OpenClaim := { program := "ytgogpjlemaajeaa", sum := "08a7de1c21cd8d6ffe4df82cf833daf22ed4f712362e1ca3fbdd2372560bf6b8", func := "loop.example/musicengine/laws.FnExactSpellKey", spec := "fnExactSpellKey", apart := false }
def FnExactSpellKeySaid : Prop := fnExactSpellKeyRow.holds Try.pinned (OpenSpec.ofChange fnExactSpellKeySpec)

/-- ITS FALSE NEIGHBOUR: 'it returns false'. Refute it at one input. -/
def fnExactSpellKeyWrong : ChangeSpec := { name := "fnExactSpellKey", fn := fun _ => fun
  | [d1, d2] => { results := [.lit (.bool false)], args := [d1, d2] }
  | _ => none }
def FnExactSpellKeyWrongFalsely : Prop := fnExactSpellKeyRow.holds Try.pinned (OpenSpec.ofChange fnExactSpellKeyWrong)

/-- 'laws.FnPitchText': WHATEVER THE INPUT: true; the input reads as it did. -/
def fnPitchTextSpec : ChangeSpec := { name := "fnPitchText", fn := fun _ => fun
  | [d] => { results := [.lit (.bool true)], args := [d] }
  | _ => none }
def fnPitchTextRow : OpenClaim := { program := "ytgogpjlemaajeaa", sum := "08a7de1c21cd8d6ffe4df82cf833daf22ed4f712362e1ca3fbdd2372560bf6b8", func := "loop.example/musicengine/laws.FnPitchText", spec := "fnPitchText", inPlace := ["internal/abi.NoEscape", "internal/bytealg.MakeNoZero", "internal/bytealg.IndexByteString", "internal/bytealg.CountString", "internal/bytealg.IndexString"], named := ["internal/bytealg.MaxLen"], apart := false }
def FnPitchTextSaid : Prop := fnPitchTextRow.holds Try.pinned (OpenSpec.ofChange fnPitchTextSpec)

/-- ITS FALSE NEIGHBOUR: 'it returns false'. Refute it at one input. -/
def fnPitchTextWrong : ChangeSpec := { name := "fnPitchText", fn := fun _ => fun
  | [d] => { results := [.lit (.bool false)], args := [d] }
  | _ => none }
def FnPitchTextWrongFalsely : Prop := fnPitchTextRow.holds Try.pinned (OpenSpec.ofChange fnPitchTextWrong)

/-- 'laws.FnPitchValid': WHATEVER THE INPUT: true; the input reads as it did. -/
def fnPitchValidSpec : ChangeSpec := { name := "fnPitchValid", fn := fun _ => fun
  | [d] => { results := [.lit (.bool true)], args := [d] }
  | _ => none }
def fnPitchValidRow : OpenClaim := { program := "ytgogpjlemaajeaa", sum := "08a7de1c21cd8d6ffe4df82cf833daf22ed4f712362e1ca3fbdd2372560bf6b8", func := "loop.example/musicengine/laws.FnPitchValid", spec := "fnPitchValid", apart := false }
def FnPitchValidSaid : Prop := fnPitchValidRow.holds Try.pinned (OpenSpec.ofChange fnPitchValidSpec)

/-- ITS FALSE NEIGHBOUR: 'it returns false'. Refute it at one input. -/
def fnPitchValidWrong : ChangeSpec := { name := "fnPitchValid", fn := fun _ => fun
  | [d] => { results := [.lit (.bool false)], args := [d] }
  | _ => none }
def FnPitchValidWrongFalsely : Prop := fnPitchValidRow.holds Try.pinned (OpenSpec.ofChange fnPitchValidWrong)

/-- 'laws.FnPitchPlace': WHATEVER THE INPUT: true; the input reads as it did. -/
def fnPitchPlaceSpec : ChangeSpec := { name := "fnPitchPlace", fn := fun _ => fun
  | [d] => { results := [.lit (.bool true)], args := [d] }
  | _ => none }
def fnPitchPlaceRow : OpenClaim := { program := "ytgogpjlemaajeaa", sum := "08a7de1c21cd8d6ffe4df82cf833daf22ed4f712362e1ca3fbdd2372560bf6b8", func := "loop.example/musicengine/laws.FnPitchPlace", spec := "fnPitchPlace", apart := false }
def FnPitchPlaceSaid : Prop := fnPitchPlaceRow.holds Try.pinned (OpenSpec.ofChange fnPitchPlaceSpec)

/-- ITS FALSE NEIGHBOUR: 'it returns false'. Refute it at one input. -/
def fnPitchPlaceWrong : ChangeSpec := { name := "fnPitchPlace", fn := fun _ => fun
  | [d] => { results := [.lit (.bool false)], args := [d] }
  | _ => none }
def FnPitchPlaceWrongFalsely : Prop := fnPitchPlaceRow.holds Try.pinned (OpenSpec.ofChange fnPitchPlaceWrong)

/-- 'laws.FnPitchKey': WHATEVER THE INPUT: true; the input reads as it did. -/
def fnPitchKeySpec : ChangeSpec := { name := "fnPitchKey", fn := fun _ => fun
  | [d] => { results := [.lit (.bool true)], args := [d] }
  | _ => none }
def fnPitchKeyRow : OpenClaim := { program := "ytgogpjlemaajeaa", sum := "08a7de1c21cd8d6ffe4df82cf833daf22ed4f712362e1ca3fbdd2372560bf6b8", func := "loop.example/musicengine/laws.FnPitchKey", spec := "fnPitchKey", apart := false }
def FnPitchKeySaid : Prop := fnPitchKeyRow.holds Try.pinned (OpenSpec.ofChange fnPitchKeySpec)

/-- ITS FALSE NEIGHBOUR: 'it returns false'. Refute it at one input. -/
def fnPitchKeyWrong : ChangeSpec := { name := "fnPitchKey", fn := fun _ => fun
  | [d] => { results := [.lit (.bool false)], args := [d] }
  | _ => none }
def FnPitchKeyWrongFalsely : Prop := fnPitchKeyRow.holds Try.pinned (OpenSpec.ofChange fnPitchKeyWrong)

/-- 'laws.FnReadPitch': WHATEVER THE INPUT: true; the input reads as it did. -/
def fnReadPitchSpec : ChangeSpec := { name := "fnReadPitch", fn := fun _ => fun
  | [d] => { results := [.lit (.bool true)], args := [d] }
  | _ => none }
def fnReadPitchRow : OpenClaim := { program := "ytgogpjlemaajeaa", sum := "08a7de1c21cd8d6ffe4df82cf833daf22ed4f712362e1ca3fbdd2372560bf6b8", func := "loop.example/musicengine/laws.FnReadPitch", spec := "fnReadPitch", inPlace := ["internal/bytealg.IndexByteString", "internal/bytealg.CountString", "internal/bytealg.IndexString", "internal/abi.NoEscape", "internal/bytealg.MakeNoZero"], named := ["internal/bytealg.MaxLen"], apart := false }
def FnReadPitchSaid : Prop := fnReadPitchRow.holds Try.pinned (OpenSpec.ofChange fnReadPitchSpec)

/-- ITS FALSE NEIGHBOUR: 'it returns false'. Refute it at one input. -/
def fnReadPitchWrong : ChangeSpec := { name := "fnReadPitch", fn := fun _ => fun
  | [d] => { results := [.lit (.bool false)], args := [d] }
  | _ => none }
def FnReadPitchWrongFalsely : Prop := fnReadPitchRow.holds Try.pinned (OpenSpec.ofChange fnReadPitchWrong)

/-- 'laws.FnSpellKey': WHATEVER THE INPUT: true; the input reads as it did. -/
def fnSpellKeySpec : ChangeSpec := { name := "fnSpellKey", fn := fun _ => fun
  | [d] => { results := [.lit (.bool true)], args := [d] }
  | _ => none }
def fnSpellKeyRow : OpenClaim := { program := "ytgogpjlemaajeaa", sum := "08a7de1c21cd8d6ffe4df82cf833daf22ed4f712362e1ca3fbdd2372560bf6b8", func := "loop.example/musicengine/laws.FnSpellKey", spec := "fnSpellKey", apart := false }
def FnSpellKeySaid : Prop := fnSpellKeyRow.holds Try.pinned (OpenSpec.ofChange fnSpellKeySpec)

/-- ITS FALSE NEIGHBOUR: 'it returns false'. Refute it at one input. -/
def fnSpellKeyWrong : ChangeSpec := { name := "fnSpellKey", fn := fun _ => fun
  | [d] => { results := [.lit (.bool false)], args := [d] }
  | _ => none }
def FnSpellKeyWrongFalsely : Prop := fnSpellKeyRow.holds Try.pinned (OpenSpec.ofChange fnSpellKeyWrong)

/- THE SECOND FORM. 'bulk': how many values and letters a reading holds, each counted each time it is reached (what is shared counts as often as it is met; a slice's spare places count too). A statement '..UptoSaid' is the law's where the arguments, and the package variables that the reading takes, are together of bulk at most 1048576: NARROWER than '..Said'. Prove '..Said' where nothing that the law and all that it calls make is longer than what came in: it says more and counts as full. Else prove '..UptoSaid'. A law counts once. -/
mutual
def uptoBulk {H : Type} : DataW H → Nat
  | .lit (.string bytes) => bytes.length + 1
  | .lit _ => 1
  | .nil => 1
  | .ptr d => uptoBulk d + 1
  | .slice elems spare => uptoBulkAll elems + uptoBulkAll spare + 1
  | .agg parts => uptoBulkAll parts + 1
  | .iface _ d => uptoBulk d + 1
  | .map entries => uptoBulkEntries entries + 1
  | .held _ => 1
def uptoBulkAll {H : Type} : List (DataW H) → Nat
  | [] => 0
  | d :: r => uptoBulk d + uptoBulkAll r
def uptoBulkEntries {H : Type} : List (Lit × DataW H) → Nat
  | [] => 0
  | x :: r => uptoBulkEntry x + uptoBulkEntries r
def uptoBulkEntry {H : Type} : Lit × DataW H → Nat
  | (.string bytes, d) => bytes.length + uptoBulk d + 1
  | (_, d) => uptoBulk d + 1
 end
def uptoSmall : (H : Type) → List (DataW H) → Bool := fun _ ds => decide (uptoBulkAll ds ≤ 1048576)
def OpenSpec.upto (s : _root_.Go.ChangeSpec) : _root_.Go.OpenSpec := { _root_.Go.OpenSpec.ofChange s with cond := some uptoSmall }

/-- 'laws.FnExactPitchValid', WHERE WHAT IT READS IS OF BULK AT MOST 1048576: true; the input reads as it did. -/
def fnExactPitchValidUptoRow : OpenClaim := { program := "ytgogpjlemaajeaa", sum := "08a7de1c21cd8d6ffe4df82cf833daf22ed4f712362e1ca3fbdd2372560bf6b8", func := "loop.example/musicengine/laws.FnExactPitchValid", spec := "fnExactPitchValid", apart := false, narrowed := true }
def FnExactPitchValidUptoSaid : Prop := fnExactPitchValidUptoRow.holds Try.pinned (OpenSpec.upto fnExactPitchValidSpec)

/-- 'laws.FnExactPitchPlace', WHERE WHAT IT READS IS OF BULK AT MOST 1048576: true; the input reads as it did. -/
def fnExactPitchPlaceUptoRow : OpenClaim := { program := "ytgogpjlemaajeaa", sum := "08a7de1c21cd8d6ffe4df82cf833daf22ed4f712362e1ca3fbdd2372560bf6b8", func := "loop.example/musicengine/laws.FnExactPitchPlace", spec := "fnExactPitchPlace", apart := false, narrowed := true }
def FnExactPitchPlaceUptoSaid : Prop := fnExactPitchPlaceUptoRow.holds Try.pinned (OpenSpec.upto fnExactPitchPlaceSpec)

/-- 'laws.FnExactPitchKey', WHERE WHAT IT READS IS OF BULK AT MOST 1048576: true; the input reads as it did. -/
def fnExactPitchKeyUptoRow : OpenClaim := { program := "ytgogpjlemaajeaa", sum := "08a7de1c21cd8d6ffe4df82cf833daf22ed4f712362e1ca3fbdd2372560bf6b8", func := "loop.example/musicengine/laws.FnExactPitchKey", spec := "fnExactPitchKey", apart := false, narrowed := true }
def FnExactPitchKeyUptoSaid : Prop := fnExactPitchKeyUptoRow.holds Try.pinned (OpenSpec.upto fnExactPitchKeySpec)

/-- 'laws.FnExactReadPitch', WHERE WHAT IT READS IS OF BULK AT MOST 1048576: true; the input reads as it did. -/
def fnExactReadPitchUptoRow : OpenClaim := { program := "ytgogpjlemaajeaa", sum := "08a7de1c21cd8d6ffe4df82cf833daf22ed4f712362e1ca3fbdd2372560bf6b8", func := "loop.example/musicengine/laws.FnExactReadPitch", spec := "fnExactReadPitch", inPlace := ["internal/bytealg.IndexByteString", "internal/bytealg.CountString", "internal/bytealg.IndexString", "internal/abi.NoEscape", "internal/bytealg.MakeNoZero"], named := ["internal/bytealg.MaxLen"], apart := false, narrowed := true }
def FnExactReadPitchUptoSaid : Prop := fnExactReadPitchUptoRow.holds Try.pinned (OpenSpec.upto fnExactReadPitchSpec)

/-- 'laws.FnExactPitchText', WHERE WHAT IT READS IS OF BULK AT MOST 1048576: true; the input reads as it did. -/
def fnExactPitchTextUptoRow : OpenClaim := { program := "ytgogpjlemaajeaa", sum := "08a7de1c21cd8d6ffe4df82cf833daf22ed4f712362e1ca3fbdd2372560bf6b8", func := "loop.example/musicengine/laws.FnExactPitchText", spec := "fnExactPitchText", inPlace := ["internal/abi.NoEscape", "internal/bytealg.MakeNoZero"], apart := false, narrowed := true }
def FnExactPitchTextUptoSaid : Prop := fnExactPitchTextUptoRow.holds Try.pinned (OpenSpec.upto fnExactPitchTextSpec)

/-- 'laws.FnExactSpellKey', WHERE WHAT IT READS IS OF BULK AT MOST 1048576: true; the input reads as it did. -/
def fnExactSpellKeyUptoRow : OpenClaim := { program := "ytgogpjlemaajeaa", sum := "08a7de1c21cd8d6ffe4df82cf833daf22ed4f712362e1ca3fbdd2372560bf6b8", func := "loop.example/musicengine/laws.FnExactSpellKey", spec := "fnExactSpellKey", apart := false, narrowed := true }
def FnExactSpellKeyUptoSaid : Prop := fnExactSpellKeyUptoRow.holds Try.pinned (OpenSpec.upto fnExactSpellKeySpec)

/-- 'laws.FnPitchText', WHERE WHAT IT READS IS OF BULK AT MOST 1048576: true; the input reads as it did. -/
def fnPitchTextUptoRow : OpenClaim := { program := "ytgogpjlemaajeaa", sum := "08a7de1c21cd8d6ffe4df82cf833daf22ed4f712362e1ca3fbdd2372560bf6b8", func := "loop.example/musicengine/laws.FnPitchText", spec := "fnPitchText", inPlace := ["internal/abi.NoEscape", "internal/bytealg.MakeNoZero", "internal/bytealg.IndexByteString", "internal/bytealg.CountString", "internal/bytealg.IndexString"], named := ["internal/bytealg.MaxLen"], apart := false, narrowed := true }
def FnPitchTextUptoSaid : Prop := fnPitchTextUptoRow.holds Try.pinned (OpenSpec.upto fnPitchTextSpec)

/-- 'laws.FnPitchValid', WHERE WHAT IT READS IS OF BULK AT MOST 1048576: true; the input reads as it did. -/
def fnPitchValidUptoRow : OpenClaim := { program := "ytgogpjlemaajeaa", sum := "08a7de1c21cd8d6ffe4df82cf833daf22ed4f712362e1ca3fbdd2372560bf6b8", func := "loop.example/musicengine/laws.FnPitchValid", spec := "fnPitchValid", apart := false, narrowed := true }
def FnPitchValidUptoSaid : Prop := fnPitchValidUptoRow.holds Try.pinned (OpenSpec.upto fnPitchValidSpec)

/-- 'laws.FnPitchPlace', WHERE WHAT IT READS IS OF BULK AT MOST 1048576: true; the input reads as it did. -/
def fnPitchPlaceUptoRow : OpenClaim := { program := "ytgogpjlemaajeaa", sum := "08a7de1c21cd8d6ffe4df82cf833daf22ed4f712362e1ca3fbdd2372560bf6b8", func := "loop.example/musicengine/laws.FnPitchPlace", spec := "fnPitchPlace", apart := false, narrowed := true }
def FnPitchPlaceUptoSaid : Prop := fnPitchPlaceUptoRow.holds Try.pinned (OpenSpec.upto fnPitchPlaceSpec)

/-- 'laws.FnPitchKey', WHERE WHAT IT READS IS OF BULK AT MOST 1048576: true; the input reads as it did. -/
def fnPitchKeyUptoRow : OpenClaim := { program := "ytgogpjlemaajeaa", sum := "08a7de1c21cd8d6ffe4df82cf833daf22ed4f712362e1ca3fbdd2372560bf6b8", func := "loop.example/musicengine/laws.FnPitchKey", spec := "fnPitchKey", apart := false, narrowed := true }
def FnPitchKeyUptoSaid : Prop := fnPitchKeyUptoRow.holds Try.pinned (OpenSpec.upto fnPitchKeySpec)

/-- 'laws.FnReadPitch', WHERE WHAT IT READS IS OF BULK AT MOST 1048576: true; the input reads as it did. -/
def fnReadPitchUptoRow : OpenClaim := { program := "ytgogpjlemaajeaa", sum := "08a7de1c21cd8d6ffe4df82cf833daf22ed4f712362e1ca3fbdd2372560bf6b8", func := "loop.example/musicengine/laws.FnReadPitch", spec := "fnReadPitch", inPlace := ["internal/bytealg.IndexByteString", "internal/bytealg.CountString", "internal/bytealg.IndexString", "internal/abi.NoEscape", "internal/bytealg.MakeNoZero"], named := ["internal/bytealg.MaxLen"], apart := false, narrowed := true }
def FnReadPitchUptoSaid : Prop := fnReadPitchUptoRow.holds Try.pinned (OpenSpec.upto fnReadPitchSpec)

/-- 'laws.FnSpellKey', WHERE WHAT IT READS IS OF BULK AT MOST 1048576: true; the input reads as it did. -/
def fnSpellKeyUptoRow : OpenClaim := { program := "ytgogpjlemaajeaa", sum := "08a7de1c21cd8d6ffe4df82cf833daf22ed4f712362e1ca3fbdd2372560bf6b8", func := "loop.example/musicengine/laws.FnSpellKey", spec := "fnSpellKey", apart := false, narrowed := true }
def FnSpellKeyUptoSaid : Prop := fnSpellKeyUptoRow.holds Try.pinned (OpenSpec.upto fnSpellKeySpec)

end Rows
end Go.Proofs.Ytgogpjlemaajeaa
