/-
  No cell of these rows narrows 'for every input' (looked for: loops, veiled, ifaces, maps, wideKeys, modest, calm, conditions, laid).
  DERIVED. THE GIVEN ROWS OF THIS SEAT. 10 by the template 'for every input the law returns true; each argument reads behind the call as it read before'; 0 by the template 'total and deterministic' (their statements: YtgbnaimkpnoeoaaTotals.lean).
  GIVEN WITH THE SEED: the statements are not yours to turn. If you find one false, say at which input.
  Laid BY PROGRAM, IN A SANDBOX (cutbox-rows.mjs): the forced cells as the released guide's own fill.sh prints them over the translation 4ea9e0128901491b… (all of the seat's roots in one cut). By AI agents, Wed Nov 11 2026. No macro, syntax, notation, axiom, sorry.
-/
import Derived.Test.YtgbnaimkpnoeoaaChecked
import GoSem.Claim
import GoSem.ClaimJoined
import GoSem.ClaimMapViews
import Derived.JoinedTies
import Derived.KernelRfl
namespace Go.Proofs.Ytgbnaimkpnoeoaa
/- THE CELL 'sum', in the pinned program and in every row, IS THE sha256 OF THE DUMP (.gsa) THAT YtgbnaimkpnoeoaaProg.lean LOADS. Nothing in Lean hashes anything: it is a label: what it is worth is what the hold of that sum in a sandbox is worth. -/
noncomputable def Try.pinned : Pinned := { name := "ytgbnaimkpnoeoaa", sum := "4ea9e0128901491b431829c491074133953039aa81d4ef3c06ed9d786f9c916d", checked := Try.checked }
namespace Rows
def none {H : Type} : Left H := { results := [], args := [] }

/-- 'laws.FnExactConstants': WHATEVER THE INPUT: true; the input reads as it did. -/
def fnExactConstantsSpec : ChangeSpec := { name := "fnExactConstants", fn := fun _ => fun
  | [] => { results := [.lit (.bool true)], args := [] }
  | _ => none }
def fnExactConstantsRow : OpenClaim := { program := "ytgbnaimkpnoeoaa", sum := "4ea9e0128901491b431829c491074133953039aa81d4ef3c06ed9d786f9c916d", func := "loop.example/musicengine/laws.FnExactConstants", spec := "fnExactConstants", apart := false }
def FnExactConstantsSaid : Prop := fnExactConstantsRow.holds Try.pinned (OpenSpec.ofChange fnExactConstantsSpec)

/-- ITS FALSE NEIGHBOUR: 'it returns false'. Refute it at one input. -/
def fnExactConstantsWrong : ChangeSpec := { name := "fnExactConstants", fn := fun _ => fun
  | [] => { results := [.lit (.bool false)], args := [] }
  | _ => none }
def FnExactConstantsWrongFalsely : Prop := fnExactConstantsRow.holds Try.pinned (OpenSpec.ofChange fnExactConstantsWrong)

/-- 'laws.FnExactValueValid': WHATEVER THE INPUT: true; the input reads as it did. -/
def fnExactValueValidSpec : ChangeSpec := { name := "fnExactValueValid", fn := fun _ => fun
  | [d] => { results := [.lit (.bool true)], args := [d] }
  | _ => none }
def fnExactValueValidRow : OpenClaim := { program := "ytgbnaimkpnoeoaa", sum := "4ea9e0128901491b431829c491074133953039aa81d4ef3c06ed9d786f9c916d", func := "loop.example/musicengine/laws.FnExactValueValid", spec := "fnExactValueValid", apart := false }
def FnExactValueValidSaid : Prop := fnExactValueValidRow.holds Try.pinned (OpenSpec.ofChange fnExactValueValidSpec)

/-- ITS FALSE NEIGHBOUR: 'it returns false'. Refute it at one input. -/
def fnExactValueValidWrong : ChangeSpec := { name := "fnExactValueValid", fn := fun _ => fun
  | [d] => { results := [.lit (.bool false)], args := [d] }
  | _ => none }
def FnExactValueValidWrongFalsely : Prop := fnExactValueValidRow.holds Try.pinned (OpenSpec.ofChange fnExactValueValidWrong)

/-- 'laws.FnExactTicksOf': WHATEVER THE INPUT: true; the input reads as it did. -/
def fnExactTicksOfSpec : ChangeSpec := { name := "fnExactTicksOf", fn := fun _ => fun
  | [d] => { results := [.lit (.bool true)], args := [d] }
  | _ => none }
def fnExactTicksOfRow : OpenClaim := { program := "ytgbnaimkpnoeoaa", sum := "4ea9e0128901491b431829c491074133953039aa81d4ef3c06ed9d786f9c916d", func := "loop.example/musicengine/laws.FnExactTicksOf", spec := "fnExactTicksOf", apart := false }
def FnExactTicksOfSaid : Prop := fnExactTicksOfRow.holds Try.pinned (OpenSpec.ofChange fnExactTicksOfSpec)

/-- ITS FALSE NEIGHBOUR: 'it returns false'. Refute it at one input. -/
def fnExactTicksOfWrong : ChangeSpec := { name := "fnExactTicksOf", fn := fun _ => fun
  | [d] => { results := [.lit (.bool false)], args := [d] }
  | _ => none }
def FnExactTicksOfWrongFalsely : Prop := fnExactTicksOfRow.holds Try.pinned (OpenSpec.ofChange fnExactTicksOfWrong)

/-- 'laws.FnExactValueOf': WHATEVER THE INPUT: true; the input reads as it did. -/
def fnExactValueOfSpec : ChangeSpec := { name := "fnExactValueOf", fn := fun _ => fun
  | [d] => { results := [.lit (.bool true)], args := [d] }
  | _ => none }
def fnExactValueOfRow : OpenClaim := { program := "ytgbnaimkpnoeoaa", sum := "4ea9e0128901491b431829c491074133953039aa81d4ef3c06ed9d786f9c916d", func := "loop.example/musicengine/laws.FnExactValueOf", spec := "fnExactValueOf", apart := false }
def FnExactValueOfSaid : Prop := fnExactValueOfRow.holds Try.pinned (OpenSpec.ofChange fnExactValueOfSpec)

/-- ITS FALSE NEIGHBOUR: 'it returns false'. Refute it at one input. -/
def fnExactValueOfWrong : ChangeSpec := { name := "fnExactValueOf", fn := fun _ => fun
  | [d] => { results := [.lit (.bool false)], args := [d] }
  | _ => none }
def FnExactValueOfWrongFalsely : Prop := fnExactValueOfRow.holds Try.pinned (OpenSpec.ofChange fnExactValueOfWrong)

/-- 'laws.FnExactTiedTicks': WHATEVER THE INPUT: true; the input reads as it did. -/
def fnExactTiedTicksSpec : ChangeSpec := { name := "fnExactTiedTicks", fn := fun _ => fun
  | [d] => { results := [.lit (.bool true)], args := [d] }
  | _ => none }
def fnExactTiedTicksRow : OpenClaim := { program := "ytgbnaimkpnoeoaa", sum := "4ea9e0128901491b431829c491074133953039aa81d4ef3c06ed9d786f9c916d", func := "loop.example/musicengine/laws.FnExactTiedTicks", spec := "fnExactTiedTicks", apart := false }
def FnExactTiedTicksSaid : Prop := fnExactTiedTicksRow.holds Try.pinned (OpenSpec.ofChange fnExactTiedTicksSpec)

/-- ITS FALSE NEIGHBOUR: 'it returns false'. Refute it at one input. -/
def fnExactTiedTicksWrong : ChangeSpec := { name := "fnExactTiedTicks", fn := fun _ => fun
  | [d] => { results := [.lit (.bool false)], args := [d] }
  | _ => none }
def FnExactTiedTicksWrongFalsely : Prop := fnExactTiedTicksRow.holds Try.pinned (OpenSpec.ofChange fnExactTiedTicksWrong)

/-- 'laws.FnValueValid': WHATEVER THE INPUT: true; the input reads as it did. -/
def fnValueValidSpec : ChangeSpec := { name := "fnValueValid", fn := fun _ => fun
  | [d] => { results := [.lit (.bool true)], args := [d] }
  | _ => none }
def fnValueValidRow : OpenClaim := { program := "ytgbnaimkpnoeoaa", sum := "4ea9e0128901491b431829c491074133953039aa81d4ef3c06ed9d786f9c916d", func := "loop.example/musicengine/laws.FnValueValid", spec := "fnValueValid", apart := false }
def FnValueValidSaid : Prop := fnValueValidRow.holds Try.pinned (OpenSpec.ofChange fnValueValidSpec)

/-- ITS FALSE NEIGHBOUR: 'it returns false'. Refute it at one input. -/
def fnValueValidWrong : ChangeSpec := { name := "fnValueValid", fn := fun _ => fun
  | [d] => { results := [.lit (.bool false)], args := [d] }
  | _ => none }
def FnValueValidWrongFalsely : Prop := fnValueValidRow.holds Try.pinned (OpenSpec.ofChange fnValueValidWrong)

/-- 'laws.FnTicksOf': WHATEVER THE INPUT: true; the input reads as it did. -/
def fnTicksOfSpec : ChangeSpec := { name := "fnTicksOf", fn := fun _ => fun
  | [d] => { results := [.lit (.bool true)], args := [d] }
  | _ => none }
def fnTicksOfRow : OpenClaim := { program := "ytgbnaimkpnoeoaa", sum := "4ea9e0128901491b431829c491074133953039aa81d4ef3c06ed9d786f9c916d", func := "loop.example/musicengine/laws.FnTicksOf", spec := "fnTicksOf", apart := false }
def FnTicksOfSaid : Prop := fnTicksOfRow.holds Try.pinned (OpenSpec.ofChange fnTicksOfSpec)

/-- ITS FALSE NEIGHBOUR: 'it returns false'. Refute it at one input. -/
def fnTicksOfWrong : ChangeSpec := { name := "fnTicksOf", fn := fun _ => fun
  | [d] => { results := [.lit (.bool false)], args := [d] }
  | _ => none }
def FnTicksOfWrongFalsely : Prop := fnTicksOfRow.holds Try.pinned (OpenSpec.ofChange fnTicksOfWrong)

/-- 'laws.FnValueOf': WHATEVER THE INPUT: true; the input reads as it did. -/
def fnValueOfSpec : ChangeSpec := { name := "fnValueOf", fn := fun _ => fun
  | [d] => { results := [.lit (.bool true)], args := [d] }
  | _ => none }
def fnValueOfRow : OpenClaim := { program := "ytgbnaimkpnoeoaa", sum := "4ea9e0128901491b431829c491074133953039aa81d4ef3c06ed9d786f9c916d", func := "loop.example/musicengine/laws.FnValueOf", spec := "fnValueOf", apart := false }
def FnValueOfSaid : Prop := fnValueOfRow.holds Try.pinned (OpenSpec.ofChange fnValueOfSpec)

/-- ITS FALSE NEIGHBOUR: 'it returns false'. Refute it at one input. -/
def fnValueOfWrong : ChangeSpec := { name := "fnValueOf", fn := fun _ => fun
  | [d] => { results := [.lit (.bool false)], args := [d] }
  | _ => none }
def FnValueOfWrongFalsely : Prop := fnValueOfRow.holds Try.pinned (OpenSpec.ofChange fnValueOfWrong)

/-- 'laws.FnTiedTicks': WHATEVER THE INPUT: true; the input reads as it did. -/
def fnTiedTicksSpec : ChangeSpec := { name := "fnTiedTicks", fn := fun _ => fun
  | [d] => { results := [.lit (.bool true)], args := [d] }
  | _ => none }
def fnTiedTicksRow : OpenClaim := { program := "ytgbnaimkpnoeoaa", sum := "4ea9e0128901491b431829c491074133953039aa81d4ef3c06ed9d786f9c916d", func := "loop.example/musicengine/laws.FnTiedTicks", spec := "fnTiedTicks", apart := false }
def FnTiedTicksSaid : Prop := fnTiedTicksRow.holds Try.pinned (OpenSpec.ofChange fnTiedTicksSpec)

/-- ITS FALSE NEIGHBOUR: 'it returns false'. Refute it at one input. -/
def fnTiedTicksWrong : ChangeSpec := { name := "fnTiedTicks", fn := fun _ => fun
  | [d] => { results := [.lit (.bool false)], args := [d] }
  | _ => none }
def FnTiedTicksWrongFalsely : Prop := fnTiedTicksRow.holds Try.pinned (OpenSpec.ofChange fnTiedTicksWrong)

/-- 'laws.FnTiedFew': WHATEVER THE INPUT: true; the input reads as it did. -/
def fnTiedFewSpec : ChangeSpec := { name := "fnTiedFew", fn := fun _ => fun
  | [d] => { results := [.lit (.bool true)], args := [d] }
  | _ => none }
def fnTiedFewRow : OpenClaim := { program := "ytgbnaimkpnoeoaa", sum := "4ea9e0128901491b431829c491074133953039aa81d4ef3c06ed9d786f9c916d", func := "loop.example/musicengine/laws.FnTiedFew", spec := "fnTiedFew", apart := false }
def FnTiedFewSaid : Prop := fnTiedFewRow.holds Try.pinned (OpenSpec.ofChange fnTiedFewSpec)

/-- ITS FALSE NEIGHBOUR: 'it returns false'. Refute it at one input. -/
def fnTiedFewWrong : ChangeSpec := { name := "fnTiedFew", fn := fun _ => fun
  | [d] => { results := [.lit (.bool false)], args := [d] }
  | _ => none }
def FnTiedFewWrongFalsely : Prop := fnTiedFewRow.holds Try.pinned (OpenSpec.ofChange fnTiedFewWrong)

/- THE SECOND FORM. 'bulk': how many values and letters a reading holds, each counted each time it is reached (what is shared counts as often as it is met; a slice's spare places count too). A statement '..UptoSaid' is the law's where the arguments, and the package variables that the reading takes, are together of bulk at most 1048576: NARROWER than '..Said'. Prove '..Said' where nothing that the law and all that it calls make is longer than what came in: it says more and counts as full. Else prove '..UptoSaid'. A law counts once. -/
mutual
def uptoBulk {H : Type} : DataW H → Nat
  | .lit (.string bytes) => bytes.length + 1
  | .lit _ => 1
  | .nil => 1
  | .ptr d => uptoBulk d + 1
  | .slice elems spare => uptoBulkAll elems + uptoBulkAll spare + 1
  | .agg parts => uptoBulkAll parts + 1
  | .iface _ d => uptoBulk d + 1
  | .map entries => uptoBulkEntries entries + 1
  | .held _ => 1
def uptoBulkAll {H : Type} : List (DataW H) → Nat
  | [] => 0
  | d :: r => uptoBulk d + uptoBulkAll r
def uptoBulkEntries {H : Type} : List (Lit × DataW H) → Nat
  | [] => 0
  | x :: r => uptoBulkEntry x + uptoBulkEntries r
def uptoBulkEntry {H : Type} : Lit × DataW H → Nat
  | (.string bytes, d) => bytes.length + uptoBulk d + 1
  | (_, d) => uptoBulk d + 1
 end
def uptoSmall : (H : Type) → List (DataW H) → Bool := fun _ ds => decide (uptoBulkAll ds ≤ 1048576)
def OpenSpec.upto (s : _root_.Go.ChangeSpec) : _root_.Go.OpenSpec := { _root_.Go.OpenSpec.ofChange s with cond := some uptoSmall }

/-- 'laws.FnExactConstants', WHERE WHAT IT READS IS OF BULK AT MOST 1048576: true; the input reads as it did. -/
def fnExactConstantsUptoRow : OpenClaim := { program := "ytgbnaimkpnoeoaa", sum := "4ea9e0128901491b431829c491074133953039aa81d4ef3c06ed9d786f9c916d", func := "loop.example/musicengine/laws.FnExactConstants", spec := "fnExactConstants", apart := false, narrowed := true }
def FnExactConstantsUptoSaid : Prop := fnExactConstantsUptoRow.holds Try.pinned (OpenSpec.upto fnExactConstantsSpec)

/-- 'laws.FnExactValueValid', WHERE WHAT IT READS IS OF BULK AT MOST 1048576: true; the input reads as it did. -/
def fnExactValueValidUptoRow : OpenClaim := { program := "ytgbnaimkpnoeoaa", sum := "4ea9e0128901491b431829c491074133953039aa81d4ef3c06ed9d786f9c916d", func := "loop.example/musicengine/laws.FnExactValueValid", spec := "fnExactValueValid", apart := false, narrowed := true }
def FnExactValueValidUptoSaid : Prop := fnExactValueValidUptoRow.holds Try.pinned (OpenSpec.upto fnExactValueValidSpec)

/-- 'laws.FnExactTicksOf', WHERE WHAT IT READS IS OF BULK AT MOST 1048576: true; the input reads as it did. -/
def fnExactTicksOfUptoRow : OpenClaim := { program := "ytgbnaimkpnoeoaa", sum := "4ea9e0128901491b431829c491074133953039aa81d4ef3c06ed9d786f9c916d", func := "loop.example/musicengine/laws.FnExactTicksOf", spec := "fnExactTicksOf", apart := false, narrowed := true }
def FnExactTicksOfUptoSaid : Prop := fnExactTicksOfUptoRow.holds Try.pinned (OpenSpec.upto fnExactTicksOfSpec)

/-- 'laws.FnExactValueOf', WHERE WHAT IT READS IS OF BULK AT MOST 1048576: true; the input reads as it did. -/
def fnExactValueOfUptoRow : OpenClaim := { program := "ytgbnaimkpnoeoaa", sum := "4ea9e0128901491b431829c491074133953039aa81d4ef3c06ed9d786f9c916d", func := "loop.example/musicengine/laws.FnExactValueOf", spec := "fnExactValueOf", apart := false, narrowed := true }
def FnExactValueOfUptoSaid : Prop := fnExactValueOfUptoRow.holds Try.pinned (OpenSpec.upto fnExactValueOfSpec)

/-- 'laws.FnExactTiedTicks', WHERE WHAT IT READS IS OF BULK AT MOST 1048576: true; the input reads as it did. -/
def fnExactTiedTicksUptoRow : OpenClaim := { program := "ytgbnaimkpnoeoaa", sum := "4ea9e0128901491b431829c491074133953039aa81d4ef3c06ed9d786f9c916d", func := "loop.example/musicengine/laws.FnExactTiedTicks", spec := "fnExactTiedTicks", apart := false, narrowed := true }
def FnExactTiedTicksUptoSaid : Prop := fnExactTiedTicksUptoRow.holds Try.pinned (OpenSpec.upto fnExactTiedTicksSpec)

/-- 'laws.FnValueValid', WHERE WHAT IT READS IS OF BULK AT MOST 1048576: true; the input reads as it did. -/
def fnValueValidUptoRow : OpenClaim := { program := "ytgbnaimkpnoeoaa", sum := "4ea9e0128901491b431829c491074133953039aa81d4ef3c06ed9d786f9c916d", func := "loop.example/musicengine/laws.FnValueValid", spec := "fnValueValid", apart := false, narrowed := true }
def FnValueValidUptoSaid : Prop := fnValueValidUptoRow.holds Try.pinned (OpenSpec.upto fnValueValidSpec)

/-- 'laws.FnTicksOf', WHERE WHAT IT READS IS OF BULK AT MOST 1048576: true; the input reads as it did. -/
def fnTicksOfUptoRow : OpenClaim := { program := "ytgbnaimkpnoeoaa", sum := "4ea9e0128901491b431829c491074133953039aa81d4ef3c06ed9d786f9c916d", func := "loop.example/musicengine/laws.FnTicksOf", spec := "fnTicksOf", apart := false, narrowed := true }
def FnTicksOfUptoSaid : Prop := fnTicksOfUptoRow.holds Try.pinned (OpenSpec.upto fnTicksOfSpec)

/-- 'laws.FnValueOf', WHERE WHAT IT READS IS OF BULK AT MOST 1048576: true; the input reads as it did. -/
def fnValueOfUptoRow : OpenClaim := { program := "ytgbnaimkpnoeoaa", sum := "4ea9e0128901491b431829c491074133953039aa81d4ef3c06ed9d786f9c916d", func := "loop.example/musicengine/laws.FnValueOf", spec := "fnValueOf", apart := false, narrowed := true }
def FnValueOfUptoSaid : Prop := fnValueOfUptoRow.holds Try.pinned (OpenSpec.upto fnValueOfSpec)

/-- 'laws.FnTiedTicks', WHERE WHAT IT READS IS OF BULK AT MOST 1048576: true; the input reads as it did. -/
def fnTiedTicksUptoRow : OpenClaim := { program := "ytgbnaimkpnoeoaa", sum := "4ea9e0128901491b431829c491074133953039aa81d4ef3c06ed9d786f9c916d", func := "loop.example/musicengine/laws.FnTiedTicks", spec := "fnTiedTicks", apart := false, narrowed := true }
def FnTiedTicksUptoSaid : Prop := fnTiedTicksUptoRow.holds Try.pinned (OpenSpec.upto fnTiedTicksSpec)

/-- 'laws.FnTiedFew', WHERE WHAT IT READS IS OF BULK AT MOST 1048576: true; the input reads as it did. -/
def fnTiedFewUptoRow : OpenClaim := { program := "ytgbnaimkpnoeoaa", sum := "4ea9e0128901491b431829c491074133953039aa81d4ef3c06ed9d786f9c916d", func := "loop.example/musicengine/laws.FnTiedFew", spec := "fnTiedFew", apart := false, narrowed := true }
def FnTiedFewUptoSaid : Prop := fnTiedFewUptoRow.holds Try.pinned (OpenSpec.upto fnTiedFewSpec)

end Rows
end Go.Proofs.Ytgbnaimkpnoeoaa
