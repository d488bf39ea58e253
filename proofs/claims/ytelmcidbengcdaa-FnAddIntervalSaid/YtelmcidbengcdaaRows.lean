/-
  No cell of these rows narrows 'for every input' (looked for: loops, veiled, ifaces, maps, wideKeys, modest, calm, conditions, laid).
  DERIVED. THE GIVEN ROWS OF THIS SEAT. 12 by the template 'for every input the law returns true; each argument reads behind the call as it read before'; 0 by the template 'total and deterministic' (their statements: YtelmcidbengcdaaTotals.lean).
  GIVEN WITH THE SEED: the statements are not yours to turn. If you find one false, say at which input.
  Laid BY PROGRAM, IN A SANDBOX (cutbox-rows.mjs): the forced cells as the released guide's own fill.sh prints them over the translation aa1009141cf5d2c5… (all of the seat's roots in one cut). By AI agents, Wed Nov 11 2026. No macro, syntax, notation, axiom, sorry.
-/
import Derived.Test.YtelmcidbengcdaaChecked
import GoSem.Claim
import GoSem.ClaimJoined
import GoSem.ClaimMapViews
import Derived.JoinedTies
import Derived.KernelRfl
namespace Go.Proofs.Ytelmcidbengcdaa
/- THE CELL 'sum', in the pinned program and in every row, IS THE sha256 OF THE DUMP (.gsa) THAT YtelmcidbengcdaaProg.lean LOADS. Nothing in Lean hashes anything: it is a label: what it is worth is what the hold of that sum in a sandbox is worth. -/
noncomputable def Try.pinned : Pinned := { name := "ytelmcidbengcdaa", sum := "aa1009141cf5d2c500d5fd160b5afaab6cdc00e2ec41d705b09ff108c033299c", checked := Try.checked }
namespace Rows
def none {H : Type} : Left H := { results := [], args := [] }

/-- 'laws.FnExactIntervalValid': WHATEVER THE INPUT: true; the input reads as it did. -/
def fnExactIntervalValidSpec : ChangeSpec := { name := "fnExactIntervalValid", fn := fun _ => fun
  | [d] => { results := [.lit (.bool true)], args := [d] }
  | _ => none }
def fnExactIntervalValidRow : OpenClaim := { program := "ytelmcidbengcdaa", sum := "aa1009141cf5d2c500d5fd160b5afaab6cdc00e2ec41d705b09ff108c033299c", func := "loop.example/musicengine/laws.FnExactIntervalValid", spec := "fnExactIntervalValid", apart := false }
def FnExactIntervalValidSaid : Prop := fnExactIntervalValidRow.holds Try.pinned (OpenSpec.ofChange fnExactIntervalValidSpec)

/-- ITS FALSE NEIGHBOUR: 'it returns false'. Refute it at one input. -/
def fnExactIntervalValidWrong : ChangeSpec := { name := "fnExactIntervalValid", fn := fun _ => fun
  | [d] => { results := [.lit (.bool false)], args := [d] }
  | _ => none }
def FnExactIntervalValidWrongFalsely : Prop := fnExactIntervalValidRow.holds Try.pinned (OpenSpec.ofChange fnExactIntervalValidWrong)

/-- 'laws.FnExactIntervalQuality': WHATEVER THE INPUT: true; the input reads as it did. -/
def fnExactIntervalQualitySpec : ChangeSpec := { name := "fnExactIntervalQuality", fn := fun _ => fun
  | [d] => { results := [.lit (.bool true)], args := [d] }
  | _ => none }
def fnExactIntervalQualityRow : OpenClaim := { program := "ytelmcidbengcdaa", sum := "aa1009141cf5d2c500d5fd160b5afaab6cdc00e2ec41d705b09ff108c033299c", func := "loop.example/musicengine/laws.FnExactIntervalQuality", spec := "fnExactIntervalQuality", apart := false }
def FnExactIntervalQualitySaid : Prop := fnExactIntervalQualityRow.holds Try.pinned (OpenSpec.ofChange fnExactIntervalQualitySpec)

/-- ITS FALSE NEIGHBOUR: 'it returns false'. Refute it at one input. -/
def fnExactIntervalQualityWrong : ChangeSpec := { name := "fnExactIntervalQuality", fn := fun _ => fun
  | [d] => { results := [.lit (.bool false)], args := [d] }
  | _ => none }
def FnExactIntervalQualityWrongFalsely : Prop := fnExactIntervalQualityRow.holds Try.pinned (OpenSpec.ofChange fnExactIntervalQualityWrong)

/-- 'laws.FnExactIntervalBack': WHATEVER THE INPUT: true; the input reads as it did. -/
def fnExactIntervalBackSpec : ChangeSpec := { name := "fnExactIntervalBack", fn := fun _ => fun
  | [d] => { results := [.lit (.bool true)], args := [d] }
  | _ => none }
def fnExactIntervalBackRow : OpenClaim := { program := "ytelmcidbengcdaa", sum := "aa1009141cf5d2c500d5fd160b5afaab6cdc00e2ec41d705b09ff108c033299c", func := "loop.example/musicengine/laws.FnExactIntervalBack", spec := "fnExactIntervalBack", apart := false }
def FnExactIntervalBackSaid : Prop := fnExactIntervalBackRow.holds Try.pinned (OpenSpec.ofChange fnExactIntervalBackSpec)

/-- ITS FALSE NEIGHBOUR: 'it returns false'. Refute it at one input. -/
def fnExactIntervalBackWrong : ChangeSpec := { name := "fnExactIntervalBack", fn := fun _ => fun
  | [d] => { results := [.lit (.bool false)], args := [d] }
  | _ => none }
def FnExactIntervalBackWrongFalsely : Prop := fnExactIntervalBackRow.holds Try.pinned (OpenSpec.ofChange fnExactIntervalBackWrong)

/-- 'laws.FnExactIntervalRest': WHATEVER THE INPUT: true; the input reads as it did. -/
def fnExactIntervalRestSpec : ChangeSpec := { name := "fnExactIntervalRest", fn := fun _ => fun
  | [d] => { results := [.lit (.bool true)], args := [d] }
  | _ => none }
def fnExactIntervalRestRow : OpenClaim := { program := "ytelmcidbengcdaa", sum := "aa1009141cf5d2c500d5fd160b5afaab6cdc00e2ec41d705b09ff108c033299c", func := "loop.example/musicengine/laws.FnExactIntervalRest", spec := "fnExactIntervalRest", apart := false }
def FnExactIntervalRestSaid : Prop := fnExactIntervalRestRow.holds Try.pinned (OpenSpec.ofChange fnExactIntervalRestSpec)

/-- ITS FALSE NEIGHBOUR: 'it returns false'. Refute it at one input. -/
def fnExactIntervalRestWrong : ChangeSpec := { name := "fnExactIntervalRest", fn := fun _ => fun
  | [d] => { results := [.lit (.bool false)], args := [d] }
  | _ => none }
def FnExactIntervalRestWrongFalsely : Prop := fnExactIntervalRestRow.holds Try.pinned (OpenSpec.ofChange fnExactIntervalRestWrong)

/-- 'laws.FnExactIntervalOf': WHATEVER THE INPUT: true; the input reads as it did. -/
def fnExactIntervalOfSpec : ChangeSpec := { name := "fnExactIntervalOf", fn := fun _ => fun
  | [d1, d2] => { results := [.lit (.bool true)], args := [d1, d2] }
  | _ => none }
def fnExactIntervalOfRow : OpenClaim := { program := "ytelmcidbengcdaa", sum := "aa1009141cf5d2c500d5fd160b5afaab6cdc00e2ec41d705b09ff108c033299c", func := "loop.example/musicengine/laws.FnExactIntervalOf", spec := "fnExactIntervalOf", apart := false }
def FnExactIntervalOfSaid : Prop := fnExactIntervalOfRow.holds Try.pinned (OpenSpec.ofChange fnExactIntervalOfSpec)

/-- ITS FALSE NEIGHBOUR: 'it returns false'. Refute it at one input. -/
def fnExactIntervalOfWrong : ChangeSpec := { name := "fnExactIntervalOf", fn := fun _ => fun
  | [d1, d2] => { results := [.lit (.bool false)], args := [d1, d2] }
  | _ => none }
def FnExactIntervalOfWrongFalsely : Prop := fnExactIntervalOfRow.holds Try.pinned (OpenSpec.ofChange fnExactIntervalOfWrong)

/-- 'laws.FnExactAddInterval': WHATEVER THE INPUT: true; the input reads as it did. -/
def fnExactAddIntervalSpec : ChangeSpec := { name := "fnExactAddInterval", fn := fun _ => fun
  | [d1, d2] => { results := [.lit (.bool true)], args := [d1, d2] }
  | _ => none }
def fnExactAddIntervalRow : OpenClaim := { program := "ytelmcidbengcdaa", sum := "aa1009141cf5d2c500d5fd160b5afaab6cdc00e2ec41d705b09ff108c033299c", func := "loop.example/musicengine/laws.FnExactAddInterval", spec := "fnExactAddInterval", apart := false }
def FnExactAddIntervalSaid : Prop := fnExactAddIntervalRow.holds Try.pinned (OpenSpec.ofChange fnExactAddIntervalSpec)

/-- ITS FALSE NEIGHBOUR: 'it returns false'. Refute it at one input. -/
def fnExactAddIntervalWrong : ChangeSpec := { name := "fnExactAddInterval", fn := fun _ => fun
  | [d1, d2] => { results := [.lit (.bool false)], args := [d1, d2] }
  | _ => none }
def FnExactAddIntervalWrongFalsely : Prop := fnExactAddIntervalRow.holds Try.pinned (OpenSpec.ofChange fnExactAddIntervalWrong)

/-- 'laws.FnIntervalValid': WHATEVER THE INPUT: true; the input reads as it did. -/
def fnIntervalValidSpec : ChangeSpec := { name := "fnIntervalValid", fn := fun _ => fun
  | [d] => { results := [.lit (.bool true)], args := [d] }
  | _ => none }
def fnIntervalValidRow : OpenClaim := { program := "ytelmcidbengcdaa", sum := "aa1009141cf5d2c500d5fd160b5afaab6cdc00e2ec41d705b09ff108c033299c", func := "loop.example/musicengine/laws.FnIntervalValid", spec := "fnIntervalValid", apart := false }
def FnIntervalValidSaid : Prop := fnIntervalValidRow.holds Try.pinned (OpenSpec.ofChange fnIntervalValidSpec)

/-- ITS FALSE NEIGHBOUR: 'it returns false'. Refute it at one input. -/
def fnIntervalValidWrong : ChangeSpec := { name := "fnIntervalValid", fn := fun _ => fun
  | [d] => { results := [.lit (.bool false)], args := [d] }
  | _ => none }
def FnIntervalValidWrongFalsely : Prop := fnIntervalValidRow.holds Try.pinned (OpenSpec.ofChange fnIntervalValidWrong)

/-- 'laws.FnIntervalQuality': WHATEVER THE INPUT: true; the input reads as it did. -/
def fnIntervalQualitySpec : ChangeSpec := { name := "fnIntervalQuality", fn := fun _ => fun
  | [d] => { results := [.lit (.bool true)], args := [d] }
  | _ => none }
def fnIntervalQualityRow : OpenClaim := { program := "ytelmcidbengcdaa", sum := "aa1009141cf5d2c500d5fd160b5afaab6cdc00e2ec41d705b09ff108c033299c", func := "loop.example/musicengine/laws.FnIntervalQuality", spec := "fnIntervalQuality", apart := false }
def FnIntervalQualitySaid : Prop := fnIntervalQualityRow.holds Try.pinned (OpenSpec.ofChange fnIntervalQualitySpec)

/-- ITS FALSE NEIGHBOUR: 'it returns false'. Refute it at one input. -/
def fnIntervalQualityWrong : ChangeSpec := { name := "fnIntervalQuality", fn := fun _ => fun
  | [d] => { results := [.lit (.bool false)], args := [d] }
  | _ => none }
def FnIntervalQualityWrongFalsely : Prop := fnIntervalQualityRow.holds Try.pinned (OpenSpec.ofChange fnIntervalQualityWrong)

/-- 'laws.FnIntervalBack': WHATEVER THE INPUT: true; the input reads as it did. -/
def fnIntervalBackSpec : ChangeSpec := { name := "fnIntervalBack", fn := fun _ => fun
  | [d] => { results := [.lit (.bool true)], args := [d] }
  | _ => none }
def fnIntervalBackRow : OpenClaim := { program := "ytelmcidbengcdaa", sum := "aa1009141cf5d2c500d5fd160b5afaab6cdc00e2ec41d705b09ff108c033299c", func := "loop.example/musicengine/laws.FnIntervalBack", spec := "fnIntervalBack", apart := false }
def FnIntervalBackSaid : Prop := fnIntervalBackRow.holds Try.pinned (OpenSpec.ofChange fnIntervalBackSpec)

/-- ITS FALSE NEIGHBOUR: 'it returns false'. Refute it at one input. -/
def fnIntervalBackWrong : ChangeSpec := { name := "fnIntervalBack", fn := fun _ => fun
  | [d] => { results := [.lit (.bool false)], args := [d] }
  | _ => none }
def FnIntervalBackWrongFalsely : Prop := fnIntervalBackRow.holds Try.pinned (OpenSpec.ofChange fnIntervalBackWrong)

/-- 'laws.FnIntervalRest': WHATEVER THE INPUT: true; the input reads as it did. -/
def fnIntervalRestSpec : ChangeSpec := { name := "fnIntervalRest", fn := fun _ => fun
  | [d] => { results := [.lit (.bool true)], args := [d] }
  | _ => none }
def fnIntervalRestRow : OpenClaim := { program := "ytelmcidbengcdaa", sum := "aa1009141cf5d2c500d5fd160b5afaab6cdc00e2ec41d705b09ff108c033299c", func := "loop.example/musicengine/laws.FnIntervalRest", spec := "fnIntervalRest", apart := false }
def FnIntervalRestSaid : Prop := fnIntervalRestRow.holds Try.pinned (OpenSpec.ofChange fnIntervalRestSpec)

/-- ITS FALSE NEIGHBOUR: 'it returns false'. Refute it at one input. -/
def fnIntervalRestWrong : ChangeSpec := { name := "fnIntervalRest", fn := fun _ => fun
  | [d] => { results := [.lit (.bool false)], args := [d] }
  | _ => none }
def FnIntervalRestWrongFalsely : Prop := fnIntervalRestRow.holds Try.pinned (OpenSpec.ofChange fnIntervalRestWrong)

/-- 'laws.FnIntervalOf': WHATEVER THE INPUT: true; the input reads as it did. -/
def fnIntervalOfSpec : ChangeSpec := { name := "fnIntervalOf", fn := fun _ => fun
  | [d] => { results := [.lit (.bool true)], args := [d] }
  | _ => none }
def fnIntervalOfRow : OpenClaim := { program := "ytelmcidbengcdaa", sum := "aa1009141cf5d2c500d5fd160b5afaab6cdc00e2ec41d705b09ff108c033299c", func := "loop.example/musicengine/laws.FnIntervalOf", spec := "fnIntervalOf", apart := false }
def FnIntervalOfSaid : Prop := fnIntervalOfRow.holds Try.pinned (OpenSpec.ofChange fnIntervalOfSpec)

/-- ITS FALSE NEIGHBOUR: 'it returns false'. Refute it at one input. -/
def fnIntervalOfWrong : ChangeSpec := { name := "fnIntervalOf", fn := fun _ => fun
  | [d] => { results := [.lit (.bool false)], args := [d] }
  | _ => none }
def FnIntervalOfWrongFalsely : Prop := fnIntervalOfRow.holds Try.pinned (OpenSpec.ofChange fnIntervalOfWrong)

/-- 'laws.FnAddInterval': WHATEVER THE INPUT: true; the input reads as it did. -/
def fnAddIntervalSpec : ChangeSpec := { name := "fnAddInterval", fn := fun _ => fun
  | [d] => { results := [.lit (.bool true)], args := [d] }
  | _ => none }
def fnAddIntervalRow : OpenClaim := { program := "ytelmcidbengcdaa", sum := "aa1009141cf5d2c500d5fd160b5afaab6cdc00e2ec41d705b09ff108c033299c", func := "loop.example/musicengine/laws.FnAddInterval", spec := "fnAddInterval", apart := false }
def FnAddIntervalSaid : Prop := fnAddIntervalRow.holds Try.pinned (OpenSpec.ofChange fnAddIntervalSpec)

/-- ITS FALSE NEIGHBOUR: 'it returns false'. Refute it at one input. -/
def fnAddIntervalWrong : ChangeSpec := { name := "fnAddInterval", fn := fun _ => fun
  | [d] => { results := [.lit (.bool false)], args := [d] }
  | _ => none }
def FnAddIntervalWrongFalsely : Prop := fnAddIntervalRow.holds Try.pinned (OpenSpec.ofChange fnAddIntervalWrong)

/- THE SECOND FORM. 'bulk': how many values and letters a reading holds, each counted each time it is reached (what is shared counts as often as it is met; a slice's spare places count too). A statement '..UptoSaid' is the law's where the arguments, and the package variables that the reading takes, are together of bulk at most 1048576: NARROWER than '..Said'. Prove '..Said' where nothing that the law and all that it calls make is longer than what came in: it says more and counts as full. Else prove '..UptoSaid'. A law counts once. -/
mutual
def uptoBulk {H : Type} : DataW H → Nat
  | .lit (.string bytes) => bytes.length + 1
  | .lit _ => 1
  | .nil => 1
  | .ptr d => uptoBulk d + 1
  | .slice elems spare => uptoBulkAll elems + uptoBulkAll spare + 1
  | .agg parts => uptoBulkAll parts + 1
  | .iface _ d => uptoBulk d + 1
  | .map entries => uptoBulkEntries entries + 1
  | .held _ => 1
def uptoBulkAll {H : Type} : List (DataW H) → Nat
  | [] => 0
  | d :: r => uptoBulk d + uptoBulkAll r
def uptoBulkEntries {H : Type} : List (Lit × DataW H) → Nat
  | [] => 0
  | x :: r => uptoBulkEntry x + uptoBulkEntries r
def uptoBulkEntry {H : Type} : Lit × DataW H → Nat
  | (.string bytes, d) => bytes.length + uptoBulk d + 1
  | (_, d) => uptoBulk d + 1
 end
def uptoSmall : (H : Type) → List (DataW H) → Bool := fun _ ds => decide (uptoBulkAll ds ≤ 1048576)
def OpenSpec.upto (s : _root_.Go.ChangeSpec) : _root_.Go.OpenSpec := { _root_.Go.OpenSpec.ofChange s with cond := some uptoSmall }

/-- 'laws.FnExactIntervalValid', WHERE WHAT IT READS IS OF BULK AT MOST 1048576: true; the input reads as it did. -/
def fnExactIntervalValidUptoRow : OpenClaim := { program := "ytelmcidbengcdaa", sum := "aa1009141cf5d2c500d5fd160b5afaab6cdc00e2ec41d705b09ff108c033299c", func := "loop.example/musicengine/laws.FnExactIntervalValid", spec := "fnExactIntervalValid", apart := false, narrowed := true }
def FnExactIntervalValidUptoSaid : Prop := fnExactIntervalValidUptoRow.holds Try.pinned (OpenSpec.upto fnExactIntervalValidSpec)

/-- 'laws.FnExactIntervalQuality', WHERE WHAT IT READS IS OF BULK AT MOST 1048576: true; the input reads as it did. -/
def fnExactIntervalQualityUptoRow : OpenClaim := { program := "ytelmcidbengcdaa", sum := "aa1009141cf5d2c500d5fd160b5afaab6cdc00e2ec41d705b09ff108c033299c", func := "loop.example/musicengine/laws.FnExactIntervalQuality", spec := "fnExactIntervalQuality", apart := false, narrowed := true }
def FnExactIntervalQualityUptoSaid : Prop := fnExactIntervalQualityUptoRow.holds Try.pinned (OpenSpec.upto fnExactIntervalQualitySpec)

/-- 'laws.FnExactIntervalBack', WHERE WHAT IT READS IS OF BULK AT MOST 1048576: true; the input reads as it did. -/
def fnExactIntervalBackUptoRow : OpenClaim := { program := "ytelmcidbengcdaa", sum := "aa1009141cf5d2c500d5fd160b5afaab6cdc00e2ec41d705b09ff108c033299c", func := "loop.example/musicengine/laws.FnExactIntervalBack", spec := "fnExactIntervalBack", apart := false, narrowed := true }
def FnExactIntervalBackUptoSaid : Prop := fnExactIntervalBackUptoRow.holds Try.pinned (OpenSpec.upto fnExactIntervalBackSpec)

/-- 'laws.FnExactIntervalRest', WHERE WHAT IT READS IS OF BULK AT MOST 1048576: true; the input reads as it did. -/
def fnExactIntervalRestUptoRow : OpenClaim := { program := "ytelmcidbengcdaa", sum := "aa1009141cf5d2c500d5fd160b5afaab6cdc00e2ec41d705b09ff108c033299c", func := "loop.example/musicengine/laws.FnExactIntervalRest", spec := "fnExactIntervalRest", apart := false, narrowed := true }
def FnExactIntervalRestUptoSaid : Prop := fnExactIntervalRestUptoRow.holds Try.pinned (OpenSpec.upto fnExactIntervalRestSpec)

/-- 'laws.FnExactIntervalOf', WHERE WHAT IT READS IS OF BULK AT MOST 1048576: true; the input reads as it did. -/
def fnExactIntervalOfUptoRow : OpenClaim := { program := "ytelmcidbengcdaa", sum := "aa1009141cf5d2c500d5fd160b5afaab6cdc00e2ec41d705b09ff108c033299c", func := "loop.example/musicengine/laws.FnExactIntervalOf", spec := "fnExactIntervalOf", apart := false, narrowed := true }
def FnExactIntervalOfUptoSaid : Prop := fnExactIntervalOfUptoRow.holds Try.pinned (OpenSpec.upto fnExactIntervalOfSpec)

/-- 'laws.FnExactAddInterval', WHERE WHAT IT READS IS OF BULK AT MOST 1048576: true; the input reads as it did. -/
def fnExactAddIntervalUptoRow : OpenClaim := { program := "ytelmcidbengcdaa", sum := "aa1009141cf5d2c500d5fd160b5afaab6cdc00e2ec41d705b09ff108c033299c", func := "loop.example/musicengine/laws.FnExactAddInterval", spec := "fnExactAddInterval", apart := false, narrowed := true }
def FnExactAddIntervalUptoSaid : Prop := fnExactAddIntervalUptoRow.holds Try.pinned (OpenSpec.upto fnExactAddIntervalSpec)

/-- 'laws.FnIntervalValid', WHERE WHAT IT READS IS OF BULK AT MOST 1048576: true; the input reads as it did. -/
def fnIntervalValidUptoRow : OpenClaim := { program := "ytelmcidbengcdaa", sum := "aa1009141cf5d2c500d5fd160b5afaab6cdc00e2ec41d705b09ff108c033299c", func := "loop.example/musicengine/laws.FnIntervalValid", spec := "fnIntervalValid", apart := false, narrowed := true }
def FnIntervalValidUptoSaid : Prop := fnIntervalValidUptoRow.holds Try.pinned (OpenSpec.upto fnIntervalValidSpec)

/-- 'laws.FnIntervalQuality', WHERE WHAT IT READS IS OF BULK AT MOST 1048576: true; the input reads as it did. -/
def fnIntervalQualityUptoRow : OpenClaim := { program := "ytelmcidbengcdaa", sum := "aa1009141cf5d2c500d5fd160b5afaab6cdc00e2ec41d705b09ff108c033299c", func := "loop.example/musicengine/laws.FnIntervalQuality", spec := "fnIntervalQuality", apart := false, narrowed := true }
def FnIntervalQualityUptoSaid : Prop := fnIntervalQualityUptoRow.holds Try.pinned (OpenSpec.upto fnIntervalQualitySpec)

/-- 'laws.FnIntervalBack', WHERE WHAT IT READS IS OF BULK AT MOST 1048576: true; the input reads as it did. -/
def fnIntervalBackUptoRow : OpenClaim := { program := "ytelmcidbengcdaa", sum := "aa1009141cf5d2c500d5fd160b5afaab6cdc00e2ec41d705b09ff108c033299c", func := "loop.example/musicengine/laws.FnIntervalBack", spec := "fnIntervalBack", apart := false, narrowed := true }
def FnIntervalBackUptoSaid : Prop := fnIntervalBackUptoRow.holds Try.pinned (OpenSpec.upto fnIntervalBackSpec)

/-- 'laws.FnIntervalRest', WHERE WHAT IT READS IS OF BULK AT MOST 1048576: true; the input reads as it did. -/
def fnIntervalRestUptoRow : OpenClaim := { program := "ytelmcidbengcdaa", sum := "aa1009141cf5d2c500d5fd160b5afaab6cdc00e2ec41d705b09ff108c033299c", func := "loop.example/musicengine/laws.FnIntervalRest", spec := "fnIntervalRest", apart := false, narrowed := true }
def FnIntervalRestUptoSaid : Prop := fnIntervalRestUptoRow.holds Try.pinned (OpenSpec.upto fnIntervalRestSpec)

/-- 'laws.FnIntervalOf', WHERE WHAT IT READS IS OF BULK AT MOST 1048576: true; the input reads as it did. -/
def fnIntervalOfUptoRow : OpenClaim := { program := "ytelmcidbengcdaa", sum := "aa1009141cf5d2c500d5fd160b5afaab6cdc00e2ec41d705b09ff108c033299c", func := "loop.example/musicengine/laws.FnIntervalOf", spec := "fnIntervalOf", apart := false, narrowed := true }
def FnIntervalOfUptoSaid : Prop := fnIntervalOfUptoRow.holds Try.pinned (OpenSpec.upto fnIntervalOfSpec)

/-- 'laws.FnAddInterval', WHERE WHAT IT READS IS OF BULK AT MOST 1048576: true; the input reads as it did. -/
def fnAddIntervalUptoRow : OpenClaim := { program := "ytelmcidbengcdaa", sum := "aa1009141cf5d2c500d5fd160b5afaab6cdc00e2ec41d705b09ff108c033299c", func := "loop.example/musicengine/laws.FnAddInterval", spec := "fnAddInterval", apart := false, narrowed := true }
def FnAddIntervalUptoSaid : Prop := fnAddIntervalUptoRow.holds Try.pinned (OpenSpec.upto fnAddIntervalSpec)

end Rows
end Go.Proofs.Ytelmcidbengcdaa
