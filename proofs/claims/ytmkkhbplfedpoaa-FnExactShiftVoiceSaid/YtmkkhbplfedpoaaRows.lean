/-
  No cell of these rows narrows 'for every input' (looked for: loops, veiled, ifaces, maps, wideKeys, modest, calm, conditions, laid).
  DERIVED. THE GIVEN ROWS OF THIS SEAT. 14 by the template 'for every input the law returns true; each argument reads behind the call as it read before'; 0 by the template 'total and deterministic' (their statements: YtmkkhbplfedpoaaTotals.lean).
  GIVEN WITH THE SEED: the statements are not yours to turn. If you find one false, say at which input.
  Laid BY PROGRAM, IN A SANDBOX (cutbox-rows.mjs): the forced cells as the released guide's own fill.sh prints them over the translation 67d56bf573f74f7f… (all of the seat's roots in one cut). By AI agents, Wed Nov 11 2026. No macro, syntax, notation, axiom, sorry.
-/
import Derived.Test.YtmkkhbplfedpoaaChecked
import GoSem.Claim
import GoSem.ClaimJoined
import GoSem.ClaimMapViews
import Derived.JoinedTies
import Derived.KernelRfl
namespace Go.Proofs.Ytmkkhbplfedpoaa
/- THE CELL 'sum', in the pinned program and in every row, IS THE sha256 OF THE DUMP (.gsa) THAT YtmkkhbplfedpoaaProg.lean LOADS. Nothing in Lean hashes anything: it is a label: what it is worth is what the hold of that sum in a sandbox is worth. -/
noncomputable def Try.pinned : Pinned := { name := "ytmkkhbplfedpoaa", sum := "67d56bf573f74f7f5702e9588b69408d57bf004c838fbeee487157ae4eba7280", checked := Try.checked }
namespace Rows
def none {H : Type} : Left H := { results := [], args := [] }

/-- 'laws.FnExactNoteValid': WHATEVER THE INPUT: true; the input reads as it did. -/
def fnExactNoteValidSpec : ChangeSpec := { name := "fnExactNoteValid", fn := fun _ => fun
  | [d] => { results := [.lit (.bool true)], args := [d] }
  | _ => none }
def fnExactNoteValidRow : OpenClaim := { program := "ytmkkhbplfedpoaa", sum := "67d56bf573f74f7f5702e9588b69408d57bf004c838fbeee487157ae4eba7280", func := "loop.example/musicengine/laws.FnExactNoteValid", spec := "fnExactNoteValid", apart := false }
def FnExactNoteValidSaid : Prop := fnExactNoteValidRow.holds Try.pinned (OpenSpec.ofChange fnExactNoteValidSpec)

/-- ITS FALSE NEIGHBOUR: 'it returns false'. Refute it at one input. -/
def fnExactNoteValidWrong : ChangeSpec := { name := "fnExactNoteValid", fn := fun _ => fun
  | [d] => { results := [.lit (.bool false)], args := [d] }
  | _ => none }
def FnExactNoteValidWrongFalsely : Prop := fnExactNoteValidRow.holds Try.pinned (OpenSpec.ofChange fnExactNoteValidWrong)

/-- 'laws.FnExactVoiceValid': WHATEVER THE INPUT: true; the input reads as it did. -/
def fnExactVoiceValidSpec : ChangeSpec := { name := "fnExactVoiceValid", fn := fun _ => fun
  | [d] => { results := [.lit (.bool true)], args := [d] }
  | _ => none }
def fnExactVoiceValidRow : OpenClaim := { program := "ytmkkhbplfedpoaa", sum := "67d56bf573f74f7f5702e9588b69408d57bf004c838fbeee487157ae4eba7280", func := "loop.example/musicengine/laws.FnExactVoiceValid", spec := "fnExactVoiceValid", apart := false }
def FnExactVoiceValidSaid : Prop := fnExactVoiceValidRow.holds Try.pinned (OpenSpec.ofChange fnExactVoiceValidSpec)

/-- ITS FALSE NEIGHBOUR: 'it returns false'. Refute it at one input. -/
def fnExactVoiceValidWrong : ChangeSpec := { name := "fnExactVoiceValid", fn := fun _ => fun
  | [d] => { results := [.lit (.bool false)], args := [d] }
  | _ => none }
def FnExactVoiceValidWrongFalsely : Prop := fnExactVoiceValidRow.holds Try.pinned (OpenSpec.ofChange fnExactVoiceValidWrong)

/-- 'laws.FnExactVoiceTicks': WHATEVER THE INPUT: true; the input reads as it did. -/
def fnExactVoiceTicksSpec : ChangeSpec := { name := "fnExactVoiceTicks", fn := fun _ => fun
  | [d] => { results := [.lit (.bool true)], args := [d] }
  | _ => none }
def fnExactVoiceTicksRow : OpenClaim := { program := "ytmkkhbplfedpoaa", sum := "67d56bf573f74f7f5702e9588b69408d57bf004c838fbeee487157ae4eba7280", func := "loop.example/musicengine/laws.FnExactVoiceTicks", spec := "fnExactVoiceTicks", apart := false }
def FnExactVoiceTicksSaid : Prop := fnExactVoiceTicksRow.holds Try.pinned (OpenSpec.ofChange fnExactVoiceTicksSpec)

/-- ITS FALSE NEIGHBOUR: 'it returns false'. Refute it at one input. -/
def fnExactVoiceTicksWrong : ChangeSpec := { name := "fnExactVoiceTicks", fn := fun _ => fun
  | [d] => { results := [.lit (.bool false)], args := [d] }
  | _ => none }
def FnExactVoiceTicksWrongFalsely : Prop := fnExactVoiceTicksRow.holds Try.pinned (OpenSpec.ofChange fnExactVoiceTicksWrong)

/-- 'laws.FnExactNoteAt': WHATEVER THE INPUT: true; the input reads as it did. -/
def fnExactNoteAtSpec : ChangeSpec := { name := "fnExactNoteAt", fn := fun _ => fun
  | [d1, d2] => { results := [.lit (.bool true)], args := [d1, d2] }
  | _ => none }
def fnExactNoteAtRow : OpenClaim := { program := "ytmkkhbplfedpoaa", sum := "67d56bf573f74f7f5702e9588b69408d57bf004c838fbeee487157ae4eba7280", func := "loop.example/musicengine/laws.FnExactNoteAt", spec := "fnExactNoteAt", apart := false }
def FnExactNoteAtSaid : Prop := fnExactNoteAtRow.holds Try.pinned (OpenSpec.ofChange fnExactNoteAtSpec)

/-- ITS FALSE NEIGHBOUR: 'it returns false'. Refute it at one input. -/
def fnExactNoteAtWrong : ChangeSpec := { name := "fnExactNoteAt", fn := fun _ => fun
  | [d1, d2] => { results := [.lit (.bool false)], args := [d1, d2] }
  | _ => none }
def FnExactNoteAtWrongFalsely : Prop := fnExactNoteAtRow.holds Try.pinned (OpenSpec.ofChange fnExactNoteAtWrong)

/-- 'laws.FnExactTurnVoice': WHATEVER THE INPUT: true; the input reads as it did. -/
def fnExactTurnVoiceSpec : ChangeSpec := { name := "fnExactTurnVoice", fn := fun _ => fun
  | [d] => { results := [.lit (.bool true)], args := [d] }
  | _ => none }
def fnExactTurnVoiceRow : OpenClaim := { program := "ytmkkhbplfedpoaa", sum := "67d56bf573f74f7f5702e9588b69408d57bf004c838fbeee487157ae4eba7280", func := "loop.example/musicengine/laws.FnExactTurnVoice", spec := "fnExactTurnVoice", apart := false }
def FnExactTurnVoiceSaid : Prop := fnExactTurnVoiceRow.holds Try.pinned (OpenSpec.ofChange fnExactTurnVoiceSpec)

/-- ITS FALSE NEIGHBOUR: 'it returns false'. Refute it at one input. -/
def fnExactTurnVoiceWrong : ChangeSpec := { name := "fnExactTurnVoice", fn := fun _ => fun
  | [d] => { results := [.lit (.bool false)], args := [d] }
  | _ => none }
def FnExactTurnVoiceWrongFalsely : Prop := fnExactTurnVoiceRow.holds Try.pinned (OpenSpec.ofChange fnExactTurnVoiceWrong)

/-- 'laws.FnExactJoinTies': WHATEVER THE INPUT: true; the input reads as it did. -/
def fnExactJoinTiesSpec : ChangeSpec := { name := "fnExactJoinTies", fn := fun _ => fun
  | [d] => { results := [.lit (.bool true)], args := [d] }
  | _ => none }
def fnExactJoinTiesRow : OpenClaim := { program := "ytmkkhbplfedpoaa", sum := "67d56bf573f74f7f5702e9588b69408d57bf004c838fbeee487157ae4eba7280", func := "loop.example/musicengine/laws.FnExactJoinTies", spec := "fnExactJoinTies", apart := false }
def FnExactJoinTiesSaid : Prop := fnExactJoinTiesRow.holds Try.pinned (OpenSpec.ofChange fnExactJoinTiesSpec)

/-- ITS FALSE NEIGHBOUR: 'it returns false'. Refute it at one input. -/
def fnExactJoinTiesWrong : ChangeSpec := { name := "fnExactJoinTies", fn := fun _ => fun
  | [d] => { results := [.lit (.bool false)], args := [d] }
  | _ => none }
def FnExactJoinTiesWrongFalsely : Prop := fnExactJoinTiesRow.holds Try.pinned (OpenSpec.ofChange fnExactJoinTiesWrong)

/-- 'laws.FnExactShiftVoice': WHATEVER THE INPUT: true; the input reads as it did. -/
def fnExactShiftVoiceSpec : ChangeSpec := { name := "fnExactShiftVoice", fn := fun _ => fun
  | [d1, d2] => { results := [.lit (.bool true)], args := [d1, d2] }
  | _ => none }
def fnExactShiftVoiceRow : OpenClaim := { program := "ytmkkhbplfedpoaa", sum := "67d56bf573f74f7f5702e9588b69408d57bf004c838fbeee487157ae4eba7280", func := "loop.example/musicengine/laws.FnExactShiftVoice", spec := "fnExactShiftVoice", apart := false }
def FnExactShiftVoiceSaid : Prop := fnExactShiftVoiceRow.holds Try.pinned (OpenSpec.ofChange fnExactShiftVoiceSpec)

/-- ITS FALSE NEIGHBOUR: 'it returns false'. Refute it at one input. -/
def fnExactShiftVoiceWrong : ChangeSpec := { name := "fnExactShiftVoice", fn := fun _ => fun
  | [d1, d2] => { results := [.lit (.bool false)], args := [d1, d2] }
  | _ => none }
def FnExactShiftVoiceWrongFalsely : Prop := fnExactShiftVoiceRow.holds Try.pinned (OpenSpec.ofChange fnExactShiftVoiceWrong)

/-- 'laws.FnNoteValid': WHATEVER THE INPUT: true; the input reads as it did. -/
def fnNoteValidSpec : ChangeSpec := { name := "fnNoteValid", fn := fun _ => fun
  | [d] => { results := [.lit (.bool true)], args := [d] }
  | _ => none }
def fnNoteValidRow : OpenClaim := { program := "ytmkkhbplfedpoaa", sum := "67d56bf573f74f7f5702e9588b69408d57bf004c838fbeee487157ae4eba7280", func := "loop.example/musicengine/laws.FnNoteValid", spec := "fnNoteValid", apart := false }
def FnNoteValidSaid : Prop := fnNoteValidRow.holds Try.pinned (OpenSpec.ofChange fnNoteValidSpec)

/-- ITS FALSE NEIGHBOUR: 'it returns false'. Refute it at one input. -/
def fnNoteValidWrong : ChangeSpec := { name := "fnNoteValid", fn := fun _ => fun
  | [d] => { results := [.lit (.bool false)], args := [d] }
  | _ => none }
def FnNoteValidWrongFalsely : Prop := fnNoteValidRow.holds Try.pinned (OpenSpec.ofChange fnNoteValidWrong)

/-- 'laws.FnVoiceValid': WHATEVER THE INPUT: true; the input reads as it did. -/
def fnVoiceValidSpec : ChangeSpec := { name := "fnVoiceValid", fn := fun _ => fun
  | [d] => { results := [.lit (.bool true)], args := [d] }
  | _ => none }
def fnVoiceValidRow : OpenClaim := { program := "ytmkkhbplfedpoaa", sum := "67d56bf573f74f7f5702e9588b69408d57bf004c838fbeee487157ae4eba7280", func := "loop.example/musicengine/laws.FnVoiceValid", spec := "fnVoiceValid", apart := false }
def FnVoiceValidSaid : Prop := fnVoiceValidRow.holds Try.pinned (OpenSpec.ofChange fnVoiceValidSpec)

/-- ITS FALSE NEIGHBOUR: 'it returns false'. Refute it at one input. -/
def fnVoiceValidWrong : ChangeSpec := { name := "fnVoiceValid", fn := fun _ => fun
  | [d] => { results := [.lit (.bool false)], args := [d] }
  | _ => none }
def FnVoiceValidWrongFalsely : Prop := fnVoiceValidRow.holds Try.pinned (OpenSpec.ofChange fnVoiceValidWrong)

/-- 'laws.FnVoiceTicks': WHATEVER THE INPUT: true; the input reads as it did. -/
def fnVoiceTicksSpec : ChangeSpec := { name := "fnVoiceTicks", fn := fun _ => fun
  | [d] => { results := [.lit (.bool true)], args := [d] }
  | _ => none }
def fnVoiceTicksRow : OpenClaim := { program := "ytmkkhbplfedpoaa", sum := "67d56bf573f74f7f5702e9588b69408d57bf004c838fbeee487157ae4eba7280", func := "loop.example/musicengine/laws.FnVoiceTicks", spec := "fnVoiceTicks", apart := false }
def FnVoiceTicksSaid : Prop := fnVoiceTicksRow.holds Try.pinned (OpenSpec.ofChange fnVoiceTicksSpec)

/-- ITS FALSE NEIGHBOUR: 'it returns false'. Refute it at one input. -/
def fnVoiceTicksWrong : ChangeSpec := { name := "fnVoiceTicks", fn := fun _ => fun
  | [d] => { results := [.lit (.bool false)], args := [d] }
  | _ => none }
def FnVoiceTicksWrongFalsely : Prop := fnVoiceTicksRow.holds Try.pinned (OpenSpec.ofChange fnVoiceTicksWrong)

/-- 'laws.FnNoteAt': WHATEVER THE INPUT: true; the input reads as it did. -/
def fnNoteAtSpec : ChangeSpec := { name := "fnNoteAt", fn := fun _ => fun
  | [d] => { results := [.lit (.bool true)], args := [d] }
  | _ => none }
def fnNoteAtRow : OpenClaim := { program := "ytmkkhbplfedpoaa", sum := "67d56bf573f74f7f5702e9588b69408d57bf004c838fbeee487157ae4eba7280", func := "loop.example/musicengine/laws.FnNoteAt", spec := "fnNoteAt", apart := false }
def FnNoteAtSaid : Prop := fnNoteAtRow.holds Try.pinned (OpenSpec.ofChange fnNoteAtSpec)

/-- ITS FALSE NEIGHBOUR: 'it returns false'. Refute it at one input. -/
def fnNoteAtWrong : ChangeSpec := { name := "fnNoteAt", fn := fun _ => fun
  | [d] => { results := [.lit (.bool false)], args := [d] }
  | _ => none }
def FnNoteAtWrongFalsely : Prop := fnNoteAtRow.holds Try.pinned (OpenSpec.ofChange fnNoteAtWrong)

/-- 'laws.FnTurnVoice': WHATEVER THE INPUT: true; the input reads as it did. -/
def fnTurnVoiceSpec : ChangeSpec := { name := "fnTurnVoice", fn := fun _ => fun
  | [d] => { results := [.lit (.bool true)], args := [d] }
  | _ => none }
def fnTurnVoiceRow : OpenClaim := { program := "ytmkkhbplfedpoaa", sum := "67d56bf573f74f7f5702e9588b69408d57bf004c838fbeee487157ae4eba7280", func := "loop.example/musicengine/laws.FnTurnVoice", spec := "fnTurnVoice", apart := false }
def FnTurnVoiceSaid : Prop := fnTurnVoiceRow.holds Try.pinned (OpenSpec.ofChange fnTurnVoiceSpec)

/-- ITS FALSE NEIGHBOUR: 'it returns false'. Refute it at one input. -/
def fnTurnVoiceWrong : ChangeSpec := { name := "fnTurnVoice", fn := fun _ => fun
  | [d] => { results := [.lit (.bool false)], args := [d] }
  | _ => none }
def FnTurnVoiceWrongFalsely : Prop := fnTurnVoiceRow.holds Try.pinned (OpenSpec.ofChange fnTurnVoiceWrong)

/-- 'laws.FnJoinTies': WHATEVER THE INPUT: true; the input reads as it did. -/
def fnJoinTiesSpec : ChangeSpec := { name := "fnJoinTies", fn := fun _ => fun
  | [d] => { results := [.lit (.bool true)], args := [d] }
  | _ => none }
def fnJoinTiesRow : OpenClaim := { program := "ytmkkhbplfedpoaa", sum := "67d56bf573f74f7f5702e9588b69408d57bf004c838fbeee487157ae4eba7280", func := "loop.example/musicengine/laws.FnJoinTies", spec := "fnJoinTies", apart := false }
def FnJoinTiesSaid : Prop := fnJoinTiesRow.holds Try.pinned (OpenSpec.ofChange fnJoinTiesSpec)

/-- ITS FALSE NEIGHBOUR: 'it returns false'. Refute it at one input. -/
def fnJoinTiesWrong : ChangeSpec := { name := "fnJoinTies", fn := fun _ => fun
  | [d] => { results := [.lit (.bool false)], args := [d] }
  | _ => none }
def FnJoinTiesWrongFalsely : Prop := fnJoinTiesRow.holds Try.pinned (OpenSpec.ofChange fnJoinTiesWrong)

/-- 'laws.FnTurnJoin': WHATEVER THE INPUT: true; the input reads as it did. -/
def fnTurnJoinSpec : ChangeSpec := { name := "fnTurnJoin", fn := fun _ => fun
  | [d] => { results := [.lit (.bool true)], args := [d] }
  | _ => none }
def fnTurnJoinRow : OpenClaim := { program := "ytmkkhbplfedpoaa", sum := "67d56bf573f74f7f5702e9588b69408d57bf004c838fbeee487157ae4eba7280", func := "loop.example/musicengine/laws.FnTurnJoin", spec := "fnTurnJoin", apart := false }
def FnTurnJoinSaid : Prop := fnTurnJoinRow.holds Try.pinned (OpenSpec.ofChange fnTurnJoinSpec)

/-- ITS FALSE NEIGHBOUR: 'it returns false'. Refute it at one input. -/
def fnTurnJoinWrong : ChangeSpec := { name := "fnTurnJoin", fn := fun _ => fun
  | [d] => { results := [.lit (.bool false)], args := [d] }
  | _ => none }
def FnTurnJoinWrongFalsely : Prop := fnTurnJoinRow.holds Try.pinned (OpenSpec.ofChange fnTurnJoinWrong)

/- THE SECOND FORM. 'bulk': how many values and letters a reading holds, each counted each time it is reached (what is shared counts as often as it is met; a slice's spare places count too). A statement '..UptoSaid' is the law's where the arguments, and the package variables that the reading takes, are together of bulk at most 1048576: NARROWER than '..Said'. Prove '..Said' where nothing that the law and all that it calls make is longer than what came in: it says more and counts as full. Else prove '..UptoSaid'. A law counts once. -/
mutual
def uptoBulk {H : Type} : DataW H → Nat
  | .lit (.string bytes) => bytes.length + 1
  | .lit _ => 1
  | .nil => 1
  | .ptr d => uptoBulk d + 1
  | .slice elems spare => uptoBulkAll elems + uptoBulkAll spare + 1
  | .agg parts => uptoBulkAll parts + 1
  | .iface _ d => uptoBulk d + 1
  | .map entries => uptoBulkEntries entries + 1
  | .held _ => 1
def uptoBulkAll {H : Type} : List (DataW H) → Nat
  | [] => 0
  | d :: r => uptoBulk d + uptoBulkAll r
def uptoBulkEntries {H : Type} : List (Lit × DataW H) → Nat
  | [] => 0
  | x :: r => uptoBulkEntry x + uptoBulkEntries r
def uptoBulkEntry {H : Type} : Lit × DataW H → Nat
  | (.string bytes, d) => bytes.length + uptoBulk d + 1
  | (_, d) => uptoBulk d + 1
 end
def uptoSmall : (H : Type) → List (DataW H) → Bool := fun _ ds => decide (uptoBulkAll ds ≤ 1048576)
def OpenSpec.upto (s : _root_.Go.ChangeSpec) : _root_.Go.OpenSpec := { _root_.Go.OpenSpec.ofChange s with cond := some uptoSmall }

/-- 'laws.FnExactNoteValid', WHERE WHAT IT READS IS OF BULK AT MOST 1048576: true; the input reads as it did. -/
def fnExactNoteValidUptoRow : OpenClaim := { program := "ytmkkhbplfedpoaa", sum := "67d56bf573f74f7f5702e9588b69408d57bf004c838fbeee487157ae4eba7280", func := "loop.example/musicengine/laws.FnExactNoteValid", spec := "fnExactNoteValid", apart := false, narrowed := true }
def FnExactNoteValidUptoSaid : Prop := fnExactNoteValidUptoRow.holds Try.pinned (OpenSpec.upto fnExactNoteValidSpec)

/-- 'laws.FnExactVoiceValid', WHERE WHAT IT READS IS OF BULK AT MOST 1048576: true; the input reads as it did. -/
def fnExactVoiceValidUptoRow : OpenClaim := { program := "ytmkkhbplfedpoaa", sum := "67d56bf573f74f7f5702e9588b69408d57bf004c838fbeee487157ae4eba7280", func := "loop.example/musicengine/laws.FnExactVoiceValid", spec := "fnExactVoiceValid", apart := false, narrowed := true }
def FnExactVoiceValidUptoSaid : Prop := fnExactVoiceValidUptoRow.holds Try.pinned (OpenSpec.upto fnExactVoiceValidSpec)

/-- 'laws.FnExactVoiceTicks', WHERE WHAT IT READS IS OF BULK AT MOST 1048576: true; the input reads as it did. -/
def fnExactVoiceTicksUptoRow : OpenClaim := { program := "ytmkkhbplfedpoaa", sum := "67d56bf573f74f7f5702e9588b69408d57bf004c838fbeee487157ae4eba7280", func := "loop.example/musicengine/laws.FnExactVoiceTicks", spec := "fnExactVoiceTicks", apart := false, narrowed := true }
def FnExactVoiceTicksUptoSaid : Prop := fnExactVoiceTicksUptoRow.holds Try.pinned (OpenSpec.upto fnExactVoiceTicksSpec)

/-- 'laws.FnExactNoteAt', WHERE WHAT IT READS IS OF BULK AT MOST 1048576: true; the input reads as it did. -/
def fnExactNoteAtUptoRow : OpenClaim := { program := "ytmkkhbplfedpoaa", sum := "67d56bf573f74f7f5702e9588b69408d57bf004c838fbeee487157ae4eba7280", func := "loop.example/musicengine/laws.FnExactNoteAt", spec := "fnExactNoteAt", apart := false, narrowed := true }
def FnExactNoteAtUptoSaid : Prop := fnExactNoteAtUptoRow.holds Try.pinned (OpenSpec.upto fnExactNoteAtSpec)

/-- 'laws.FnExactTurnVoice', WHERE WHAT IT READS IS OF BULK AT MOST 1048576: true; the input reads as it did. -/
def fnExactTurnVoiceUptoRow : OpenClaim := { program := "ytmkkhbplfedpoaa", sum := "67d56bf573f74f7f5702e9588b69408d57bf004c838fbeee487157ae4eba7280", func := "loop.example/musicengine/laws.FnExactTurnVoice", spec := "fnExactTurnVoice", apart := false, narrowed := true }
def FnExactTurnVoiceUptoSaid : Prop := fnExactTurnVoiceUptoRow.holds Try.pinned (OpenSpec.upto fnExactTurnVoiceSpec)

/-- 'laws.FnExactJoinTies', WHERE WHAT IT READS IS OF BULK AT MOST 1048576: true; the input reads as it did. -/
def fnExactJoinTiesUptoRow : OpenClaim := { program := "ytmkkhbplfedpoaa", sum := "67d56bf573f74f7f5702e9588b69408d57bf004c838fbeee487157ae4eba7280", func := "loop.example/musicengine/laws.FnExactJoinTies", spec := "fnExactJoinTies", apart := false, narrowed := true }
def FnExactJoinTiesUptoSaid : Prop := fnExactJoinTiesUptoRow.holds Try.pinned (OpenSpec.upto fnExactJoinTiesSpec)

/-- 'laws.FnExactShiftVoice', WHERE WHAT IT READS IS OF BULK AT MOST 1048576: true; the input reads as it did. -/
def fnExactShiftVoiceUptoRow : OpenClaim := { program := "ytmkkhbplfedpoaa", sum := "67d56bf573f74f7f5702e9588b69408d57bf004c838fbeee487157ae4eba7280", func := "loop.example/musicengine/laws.FnExactShiftVoice", spec := "fnExactShiftVoice", apart := false, narrowed := true }
def FnExactShiftVoiceUptoSaid : Prop := fnExactShiftVoiceUptoRow.holds Try.pinned (OpenSpec.upto fnExactShiftVoiceSpec)

/-- 'laws.FnNoteValid', WHERE WHAT IT READS IS OF BULK AT MOST 1048576: true; the input reads as it did. -/
def fnNoteValidUptoRow : OpenClaim := { program := "ytmkkhbplfedpoaa", sum := "67d56bf573f74f7f5702e9588b69408d57bf004c838fbeee487157ae4eba7280", func := "loop.example/musicengine/laws.FnNoteValid", spec := "fnNoteValid", apart := false, narrowed := true }
def FnNoteValidUptoSaid : Prop := fnNoteValidUptoRow.holds Try.pinned (OpenSpec.upto fnNoteValidSpec)

/-- 'laws.FnVoiceValid', WHERE WHAT IT READS IS OF BULK AT MOST 1048576: true; the input reads as it did. -/
def fnVoiceValidUptoRow : OpenClaim := { program := "ytmkkhbplfedpoaa", sum := "67d56bf573f74f7f5702e9588b69408d57bf004c838fbeee487157ae4eba7280", func := "loop.example/musicengine/laws.FnVoiceValid", spec := "fnVoiceValid", apart := false, narrowed := true }
def FnVoiceValidUptoSaid : Prop := fnVoiceValidUptoRow.holds Try.pinned (OpenSpec.upto fnVoiceValidSpec)

/-- 'laws.FnVoiceTicks', WHERE WHAT IT READS IS OF BULK AT MOST 1048576: true; the input reads as it did. -/
def fnVoiceTicksUptoRow : OpenClaim := { program := "ytmkkhbplfedpoaa", sum := "67d56bf573f74f7f5702e9588b69408d57bf004c838fbeee487157ae4eba7280", func := "loop.example/musicengine/laws.FnVoiceTicks", spec := "fnVoiceTicks", apart := false, narrowed := true }
def FnVoiceTicksUptoSaid : Prop := fnVoiceTicksUptoRow.holds Try.pinned (OpenSpec.upto fnVoiceTicksSpec)

/-- 'laws.FnNoteAt', WHERE WHAT IT READS IS OF BULK AT MOST 1048576: true; the input reads as it did. -/
def fnNoteAtUptoRow : OpenClaim := { program := "ytmkkhbplfedpoaa", sum := "67d56bf573f74f7f5702e9588b69408d57bf004c838fbeee487157ae4eba7280", func := "loop.example/musicengine/laws.FnNoteAt", spec := "fnNoteAt", apart := false, narrowed := true }
def FnNoteAtUptoSaid : Prop := fnNoteAtUptoRow.holds Try.pinned (OpenSpec.upto fnNoteAtSpec)

/-- 'laws.FnTurnVoice', WHERE WHAT IT READS IS OF BULK AT MOST 1048576: true; the input reads as it did. -/
def fnTurnVoiceUptoRow : OpenClaim := { program := "ytmkkhbplfedpoaa", sum := "67d56bf573f74f7f5702e9588b69408d57bf004c838fbeee487157ae4eba7280", func := "loop.example/musicengine/laws.FnTurnVoice", spec := "fnTurnVoice", apart := false, narrowed := true }
def FnTurnVoiceUptoSaid : Prop := fnTurnVoiceUptoRow.holds Try.pinned (OpenSpec.upto fnTurnVoiceSpec)

/-- 'laws.FnJoinTies', WHERE WHAT IT READS IS OF BULK AT MOST 1048576: true; the input reads as it did. -/
def fnJoinTiesUptoRow : OpenClaim := { program := "ytmkkhbplfedpoaa", sum := "67d56bf573f74f7f5702e9588b69408d57bf004c838fbeee487157ae4eba7280", func := "loop.example/musicengine/laws.FnJoinTies", spec := "fnJoinTies", apart := false, narrowed := true }
def FnJoinTiesUptoSaid : Prop := fnJoinTiesUptoRow.holds Try.pinned (OpenSpec.upto fnJoinTiesSpec)

/-- 'laws.FnTurnJoin', WHERE WHAT IT READS IS OF BULK AT MOST 1048576: true; the input reads as it did. -/
def fnTurnJoinUptoRow : OpenClaim := { program := "ytmkkhbplfedpoaa", sum := "67d56bf573f74f7f5702e9588b69408d57bf004c838fbeee487157ae4eba7280", func := "loop.example/musicengine/laws.FnTurnJoin", spec := "fnTurnJoin", apart := false, narrowed := true }
def FnTurnJoinUptoSaid : Prop := fnTurnJoinUptoRow.holds Try.pinned (OpenSpec.upto fnTurnJoinSpec)

end Rows
end Go.Proofs.Ytmkkhbplfedpoaa
