/- The walk of the program's reader of texts of pitches: it returns the pitch that the bytes spell, if its text is the string. Conditions: the string has two to four bytes; what the bytes spell is named. -/
import Derived.Test.YtgogpjlemaajeaaRq
import Derived.Test.YtgogpjlemaajeaaIv
import Derived.Deep.DeepCutAuto
namespace Go.Proofs.Ytgogpjlemaajeaa
open Go.RowKit

/-- What a reader returns: the pitch and yes, or nothing and no. -/
def rdV (b : Bool) (i a o : Int) : Value := .tuple #[.agg #[.int .i64 (rX b i), .int .i64 (rX b a), .int .i64 (rX b o)], .bool b]
/-- The frame of the drawn statement: the slots of what has come up hold their values. -/
def RF (x sg : ByteArray) (s8 s12 s13 : Value) (B : Nat) (c0 i n1 n2 a cl cv o : Int) (D : Nat → Bool) (g : Nat) : Act := ⟨#[.string x, undef, .pointer (some ⟨B, 0, none⟩), .bool false, .string sg, sl D 16 (.pointer (some ⟨g, 0, none⟩)), .string x, .int .i64 (x.size : Int), s8, s8, .string x, .int .i64 (x.size : Int), s12, s13, undef, .string x, .string x, .int .i64 (x.size : Int), .int .i64 ((x.size : Int) - 1), .string sg, sl D 0 (.string x), sl D 1 (.int .u8 c0), sl D 2 (.int .i64 i), sl D 3 (.string sg), sl D 4 (.int .i64 n1), sl D 5 (.string sg), sl D 6 (.int .i64 n2), sl D 7 (.int .i64 a), sl D 8 (.string x), sl D 9 (.string x), sl D 10 (.int .i64 (x.size : Int)), sl D 11 (.int .i64 ((x.size : Int) - 1)), sl D 12 (.int .u8 cl), sl D 13 (.int .i64 cv), sl D 14 (.int .i64 o), sl D 15 (.agg #[.int .i64 i, .int .i64 a, .int .i64 o]), undef, undef, undef, undef, undef, undef], []⟩
/-- The world of the drawn statement. -/
def RW (w : World) (i a o : Int) (D : Nat → Bool) (g : Nat) (W : World) : Prop :=
  (D 17 = true → D 16 = true) ∧ Below w.heap.size w W ∧ Blk W w.heap.size 25 #[.int .i64 0, .int .i64 0, .int .i64 0] ∧ (D 16 = true → w.heap.size < g ∧ ∃ s b p : Int, Blk W g 25 #[.int .i64 s, .int .i64 b, .int .i64 p] ∧ (D 17 = true → s = i ∧ b = a ∧ p = o))
def RI (w : World) (x sg : ByteArray) (s8 s12 s13 : Value) (B : Nat) (c0 i n1 n2 a cl cv o : Int) (D : Nat → Bool) (A : Act) (W : World) : Prop := ∃ g : Nat, RW w i a o D g W ∧ A = RF x sg s8 s12 s13 B c0 i n1 n2 a cl cv o D g

theorem RF_0 (x sg : ByteArray) (s8 s12 s13 : Value) (B : Nat) (c0 i n1 n2 a cl cv o : Int) (D : Nat → Bool) (g : Nat) : RF x sg s8 s12 s13 B c0 i n1 n2 a cl cv o (fun j => j == 0 || D j) g = (RF x sg s8 s12 s13 B c0 i n1 n2 a cl cv o D g).put (some 20) (.string x) := rfl
theorem RF_1 (x sg : ByteArray) (s8 s12 s13 : Value) (B : Nat) (c0 i n1 n2 a cl cv o : Int) (D : Nat → Bool) (g : Nat) : RF x sg s8 s12 s13 B c0 i n1 n2 a cl cv o (fun j => j == 1 || D j) g = (RF x sg s8 s12 s13 B c0 i n1 n2 a cl cv o D g).put (some 21) (.int .u8 c0) := rfl
theorem RF_2 (x sg : ByteArray) (s8 s12 s13 : Value) (B : Nat) (c0 i n1 n2 a cl cv o : Int) (D : Nat → Bool) (g : Nat) : RF x sg s8 s12 s13 B c0 i n1 n2 a cl cv o (fun j => j == 2 || D j) g = (RF x sg s8 s12 s13 B c0 i n1 n2 a cl cv o D g).put (some 22) (.int .i64 i) := rfl
theorem RF_3 (x sg : ByteArray) (s8 s12 s13 : Value) (B : Nat) (c0 i n1 n2 a cl cv o : Int) (D : Nat → Bool) (g : Nat) : RF x sg s8 s12 s13 B c0 i n1 n2 a cl cv o (fun j => j == 3 || D j) g = (RF x sg s8 s12 s13 B c0 i n1 n2 a cl cv o D g).put (some 23) (.string sg) := rfl
theorem RF_4 (x sg : ByteArray) (s8 s12 s13 : Value) (B : Nat) (c0 i n1 n2 a cl cv o : Int) (D : Nat → Bool) (g : Nat) : RF x sg s8 s12 s13 B c0 i n1 n2 a cl cv o (fun j => j == 4 || D j) g = (RF x sg s8 s12 s13 B c0 i n1 n2 a cl cv o D g).put (some 24) (.int .i64 n1) := rfl
theorem RF_5 (x sg : ByteArray) (s8 s12 s13 : Value) (B : Nat) (c0 i n1 n2 a cl cv o : Int) (D : Nat → Bool) (g : Nat) : RF x sg s8 s12 s13 B c0 i n1 n2 a cl cv o (fun j => j == 5 || D j) g = (RF x sg s8 s12 s13 B c0 i n1 n2 a cl cv o D g).put (some 25) (.string sg) := rfl
theorem RF_6 (x sg : ByteArray) (s8 s12 s13 : Value) (B : Nat) (c0 i n1 n2 a cl cv o : Int) (D : Nat → Bool) (g : Nat) : RF x sg s8 s12 s13 B c0 i n1 n2 a cl cv o (fun j => j == 6 || D j) g = (RF x sg s8 s12 s13 B c0 i n1 n2 a cl cv o D g).put (some 26) (.int .i64 n2) := rfl
theorem RF_7 (x sg : ByteArray) (s8 s12 s13 : Value) (B : Nat) (c0 i n1 n2 a cl cv o : Int) (D : Nat → Bool) (g : Nat) : RF x sg s8 s12 s13 B c0 i n1 n2 a cl cv o (fun j => j == 7 || D j) g = (RF x sg s8 s12 s13 B c0 i n1 n2 a cl cv o D g).put (some 27) (.int .i64 a) := rfl
theorem RF_8 (x sg : ByteArray) (s8 s12 s13 : Value) (B : Nat) (c0 i n1 n2 a cl cv o : Int) (D : Nat → Bool) (g : Nat) : RF x sg s8 s12 s13 B c0 i n1 n2 a cl cv o (fun j => j == 8 || D j) g = (RF x sg s8 s12 s13 B c0 i n1 n2 a cl cv o D g).put (some 28) (.string x) := rfl
theorem RF_9 (x sg : ByteArray) (s8 s12 s13 : Value) (B : Nat) (c0 i n1 n2 a cl cv o : Int) (D : Nat → Bool) (g : Nat) : RF x sg s8 s12 s13 B c0 i n1 n2 a cl cv o (fun j => j == 9 || D j) g = (RF x sg s8 s12 s13 B c0 i n1 n2 a cl cv o D g).put (some 29) (.string x) := rfl
theorem RF_10 (x sg : ByteArray) (s8 s12 s13 : Value) (B : Nat) (c0 i n1 n2 a cl cv o : Int) (D : Nat → Bool) (g : Nat) : RF x sg s8 s12 s13 B c0 i n1 n2 a cl cv o (fun j => j == 10 || D j) g = (RF x sg s8 s12 s13 B c0 i n1 n2 a cl cv o D g).put (some 30) (.int .i64 (x.size : Int)) := rfl
theorem RF_11 (x sg : ByteArray) (s8 s12 s13 : Value) (B : Nat) (c0 i n1 n2 a cl cv o : Int) (D : Nat → Bool) (g : Nat) : RF x sg s8 s12 s13 B c0 i n1 n2 a cl cv o (fun j => j == 11 || D j) g = (RF x sg s8 s12 s13 B c0 i n1 n2 a cl cv o D g).put (some 31) (.int .i64 ((x.size : Int) - 1)) := rfl
theorem RF_12 (x sg : ByteArray) (s8 s12 s13 : Value) (B : Nat) (c0 i n1 n2 a cl cv o : Int) (D : Nat → Bool) (g : Nat) : RF x sg s8 s12 s13 B c0 i n1 n2 a cl cv o (fun j => j == 12 || D j) g = (RF x sg s8 s12 s13 B c0 i n1 n2 a cl cv o D g).put (some 32) (.int .u8 cl) := rfl
theorem RF_13 (x sg : ByteArray) (s8 s12 s13 : Value) (B : Nat) (c0 i n1 n2 a cl cv o : Int) (D : Nat → Bool) (g : Nat) : RF x sg s8 s12 s13 B c0 i n1 n2 a cl cv o (fun j => j == 13 || D j) g = (RF x sg s8 s12 s13 B c0 i n1 n2 a cl cv o D g).put (some 33) (.int .i64 cv) := rfl
theorem RF_14 (x sg : ByteArray) (s8 s12 s13 : Value) (B : Nat) (c0 i n1 n2 a cl cv o : Int) (D : Nat → Bool) (g : Nat) : RF x sg s8 s12 s13 B c0 i n1 n2 a cl cv o (fun j => j == 14 || D j) g = (RF x sg s8 s12 s13 B c0 i n1 n2 a cl cv o D g).put (some 34) (.int .i64 o) := rfl
theorem RF_15 (x sg : ByteArray) (s8 s12 s13 : Value) (B : Nat) (c0 i n1 n2 a cl cv o : Int) (D : Nat → Bool) (g : Nat) : RF x sg s8 s12 s13 B c0 i n1 n2 a cl cv o (fun j => j == 15 || D j) g = (RF x sg s8 s12 s13 B c0 i n1 n2 a cl cv o D g).put (some 35) (.agg #[.int .i64 i, .int .i64 a, .int .i64 o]) := rfl
theorem RF_16 (x sg : ByteArray) (s8 s12 s13 : Value) (B : Nat) (c0 i n1 n2 a cl cv o : Int) (D : Nat → Bool) (g : Nat) : RF x sg s8 s12 s13 B c0 i n1 n2 a cl cv o (fun j => j == 16 || D j) g = (RF x sg s8 s12 s13 B c0 i n1 n2 a cl cv o D g).put (some 5) (.pointer (some ⟨g, 0, none⟩)) := rfl
theorem RF_17 (x sg : ByteArray) (s8 s12 s13 : Value) (B : Nat) (c0 i n1 n2 a cl cv o : Int) (D : Nat → Bool) (g : Nat) : RF x sg s8 s12 s13 B c0 i n1 n2 a cl cv o (fun j => j == 17 || D j) g = RF x sg s8 s12 s13 B c0 i n1 n2 a cl cv o D g := rfl

set_option maxHeartbeats 8000000 in
set_option maxRecDepth 100000 in
theorem readPitch_mid (x sg : ByteArray) (h2 : 2 ≤ x.size) (h4 : x.size ≤ 4) (c0 i n1 n2 a cl cv o : Int) (w : World) (b : Bool)
    (HS : Hid (x.extract 1 (x.size - 1) = sg)) (HC0 : Hid (((x[0]'(by omega)).toNat : Int) = c0)) (HI : Hid (Lib.indexByte (⟨#[67, 68, 69, 70, 71, 65, 66]⟩ : ByteArray).data.toList c0.toNat.toUInt8 = i))
    (HN1 : Hid ((Lib.countByte sg.data.toList 35 : Int) = n1)) (HN2 : Hid ((Lib.countByte sg.data.toList 98 : Int) = n2)) (HA : Hid (IntKind.i64.wrap (n1 - n2) = a))
    (HCL : Hid (((x[x.size - 1]'(by omega)).toNat : Int) = cl)) (HCV : Hid (IntKind.i64.wrap cl = cv)) (HO : Hid (IntKind.i64.wrap (cv - 48) = o)) (HB : Hid (((S (txtL i a o)).toList == x.toList) = b)) :
    Calls Try.prog 23 #[.string x] w (Gives (rdV b i a o) w) := by
  have q1 : ¬ x.size < 2 := by omega
  have q2 : ¬ 4 < x.size := by omega
  have q9 : (1 : Int) ≤ (x.size : Int) := by omega
  have q0 : 0 < x.size := by omega
  have q8 : x.size - 1 < x.size := by omega
  have q3 : (0 : Int) < (x.size : Int) := by omega
  have q4 : IntKind.i64.wrap ((x.size : Int) - 1) = (x.size : Int) - 1 := IntWalk.i64_in _ (by omega)
  have q5 : (0 : Int) ≤ (x.size : Int) - 1 := by omega
  have q6 : (x.size : Int) - 1 < (x.size : Int) := by omega
  have q7 : (1 : Int) ≤ (x.size : Int) - 1 := by omega
  go_enter Try.func23, Try.ntmps23
  go_upto_region 4 with fail
  rw [HS.out]
  generalize Value.bool (decide ((x.size : Int) < 2) || decide (4 < (x.size : Int))) = s13
  generalize Value.bool (decide ((x.size : Int) < 2)) = s8
  generalize Value.bool (decide (4 < (x.size : Int))) = s12
  have B0 : Below w.heap.size w (w.alloc (.cells #[.int .i64 0, .int .i64 0, .int .i64 0] 25)) := by go_grown
  have z0 : Blk (w.alloc (.cells #[.int .i64 0, .int .i64 0, .int .i64 0] 25)) w.heap.size 25 #[.int .i64 0, .int .i64 0, .int .i64 0] := Blk.new _ _ _
  generalize w.alloc (.cells #[.int .i64 0, .int .i64 0, .int .i64 0] 25) = c at *
  go_cut [5] (fun v wc => ∃ g, v = .pointer (some ⟨g, 0, none⟩) ∧ w.heap.size < g ∧ Blk wc g 25 #[.int .i64 i, .int .i64 a, .int .i64 o] ∧ Blk wc w.heap.size 25 #[.int .i64 0, .int .i64 0, .int .i64 0] ∧ Below w.heap.size w wc)
  case first =>
    refine wp_region_from (fun _ _ D A W => RI w x sg s8 s12 s13 w.heap.size c0 i n1 n2 a cl cv o D A W) (by kernel_rfl) (by kernel_rfl) ?_ ?_ ?_
    · exact ⟨0, ⟨nofun, B0.drew, z0.drew, nofun⟩, rfl⟩
    · refine AllSteps.cons (k' := 1) rfl rfl ?_ (AllSteps.cons (k' := 2) rfl rfl ?_ (AllSteps.cons (k' := 3) rfl rfl ?_ (AllSteps.cons (k' := 4) rfl rfl ?_ (AllSteps.cons (k' := 5) rfl rfl ?_ (AllSteps.cons (k' := 6) rfl rfl ?_ (AllSteps.cons (k' := 7) rfl rfl ?_ (AllSteps.cons (k' := 8) rfl rfl ?_ (AllSteps.cons (k' := 9) rfl rfl ?_ (AllSteps.cons (k' := 10) rfl rfl ?_ (AllSteps.cons (k' := 11) rfl rfl ?_ (AllSteps.cons (k' := 12) rfl rfl ?_ (AllSteps.cons (k' := 13) rfl rfl ?_ (AllSteps.cons (k' := 14) rfl rfl ?_ (AllSteps.cons (k' := 15) rfl rfl ?_ (AllSteps.cons (k' := 16) rfl rfl ?_ (AllSteps.cons (k' := 17) rfl rfl ?_ (AllSteps.cons (k' := 18) rfl rfl ?_ (AllSteps.nil))))))))))))))))))
      · intro D A W hD hA hI K' hK'
        obtain ⟨g, hW, rfl⟩ := hI
        clear hA
        simp only [RF]
        go_simp
        refine hK' _ _ ⟨g, hW, ?f0⟩
        case f0 => rw [RF_0]; rfl
      · intro D A W hD hA hI K' hK'
        obtain ⟨g, hW, rfl⟩ := hI
        have d0 : D 0 = true := dn hA 0 rfl rfl
        clear hA
        simp only [RF, sl_done d0]
        go_simp
        refine hK' _ _ ⟨g, hW, ?f1⟩
        case f1 => have e := HC0.out; subst e; rw [RF_1]; simp only [RF, sl_done d0]; rfl
      · intro D A W hD hA hI K' hK'
        obtain ⟨g, hW, rfl⟩ := hI
        have d1 : D 1 = true := dn hA 0 rfl rfl
        clear hA
        simp only [RF, sl_done d1]
        go_simp
        refine (Go.Proofs.Try.strings_IndexByte _ _ _).mono ?_
        rintro e W1 ⟨rfl, rfl⟩
        refine hK' _ _ ⟨g, hW, ?f2⟩
        case f2 => have e := HI.out; subst e; rw [RF_2]; simp only [RF, sl_done d1]; rfl
      · intro D A W hD hA hI K' hK'
        obtain ⟨g, hW, rfl⟩ := hI
        clear hA
        simp only [RF]
        go_simp
        refine hK' _ _ ⟨g, hW, ?f3⟩
        case f3 => rw [RF_3]; rfl
      · intro D A W hD hA hI K' hK'
        obtain ⟨g, hW, rfl⟩ := hI
        have d3 : D 3 = true := dn hA 0 rfl rfl
        clear hA
        simp only [RF, sl_done d3]
        go_simp
        refine (Go.Proofs.Try.strings_Count_one _ _ _).mono ?_
        rintro e W1 ⟨rfl, rfl⟩
        refine hK' _ _ ⟨g, hW, ?f4⟩
        case f4 => have e := HN1.out; subst e; rw [RF_4]; simp only [RF, sl_done d3]; rfl
      · intro D A W hD hA hI K' hK'
        obtain ⟨g, hW, rfl⟩ := hI
        clear hA
        simp only [RF]
        go_simp
        refine hK' _ _ ⟨g, hW, ?f5⟩
        case f5 => rw [RF_5]; rfl
      · intro D A W hD hA hI K' hK'
        obtain ⟨g, hW, rfl⟩ := hI
        have d5 : D 5 = true := dn hA 0 rfl rfl
        clear hA
        simp only [RF, sl_done d5]
        go_simp
        refine (Go.Proofs.Try.strings_Count_one _ _ _).mono ?_
        rintro e W1 ⟨rfl, rfl⟩
        refine hK' _ _ ⟨g, hW, ?f6⟩
        case f6 => have e := HN2.out; subst e; rw [RF_6]; simp only [RF, sl_done d5]; rfl
      · intro D A W hD hA hI K' hK'
        obtain ⟨g, hW, rfl⟩ := hI
        have d4 : D 4 = true := dn hA 0 rfl rfl
        have d6 : D 6 = true := dn hA 1 rfl rfl
        clear hA
        simp only [RF, sl_done d4, sl_done d6]
        go_simp
        refine hK' _ _ ⟨g, hW, ?f7⟩
        case f7 => have e := HA.out; subst e; rw [RF_7]; simp only [RF, sl_done d4, sl_done d6]; rfl
      · intro D A W hD hA hI K' hK'
        obtain ⟨g, hW, rfl⟩ := hI
        clear hA
        simp only [RF]
        go_simp
        refine hK' _ _ ⟨g, hW, ?f8⟩
        case f8 => rw [RF_8]; rfl
      · intro D A W hD hA hI K' hK'
        obtain ⟨g, hW, rfl⟩ := hI
        clear hA
        simp only [RF]
        go_simp
        refine hK' _ _ ⟨g, hW, ?f9⟩
        case f9 => rw [RF_9]; rfl
      · intro D A W hD hA hI K' hK'
        obtain ⟨g, hW, rfl⟩ := hI
        have d9 : D 9 = true := dn hA 0 rfl rfl
        clear hA
        simp only [RF, sl_done d9]
        go_simp
        refine hK' _ _ ⟨g, hW, ?f10⟩
        case f10 => rw [RF_10]; simp only [RF, sl_done d9]; rfl
      · intro D A W hD hA hI K' hK'
        obtain ⟨g, hW, rfl⟩ := hI
        have d10 : D 10 = true := dn hA 0 rfl rfl
        clear hA
        simp only [RF, sl_done d10]
        go_simp
        refine hK' _ _ ⟨g, hW, ?f11⟩
        case f11 => rw [RF_11]; simp only [RF, sl_done d10]; rfl
      · intro D A W hD hA hI K' hK'
        obtain ⟨g, hW, rfl⟩ := hI
        have d8 : D 8 = true := dn hA 0 rfl rfl
        have d11 : D 11 = true := dn hA 1 rfl rfl
        clear hA
        simp only [RF, sl_done d8, sl_done d11]
        go_simp
        refine hK' _ _ ⟨g, hW, ?f12⟩
        case f12 => have e := HCL.out; subst e; rw [RF_12]; simp only [RF, sl_done d8, sl_done d11]; rfl
      · intro D A W hD hA hI K' hK'
        obtain ⟨g, hW, rfl⟩ := hI
        have d12 : D 12 = true := dn hA 0 rfl rfl
        clear hA
        simp only [RF, sl_done d12]
        go_simp
        refine hK' _ _ ⟨g, hW, ?f13⟩
        case f13 => have e := HCV.out; subst e; rw [RF_13]; simp only [RF, sl_done d12]; rfl
      · intro D A W hD hA hI K' hK'
        obtain ⟨g, hW, rfl⟩ := hI
        have d13 : D 13 = true := dn hA 0 rfl rfl
        clear hA
        simp only [RF, sl_done d13]
        go_simp
        refine hK' _ _ ⟨g, hW, ?f14⟩
        case f14 => have e := HO.out; subst e; rw [RF_14]; simp only [RF, sl_done d13]; rfl
      · intro D A W hD hA hI K' hK'
        obtain ⟨g, hW, rfl⟩ := hI
        have d2 : D 2 = true := dn hA 0 rfl rfl
        have d7 : D 7 = true := dn hA 1 rfl rfl
        have d14 : D 14 = true := dn hA 2 rfl rfl
        clear hA
        simp only [RF, sl_done d2, sl_done d7, sl_done d14]
        go_simp
        refine hK' _ _ ⟨g, hW, ?f15⟩
        case f15 => rw [RF_15]; simp only [RF, sl_done d2, sl_done d7, sl_done d14]; rfl
      · intro D A W hD hA hI K' hK'
        obtain ⟨g, hW, rfl⟩ := hI
        clear hA
        simp only [RF]
        go_simp
        obtain ⟨hcl, hB, hz, -⟩ := hW
        have hlt := hz.lt
        have h17 : D 17 = false := by
          cases e : D 17
          · rfl
          · rw [hcl e] at hD
            cases hD
        refine hK' _ _ ⟨W.heap.size, ⟨fun _ => rfl, hB.alloc hB.size _, hz.alloc _, fun _ => ⟨hlt, 0, 0, 0, Blk.new _ _ _, fun e => ?nope⟩⟩, ?f16⟩
        case f16 => rw [RF_16]; rfl
        case nope => exact absurd (show D 17 = true from e) (by rw [h17]; exact Bool.false_ne_true)
      · intro D A W hD hA hI K' hK'
        obtain ⟨g, ⟨hcl, hB, hz, hW⟩, rfl⟩ := hI
        have d16 : D 16 = true := dn hA 0 rfl rfl
        have d15 : D 15 = true := dn hA 1 rfl rfl
        clear hA
        obtain ⟨hg, s, b, p, hb, -⟩ := hW d16
        have c0 := Blk.get (i := 0) hb rfl
        have f0 := Blk.frozen hb 0
        have c1 := Blk.get (i := 1) hb rfl
        have f1 := Blk.frozen hb 1
        have c2 := Blk.get (i := 2) hb rfl
        have f2 := Blk.frozen hb 2
        simp only [RF, sl_done d16, sl_done d15]
        go_simp
        have hg' : w.heap.size ≤ g := by omega
        have hne : w.heap.size ≠ g := by omega
        refine hK' _ _ ⟨g, ⟨fun _ => d16, ((hB.setCell hg' _).setCell hg' _).setCell hg' _, ((hz.ne hne _).ne hne _).ne hne _, fun _ => ⟨hg, i, a, o, Blk.put3 hb, fun _ => ⟨rfl, rfl, rfl⟩⟩⟩, ?f17⟩
        case f17 => rw [RF_17]; simp only [RF, sl_done d16, sl_done d15]
    · intro D A W hd hI
      obtain ⟨g, ⟨-, hB, hz, hW⟩, rfl⟩ := hI
      obtain ⟨hg, s, b, p, hb, h17⟩ := hW (hd 16 (by decide))
      obtain ⟨rfl, rfl, rfl⟩ := h17 (hd 17 (by decide))
      simp only [RF, sl_done (hd 0 (by decide)), sl_done (hd 1 (by decide)), sl_done (hd 2 (by decide)), sl_done (hd 3 (by decide)), sl_done (hd 4 (by decide)), sl_done (hd 5 (by decide)), sl_done (hd 6 (by decide)), sl_done (hd 7 (by decide)), sl_done (hd 8 (by decide)), sl_done (hd 9 (by decide)), sl_done (hd 10 (by decide)), sl_done (hd 11 (by decide)), sl_done (hd 12 (by decide)), sl_done (hd 13 (by decide)), sl_done (hd 14 (by decide)), sl_done (hd 15 (by decide)), sl_done (hd 16 (by decide))]
      go_wp2_with fail
      go_meet
      exact ⟨g, rfl, hg, hb, hz, hB⟩
  case rest =>
    clear B0 z0 HS HC0 HI HN1 HN2 HA HCL HCV HO
    obtain ⟨g, rfl, hg, hb, hz, hB⟩ := hcut
    have b0 := Blk.get (i := 0) hb rfl
    have b1 := Blk.get (i := 1) hb rfl
    have b2 := Blk.get (i := 2) hb rfl
    have bl := hb.lt
    go_wp2_with fail
    refine (pitchText_any i a o _).mono ?_
    rintro e w2 ⟨rfl, hb2⟩
    replace hB := below_pure (w := w) (by go_grown) hb2
    replace hb := Blk.pure hb hb2
    replace hz := Blk.pure hz hb2
    clear b0 b1 b2 bl hb2
    obtain ⟨y, hy⟩ : ∃ y, S (txtL i a o) = y := ⟨_, rfl⟩
    have hyx : (y.toList == x.toList) = b := by rw [← hy]; exact HB.out
    rw [hy]
    have b0 := Blk.get (i := 0) hb rfl
    have b1 := Blk.get (i := 1) hb rfl
    have b2 := Blk.get (i := 2) hb rfl
    have z0 := Blk.get (i := 0) hz rfl
    have z1 := Blk.get (i := 1) hz rfl
    have z2 := Blk.get (i := 2) hz rfl
    have f0 := Blk.frozen hz 0
    have f1 := Blk.frozen hz 1
    have f2 := Blk.frozen hz 2
    have zl := hz.lt
    clear hb hz hy
    cases b
    · go_wp2_with fail
      refine bodyPost_ret (v := .tuple #[.agg #[.int .i64 0, .int .i64 0, .int .i64 0], .bool false]) (by simp [results, Try.results23, go_sem, *]) rfl ⟨rfl, by go_grown⟩
    · go_wp2_with fail
      refine bodyPost_ret (v := .tuple #[.agg #[.int .i64 i, .int .i64 a, .int .i64 o], .bool true]) (by simp [results, Try.results23, go_sem, *]) rfl ⟨rfl, by go_grown⟩

end Go.Proofs.Ytgogpjlemaajeaa
