/- The walks of the texts of pitches, of the program and of the reference. No condition. -/
import Derived.Test.YtgogpjlemaajeaaPb
import Derived.Test.YtgogpjlemaajeaaKitb
import Derived.Test.YtgogpjlemaajeaaShelf
import Derived.Test.YtgogpjlemaajeaaRo
import Derived.LoopTactic
import Derived.Deep.RegionHeld3
import Derived.Laws.BytesArg
import Derived.Laws.Runes
namespace Go.Proofs.Ytgogpjlemaajeaa
open Go.RowKit

/-- A string by its bytes. -/
def S (l : List UInt8) : ByteArray := ⟨l.toArray⟩
theorem S_app (l m : List UInt8) : S l ++ S m = S (l ++ m) := by
  apply ByteArray.ext
  simp [S]
theorem S_snoc (l : List UInt8) (c : UInt8) : S l ++ (⟨#[c]⟩ : ByteArray) = S (l ++ [c]) := S_app l [c]
/-- The text of a valid pitch. -/
def ltr (s : Int) : UInt8 := if s = 0 then 67 else if s = 1 then 68 else if s = 2 then 69 else if s = 3 then 70 else if s = 4 then 71 else if s = 5 then 65 else 66
def dgt (o : Int) : UInt8 := if o = 0 then 48 else if o = 1 then 49 else if o = 2 then 50 else if o = 3 then 51 else if o = 4 then 52 else if o = 5 then 53 else if o = 6 then 54 else if o = 7 then 55 else 56
def txt (s a o : Int) : List UInt8 := [ltr s] ++ List.replicate a.toNat 35 ++ List.replicate (-a).toNat 98 ++ [dgt o]
def txtL (s a o : Int) : List UInt8 := if pitchB s a o then txt s a o else []
def mid1 (s : Int) (k : Nat) : List UInt8 := [ltr s] ++ List.replicate k 35
def mid2 (s : Int) (A k : Nat) : List UInt8 := [ltr s] ++ List.replicate A 35 ++ List.replicate k 98
theorem S_size (l : List UInt8) : (S l).size = l.length := by simp [S, ByteArray.size]
theorem mid1_size (s : Int) (k : Nat) : (S (mid1 s k)).size = k + 1 := by rw [S_size]; simp [mid1]
theorem mid2_size (s : Int) (A k : Nat) : (S (mid2 s A k)).size = A + k + 1 := by rw [S_size]; simp [mid2]
theorem one_size (c : UInt8) : (S [c]).size = 1 := rfl
theorem mid1_zero (s : Int) : S [ltr s] = S (mid1 s 0) := rfl
theorem mid1_succ (s : Int) (k : Nat) : S (mid1 s k) ++ (⟨#[35]⟩ : ByteArray) = S (mid1 s (k + 1)) := by
  rw [S_snoc, mid1, List.append_assoc, ← List.replicate_succ']
  rfl
theorem mid2_zero (s : Int) (A : Nat) : S (mid1 s A) = S (mid2 s A 0) := by simp [mid1, mid2]
theorem mid2_succ (s : Int) (A k : Nat) : S (mid2 s A k) ++ (⟨#[98]⟩ : ByteArray) = S (mid2 s A (k + 1)) := by
  rw [S_snoc, mid2, List.append_assoc, ← List.replicate_succ']
  rfl
theorem mid2_end (s a o : Int) : S (mid2 s a.toNat (-a).toNat) ++ S [dgt o] = S (txt s a o) := S_app _ _
theorem nums_at (o : Int) (h0 : 0 ≤ o) (h8 : o ≤ 8) : strOfNums [48 + o] = S [dgt o] := by
  obtain rfl | rfl | rfl | rfl | rfl | rfl | rfl | rfl | rfl : o = 0 ∨ o = 1 ∨ o = 2 ∨ o = 3 ∨ o = 4 ∨ o = 5 ∨ o = 6 ∨ o = 7 ∨ o = 8 := by omega
  all_goals rfl
theorem enc_at (o : Int) (h0 : 0 ≤ o) (h8 : o ≤ 8) : Utf8.encode (48 + o) = S [dgt o] := by
  obtain rfl | rfl | rfl | rfl | rfl | rfl | rfl | rfl | rfl : o = 0 ∨ o = 1 ∨ o = 2 ∨ o = 3 ∨ o = 4 ∨ o = 5 ∨ o = 6 ∨ o = 7 ∨ o = 8 := by omega
  all_goals rfl
theorem base_at (s : Int) (h0 : 0 ≤ s) (h6 : s ≤ 6) : (⟨#[67, 68, 69, 70, 71, 65, 66]⟩ : ByteArray).extract s.toNat (s + 1).toNat = S [ltr s] := by
  obtain rfl | rfl | rfl | rfl | rfl | rfl | rfl : s = 0 ∨ s = 1 ∨ s = 2 ∨ s = 3 ∨ s = 4 ∨ s = 5 ∨ s = 6 := by omega
  all_goals rfl

def ups (k : Nat) : ByteArray := S (List.replicate k 35)
def dns (k : Nat) : ByteArray := S (List.replicate k 98)
theorem ups_size (k : Nat) : (ups k).size = k := by rw [ups, S_size, List.length_replicate]
theorem dns_size (k : Nat) : (dns k).size = k := by rw [dns, S_size, List.length_replicate]
theorem rep_one (c : UInt8) : ∀ k, Lib.repeatL [c] k = List.replicate k c
  | 0 => rfl
  | k + 1 => by
    rw [List.replicate_succ, ← rep_one c k]
    rfl
theorem rep_up (v : Int) (k : Nat) (w : World) (hv : v = (k : Int)) (hk : k ≤ 10) : Calls Try.prog 42 #[.string ⟨#[35]⟩, .int .i64 v] w (Gives (.string (ups k)) w) := by
  subst hv
  have h := Go.Proofs.Try.strings_Repeat ⟨#[35]⟩ k w (by omega) (by show 1 * k ≤ _; omega)
  rw [show (⟨#[35]⟩ : ByteArray).data.toList = [35] from rfl, rep_one] at h
  exact h
theorem rep_dn (v : Int) (k : Nat) (w : World) (hv : v = (k : Int)) (hk : k ≤ 10) : Calls Try.prog 42 #[.string ⟨#[98]⟩, .int .i64 v] w (Gives (.string (dns k)) w) := by
  subst hv
  have h := Go.Proofs.Try.strings_Repeat ⟨#[98]⟩ k w (by omega) (by show 1 * k ≤ _; omega)
  rw [show (⟨#[98]⟩ : ByteArray).data.toList = [98] from rfl, rep_one] at h
  exact h
theorem txt_at (s o a : Int) (u d : Nat) (hu : a.toNat = u) (hd : (-a).toNat = d) : S [ltr s] ++ ups u ++ dns d ++ S [dgt o] = S (txt s a o) := by
  rw [ups, dns, S_app, S_app, S_app, ← hu, ← hd]
  rfl

set_option maxHeartbeats 4000000 in
theorem specPitchText_any (s a o : Int) (w : World) : Calls Try.prog 25 #[.agg #[.int .i64 s, .int .i64 a, .int .i64 o]] w (Gives (.string (S (txtL s a o))) w) := by
  have HP := fun W => specPitchValid_any s a o W
  cases hp : pitchB s a o
  · rw [hp] at HP
    have H := Lib.hid HP
    have HR := Lib.hid (show txtL s a o = [] by unfold txtL; rw [hp]; rfl)
    clear HP hp
    go_enter Try.func25, Try.ntmps25
    go_wp2_with fail
    refine (H.out _).mono ?_
    rintro e w1 ⟨rfl, hb⟩
    have hB := below_pure (w := w) (by go_grown) hb
    go_wp2
    go_ret
    exact ⟨by rw [HR.out]; rfl, hB⟩
  · rw [hp] at HP
    have H := Lib.hid HP
    have HR := Lib.hid (show txtL s a o = txt s a o by unfold txtL; rw [hp]; rfl)
    obtain ⟨s0, s6, a0, a2, o0, o8⟩ := pitchB_t hp
    have HBS := Lib.hid (base_at s s0 s6)
    clear HP hp
    go_enter Try.func25, Try.ntmps25
    go_wp2_with fail
    refine (H.out _).mono ?_
    rintro e w1 ⟨rfl, hb⟩
    have k0 : Blk w1 w.heap.size 25 #[.int .i64 s, .int .i64 a, .int .i64 o] := (Blk.new _ _ _).pure hb
    have hB := below_pure (w := w) (by go_grown) hb
    have c0 : w1.cell? ⟨w.heap.size, 0, none⟩ = some (.int .i64 s) := Blk.get k0 rfl
    have c1 : w1.cell? ⟨w.heap.size, 1, none⟩ = some (.int .i64 a) := Blk.get k0 rfl
    have c2 : w1.cell? ⟨w.heap.size, 2, none⟩ = some (.int .i64 o) := Blk.get k0 rfl
    have hz := k0.lt
    clear hb k0
    go_wp2_with fail
    rw [HBS.out, mid1_zero]
    obtain ⟨A, hA⟩ : ∃ A, a.toNat = A := ⟨_, rfl⟩
    obtain ⟨B, hB'⟩ : ∃ B, (-a).toNat = B := ⟨_, rfl⟩
    have HA := Lib.hid hA
    have HB := Lib.hid hB'
    clear hA hB'
    go_loop [3, 4] (fun v iv => ∃ k : Nat, k ≤ A ∧ iv = .int .i64 (k : Int) ∧ v = .string (S (mid1 s k))) (fun _ iv => A - (intOf iv).toNat)
    case atStart => exact ⟨0, Nat.zero_le _, rfl, rfl⟩
    case round =>
      obtain ⟨k, hk, rfl, rfl⟩ := hrel
      by_cases hlt : k < A
      · have hka : (k : Int) < a := by have := HA.out; omega
        have HM := Lib.hid (mid1_succ s k)
        have hsz : ¬ 9223372036854775807 < (S (mid1 s k)).size + 1 := by
          rw [mid1_size]
          have := HA.out
          omega
        go_wp2_with fail
        go_round
        case rel => exact ⟨k + 1, by omega, by go_num, by rw [HM.out]⟩
        case measure => simp [intOf]; omega
      · obtain rfl : k = A := by omega
        have hka : ¬ (k : Int) < a := by have := HA.out; omega
        go_wp2_with fail
        rw [mid2_zero]
        go_loop [3, 5] (fun v iv => ∃ j : Nat, j ≤ B ∧ iv = .int .i64 (j : Int) ∧ v = .string (S (mid2 s k j))) (fun _ iv => B - (intOf iv).toNat)
        case atStart => exact ⟨0, Nat.zero_le _, rfl, rfl⟩
        case round =>
          obtain ⟨j, hj, rfl, rfl⟩ := hrel
          have hwn : IntKind.i64.wrap (-a) = -a := IntWalk.i64_in _ (by omega)
          by_cases hlt2 : j < B
          · have hkb : (j : Int) < -a := by have := HB.out; omega
            have HM := Lib.hid (mid2_succ s k j)
            have hsz : ¬ 9223372036854775807 < (S (mid2 s k j)).size + 1 := by
              rw [mid2_size]
              have := HA.out
              have := HB.out
              omega
            go_wp2_with fail
            go_round
            case rel => exact ⟨j + 1, by omega, by go_num, by rw [HM.out]⟩
            case measure => simp [intOf]; omega
          · obtain rfl : j = B := by omega
            have hkb : ¬ (j : Int) < -a := by have := HB.out; omega
            have hcv := run_convert_bytes_arg (P := Try.prog) (w1.alloc (.cells #[.int .u8 (48 + o)] 5)) 36 5 Try.underlying36 Try.underlying5 w1.heap.size 0 1 1 [48 + o] rfl (fun i hi => by
              obtain rfl : i = 0 := by omega
              exact Blk.get (Blk.new _ _ _) rfl) 9 Try.underlying9
            rw [nums_at o o0 o8] at hcv
            have HE := Lib.hid (mid2_end s a o)
            have hsz : ¬ 9223372036854775807 < (S (mid2 s k j)).size + (S [dgt o]).size := by
              rw [mid2_size, one_size]
              have := HA.out
              have := HB.out
              omega
            rw [HA.out, HB.out] at HE
            go_wp2_with fail
            go_ret
            exact ⟨by rw [HR.out, ← HE.out]; rfl, by go_grown⟩

set_option maxHeartbeats 4000000 in
theorem pitchText_any (s a o : Int) (w : World) : Calls Try.prog 26 #[.agg #[.int .i64 s, .int .i64 a, .int .i64 o]] w (Gives (.string (S (txtL s a o))) w) := by
  have HP := fun W => pitchValid_any s a o W
  cases hp : pitchB s a o
  · rw [hp] at HP
    have H := Lib.hid HP
    have HR := Lib.hid (show txtL s a o = [] by unfold txtL; rw [hp]; rfl)
    clear HP hp
    go_enter Try.func26, Try.ntmps26
    go_wp2_with fail
    refine (H.out _).mono ?_
    rintro e w1 ⟨rfl, hb⟩
    have hB := below_pure (w := w) (by go_grown) hb
    go_wp2
    go_ret
    exact ⟨by rw [HR.out]; rfl, hB⟩
  · rw [hp] at HP
    have H := Lib.hid HP
    have HR := Lib.hid (show txtL s a o = txt s a o by unfold txtL; rw [hp]; rfl)
    obtain ⟨s0, s6, a0, a2, o0, o8⟩ := pitchB_t hp
    have HBS := Lib.hid (base_at s s0 s6)
    clear HP hp
    have hs1 : IntKind.i64.wrap (s + 1) = s + 1 := IntWalk.i64_in _ (by omega)
    have ho1 : IntKind.i64.wrap (48 + o) = 48 + o := IntWalk.i64_in _ (by omega)
    have hss : s + 1 ≤ 7 := by omega
    have ho2 : IntKind.i32.wrap (48 + o) = 48 + o := by
      obtain rfl | rfl | rfl | rfl | rfl | rfl | rfl | rfl | rfl : o = 0 ∨ o = 1 ∨ o = 2 ∨ o = 3 ∨ o = 4 ∨ o = 5 ∨ o = 6 ∨ o = 7 ∨ o = 8 := by omega
      all_goals rfl
    have HEN := Lib.hid (enc_at o o0 o8)
    obtain rfl | rfl | rfl | rfl | rfl : a = -2 ∨ a = -1 ∨ a = 0 ∨ a = 1 ∨ a = 2 := by omega
    · go_enter Try.func26, Try.ntmps26
      go_wp2_with fail
      refine (H.out _).mono ?_
      rintro e w1 ⟨rfl, hb⟩
      have k0 : Blk w1 w.heap.size 25 #[.int .i64 s, .int .i64 (-2), .int .i64 o] := (Blk.new w _ _).pure hb
      have hB := below_pure (w := w) (by go_grown) hb
      have c0 : w1.cell? ⟨w.heap.size, 0, none⟩ = some (.int .i64 s) := Blk.get k0 rfl
      have c1 : w1.cell? ⟨w.heap.size, 1, none⟩ = some (.int .i64 (-2)) := Blk.get k0 rfl
      have c2 : w1.cell? ⟨w.heap.size, 2, none⟩ = some (.int .i64 o) := Blk.get k0 rfl
      have hz := k0.lt
      have hs2 : s ≤ s + 1 := by omega
      have hs3 : 0 ≤ s + 1 := by omega
      have hbs := HBS.out
      have hen := HEN.out
      have z1 : ¬ 9223372036854775807 < (S [ltr s]).size + (ups 0).size := by
        rw [ups_size, one_size]
        omega
      have z2 : ¬ 9223372036854775807 < (S [ltr s]).size + (ups 0).size + (dns 2).size := by
        rw [ups_size, dns_size, one_size]
        omega
      have z3 : ¬ 9223372036854775807 < (S [ltr s]).size + (ups 0).size + (dns 2).size + (S [dgt o]).size := by
        rw [ups_size, dns_size, one_size, one_size]
        omega
      have HE := Lib.hid (txt_at s o (-2) 0 2 rfl rfl)
      clear hb k0
      go_wp2_with fail
      go_region_held3 (fun w' => w'.cell? ⟨w.heap.size, 0, none⟩ = some (.int .i64 s) ∧ w'.cell? ⟨w.heap.size, 1, none⟩ = some (.int .i64 (-2)) ∧ w'.cell? ⟨w.heap.size, 2, none⟩ = some (.int .i64 o) ∧ Below w.heap.size w w')
        (first | exact ⟨c0, c1, c2, hB.drew⟩ | (go_split_ands; (repeat' apply And.intro) <;> first | (with_reducible assumption) | (with_reducible exact cell_pure hbc (cell_lt (by assumption)) (by assumption)) | (with_reducible exact below_pure (by assumption) hbc)))
        (first | (go_at_call_of 42 (Value.string ⟨#[35]⟩); (with_reducible refine (rep_up _ 0 _ (by first | rfl | decide | omega) (by omega)).mono ?_); rintro e w2 ⟨rfl, hbc⟩) | (go_at_call_of 42 (Value.string ⟨#[98]⟩); (with_reducible refine (rep_dn _ 2 _ (by first | rfl | decide | omega) (by omega)).mono ?_); rintro e w2 ⟨rfl, hbc⟩))
      all_goals
        go_split_ands
        go_wp2_with fail
        go_ret
        exact ⟨by rw [HR.out, ← HE.out]; rfl, by assumption⟩
    · go_enter Try.func26, Try.ntmps26
      go_wp2_with fail
      refine (H.out _).mono ?_
      rintro e w1 ⟨rfl, hb⟩
      have k0 : Blk w1 w.heap.size 25 #[.int .i64 s, .int .i64 (-1), .int .i64 o] := (Blk.new w _ _).pure hb
      have hB := below_pure (w := w) (by go_grown) hb
      have c0 : w1.cell? ⟨w.heap.size, 0, none⟩ = some (.int .i64 s) := Blk.get k0 rfl
      have c1 : w1.cell? ⟨w.heap.size, 1, none⟩ = some (.int .i64 (-1)) := Blk.get k0 rfl
      have c2 : w1.cell? ⟨w.heap.size, 2, none⟩ = some (.int .i64 o) := Blk.get k0 rfl
      have hz := k0.lt
      have hs2 : s ≤ s + 1 := by omega
      have hs3 : 0 ≤ s + 1 := by omega
      have hbs := HBS.out
      have hen := HEN.out
      have z1 : ¬ 9223372036854775807 < (S [ltr s]).size + (ups 0).size := by
        rw [ups_size, one_size]
        omega
      have z2 : ¬ 9223372036854775807 < (S [ltr s]).size + (ups 0).size + (dns 1).size := by
        rw [ups_size, dns_size, one_size]
        omega
      have z3 : ¬ 9223372036854775807 < (S [ltr s]).size + (ups 0).size + (dns 1).size + (S [dgt o]).size := by
        rw [ups_size, dns_size, one_size, one_size]
        omega
      have HE := Lib.hid (txt_at s o (-1) 0 1 rfl rfl)
      clear hb k0
      go_wp2_with fail
      go_region_held3 (fun w' => w'.cell? ⟨w.heap.size, 0, none⟩ = some (.int .i64 s) ∧ w'.cell? ⟨w.heap.size, 1, none⟩ = some (.int .i64 (-1)) ∧ w'.cell? ⟨w.heap.size, 2, none⟩ = some (.int .i64 o) ∧ Below w.heap.size w w')
        (first | exact ⟨c0, c1, c2, hB.drew⟩ | (go_split_ands; (repeat' apply And.intro) <;> first | (with_reducible assumption) | (with_reducible exact cell_pure hbc (cell_lt (by assumption)) (by assumption)) | (with_reducible exact below_pure (by assumption) hbc)))
        (first | (go_at_call_of 42 (Value.string ⟨#[35]⟩); (with_reducible refine (rep_up _ 0 _ (by first | rfl | decide | omega) (by omega)).mono ?_); rintro e w2 ⟨rfl, hbc⟩) | (go_at_call_of 42 (Value.string ⟨#[98]⟩); (with_reducible refine (rep_dn _ 1 _ (by first | rfl | decide | omega) (by omega)).mono ?_); rintro e w2 ⟨rfl, hbc⟩))
      all_goals
        go_split_ands
        go_wp2_with fail
        go_ret
        exact ⟨by rw [HR.out, ← HE.out]; rfl, by assumption⟩
    · go_enter Try.func26, Try.ntmps26
      go_wp2_with fail
      refine (H.out _).mono ?_
      rintro e w1 ⟨rfl, hb⟩
      have k0 : Blk w1 w.heap.size 25 #[.int .i64 s, .int .i64 0, .int .i64 o] := (Blk.new w _ _).pure hb
      have hB := below_pure (w := w) (by go_grown) hb
      have c0 : w1.cell? ⟨w.heap.size, 0, none⟩ = some (.int .i64 s) := Blk.get k0 rfl
      have c1 : w1.cell? ⟨w.heap.size, 1, none⟩ = some (.int .i64 0) := Blk.get k0 rfl
      have c2 : w1.cell? ⟨w.heap.size, 2, none⟩ = some (.int .i64 o) := Blk.get k0 rfl
      have hz := k0.lt
      have hs2 : s ≤ s + 1 := by omega
      have hs3 : 0 ≤ s + 1 := by omega
      have hbs := HBS.out
      have hen := HEN.out
      have z1 : ¬ 9223372036854775807 < (S [ltr s]).size + (ups 0).size := by
        rw [ups_size, one_size]
        omega
      have z2 : ¬ 9223372036854775807 < (S [ltr s]).size + (ups 0).size + (dns 0).size := by
        rw [ups_size, dns_size, one_size]
        omega
      have z3 : ¬ 9223372036854775807 < (S [ltr s]).size + (ups 0).size + (dns 0).size + (S [dgt o]).size := by
        rw [ups_size, dns_size, one_size, one_size]
        omega
      have HE := Lib.hid (txt_at s o 0 0 0 rfl rfl)
      clear hb k0
      go_wp2_with fail
      go_region_held3 (fun w' => w'.cell? ⟨w.heap.size, 0, none⟩ = some (.int .i64 s) ∧ w'.cell? ⟨w.heap.size, 1, none⟩ = some (.int .i64 0) ∧ w'.cell? ⟨w.heap.size, 2, none⟩ = some (.int .i64 o) ∧ Below w.heap.size w w')
        (first | exact ⟨c0, c1, c2, hB.drew⟩ | (go_split_ands; (repeat' apply And.intro) <;> first | (with_reducible assumption) | (with_reducible exact cell_pure hbc (cell_lt (by assumption)) (by assumption)) | (with_reducible exact below_pure (by assumption) hbc)))
        (first | (go_at_call_of 42 (Value.string ⟨#[35]⟩); (with_reducible refine (rep_up _ 0 _ (by first | rfl | decide | omega) (by omega)).mono ?_); rintro e w2 ⟨rfl, hbc⟩) | (go_at_call_of 42 (Value.string ⟨#[98]⟩); (with_reducible refine (rep_dn _ 0 _ (by first | rfl | decide | omega) (by omega)).mono ?_); rintro e w2 ⟨rfl, hbc⟩))
      all_goals
        go_split_ands
        go_wp2_with fail
        go_ret
        exact ⟨by rw [HR.out, ← HE.out]; rfl, by assumption⟩
    · go_enter Try.func26, Try.ntmps26
      go_wp2_with fail
      refine (H.out _).mono ?_
      rintro e w1 ⟨rfl, hb⟩
      have k0 : Blk w1 w.heap.size 25 #[.int .i64 s, .int .i64 1, .int .i64 o] := (Blk.new w _ _).pure hb
      have hB := below_pure (w := w) (by go_grown) hb
      have c0 : w1.cell? ⟨w.heap.size, 0, none⟩ = some (.int .i64 s) := Blk.get k0 rfl
      have c1 : w1.cell? ⟨w.heap.size, 1, none⟩ = some (.int .i64 1) := Blk.get k0 rfl
      have c2 : w1.cell? ⟨w.heap.size, 2, none⟩ = some (.int .i64 o) := Blk.get k0 rfl
      have hz := k0.lt
      have hs2 : s ≤ s + 1 := by omega
      have hs3 : 0 ≤ s + 1 := by omega
      have hbs := HBS.out
      have hen := HEN.out
      have z1 : ¬ 9223372036854775807 < (S [ltr s]).size + (ups 1).size := by
        rw [ups_size, one_size]
        omega
      have z2 : ¬ 9223372036854775807 < (S [ltr s]).size + (ups 1).size + (dns 0).size := by
        rw [ups_size, dns_size, one_size]
        omega
      have z3 : ¬ 9223372036854775807 < (S [ltr s]).size + (ups 1).size + (dns 0).size + (S [dgt o]).size := by
        rw [ups_size, dns_size, one_size, one_size]
        omega
      have HE := Lib.hid (txt_at s o 1 1 0 rfl rfl)
      clear hb k0
      go_wp2_with fail
      go_region_held3 (fun w' => w'.cell? ⟨w.heap.size, 0, none⟩ = some (.int .i64 s) ∧ w'.cell? ⟨w.heap.size, 1, none⟩ = some (.int .i64 1) ∧ w'.cell? ⟨w.heap.size, 2, none⟩ = some (.int .i64 o) ∧ Below w.heap.size w w')
        (first | exact ⟨c0, c1, c2, hB.drew⟩ | (go_split_ands; (repeat' apply And.intro) <;> first | (with_reducible assumption) | (with_reducible exact cell_pure hbc (cell_lt (by assumption)) (by assumption)) | (with_reducible exact below_pure (by assumption) hbc)))
        (first | (go_at_call_of 42 (Value.string ⟨#[35]⟩); (with_reducible refine (rep_up _ 1 _ (by first | rfl | decide | omega) (by omega)).mono ?_); rintro e w2 ⟨rfl, hbc⟩) | (go_at_call_of 42 (Value.string ⟨#[98]⟩); (with_reducible refine (rep_dn _ 0 _ (by first | rfl | decide | omega) (by omega)).mono ?_); rintro e w2 ⟨rfl, hbc⟩))
      all_goals
        go_split_ands
        go_wp2_with fail
        go_ret
        exact ⟨by rw [HR.out, ← HE.out]; rfl, by assumption⟩
    · go_enter Try.func26, Try.ntmps26
      go_wp2_with fail
      refine (H.out _).mono ?_
      rintro e w1 ⟨rfl, hb⟩
      have k0 : Blk w1 w.heap.size 25 #[.int .i64 s, .int .i64 2, .int .i64 o] := (Blk.new w _ _).pure hb
      have hB := below_pure (w := w) (by go_grown) hb
      have c0 : w1.cell? ⟨w.heap.size, 0, none⟩ = some (.int .i64 s) := Blk.get k0 rfl
      have c1 : w1.cell? ⟨w.heap.size, 1, none⟩ = some (.int .i64 2) := Blk.get k0 rfl
      have c2 : w1.cell? ⟨w.heap.size, 2, none⟩ = some (.int .i64 o) := Blk.get k0 rfl
      have hz := k0.lt
      have hs2 : s ≤ s + 1 := by omega
      have hs3 : 0 ≤ s + 1 := by omega
      have hbs := HBS.out
      have hen := HEN.out
      have z1 : ¬ 9223372036854775807 < (S [ltr s]).size + (ups 2).size := by
        rw [ups_size, one_size]
        omega
      have z2 : ¬ 9223372036854775807 < (S [ltr s]).size + (ups 2).size + (dns 0).size := by
        rw [ups_size, dns_size, one_size]
        omega
      have z3 : ¬ 9223372036854775807 < (S [ltr s]).size + (ups 2).size + (dns 0).size + (S [dgt o]).size := by
        rw [ups_size, dns_size, one_size, one_size]
        omega
      have HE := Lib.hid (txt_at s o 2 2 0 rfl rfl)
      clear hb k0
      go_wp2_with fail
      go_region_held3 (fun w' => w'.cell? ⟨w.heap.size, 0, none⟩ = some (.int .i64 s) ∧ w'.cell? ⟨w.heap.size, 1, none⟩ = some (.int .i64 2) ∧ w'.cell? ⟨w.heap.size, 2, none⟩ = some (.int .i64 o) ∧ Below w.heap.size w w')
        (first | exact ⟨c0, c1, c2, hB.drew⟩ | (go_split_ands; (repeat' apply And.intro) <;> first | (with_reducible assumption) | (with_reducible exact cell_pure hbc (cell_lt (by assumption)) (by assumption)) | (with_reducible exact below_pure (by assumption) hbc)))
        (first | (go_at_call_of 42 (Value.string ⟨#[35]⟩); (with_reducible refine (rep_up _ 2 _ (by first | rfl | decide | omega) (by omega)).mono ?_); rintro e w2 ⟨rfl, hbc⟩) | (go_at_call_of 42 (Value.string ⟨#[98]⟩); (with_reducible refine (rep_dn _ 0 _ (by first | rfl | decide | omega) (by omega)).mono ?_); rintro e w2 ⟨rfl, hbc⟩))
      all_goals
        go_split_ands
        go_wp2_with fail
        go_ret
        exact ⟨by rw [HR.out, ← HE.out]; rfl, by assumption⟩

end Go.Proofs.Ytgogpjlemaajeaa
