/- The program's reader of texts of pitches, at every string: it returns the pitch whose text the string is, or nothing. Condition: the string is no longer than any machine allows. -/
import Derived.Test.YtgogpjlemaajeaaRf
namespace Go.Proofs.Ytgogpjlemaajeaa
open Go.RowKit

theorem S_toList (l : List UInt8) : (S l).toList = l := by
  rw [ByteArray.toList_eq]
  simp [S]
theorem wrap_small (n : Int) (h0 : -1000 ≤ n) (h1 : n ≤ 1000) : IntKind.i64.wrap n = n := IntWalk.i64_in _ (by omega)
theorem byte_bd (c : UInt8) : 0 ≤ (c.toNat : Int) ∧ (c.toNat : Int) ≤ 255 := by
  have := c.toNat_lt
  omega
theorem byte_back (c : UInt8) : ((c.toNat : Int)).toNat.toUInt8 = c := by simp
theorem count_bd (l : List UInt8) (c : UInt8) : 0 ≤ (Lib.countByte l c : Int) ∧ (Lib.countByte l c : Int) ≤ l.length := by
  unfold Lib.countByte
  have := List.count_le_length (a := c) (l := l)
  omega
theorem rV_rd (l : List UInt8) : rV l = rdV (rB l) (rS l) (rA l) (rO l) := rfl
theorem rdV_false (i a o i' a' o' : Int) : rdV false i a o = rdV false i' a' o' := rfl

set_option maxHeartbeats 1000000 in
theorem readPitch_out (x : ByteArray) (h : x.size < 2 ∨ 4 < x.size) (hm : x.size ≤ maxLen) (w : World) :
    Calls Try.prog 23 #[.string x] w (Gives (rdV false 0 0 0) w) := by
  unfold maxLen at hm
  by_cases h1 : x.size < 2
  · have h2 : (x.size : Int) < 2 := by omega
    clear h hm
    go_enter Try.func23, Try.ntmps23
    go_wp2_with fail
    refine bodyPost_ret (v := .tuple #[.agg #[.int .i64 0, .int .i64 0, .int .i64 0], .bool false]) (by simp [results, Try.results23, go_sem, *]) rfl ⟨rfl, by go_grown⟩
  · have h2 : ¬ (x.size : Int) < 2 := by omega
    have h3 : (4 : Int) < (x.size : Int) := by omega
    have h4 : 4 < x.size := by omega
    clear h
    go_enter Try.func23, Try.ntmps23
    go_wp2_with fail
    refine bodyPost_ret (v := .tuple #[.agg #[.int .i64 0, .int .i64 0, .int .i64 0], .bool false]) (by simp [results, Try.results23, go_sem, *]) rfl ⟨rfl, by go_grown⟩

/-- What the bytes of a string spell, as the walk has it, is what the plain law has. -/
theorem spelt (l : List UInt8) (h2 : 2 ≤ (S l).size) (h4 : (S l).size ≤ 4) :
    Lib.indexByte (⟨#[67, 68, 69, 70, 71, 65, 66]⟩ : ByteArray).data.toList (((S l)[0]'(by omega)).toNat : Int).toNat.toUInt8 = rS l ∧
    IntKind.i64.wrap ((Lib.countByte ((S l).extract 1 ((S l).size - 1)).data.toList 35 : Int) - (Lib.countByte ((S l).extract 1 ((S l).size - 1)).data.toList 98 : Int)) = rA l ∧
    IntKind.i64.wrap (IntKind.i64.wrap (((S l)[(S l).size - 1]'(by omega)).toNat : Int) - 48) = rO l ∧
    ((S (txtL (rS l) (rA l) (rO l))).toList == (S l).toList) = rB l := by
  have hB : ((S (txtL (rS l) (rA l) (rO l))).toList == (S l).toList) = rB l := by
    rw [S_toList, S_toList, rB_at l ⟨by rw [← S_size]; exact h2, by rw [← S_size]; exact h4⟩ _ _ _ rfl rfl rfl]
  have hb := byte_bd ((S l)[(S l).size - 1]'(by omega))
  have e1 := wrap_small (((S l)[(S l).size - 1]'(by omega)).toNat : Int) (by omega) (by omega)
  have e2 := wrap_small ((((S l)[(S l).size - 1]'(by omega)).toNat : Int) - 48) (by omega) (by omega)
  have c1 := count_bd ((S l).extract 1 ((S l).size - 1)).data.toList 35
  have c2 := count_bd ((S l).extract 1 ((S l).size - 1)).data.toList 98
  have hx : (((S l).extract 1 ((S l).size - 1)).data.toList.length : Int) ≤ 4 := by
    simp
    omega
  have e3 := wrap_small ((Lib.countByte ((S l).extract 1 ((S l).size - 1)).data.toList 35 : Int) - (Lib.countByte ((S l).extract 1 ((S l).size - 1)).data.toList 98 : Int)) (by omega) (by omega)
  rw [e1, e2, e3, byte_back]
  refine ⟨?_, ?_, ?_, hB⟩
  all_goals
    clear hB hb e1 e2 c1 c2 hx e3
    have g2 : 2 ≤ l.length := by rw [← S_size]; exact h2
    have g4 : l.length ≤ 4 := by rw [← S_size]; exact h4
    match l, g2, g4, h2, h4 with
    | [p, q], _, _, _, _ => rfl
    | [p, q, r], _, _, _, _ => rfl
    | [p, q, r, s], _, _, _, _ => rfl

theorem readPitch_any (l : List UInt8) (hl : (S l).size ≤ maxLen) (w : World) :
    Calls Try.prog 23 #[.string (S l)] w (Gives (rV l) w) := by
  by_cases h : 2 ≤ (S l).size ∧ (S l).size ≤ 4
  · obtain ⟨h2, h4⟩ := h
    obtain ⟨e1, e2, e3, e4⟩ := spelt l h2 h4
    rw [rV_rd]
    exact readPitch_mid (S l) _ h2 h4 _ _ _ _ _ _ _ _ w _ (Lib.hid rfl) (Lib.hid rfl) (Lib.hid e1) (Lib.hid rfl) (Lib.hid rfl) (Lib.hid e2) (Lib.hid rfl) (Lib.hid rfl) (Lib.hid e3) (Lib.hid e4)
  · have hb : rB l = false := rB_len l (fun hh => h (by rw [S_size]; exact hh))
    rw [rV_rd, hb, rdV_false _ _ _ 0 0 0]
    exact readPitch_out (S l) (by omega) hl w

end Go.Proofs.Ytgogpjlemaajeaa
