/- The walks of KeyScale, of the program and of the reference: eight pitches in a row of the call's own, or none. No condition. -/
import Derived.Test.YtojkbeffhjcaiaaKd
import Derived.Test.YtojkbeffhjcaiaaRo
import Derived.Test.YtojkbeffhjcaiaaRp
import Derived.Test.YtojkbeffhjcaiaaKc
namespace Go.Proofs.Ytojkbeffhjcaiaa
open Go.RowKit

def sclN (f : Int) : Nat := if inR f (-7) 7 then 8 else 0
def sclI (f : Int) (m : Bool) (i : Nat) : Int :=
  if i % 3 = 0 then (28 + ton f m + ((i / 3 : Nat) : Int)) % 7 else if i % 3 = 1 then altV f ((28 + ton f m + ((i / 3 : Nat) : Int)) % 7) else (28 + ton f m + ((i / 3 : Nat) : Int)) / 7
theorem scl_0 (f : Int) (m : Bool) (k : Nat) : sclI f m (k * 3) = (28 + ton f m + (k : Int)) % 7 := by
  unfold sclI
  rw [if_pos (by omega), show k * 3 / 3 = k by omega]
theorem scl_1 (f : Int) (m : Bool) (k : Nat) : sclI f m (k * 3 + 1) = altV f ((28 + ton f m + (k : Int)) % 7) := by
  unfold sclI
  rw [if_neg (by omega), if_pos (by omega), show (k * 3 + 1) / 3 = k by omega]
theorem scl_2 (f : Int) (m : Bool) (k : Nat) : sclI f m (k * 3 + 2) = (28 + ton f m + (k : Int)) / 7 := by
  unfold sclI
  rw [if_neg (by omega), if_neg (by omega), show (k * 3 + 2) / 3 = k by omega]
theorem scl_row (f : Int) (m : Bool) (k : Nat) : rowL (ic (sclI f m)) (k * 3) ++ [.int .i64 ((28 + ton f m + (k : Int)) % 7), .int .i64 (altV f ((28 + ton f m + (k : Int)) % 7)), .int .i64 ((28 + ton f m + (k : Int)) / 7)] = rowL (ic (sclI f m)) ((k + 1) * 3) := by
  rw [show (k + 1) * 3 = k * 3 + 3 by omega, rowL_3]
  unfold ic
  rw [scl_0, scl_1, scl_2]

/-- What KeyScale leaves. -/
def ScalePost (f : Int) (m : Bool) (w : World) (e : Ending) (w' : World) : Prop :=
  ∃ a cap, e = .returned (.slice a (sclN f) cap) ∧ Below w.heap.size w w' ∧ Owns w' w.heap.size a (sclN f * 3) (ic (sclI f m)) ∧ sclN f ≤ cap ∧ cap ≤ maxLen

theorem infoP : (Try.prog.info? 27).map (fun i => (i.zero, i.size, i.bytes)) = some (some (.agg #[.int .i64 0, .int .i64 0, .int .i64 0]), 3, 24) := by kernel_rfl
theorem one3 (x y z : Int) : ∀ u ∈ [Value.int .i64 x, Value.int .i64 y, Value.int .i64 z], u.oneCell' = true := by
  intro u hu
  simp only [List.mem_cons, List.not_mem_nil, or_false] at hu
  rcases hu with rfl | rfl | rfl <;> rfl

set_option maxHeartbeats 2000000 in
theorem keyScale_any (f : Int) (m : Bool) (w : World) :
    Calls Try.prog 30 #[.int .i64 f, .bool m] w (ScalePost f m w) := by
  cases hk : inR f (-7) 7
  · have e1 : sclN f = 0 := by unfold sclN; rw [hk]; rfl
    have H1 := Lib.hid e1
    clear e1
    go_enter Try.func30, Try.ntmps30
    go_wp2_with (go_call (isKey_any _ _) as e w1 ⟨rfl, rfl⟩)
    go_ret
    have e1 := H1.out
    exact ⟨none, 0, by rw [e1]; rfl, by go_grown, by rw [e1]; exact Owns.none _ _ _ _, by omega, by unfold maxLen; omega⟩
  have e1 : sclN f = 8 := by unfold sclN; rw [hk]; rfl
  have H1 := Lib.hid e1
  clear e1
  obtain ⟨q0, q1⟩ := inR_t hk
  obtain ⟨t0, t1⟩ := ton_bd f m
  obtain ⟨i0, hi, hz0, hz1, hz2⟩ := info_parts infoP
  go_enter Try.func30, Try.ntmps30
  go_wp2_with (go_call (isKey_any _ _) as e w1 ⟨rfl, rfl⟩)
  have own0 : (w.alloc (Obj.cells #[] 27)).ownsRow w.heap.size 27 3 (.slice (some ⟨w.heap.size, 0, none⟩) 0 0) 0 (rowL (ic (sclI f m)) (0 * 3)) := World.ownsRow_made w #[] 0 (Nat.le_refl _) (by unfold maxLen; omega) rfl
  have hB : Below w.heap.size w (w.alloc (Obj.cells #[] 27)) := by go_grown
  go_loopw [5, 11] (fun v i wr => ∃ k : Nat, k ≤ 8 ∧ i = .int .i64 k ∧ wr.ownsRow w.heap.size 27 3 v k (rowL (ic (sclI f m)) (k * 3)) ∧ Below w.heap.size w wr) (fun _ i _ => 8 - (intOf i).toNat)
  case atStart => exact ⟨0, Nat.zero_le _, rfl, own0, hB⟩
  case round =>
    clear own0 hB
    obtain ⟨k, hk8, rfl, own, hB⟩ := hrel
    have hsz := hB.size
    by_cases hlt : k < 8
    · go_wp2_with fail
      go_call (tonicPlace_any _ _ (by omega) (by omega) _) as e w1 ⟨rfl, rfl⟩
      go_wp2_with fail
      go_call (keyPitch_any f _ (by omega) (by omega) _) as e w2 ⟨rfl, hb⟩
      have own2 := row_pure own hb
      have hB2 := below_pure hB hb
      have hsz2 := hB2.size
      clear own hb hB hsz
      have OWN := Lib.hid own2
      go_wp2_with (at_builtin; refine wpList_append_lies _ rfl _ _ 40 rfl w.heap.size 27 i0 (.agg #[.int .i64 0, .int .i64 0, .int .i64 0]) 3 24 Try.underlying40 hi hz0 hz1 hz2 rfl (by omega) u5 k (rowL (ic (sclI f m)) (k * 3)) rfl (OWN.out.alloc _) ⟨w2.heap.size, 0, none⟩ 1 1 [.int .i64 ((28 + ton f m + (k : Int)) % 7), .int .i64 (altV f ((28 + ton f m + (k : Int)) % 7)), .int .i64 ((28 + ton f m + (k : Int)) / 7)] rfl rfl (World.news_of_block (heap_alloc_new w2 _)) (one3 _ _ _) (by omega) (by unfold maxLen; omega) (by omega) (by simp; omega) (w2.heap.size + 1) (by simp) ?_; intro g cap w3 own3 hgrow hat hglt)
      rw [scl_row] at own3
      have hB3 := below_append hB2 hsz2 hgrow (fun j hj => (OWN.out.lt j hj).1)
      clear hgrow hat hglt hB2 hsz2 OWN own2
      go_wp2_with fail
      go_roundw
      case rel => exact ⟨k + 1, by omega, by go_num, own3, hB3⟩
      case measure => simp [intOf]; omega
    · obtain rfl : k = 8 := by omega
      go_wp2
      go_ret
      obtain ⟨a, cap, rfl, h1, h2, h3⟩ := owns_of_row own
      have e1 := H1.out
      exact ⟨a, cap, by rw [e1]; rfl, hB, by rw [e1]; exact h3, by rw [e1]; exact h1, h2⟩

set_option maxHeartbeats 2000000 in
theorem specKeyScale_any (f : Int) (m : Bool) (w : World) :
    Calls Try.prog 29 #[.int .i64 f, .bool m] w (ScalePost f m w) := by
  cases hk : inR f (-7) 7
  · have e1 : sclN f = 0 := by unfold sclN; rw [hk]; rfl
    have H1 := Lib.hid e1
    clear e1
    go_enter Try.func29, Try.ntmps29
    go_wp2_with fail
    refine wp_loop_rounds 1 ?_
    rw [rounds_succ]
    go_wp2_with (go_call (l1In_any _ _ _ _) as e w1 ⟨rfl, rfl⟩)
    go_ret
    have e1 := H1.out
    exact ⟨_, 0, by rw [e1]; rfl, by go_grown, by rw [e1]; exact Owns.none _ _ _ _, by omega, by unfold maxLen; omega⟩
  have e1 : sclN f = 8 := by unfold sclN; rw [hk]; rfl
  have H1 := Lib.hid e1
  clear e1
  obtain ⟨q0, q1⟩ := inR_t hk
  obtain ⟨t0, t1⟩ := ton_bd f m
  obtain ⟨i0, hi, hz0, hz1, hz2⟩ := info_parts infoP
  have HA : ∀ k : Nat, k < 8 → altV f ((28 + ton f m + (k : Int)) % 7) = alt f ((28 + ton f m + (k : Int)) % 7) := fun k _ => altV_t (keyB_mk (by omega))
  replace HA := Lib.hid HA
  go_enter Try.func29, Try.ntmps29
  go_wp2_with fail
  have own0 : (w.alloc (Obj.cells #[] 27)).ownsRow w.heap.size 27 3 (.slice (some ⟨w.heap.size, 0, none⟩) 0 0) 0 (rowL (ic (sclI f m)) (0 * 3)) := World.ownsRow_made w #[] 0 (Nat.le_refl _) (by unfold maxLen; omega) rfl
  have hB : Below w.heap.size w (w.alloc (Obj.cells #[] 27)) := by go_grown
  go_loopw [5, 6] (fun v i wr => ∃ k : Nat, k ≤ 8 ∧ i = .int .i64 k ∧ wr.ownsRow w.heap.size 27 3 v k (rowL (ic (sclI f m)) (k * 3)) ∧ Below w.heap.size w wr) (fun _ i _ => 8 - (intOf i).toNat)
  case atStart => exact ⟨0, Nat.zero_le _, rfl, own0, hB⟩
  case round =>
    clear own0 hB
    obtain ⟨k, hk8, rfl, own, hB⟩ := hrel
    have hsz := hB.size
    by_cases hlt : k < 8
    · have m0 : 0 ≤ (28 + ton f m + (k : Int)) % 7 := by omega
      have m1 : (28 + ton f m + (k : Int)) % 7 ≤ 6 := by omega
      have hal := Lib.hid (HA.out k hlt)
      go_wp2_with (go_at_call 48; go_call (l1In_any _ _ _ _) as e w1 ⟨rfl, rfl⟩)
      go_call (l3Tonic_any _ _ (by omega) (by omega) _) as e w1 ⟨rfl, rfl⟩
      go_wp2_with fail
      go_call (l3Alter_any f _ (by omega) (by omega) (by omega) (by omega) _) as e w2 ⟨rfl, hb⟩
      have own2 := row_pure own hb
      have hB2 := below_pure hB hb
      have hsz2 := hB2.size
      clear own hb hB hsz
      have OWN := Lib.hid own2
      go_wp2_with (at_builtin; refine wpList_append_lies _ rfl _ _ 40 rfl w.heap.size 27 i0 (.agg #[.int .i64 0, .int .i64 0, .int .i64 0]) 3 24 Try.underlying40 hi hz0 hz1 hz2 rfl (by omega) u5 k (rowL (ic (sclI f m)) (k * 3)) rfl (OWN.out.alloc _) ⟨w2.heap.size, 0, none⟩ 1 1 [.int .i64 ((28 + ton f m + (k : Int)) % 7), .int .i64 (alt f ((28 + ton f m + (k : Int)) % 7)), .int .i64 ((28 + ton f m + (k : Int)) / 7)] rfl rfl (World.news_of_block (heap_alloc_new w2 _)) (one3 _ _ _) (by omega) (by unfold maxLen; omega) (by omega) (by simp; omega) (w2.heap.size + 1) (by simp) ?_; intro g cap w3 own3 hgrow hat hglt)
      rw [← hal.out, scl_row] at own3
      have hB3 := below_append hB2 hsz2 hgrow (fun j hj => (OWN.out.lt j hj).1)
      clear hgrow hat hglt hB2 hsz2 OWN own2
      go_wp2_with fail
      go_roundw
      case rel => exact ⟨k + 1, by omega, by go_num, own3, hB3⟩
      case measure => simp [intOf]; omega
    · obtain rfl : k = 8 := by omega
      go_wp2
      go_ret
      obtain ⟨a, cap, rfl, h1, h2, h3⟩ := owns_of_row own
      have e1 := H1.out
      exact ⟨a, cap, by rw [e1]; rfl, hB, by rw [e1]; exact h3, by rw [e1]; exact h1, h2⟩

end Go.Proofs.Ytojkbeffhjcaiaa
