/- The walk of the law FnKeyScale: it returns true, and nothing that was there turns. No condition. -/
import Derived.Test.YtojkbeffhjcaiaaDk
import Derived.Test.YtojkbeffhjcaiaaAl
import Derived.Test.YtojkbeffhjcaiaaKt
namespace Go.Proofs.Ytojkbeffhjcaiaa
open Go.RowKit

theorem Sees.drew {w : World} {a : Option Addr} {N : Nat} {c : Nat → Value} (h : Sees w a N c) : Sees w.drew a N c := h
theorem sees_of_owns_below {w w' : World} {a : Option Addr} {N : Nat} {c : Nat → Value} (h : Sees w a N c) (hb : Below w.heap.size w w') : Sees w' a N c := h.pure hb
/-- Degree k of a scale, as cells. -/
theorem deg3 {w : World} {g off : Nat} {f : Int} {m : Bool} {k : Nat} (hc : ∀ i, i < 8 * 3 → w.cell? ⟨g, off + i, none⟩ = some (ic (sclI f m) i)) (hk : k < 8) :
    w.cell? ⟨g, off + k * 3, none⟩ = some (.int .i64 (dS f m k)) ∧ w.cell? ⟨g, off + k * 3 + 1, none⟩ = some (.int .i64 (dA f m k)) ∧ w.cell? ⟨g, off + k * 3 + 2, none⟩ = some (.int .i64 (dO f m k)) := by
  obtain ⟨h0, h1, h2⟩ := at3 (n := 8) hc hk
  rw [scl_0] at h0
  rw [scl_1] at h1
  rw [scl_2] at h2
  exact ⟨h0, h1, h2⟩
def wantB (m : Bool) (k : Nat) : Bool := !m && (k == 3 || k == 7) || m && (k == 2 || k == 5)
theorem want_t {m : Bool} {k : Nat} (h : wantB m k = true) : want m k = 1 := by unfold wantB at h; unfold want; rw [h]; rfl
theorem want_f {m : Bool} {k : Nat} (h : wantB m k = false) : want m k = 2 := by unfold wantB at h; unfold want; rw [h]; rfl

set_option maxHeartbeats 8000000 in
set_option maxRecDepth 100000 in
theorem fnKeyScale_walk (a : Option Addr) (len cap : Nat) (w : World) (hC : Code' w a len cap) :
    Calls Try.prog 12 #[.slice a len cap] w (Gives (.bool true) w) := by
  by_cases hlen : 1048576 < len
  · have hcap : len ≤ 9223372036854775807 := by have h1 := hC.2.1; have h2 := hC.2.2; unfold maxLen at h2; omega
    go_enter Try.func12, Try.ntmps12
    go_wp2
    go_ret
    exact ⟨rfl, by go_grown⟩
  have hlen' : len ≤ 1048576 := by omega
  have HC := Lib.hid hC
  clear hC
  go_enter Try.func12, Try.ntmps12
  go_wp2_with fail
  refine (drawKeyScale_any _ _ _ _ HC.out hlen').mono ?_
  rintro e c1 ⟨f, b, rfl, ⟨f0, f1⟩, hb⟩
  have hB : Below w.heap.size w c1 := by have h := below_pure (w := w) (by go_grown) hb; exact h
  have hsz := hB.size
  clear hb HC
  cases hk : inR f (-7) 7
  · have hk' := inR_f hk
    have e1 : sclN f = 0 := by unfold sclN; rw [hk]; rfl
    obtain rfl | rfl : f = -8 ∨ f = 8 := by omega
    all_goals
      clear hk'
      go_wp2_with fail
      refine (keyScale_any _ b _).mono ?_
      rintro e u1 ⟨x, cx, rfl, hb, O, l1x, l2⟩
      rw [e1] at O l1x ⊢
      have Sx := O.sees
      replace hB := below_pure hB hb
      clear hb O l2; replace hsz := hB.size
      go_wp2_with fail
      refine (specKeyScale_any _ b _).mono ?_
      rintro e u2 ⟨y, cy, rfl, hb, O, l1y, l2⟩
      rw [e1] at O l1y ⊢
      have Sy := O.sees
      replace Sx := Sx.pure hb
      replace hB := below_pure hB hb
      clear hb O l2; replace hsz := hB.size
      go_wp2_with fail
      refine (samePitches_any _ _ 0 _ _ _ _ Sx Sy (by omega)).mono ?_
      rintro e u3 ⟨rfl, hb⟩
      replace hB := below_pure hB hb
      clear hb
      go_wp2_with (go_call (alive_any _) as e u4 ⟨rfl, hb⟩; replace hB := below_pure hB hb; clear hb)
      go_ret
      exact ⟨rfl, hB⟩
  obtain ⟨q0, q1⟩ := inR_t hk
  have e1 : sclN f = 8 := by unfold sclN; rw [hk]; rfl
  go_wp2_with fail
  refine (keyScale_any f b _).mono ?_
  rintro e u1 ⟨x, cx, rfl, hb, O, l1x, l2x⟩
  rw [e1] at O l1x ⊢
  have Sx := O.sees
  replace hB := below_pure hB hb
  clear hb O; replace hsz := hB.size
  go_wp2_with fail
  refine (specKeyScale_any f b _).mono ?_
  rintro e u2 ⟨y, cy, rfl, hb, O, l1y, l2y⟩
  rw [e1] at O l1y ⊢
  have Sy := O.sees
  replace Sx := Sx.pure hb
  replace hB := below_pure hB hb
  clear hb O; replace hsz := hB.size
  unfold maxLen at l2x
  go_wp2_with fail
  refine (samePitches_any _ _ 8 _ _ _ _ Sx Sy (by omega)).mono ?_
  rintro e u3 ⟨rfl, hb⟩
  replace hB := below_pure hB hb
  replace Sx := Sx.pure hb
  clear hb Sy e1 hsz l1y l2y
  go_wp2_with fail
  go_loopw [6] (fun i wr => ∃ j : Nat, j ≤ 7 ∧ i = .int .i64 ((j : Int) + 1) ∧ Sees wr x (8 * 3) (ic (sclI f b)) ∧ Below w.heap.size w wr) (fun i _ => 8 - (intOf i).toNat)
  case atStart => exact ⟨0, by omega, rfl, Sx, hB⟩
  case round =>
    clear Sx hB
    obtain ⟨j, hj7, rfl, Sx, hB⟩ := hrel
    have hsz := hB.size
    obtain ⟨g, off, rfl, hc⟩ := Sx (by omega)
    by_cases hlt : j < 7
    · obtain ⟨c0, c1, c2⟩ := deg3 hc (show j < 8 by omega)
      obtain ⟨d0, d1, d2⟩ := deg3 hc (show j + 1 < 8 by omega)
      obtain ⟨k1, k2, k3⟩ := scale_facts f b j hk hlt
      have zl := cell_lt c0
      clear hc
      have HI := fun W => inKey_any f (dS f b (j + 1)) (dA f b (j + 1)) (dO f b (j + 1)) W
      rw [k3] at HI
      replace HI := Lib.hid HI
      clear k3
      have hk1 := Lib.hid k1
      have hk2 := Lib.hid k2
      clear k1 k2
      go_upto_region 13 with fail
      go_cut [63] (fun v wc => v = .bool (wantB b (j + 1)) ∧ wc = wr)
      case first =>
        have hj : j = 0 ∨ j = 1 ∨ j = 2 ∨ j = 3 ∨ j = 4 ∨ j = 5 ∨ j = 6 := by omega
        clear c0 c1 c2 d0 d1 d2 HI hk1 hk2 Sx hB zl
        rcases hj with rfl | rfl | rfl | rfl | rfl | rfl | rfl <;> cases b
        all_goals
          go_wp2_with fail
          go_meet
          exact ⟨rfl, rfl⟩
      case rest =>
        obtain ⟨rfl, rfl⟩ := hcut
        cases hw : wantB b (j + 1)
        · have k1 := hk1.out
          have k2 := hk2.out
          rw [want_f hw] at k1
          generalize dS f b (j + 1) = s1 at *
          generalize dA f b (j + 1) = x1 at *
          generalize dO f b (j + 1) = o1 at *
          generalize dS f b j = s0 at *
          generalize dA f b j = x0 at *
          generalize dO f b j = o0 at *
          have hw1 : IntKind.i64.wrap (keyV s1 x1 o1 - keyV s0 x0 o0) = 2 := by rw [k1]; rfl
          have hw2 : IntKind.i64.wrap (placeV s1 x1 o1 - placeV s0 x0 o0) = 1 := by rw [k2]; rfl
          have hi0 : (0 : Int) ≤ (j : Int) + 1 := by omega
          have hi1 : (j : Int) + 1 < 8 := by omega
          have hi2 : (0 : Int) ≤ (j : Int) := by omega
          have hi3 : (j : Int) < 8 := by omega
          have hw3 : IntKind.i64.wrap ((j : Int) + 1 - 1) = (j : Int) := by rw [show (j : Int) + 1 - 1 = (j : Int) by omega]; exact IntWalk.i64_in _ (by omega)
          have hw4 : IntKind.i64.wrap (j : Int) = (j : Int) := IntWalk.i64_in _ (by omega)
          have ht : ((j : Int) + 1).toNat = j + 1 := by omega
          clear k1 k2 hk1 hk2 hw
          go_upto_region 15 with fail
          go_cut [101] (fun v wc => v = .bool false ∧ Sees wc (some ⟨g, off, none⟩) (8 * 3) (ic (sclI f b)) ∧ Below w.heap.size w wc)
          case first =>
            have HSd := Lib.hid (show wc.drew.cell? ⟨g, off + (j + 1) * 3, none⟩ = some (.int .i64 s1) ∧ wc.drew.cell? ⟨g, off + (j + 1) * 3 + 1, none⟩ = some (.int .i64 x1) ∧ wc.drew.cell? ⟨g, off + (j + 1) * 3 + 2, none⟩ = some (.int .i64 o1) ∧ wc.drew.cell? ⟨g, off + j * 3, none⟩ = some (.int .i64 s0) ∧ wc.drew.cell? ⟨g, off + j * 3 + 1, none⟩ = some (.int .i64 x0) ∧ wc.drew.cell? ⟨g, off + j * 3 + 2, none⟩ = some (.int .i64 o0) ∧ Sees wc.drew (some ⟨g, off, none⟩) (8 * 3) (ic (sclI f b)) ∧ Below w.heap.size w wc.drew from ⟨d0, d1, d2, c0, c1, c2, Sx.drew, hB.drew⟩)
            have hz : g < wc.heap.size := zl
            clear d0 d1 d2 c0 c1 c2 Sx hB
            go_region_held3 (fun w' => w'.cell? ⟨g, off + (j + 1) * 3, none⟩ = some (.int .i64 s1) ∧ w'.cell? ⟨g, off + (j + 1) * 3 + 1, none⟩ = some (.int .i64 x1) ∧ w'.cell? ⟨g, off + (j + 1) * 3 + 2, none⟩ = some (.int .i64 o1) ∧ w'.cell? ⟨g, off + j * 3, none⟩ = some (.int .i64 s0) ∧ w'.cell? ⟨g, off + j * 3 + 1, none⟩ = some (.int .i64 x0) ∧ w'.cell? ⟨g, off + j * 3 + 2, none⟩ = some (.int .i64 o0) ∧ Sees w' (some ⟨g, off, none⟩) (8 * 3) (ic (sclI f b)) ∧ Below w.heap.size w w')
              (first | exact HSd.out | (go_split_ands; (repeat' apply And.intro) <;> first | (with_reducible assumption) | (with_reducible exact cell_pure hbc (cell_lt (by assumption)) (by assumption)) | (with_reducible exact Sees.pure (by assumption) hbc) | (with_reducible exact below_pure (by assumption) hbc)))
              (first | (go_at_call 41; refine (pitchKey_any _ _ _ _).mono ?_; rintro e w2 ⟨rfl, hbc⟩) | (go_at_call 42; refine (pitchPlace_any _ _ _ _).mono ?_; rintro e w2 ⟨rfl, hbc⟩) | (go_at_call 21; refine (HI.out _).mono ?_; rintro e w2 ⟨rfl, hbc⟩))
            all_goals
              clear HSd
              go_split_ands
              go_wp2_with fail
              go_meet
              exact ⟨rfl, by assumption, by assumption⟩
          case rest =>
            clear d0 d1 d2 c0 c1 c2 Sx hB hsz zl hw1 hw2 hw3 hw4 ht hi0 hi1 hi2 hi3
            obtain ⟨rfl, Sx, hB⟩ := hcut
            go_wp2_with fail
            go_roundw
            case rel => exact ⟨j + 1, by omega, by go_num, Sx, hB⟩
            case measure => simp [intOf]; omega
        · have k1 := hk1.out
          have k2 := hk2.out
          rw [want_t hw] at k1
          generalize dS f b (j + 1) = s1 at *
          generalize dA f b (j + 1) = x1 at *
          generalize dO f b (j + 1) = o1 at *
          generalize dS f b j = s0 at *
          generalize dA f b j = x0 at *
          generalize dO f b j = o0 at *
          have hw1 : IntKind.i64.wrap (keyV s1 x1 o1 - keyV s0 x0 o0) = 1 := by rw [k1]; rfl
          have hw2 : IntKind.i64.wrap (placeV s1 x1 o1 - placeV s0 x0 o0) = 1 := by rw [k2]; rfl
          have hi0 : (0 : Int) ≤ (j : Int) + 1 := by omega
          have hi1 : (j : Int) + 1 < 8 := by omega
          have hi2 : (0 : Int) ≤ (j : Int) := by omega
          have hi3 : (j : Int) < 8 := by omega
          have hw3 : IntKind.i64.wrap ((j : Int) + 1 - 1) = (j : Int) := by rw [show (j : Int) + 1 - 1 = (j : Int) by omega]; exact IntWalk.i64_in _ (by omega)
          have hw4 : IntKind.i64.wrap (j : Int) = (j : Int) := IntWalk.i64_in _ (by omega)
          have ht : ((j : Int) + 1).toNat = j + 1 := by omega
          clear k1 k2 hk1 hk2 hw
          go_upto_region 15 with fail
          go_cut [101] (fun v wc => v = .bool false ∧ Sees wc (some ⟨g, off, none⟩) (8 * 3) (ic (sclI f b)) ∧ Below w.heap.size w wc)
          case first =>
            have HSd := Lib.hid (show wc.drew.cell? ⟨g, off + (j + 1) * 3, none⟩ = some (.int .i64 s1) ∧ wc.drew.cell? ⟨g, off + (j + 1) * 3 + 1, none⟩ = some (.int .i64 x1) ∧ wc.drew.cell? ⟨g, off + (j + 1) * 3 + 2, none⟩ = some (.int .i64 o1) ∧ wc.drew.cell? ⟨g, off + j * 3, none⟩ = some (.int .i64 s0) ∧ wc.drew.cell? ⟨g, off + j * 3 + 1, none⟩ = some (.int .i64 x0) ∧ wc.drew.cell? ⟨g, off + j * 3 + 2, none⟩ = some (.int .i64 o0) ∧ Sees wc.drew (some ⟨g, off, none⟩) (8 * 3) (ic (sclI f b)) ∧ Below w.heap.size w wc.drew from ⟨d0, d1, d2, c0, c1, c2, Sx.drew, hB.drew⟩)
            have hz : g < wc.heap.size := zl
            clear d0 d1 d2 c0 c1 c2 Sx hB
            go_region_held3 (fun w' => w'.cell? ⟨g, off + (j + 1) * 3, none⟩ = some (.int .i64 s1) ∧ w'.cell? ⟨g, off + (j + 1) * 3 + 1, none⟩ = some (.int .i64 x1) ∧ w'.cell? ⟨g, off + (j + 1) * 3 + 2, none⟩ = some (.int .i64 o1) ∧ w'.cell? ⟨g, off + j * 3, none⟩ = some (.int .i64 s0) ∧ w'.cell? ⟨g, off + j * 3 + 1, none⟩ = some (.int .i64 x0) ∧ w'.cell? ⟨g, off + j * 3 + 2, none⟩ = some (.int .i64 o0) ∧ Sees w' (some ⟨g, off, none⟩) (8 * 3) (ic (sclI f b)) ∧ Below w.heap.size w w')
              (first | exact HSd.out | (go_split_ands; (repeat' apply And.intro) <;> first | (with_reducible assumption) | (with_reducible exact cell_pure hbc (cell_lt (by assumption)) (by assumption)) | (with_reducible exact Sees.pure (by assumption) hbc) | (with_reducible exact below_pure (by assumption) hbc)))
              (first | (go_at_call 41; refine (pitchKey_any _ _ _ _).mono ?_; rintro e w2 ⟨rfl, hbc⟩) | (go_at_call 42; refine (pitchPlace_any _ _ _ _).mono ?_; rintro e w2 ⟨rfl, hbc⟩) | (go_at_call 21; refine (HI.out _).mono ?_; rintro e w2 ⟨rfl, hbc⟩))
            all_goals
              clear HSd
              go_split_ands
              go_wp2_with fail
              go_meet
              exact ⟨rfl, by assumption, by assumption⟩
          case rest =>
            clear d0 d1 d2 c0 c1 c2 Sx hB hsz zl hw1 hw2 hw3 hw4 ht hi0 hi1 hi2 hi3
            obtain ⟨rfl, Sx, hB⟩ := hcut
            go_wp2_with fail
            go_roundw
            case rel => exact ⟨j + 1, by omega, by go_num, Sx, hB⟩
            case measure => simp [intOf]; omega
    · obtain rfl : j = 7 := by omega
      obtain ⟨c0, c1, c2⟩ := deg3 hc (show 0 < 8 by omega)
      obtain ⟨d0, d1, d2⟩ := deg3 hc (show 7 < 8 by omega)
      have k1 := scale_octave f b hk
      generalize dS f b 7 = s1 at *
      generalize dA f b 7 = x1 at *
      generalize dO f b 7 = o1 at *
      generalize dS f b 0 = s0 at *
      generalize dA f b 0 = x0 at *
      generalize dO f b 0 = o0 at *
      have hw1 : IntKind.i64.wrap (keyV s1 x1 o1 - keyV s0 x0 o0) = 12 := by rw [k1]; rfl
      have zl := cell_lt c0
      clear hc k1 Sx
      simp only [Nat.zero_mul, Nat.add_zero, Nat.reduceMul] at c0 c1 c2 d0 d1 d2
      go_upto_region 17 with fail
      have HSd := Lib.hid (show wr.drew.cell? ⟨g, off + 21, none⟩ = some (.int .i64 s1) ∧ wr.drew.cell? ⟨g, off + 21 + 1, none⟩ = some (.int .i64 x1) ∧ wr.drew.cell? ⟨g, off + 21 + 2, none⟩ = some (.int .i64 o1) ∧ wr.drew.cell? ⟨g, off, none⟩ = some (.int .i64 s0) ∧ wr.drew.cell? ⟨g, off + 1, none⟩ = some (.int .i64 x0) ∧ wr.drew.cell? ⟨g, off + 2, none⟩ = some (.int .i64 o0) ∧ Below w.heap.size w wr.drew from ⟨d0, d1, d2, c0, c1, c2, hB.drew⟩)
      have hz : g < wr.heap.size := zl
      clear d0 d1 d2 c0 c1 c2 hB
      go_region_held3 (fun w' => w'.cell? ⟨g, off + 21, none⟩ = some (.int .i64 s1) ∧ w'.cell? ⟨g, off + 21 + 1, none⟩ = some (.int .i64 x1) ∧ w'.cell? ⟨g, off + 21 + 2, none⟩ = some (.int .i64 o1) ∧ w'.cell? ⟨g, off, none⟩ = some (.int .i64 s0) ∧ w'.cell? ⟨g, off + 1, none⟩ = some (.int .i64 x0) ∧ w'.cell? ⟨g, off + 2, none⟩ = some (.int .i64 o0) ∧ Below w.heap.size w w')
        (first | exact HSd.out | (go_split_ands; (repeat' apply And.intro) <;> first | (with_reducible assumption) | (with_reducible exact cell_pure hbc (cell_lt (by assumption)) (by assumption)) | (with_reducible exact below_pure (by assumption) hbc)))
        (first | (go_at_call 41; refine (pitchKey_any _ _ _ _).mono ?_; rintro e w2 ⟨rfl, hbc⟩))
      all_goals
        clear HSd
        go_split_ands
        go_wp2
        go_ret
        exact ⟨rfl, by assumption⟩
end Go.Proofs.Ytojkbeffhjcaiaa
