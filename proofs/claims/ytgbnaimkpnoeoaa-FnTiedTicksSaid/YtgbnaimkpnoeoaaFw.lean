/- Rows of whole numbers: the walks of the laws' small functions on them, and of the tables of fewest values. Conditions: as stated. -/
import Derived.Test.YtgbnaimkpnoeoaaMf
import Derived.Deep.QuietTactic
import Derived.BigQuiet
import Derived.Laws.MakeOwn
namespace Go.Proofs.Ytgbnaimkpnoeoaa
open Go.RowKit

theorem infoI : (Try.prog.info? 3).map (fun i => (i.zero, i.size, i.bytes)) = some (some (.int .i64 0), 1, 8) := by kernel_rfl

/-- The cells of a block hold these numbers. -/
def Tab (w : World) (g N : Nat) (c : Nat → Int) : Prop := ∀ i, i < N → w.cell? ⟨g, i, none⟩ = some (.int .i64 (c i)) ∧ w.frozen? ⟨g, i, none⟩ = false
theorem Tab.congr {w : World} {g N : Nat} {c c' : Nat → Int} (h : Tab w g N c) (hc : ∀ i, i < N → c i = c' i) : Tab w g N c' := fun i hi => by
  rw [← hc i hi]
  exact h i hi
theorem Tab.lt {w : World} {g N : Nat} {c : Nat → Int} (h : Tab w g N c) (hN : 0 < N) : g < w.heap.size := cell_lt (h 0 hN).1
theorem Tab.pure {w w' : World} {g N : Nat} {c : Nat → Int} (h : Tab w g N c) (hb : Below w.heap.size w w') : Tab w' g N c := fun i hi => by
  obtain ⟨h1, h2⟩ := h i hi
  have hl := cell_lt h1
  exact ⟨(hb.cell (p := ⟨g, i, none⟩) hl).trans h1, (hb.frozen (p := ⟨g, i, none⟩) hl).trans h2⟩
theorem Tab.alloc {w : World} {g N : Nat} {c : Nat → Int} (h : Tab w g N c) (o : Obj) : Tab (w.alloc o) g N c := h.pure ((Below.refl _ _).alloc (Nat.le_refl _) o)
theorem Tab.drewN {w : World} {g N : Nat} {c : Nat → Int} (h : Tab w g N c) (n : Nat) : Tab (w.drewN n) g N c := h
theorem Tab.drew {w : World} {g N : Nat} {c : Nat → Int} (h : Tab w g N c) : Tab w.drew g N c := h
theorem Tab.set_ {w : World} {g N : Nat} {c : Nat → Int} (h : Tab w g N c) (j : Nat) (v : Int) : Tab (w.setCell ⟨g, j, none⟩ (.int .i64 v)) g N (fun i => if i = j then v else c i) := fun i hi => by
  obtain ⟨h1, h2⟩ := h i hi
  refine ⟨?_, by simpa using h2⟩
  show _ = some (Value.int .i64 (if i = j then v else c i))
  by_cases e : i = j
  · subst e
    rw [if_pos rfl]
    simp [go_sem, h1]
  · rw [if_neg e]
    exact (World.cell?_setCell_other _ _ _ _ (fun hh => e (by injection hh; omega))).trans h1
theorem Tab.made (w : World) (e : TypeId) (N : Nat) : Tab (w.alloc (.cells (madeCells #[.int .i64 0] N) e)) w.heap.size N (fun _ => 0) := fun i hi => by
  have hb := Blk.new w e (madeCells #[.int .i64 0] N)
  refine ⟨?_, Blk.frozen hb i⟩
  rw [Blk.cell hb i]
  simp [madeCells, hi, Nat.mod_one]
theorem Tab.sees {w : World} {g N : Nat} {c : Nat → Int} (h : Tab w g N c) : Sees w (some ⟨g, 0, none⟩) N (ic c) := fun _ => ⟨g, 0, rfl, fun i hi => by
  rw [Nat.zero_add]
  exact (h i hi).1⟩

theorem Owns.far {w : World} {B : Nat} {a : Option Addr} {N : Nat} {c : Nat → Value} (h : Owns w B a N c) {p : Addr} (hp : p.block < B) (u : Value) : Owns (w.setCell p u) B a N c := fun h0 => by
  obtain ⟨g, off, e, hg, hc⟩ := h h0
  refine ⟨g, off, e, hg, fun i hi => ⟨?_, by simpa using (hc i hi).2⟩⟩
  exact (World.cell?_setCell_other w p ⟨g, off + i, Option.none⟩ u (fun e => by rw [e] at hp; exact absurd hp (by simp; omega))).trans (hc i hi).1
theorem Owns.drew {w : World} {B : Nat} {a : Option Addr} {N : Nat} {c : Nat → Value} (h : Owns w B a N c) : Owns w.drew B a N c := h
theorem Owns.alloc {w : World} {B : Nat} {a : Option Addr} {N : Nat} {c : Nat → Value} (h : Owns w B a N c) (o : Obj) : Owns (w.alloc o) B a N c := h.pure ((Below.refl _ _).alloc (Nat.le_refl _) o)
theorem min_if (a b : Int) : (if b < a then b else a) = min a b := by split <;> omega

/-- The table inside round m + 1 behind q values. -/
def FR (m q : Nat) (i : Nat) : Int := if i = m + 1 then fstep (FT m) (m + 1) q else FT m i
theorem FR_start (m : Nat) : (fun i => if i = m + 1 then (769 : Int) else FT m i) = FR m 0 := rfl
theorem FR_done (m : Nat) : FR m 30 = FT (m + 1) := rfl
theorem FR_here (m q : Nat) : FR m q (m + 1) = fstep (FT m) (m + 1) q := if_pos rfl
theorem FR_far {m q i : Nat} (h : i ≠ m + 1) : FR m q i = FT m i := if_neg h
theorem FR_no {m q : Nat} (h : ¬ tn q ≤ m + 1) : FR m (q + 1) = FR m q := by
  funext i
  unfold FR
  rw [fstep_no h]
theorem FR_yes {m q : Nat} (hq : q < 30) (h : tn q ≤ m + 1) : (fun i => if i = m + 1 then min (FR m q (m + 1)) (FR m q (m + 1 - tn q) + 1) else FR m q i) = FR m (q + 1) := by
  have := tn_bd hq
  funext i
  rw [FR_here, FR_far (show m + 1 - tn q ≠ m + 1 by omega)]
  unfold FR
  rw [fstep_yes h]
  by_cases e : i = m + 1
  · rw [if_pos e, if_pos e]
  · rw [if_neg e, if_neg e, if_neg e]
theorem FT_bd : ∀ m i : Nat, 0 ≤ FT m i ∧ FT m i ≤ 769 := fun m i => by
  by_cases h : i ≤ m
  · rw [FT_same h]
    exact ⟨(Fw_ge i).1, Fw_le⟩
  · rw [FT_far (by omega)]
    omega
theorem fstep_bd {L : Nat → Int} (hL : ∀ i, 0 ≤ L i) (n : Nat) : ∀ q, 0 ≤ fstep L n q ∧ fstep L n q ≤ 769
  | 0 => by simp [fstep]
  | q + 1 => by
    have ih := fstep_bd hL n q
    by_cases ht : tn q ≤ n
    · rw [fstep_yes ht]
      have := hL (n - tn q)
      omega
    · rw [fstep_no ht]
      exact ih
theorem FR_bd (m q i : Nat) : 0 ≤ FR m q i ∧ FR m q i ≤ 769 := by
  by_cases e : i = m + 1
  · subst e
    rw [FR_here]
    exact fstep_bd (fun i => (FT_bd m i).1) _ _
  · rw [FR_far e]
    exact FT_bd m i

/-- A table that the call made. -/
def TabPost (w : World) (n : Nat) (c : Nat → Int) (e : Ending) (w' : World) : Prop :=
  ∃ g, e = .returned (.slice (some ⟨g, 0, none⟩) (n + 1) (n + 1)) ∧ Below w.heap.size w w' ∧ w.heap.size ≤ g ∧ Tab w' g (n + 1) c

set_option maxHeartbeats 4000000 in
theorem fewestValues_any (n : Nat) (w : World) (h1 : 1 ≤ n) (h2 : n ≤ 768) :
    Calls Try.prog 38 #[.int .i64 (n : Int)] w (TabPost w n Fw) := by
  obtain ⟨i0, hi, hz0, hz1, hz2⟩ := info_parts infoI
  have hmk := fun W : World => run_make (P := Try.prog) W 34 3 i0 _ Try.underlying34 hi hz0 .i64 .i64 ((n : Int) + 1) ((n : Int) + 1) (by omega) (by omega) (by rw [hz2]; omega) (by omega)
  rw [hz1] at hmk
  have hnn : ((n : Int) + 1).toNat = n + 1 := by omega
  simp only [hnn, Nat.mul_one, Value.cells] at hmk
  go_enter Try.func38, Try.ntmps38
  go_wp2_with fail
  have T0 := Tab.made w 3 (n + 1)
  have hB : Below w.heap.size w (w.alloc (.cells (madeCells #[.int .i64 0] (n + 1)) 3)) := by go_grown
  clear hmk hi hz0 hz1 hz2 hnn
  go_loopw [4] (fun i wr => ∃ m : Nat, m ≤ n ∧ i = .int .i64 ((m : Int) + 1) ∧ Tab wr w.heap.size (n + 1) (FT m) ∧ Below w.heap.size w wr) (fun i _ => n + 1 - (intOf i).toNat)
  case atStart => exact ⟨0, Nat.zero_le _, rfl, T0, hB⟩
  case round =>
    clear T0 hB
    obtain ⟨m, hm, rfl, T, hB⟩ := hrel
    have hsz := hB.size
    by_cases hlt : m < n
    · have hc := T (m + 1) (by omega)
      obtain ⟨hc1, hf1⟩ := hc
      have hzz := cell_lt hc1
      have T1 := T.set_ (m + 1) 769
      have hB1 : Below w.heap.size w (wr.setCell ⟨w.heap.size, m + 1, none⟩ (.int .i64 769)) := hB.setCell (p := ⟨w.heap.size, m + 1, none⟩) (Nat.le_refl _) _
      clear T hB
      rw [FR_start] at T1
      go_wp2_with fail
      refine (values_any _).mono ?_
      rintro e w1 ⟨x, cx, rfl, hb, O, l1, l2⟩
      have T2 := T1.pure hb
      have hB2 := below_pure hB1 hb
      have hB0 : w.heap.size < (wr.setCell ⟨w.heap.size, m + 1, none⟩ (.int .i64 769)).heap.size := by simpa using hzz
      generalize (wr.setCell ⟨w.heap.size, m + 1, none⟩ (.int .i64 769)).heap.size = B0 at O hB0
      have S0 := O
      unfold maxLen at l2
      clear hb O T1 hB1 hc1 hf1 hzz hsz
      go_wp2_with fail
      go_loopw [21] (fun i wr => ∃ q : Nat, q ≤ 30 ∧ i = .int .i64 (q : Int) ∧ Tab wr w.heap.size (n + 1) (FR m q) ∧ Owns wr B0 x (30 * 3) (ic vI) ∧ Below w.heap.size w wr) (fun i _ => 30 - (intOf i).toNat)
      case atStart => exact ⟨0, by omega, rfl, T2, S0, hB2⟩
      case round =>
        clear T2 S0 hB2
        obtain ⟨q, hq, rfl, T, S0, hB⟩ := hrel
        have hsz := hB.size
        by_cases hlq : q < 30
        · have S00 := S0
          obtain ⟨g, off, rfl, hg0, hc0⟩ := S0 (by omega)
          have hc := fun i hi => (hc0 i hi).1
          obtain ⟨c0, c1, c2⟩ := v_at hc hlq
          clear hc0 hg0
          have zl := cell_lt c0
          have htn := tn_bd hlq
          have HT : ∀ W, Calls Try.prog 17 #[.agg #[.int .i64 (vB q), .int .i64 (vD q), .int .i64 (vT q)]] W (Gives (.int .i64 ((tn q : Nat) : Int)) W) := fun W => by
            have h := ticksOf_any (vB q) (vD q) (vT q) W
            rw [tickV_t (valB_q hlq)] at h
            rw [htn.2.2]
            exact h
          replace HT := Lib.hid HT
          obtain ⟨tb1, tb2, -⟩ := htn
          go_wp2_with fail
          refine (HT.out _).mono ?_
          rintro e w2 ⟨rfl, hb⟩
          have T3 := (T.alloc _).pure hb
          have S1 := (S00.alloc _).pure hb
          replace hB := below_pure (w := w) (by go_grown) hb
          clear hb c0 c1 c2 hc S0 S00 hsz zl T HT
          by_cases ht : tn q ≤ m + 1
          · obtain ⟨j, hj⟩ : ∃ j, j = m + 1 - tn q := ⟨_, rfl⟩
            have hjm : (m : Int) + 1 - (tn q : Int) = (j : Int) := by omega
            have hw1 : IntKind.i64.wrap ((m : Int) + 1 - (tn q : Int)) = (j : Int) := by
              rw [hjm]
              exact IntWalk.i64_in _ (by omega)
            have hle : (tn q : Int) ≤ (m : Int) + 1 := by omega
            have hj1 : (j : Int) < (n : Int) + 1 := by omega
            have hm1 : (m : Int) + 1 < (n : Int) + 1 := by omega
            obtain ⟨a1, f1⟩ := T3 (m + 1) (by omega)
            obtain ⟨a2, f2⟩ := T3 j (by omega)
            have x1 := FR_bd m q (m + 1)
            have x2 := FR_bd m q j
            have hY := Lib.hid (FR_yes hlq ht)
            rw [← hj] at hY
            generalize hX1 : FR m q (m + 1) = X1 at *
            generalize hX2 : FR m q j = X2 at *
            have hw2 : IntKind.i64.wrap (X2 + 1) = X2 + 1 := IntWalk.i64_in _ (by omega)
            have S2 := Lib.hid (S1.far (p := ⟨w.heap.size, m + 1, none⟩) hB0 (.int .i64 (min X1 (X2 + 1))))
            have T4 := T3.set_ (m + 1) (min X1 (X2 + 1))
            rw [hY.out] at T4
            clear hX1 hX2 hj hY T3
            have HT4 := Lib.hid T4
            have hz2 := cell_lt a1
            have hB4 := Lib.hid (hB.setCell (p := ⟨w.heap.size, m + 1, none⟩) (Nat.le_refl _) (.int .i64 (min X1 (X2 + 1))))
            clear T4
            go_wp2_with fail
            go_region
            go_wp2_with fail
            go_roundw
            case rel => exact ⟨q + 1, by omega, by go_num, by rw [min_if]; exact HT4.out.drew, by rw [min_if]; exact S2.out.drew, by rw [min_if]; exact hB4.out.drew⟩
            case measure => simp [intOf]; omega
          · have hY := FR_no ht
            rw [← hY] at T3
            have hle : ¬ (tn q : Int) ≤ (m : Int) + 1 := by omega
            clear hY
            have HB := Lib.hid hB
            clear hB
            go_wp2_with fail
            go_roundw
            case rel => exact ⟨q + 1, by omega, by go_num, T3, S1, HB.out⟩
            case measure => simp [intOf]; omega
        · obtain rfl : q = 30 := by omega
          rw [FR_done] at T
          have HB := Lib.hid hB
          clear hB
          go_wp2_with fail
          go_roundw
          case rel => exact ⟨m + 1, by omega, by go_num, T, HB.out⟩
          case measure => simp [intOf]; omega
    · obtain rfl : m = n := by omega
      go_wp2
      go_ret
      exact ⟨_, rfl, hB, Nat.le_refl _, T.congr fun i hi => FT_same (by omega)⟩

end Go.Proofs.Ytgbnaimkpnoeoaa
