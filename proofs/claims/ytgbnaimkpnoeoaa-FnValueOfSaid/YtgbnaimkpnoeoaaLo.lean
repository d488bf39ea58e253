/- The walks of ValueOf, of the program and of the reference: the first of the thirty values with these ticks, or none. No condition. -/
import Derived.Test.YtgbnaimkpnoeoaaLv
namespace Go.Proofs.Ytgbnaimkpnoeoaa
open Go.RowKit

theorem v_at {w : World} {g off k : Nat} (hc : ∀ i, i < 30 * 3 → w.cell? ⟨g, off + i, none⟩ = some (ic vI i)) (hk : k < 30) :
    w.cell? ⟨g, off + k * 3, none⟩ = some (.int .i64 (vB k)) ∧ w.cell? ⟨g, off + k * 3 + 1, none⟩ = some (.int .i64 (vD k)) ∧ w.cell? ⟨g, off + k * 3 + 2, none⟩ = some (.int .i64 (vT k)) := by
  have c0 := hc (k * 3) (by omega)
  have c1 := hc (k * 3 + 1) (by omega)
  have c2 := hc (k * 3 + 2) (by omega)
  unfold ic at c0 c1 c2
  rw [vI_0] at c0
  rw [vI_1, ← Nat.add_assoc] at c1
  rw [vI_2, ← Nat.add_assoc] at c2
  exact ⟨c0, c1, c2⟩
/-- The ticks of value q. -/
def tq (q : Nat) : Int := tick (vB q) (vD q) (vT q)
theorem valB_q {q : Nat} (h : q < 30) : valB (vB q) (vD q) (vT q) = true := by
  have key : ∀ i : Fin 30, valB (vB i.val) (vD i.val) (vT i.val) = true := by decide
  exact key ⟨q, h⟩
theorem tq_bd {q : Nat} (h : q < 30) : 8 ≤ tq q ∧ tq q ≤ 336 := by
  have key : ∀ i : Fin 30, 8 ≤ tq i.val ∧ tq i.val ≤ 336 := by decide
  exact key ⟨q, h⟩
def voN (n : Int) : Option Nat := (List.range 30).find? (fun q => tq q == n)
def voP (f : Nat → Int) (n : Int) : Int := match voN n with | some q => f q | none => 0
def voB (n : Int) : Bool := (voN n).isSome
theorem vo_some {n : Int} {k : Nat} (hk : k < 30) (h : ∀ j, j < k → (tq j == n) = false) (hp : (tq k == n) = true) : (∀ f, voP f n = f k) ∧ voB n = true := by
  have e : voN n = some k := by
    unfold voN
    rw [List.find?_range_eq_some]
    exact ⟨hp, by simpa using hk, fun j hj => by simp [h j hj]⟩
  exact ⟨fun f => by unfold voP; rw [e], by unfold voB; rw [e]; rfl⟩
theorem vo_none {n : Int} (h : ∀ j, j < 30 → (tq j == n) = false) : (∀ f, voP f n = 0) ∧ voB n = false := by
  have e : voN n = none := by
    unfold voN
    rw [List.find?_range_eq_none]
    intro j hj
    simp [h j (by simpa using hj)]
  exact ⟨fun f => by unfold voP; rw [e], by unfold voB; rw [e]; rfl⟩
theorem vo_t {n : Int} (h : voB n = true) : ∃ q, q < 30 ∧ tq q = n ∧ (∀ f, voP f n = f q) ∧ (∀ j, j < q → (tq j == n) = false) := by
  unfold voB at h
  cases hk : voN n with
  | none => rw [hk] at h; cases h
  | some q =>
    refine ⟨q, ?_, ?_, fun f => by unfold voP; rw [hk], ?_⟩
    all_goals
      unfold voN at hk
      rw [List.find?_range_eq_some] at hk
      obtain ⟨h1, h2, h3⟩ := hk
    · simpa using h2
    · simpa using h1
    · exact fun j hj => by simpa using h3 j hj
theorem vo_f {n : Int} (h : voB n = false) : (∀ f, voP f n = 0) ∧ ∀ j, j < 30 → (tq j == n) = false := by
  unfold voB at h
  cases hk : voN n with
  | some q => rw [hk] at h; cases h
  | none =>
    refine ⟨fun f => by unfold voP; rw [hk], fun j hj => ?_⟩
    unfold voN at hk
    rw [List.find?_range_eq_none] at hk
    simpa using hk j (by simpa using hj)

set_option maxHeartbeats 4000000 in
theorem valueOf_any (n : Int) (w : World) : Calls Try.prog 19 #[.int .i64 n] w (Gives (.tuple #[.agg #[.int .i64 (voP vB n), .int .i64 (voP vD n), .int .i64 (voP vT n)], .bool (voB n)]) w) := by
  go_enter Try.func19, Try.ntmps19
  go_wp2_with fail
  refine (values_any _).mono ?_
  rintro e w1 ⟨x, cx, rfl, hb, O, l1, l2⟩
  have b0 : Blk w1 w.heap.size 26 #[.int .i64 0, .int .i64 0, .int .i64 0] := Blk.pure (Blk.new _ _ _) hb
  have hB := below_pure (w := w) (by go_grown) hb
  have S0 := O.sees
  unfold maxLen at l2
  clear hb O
  go_wp2_with fail
  go_loopw [8] (fun i wr => ∃ k : Nat, k ≤ 30 ∧ i = .int .i64 k ∧ Hid (∀ j, j < k → (tq j == n) = false) ∧ Sees wr x (30 * 3) (ic vI) ∧ Blk wr w.heap.size 26 #[.int .i64 0, .int .i64 0, .int .i64 0] ∧ Below w.heap.size w wr) (fun i _ => 30 - (intOf i).toNat)
  case atStart => exact ⟨0, by omega, rfl, Lib.hid (fun j hj => absurd hj (Nat.not_lt_zero _)), S0, b0, hB⟩
  case round =>
    clear S0 b0 hB
    obtain ⟨k, hk, rfl, HO, S0, b0, hB⟩ := hrel
    have hsz := hB.size
    by_cases hlt : k < 30
    · obtain ⟨g, off, rfl, hc⟩ := S0 (by omega)
      obtain ⟨c0, c1, c2⟩ := v_at hc hlt
      have zl := cell_lt c0
      have hTV := tickV_t (valB_q hlt)
      have HT := fun W => ticksOf_any (vB k) (vD k) (vT k) W
      rw [hTV] at HT
      replace HT := Lib.hid HT
      have hq := Lib.hid (show tq k = tick (vB k) (vD k) (vT k) from rfl)
      have htb := tq_bd hlt
      have htb1 := Lib.hid htb
      clear htb hTV
      have HK := Lib.hid (fun h => vo_some hlt HO.out h)
      have b0z := b0.lt
      go_wp2_with fail
      refine (HT.out _).mono ?_
      rintro e w2 ⟨rfl, hb⟩
      have k1 : Blk w2 wr.heap.size 26 #[.int .i64 (vB k), .int .i64 (vD k), .int .i64 (vT k)] := Blk.pure (Blk.new _ _ _) hb
      replace b0 : Blk w2 w.heap.size 26 #[.int .i64 0, .int .i64 0, .int .i64 0] := Blk.pure (Blk.alloc b0 _) hb
      replace hB := below_pure (w := w) (by go_grown) hb
      have S1 : Sees w2 (some ⟨g, off, none⟩) (30 * 3) (ic vI) := fun _ => ⟨g, off, rfl, fun i hi => (hb.cell (p := ⟨g, off + i, none⟩) (by have := cell_lt (hc i hi); simp; omega)).trans (cell_alloc _ (cell_lt (hc i hi)) (hc i hi))⟩
      clear hb c0 c1 c2 hc S0 hsz zl
      rw [← hq.out]
      cases hT : (tq k == n)
      · have HO' := Lib.hid (fun j (hj : j < k + 1) => (show (tq j == n) = false by rcases Nat.lt_or_eq_of_le (Nat.le_of_lt_succ hj) with h | h; exact HO.out j h; rw [h]; exact hT))
        clear k1
        go_wp2_with fail
        go_roundw
        case rel => exact ⟨k + 1, by omega, by go_num, HO', S1, b0, hB⟩
        case measure => simp [intOf]; omega
      · obtain ⟨hv, hvB⟩ := HK.out hT
        have HV0 := Lib.hid (hv vB)
        have HV1 := Lib.hid (hv vD)
        have HV2 := Lib.hid (hv vT)
        have HVB := Lib.hid hvB
        clear hv hvB
        have z0 := Blk.get (i := 0) b0 rfl
        have z1 := Blk.get (i := 1) b0 rfl
        have z2 := Blk.get (i := 2) b0 rfl
        have f0 := Blk.frozen b0 0
        have f1 := Blk.frozen b0 1
        have f2 := Blk.frozen b0 2
        have zl := b0.lt
        clear b0
        have y0 := Blk.get (i := 0) k1 rfl
        have y1 := Blk.get (i := 1) k1 rfl
        have y2 := Blk.get (i := 2) k1 rfl
        have yl := k1.lt
        clear k1
        go_wp2_with fail
        refine bodyPost_ret (v := .tuple #[.agg #[.int .i64 (vB k), .int .i64 (vD k), .int .i64 (vT k)], .bool true]) (by simp [results, Try.results19, go_sem, *]) rfl ⟨by rw [HV0.out, HV1.out, HV2.out, HVB.out], by go_grown⟩
    · obtain rfl : k = 30 := by omega
      obtain ⟨hv, hvB⟩ := vo_none HO.out
      have HV0 := Lib.hid (hv vB)
      have HV1 := Lib.hid (hv vD)
      have HV2 := Lib.hid (hv vT)
      have HVB := Lib.hid hvB
      clear hv hvB
      have z0 := Blk.get (i := 0) b0 rfl
      have z1 := Blk.get (i := 1) b0 rfl
      have z2 := Blk.get (i := 2) b0 rfl
      have f0 := Blk.frozen b0 0
      have f1 := Blk.frozen b0 1
      have f2 := Blk.frozen b0 2
      have zl := b0.lt
      clear b0
      go_wp2_with fail
      refine bodyPost_ret (v := .tuple #[.agg #[.int .i64 0, .int .i64 0, .int .i64 0], .bool false]) (by simp [results, Try.results19, go_sem, *]) rfl ⟨by rw [HV0.out, HV1.out, HV2.out, HVB.out], by go_grown⟩

set_option maxHeartbeats 4000000 in
theorem specValueOf_any (n : Int) (w : World) : Calls Try.prog 18 #[.int .i64 n] w (Gives (.tuple #[.agg #[.int .i64 (voP vB n), .int .i64 (voP vD n), .int .i64 (voP vT n)], .bool (voB n)]) w) := by
  go_enter Try.func18, Try.ntmps18
  go_wp2_with fail
  refine (l4Values_any _).mono ?_
  rintro e w1 ⟨x, cx, rfl, hb, O, l1, l2⟩
  have b0 : Blk w1 w.heap.size 26 #[.int .i64 0, .int .i64 0, .int .i64 0] := Blk.pure (Blk.new _ _ _) hb
  have hB := below_pure (w := w) (by go_grown) hb
  have S0 := O.sees
  unfold maxLen at l2
  clear hb O
  go_wp2_with fail
  go_loopw [5] (fun i wr => ∃ k : Nat, k ≤ 30 ∧ i = .int .i64 k ∧ Hid (∀ j, j < k → (tq j == n) = false) ∧ Sees wr x (30 * 3) (ic vI) ∧ Blk wr w.heap.size 26 #[.int .i64 0, .int .i64 0, .int .i64 0] ∧ Below w.heap.size w wr) (fun i _ => 30 - (intOf i).toNat)
  case atStart => exact ⟨0, by omega, rfl, Lib.hid (fun j hj => absurd hj (Nat.not_lt_zero _)), S0, b0, hB⟩
  case round =>
    clear S0 b0 hB
    obtain ⟨k, hk, rfl, HO, S0, b0, hB⟩ := hrel
    have hsz := hB.size
    by_cases hlt : k < 30
    · obtain ⟨g, off, rfl, hc⟩ := S0 (by omega)
      obtain ⟨c0, c1, c2⟩ := v_at hc hlt
      have zl := cell_lt c0
      have hTV := tickV_t (valB_q hlt)
      have HT := fun W => l4Ticks_any (vB k) (vD k) (vT k) (valB_q hlt) W
      skip
      replace HT := Lib.hid HT
      have hq := Lib.hid (show tq k = tick (vB k) (vD k) (vT k) from rfl)
      have htb := tq_bd hlt
      have htb1 := Lib.hid htb
      clear htb hTV
      have HK := Lib.hid (fun h => vo_some hlt HO.out h)
      have b0z := b0.lt
      go_wp2_with fail
      refine (HT.out _).mono ?_
      rintro e w2 ⟨rfl, hb⟩
      skip
      replace b0 : Blk w2 w.heap.size 26 #[.int .i64 0, .int .i64 0, .int .i64 0] := Blk.pure b0 hb
      replace hB := below_pure (w := w) (by go_grown) hb
      have S1 : Sees w2 (some ⟨g, off, none⟩) (30 * 3) (ic vI) := fun _ => ⟨g, off, rfl, fun i hi => (hb.cell (p := ⟨g, off + i, none⟩) (cell_lt (hc i hi))).trans (hc i hi)⟩
      clear hb c0 c1 c2 hc S0 hsz zl
      rw [← hq.out]
      cases hT : (tq k == n)
      · have HO' := Lib.hid (fun j (hj : j < k + 1) => (show (tq j == n) = false by rcases Nat.lt_or_eq_of_le (Nat.le_of_lt_succ hj) with h | h; exact HO.out j h; rw [h]; exact hT))
        clear HK
        go_wp2_with fail
        go_roundw
        case rel => exact ⟨k + 1, by omega, by go_num, HO', S1, b0, hB⟩
        case measure => simp [intOf]; omega
      · obtain ⟨hv, hvB⟩ := HK.out hT
        have HV0 := Lib.hid (hv vB)
        have HV1 := Lib.hid (hv vD)
        have HV2 := Lib.hid (hv vT)
        have HVB := Lib.hid hvB
        clear hv hvB
        have z0 := Blk.get (i := 0) b0 rfl
        have z1 := Blk.get (i := 1) b0 rfl
        have z2 := Blk.get (i := 2) b0 rfl
        have f0 := Blk.frozen b0 0
        have f1 := Blk.frozen b0 1
        have f2 := Blk.frozen b0 2
        have zl := b0.lt
        clear b0
        obtain ⟨g', off', hgo, hc'⟩ := S1 (by omega)
        obtain ⟨rfl, rfl⟩ : g = g' ∧ off = off' := by injection hgo with e1; injection e1 with e2 e3 e4; exact ⟨e2, e3⟩
        obtain ⟨y0, y1, y2⟩ := v_at hc' hlt
        clear hc' hgo S1
        go_wp2_with fail
        refine bodyPost_ret (v := .tuple #[.agg #[.int .i64 (vB k), .int .i64 (vD k), .int .i64 (vT k)], .bool true]) (by simp [results, Try.results18, go_sem, *]) rfl ⟨by rw [HV0.out, HV1.out, HV2.out, HVB.out], by go_grown⟩
    · obtain rfl : k = 30 := by omega
      obtain ⟨hv, hvB⟩ := vo_none HO.out
      have HV0 := Lib.hid (hv vB)
      have HV1 := Lib.hid (hv vD)
      have HV2 := Lib.hid (hv vT)
      have HVB := Lib.hid hvB
      clear hv hvB
      have z0 := Blk.get (i := 0) b0 rfl
      have z1 := Blk.get (i := 1) b0 rfl
      have z2 := Blk.get (i := 2) b0 rfl
      have f0 := Blk.frozen b0 0
      have f1 := Blk.frozen b0 1
      have f2 := Blk.frozen b0 2
      have zl := b0.lt
      clear b0
      go_wp2_with fail
      refine bodyPost_ret (v := .tuple #[.agg #[.int .i64 0, .int .i64 0, .int .i64 0], .bool false]) (by simp [results, Try.results18, go_sem, *]) rfl ⟨by rw [HV0.out, HV1.out, HV2.out, HVB.out], by go_grown⟩

end Go.Proofs.Ytgbnaimkpnoeoaa
