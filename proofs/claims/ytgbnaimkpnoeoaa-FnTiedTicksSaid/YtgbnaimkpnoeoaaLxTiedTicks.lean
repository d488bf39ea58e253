/- The walk of the law FnTiedTicks: it returns true, and nothing that was there turns. No condition. -/
import Derived.Test.YtgbnaimkpnoeoaaDt
import Derived.Test.YtgbnaimkpnoeoaaLxExactTiedTicks
import Derived.Test.YtgbnaimkpnoeoaaAl
namespace Go.Proofs.Ytgbnaimkpnoeoaa
open Go.RowKit

theorem ttV_cases (n : Int) : ttV n = [] ∨ (1 ≤ n ∧ n ≤ 768 ∧ Fw n.toNat ≤ 768 ∧ ttV n = TT n.toNat ∧ 0 < (ttV n).length) := by
  by_cases h : 1 ≤ n ∧ n ≤ 768 ∧ Fw n.toNat ≤ 768
  · right
    refine ⟨h.1, h.2.1, h.2.2, ttV_t h, ?_⟩
    rw [ttV_t h]
    have h1 := TT_len n.toNat h.2.2
    have h2 := (Fw_ge n.toNat).2 (by omega)
    omega
  · exact .inl (ttV_f h)
theorem tt_none {n : Int} (h : ttV n = []) : voB n = false := by
  cases hv : voB n
  · rfl
  · obtain ⟨p, hp, e⟩ := vo_iff.1 hv
    have t := tn_bd hp
    have hN : tn p = n.toNat := by omega
    have h1 : Fw n.toNat = 1 := (Fw_one (by omega)).2 ⟨p, hp, hN⟩
    have h2 := ttV_t (n := n) ⟨by omega, by omega, by omega⟩
    have h3 := TT_len n.toNat (by omega)
    rw [← h2, h] at h3
    simp at h3
    omega
theorem tt_some {n : Int} (h : 0 < (ttV n).length) : sumI (ttV n) = n ∧ (voB n = true ↔ (ttV n).length = 1) ∧ (∀ x ∈ ttV n, voB x = true ∧ 8 ≤ x ∧ x ≤ 336) ∧ (∀ k x y, (ttV n)[k]? = some x → (ttV n)[k + 1]? = some y → y ≤ x) := by
  rcases ttV_cases n with e | ⟨h1, h2, h3, h4, h5⟩
  · rw [e] at h
    exact absurd h (Nat.lt_irrefl 0)
  · rw [h4]
    refine ⟨?_, ?_, fun x hx => ?_, TT_down _ h3⟩
    · have := TT_sum n.toNat h3
      omega
    · have t := TT_len n.toNat h3
      have v := vo_one (n := n.toNat) (by omega)
      rw [show ((n.toNat : Nat) : Int) = n by omega] at v
      rw [v]
      omega
    · obtain ⟨p, hp, e⟩ := TT_val _ h3 x hx
      have t := tn_bd hp
      exact ⟨vo_iff.2 ⟨p, hp, e.symm⟩, by omega, by omega⟩
theorem sumI_snoc (P : List Int) (x : Int) : sumI (P ++ [x]) = sumI P + x := by
  induction P with
  | nil => simp [sumI]
  | cons a r ih =>
    show a + sumI (r ++ [x]) = a + sumI r + x
    rw [ih]
    omega
theorem sumI_take {L : List Int} {k : Nat} {x : Int} (h : L[k]? = some x) : sumI (L.take (k + 1)) = sumI (L.take k) + x := by
  rw [List.take_add_one, h]
  exact sumI_snoc _ _
theorem sumI_bd {L : List Int} (h : ∀ x ∈ L, 8 ≤ x ∧ x ≤ 336) (hl : L.length ≤ 1000) : ∀ k, k ≤ L.length → 0 ≤ sumI (L.take k) ∧ sumI (L.take k) ≤ 336 * (k : Int)
  | 0, _ => by simp [sumI]
  | k + 1, hk => by
    have ih := sumI_bd h hl k (by omega)
    obtain ⟨x, hx⟩ : ∃ x, L[k]? = some x := ⟨L[k], List.getElem?_eq_getElem (by omega)⟩
    have hb := h x (List.mem_of_getElem? hx)
    rw [sumI_take hx]
    omega
theorem tt_short (n : Int) : (ttV n).length ≤ 96 := by
  rcases ttV_cases n with e | ⟨h1, h2, h3, h4, h5⟩
  · rw [e]
    simp
  · rw [h4]
    have a := TT_len _ h3
    have b := Fw_few _ h3
    omega

set_option maxHeartbeats 4000000 in
set_option maxRecDepth 100000 in
theorem fnTiedTicks_walk (a : Option Addr) (len cap : Nat) (w : World) (hC : Code' w a len cap) :
    Calls Try.prog 11 #[.slice a len cap] w (Gives (.bool true) w) := by
  by_cases hlen : 1048576 < len
  · have hcap : len ≤ 9223372036854775807 := by have h1 := hC.2.1; have h2 := hC.2.2; unfold maxLen at h2; omega
    go_enter Try.func11, Try.ntmps11
    go_wp2
    go_ret
    exact ⟨rfl, by go_grown⟩
  have hlen' : len ≤ 1048576 := by omega
  have HC := Lib.hid hC
  clear hC
  go_enter Try.func11, Try.ntmps11
  go_wp2_with fail
  refine (drawTiedTicks_any _ _ _ _ HC.out hlen').mono ?_
  rintro e c0 ⟨n, rfl, hnb, hB⟩
  clear HC
  obtain ⟨T, hT⟩ : ∃ T, ttV n = T := ⟨_, rfl⟩
  have hTs : T.length ≤ 96 := by rw [← hT]; exact tt_short n
  have HG := fun W => tiedTicks_any n W
  have HW := fun W => specTiedTicks_any n W
  have HN := tt_none (n := n)
  have HS := tt_some (n := n)
  rw [hT] at HG HW HN HS
  have H1 := Lib.hid HG
  have H2 := Lib.hid HW
  have H3 := Lib.hid (fun W => valueOf_any n W)
  have HNH := Lib.hid HN
  have HSH := Lib.hid HS
  clear HG HW HN HS hT
  go_wp2_with fail
  refine (H1.out _).mono ?_
  rintro e c1 ⟨bX0, kX0, rfl, hb, OX0, lX0, mX0⟩
  have X0 : Ints c1 bX0 T := OX0.sees
  replace hB := below_pure hB hb
  clear hb
  unfold maxLen at mX0
  clear OX0
  go_wp2_with fail
  refine (H2.out _).mono ?_
  rintro e c2 ⟨bY0, kY0, rfl, hb, OY0, lY0, mY0⟩
  have Y0 : Ints c2 bY0 T := OY0.sees
  replace X0 := X0.pure hb
  replace hB := below_pure hB hb
  clear hb
  unfold maxLen at mY0
  clear OY0
  go_wp2_with fail
  refine (sameInts_any _ _ _ _ _ T _ rfl X0 Y0 (by omega)).mono ?_
  rintro e c3 ⟨rfl, hb⟩
  replace X0 := X0.pure hb
  replace Y0 := Y0.pure hb
  replace hB := below_pure hB hb
  clear hb
  clear Y0
  by_cases h0 : T.length = 0
  · obtain rfl : T = [] := List.length_eq_zero_iff.1 h0
    have H4 := fun W => H3.out W
    rw [HNH.out rfl] at H4
    replace H4 := Lib.hid H4
    clear h0 H3
    go_wp2_with fail
    refine (H4.out _).mono ?_
    rintro e c4 ⟨rfl, hb⟩
    replace X0 := X0.pure hb
    replace hB := below_pure hB hb
    clear hb
    have hsz := hB.size
    go_wp2_with fail
    refine (alive_any _).mono ?_
    rintro e c5 ⟨rfl, hb⟩
    replace hB := below_pure (w := w) (by go_grown) hb
    clear hb
    go_wp2
    go_ret
    exact ⟨rfl, hB⟩
  have h0b : ((T.length : Int) == 0) = false := by simp; intro h; exact h0 (by rw [h]; rfl)
  obtain ⟨s1, s2, s3, s4⟩ := HSH.out (by omega)
  have sb := sumI_bd (fun x hx => (s3 x hx).2) (by omega)
  have SB := Lib.hid sb
  have S1 := Lib.hid s1
  have S2 := Lib.hid s2
  have S3 := Lib.hid s3
  have S4 := Lib.hid s4
  clear h0 s1 s2 s3 s4 sb HSH HNH
  go_wp2_with fail
  refine (H3.out _).mono ?_
  rintro e c4 ⟨rfl, hb⟩
  replace X0 := X0.pure hb
  replace hB := below_pure hB hb
  clear hb
  have hsz := hB.size
  have HX0 := Lib.hid (X0.alloc_ (.cells #[.int .i64 (voP vB n), .int .i64 (voP vD n), .int .i64 (voP vT n)] 26))
  have HB := Lib.hid (show Below w.heap.size w (c4.alloc (.cells #[.int .i64 (voP vB n), .int .i64 (voP vD n), .int .i64 (voP vT n)] 26)) by go_grown)
  clear hB X0
  go_wp2_with fail
  go_loopw [7, 8] (fun sv kv wr => ∃ k : Nat, k ≤ T.length ∧ kv = .int .i64 (k : Int) ∧ sv = .int .i64 (sumI (T.take k)) ∧ Ints wr bX0 T ∧ Below w.heap.size w wr) (fun _ kv _ => T.length - (intOf kv).toNat)
  case atStart => exact ⟨0, Nat.zero_le _, rfl, rfl, HX0.out, HB.out⟩
  case round =>
    clear HX0 HB hsz
    obtain ⟨k, hk, rfl, rfl, X0, hB⟩ := hrel
    by_cases hlt : k < T.length
    · obtain ⟨x, hx⟩ := nthI (L := T) hlt
      obtain ⟨hvx, hx1, hx2⟩ := S3.out x (List.mem_of_getElem? hx)
      obtain ⟨g, off, rfl, q0⟩ := ints_at X0 hx
      have hsm := Lib.hid (sumI_take hx)
      have hsb := SB.out k hk
      have HV := fun W => valueOf_any x W
      rw [hvx] at HV
      replace HV := Lib.hid HV
      have hki : (k : Int) < (T.length : Int) := by omega
      have hk0 : (0 : Int) ≤ (k : Int) := by omega
      have HX := Lib.hid X0
      have HB1 := Lib.hid hB
      generalize sumI (T.take k) = SK at *
      have HXX := Lib.hid hx
      clear hvx X0 hB hx
      cases k with
      | zero =>
        simp only [Nat.add_zero] at q0
        rw [show ((0 : Nat) : Int) = 0 from rfl] at hki hk0 ⊢
        go_wp2_with fail
        refine (HV.out _).mono ?_
        rintro e w2 ⟨rfl, hb⟩
        have X0 := HX.out.pure hb
        have hB := below_pure HB1.out hb
        replace q0 := (hb.cell (p := ⟨g, off, none⟩) (cell_lt q0)).trans q0
        clear hb HX HB1
        have HX0 := Lib.hid X0
        have HB := Lib.hid hB
        have hzz := cell_lt q0
        clear X0 hB
        go_upto_region 15 with fail
        go_cut [67] (fun v wc => v = .bool false ∧ Ints wc (some ⟨g, off, none⟩) T ∧ wc.cell? ⟨g, off, none⟩ = some (.int .i64 x) ∧ Below w.heap.size w wc)
        case first =>
          go_quiet (fail)
          go_wp2_with fail
          go_meet
          exact ⟨by first | rfl | (simp; omega), (HX0.out.alloc_ _).drewN_ _, by first | exact q0 | exact cell_alloc _ hzz q0 | simp [q0], below_drewN (by have h := HB.out; have hs := h.size; go_grown) _⟩
        case rest =>
          clear HX0 HB q0
          obtain ⟨rfl, X0, q0, hB⟩ := hcut
          have HX0 := Lib.hid X0
          have HB := Lib.hid hB
          clear X0 hB
          have hw3 : IntKind.i64.wrap (SK + x) = SK + x := IntWalk.i64_in _ (by omega)
          go_wp2_with fail
          go_roundw
          case rel => exact ⟨0 + 1, by omega, by first | rfl | go_num, by rw [hsm.out], HX0.out, HB.out⟩
          case measure => simp [intOf]; omega
      | succ j =>
        go_wp2_with fail
        refine (HV.out _).mono ?_
        rintro e w2 ⟨rfl, hb⟩
        have X0 := HX.out.pure hb
        have hB := below_pure HB1.out hb
        replace q0 := (hb.cell (p := ⟨g, off + (j + 1), none⟩) (cell_lt q0)).trans q0
        obtain ⟨y, hy⟩ := nthI (L := T) (k := j) (by omega)
        have hyx := S4.out j y x hy HXX.out
        obtain ⟨g', off', hgo, p0⟩ := ints_at X0 hy
        obtain ⟨rfl, rfl⟩ : g = g' ∧ off = off' := by injection hgo with e1; injection e1 with e2 e3 e4; exact ⟨e2, e3⟩
        clear hgo hy
        clear hb HX HB1
        have HX0 := Lib.hid X0
        have HB := Lib.hid hB
        have hzz := cell_lt q0
        clear X0 hB
        go_upto_region 15 with fail
        have hj1 : ((j : Int) + 1 - 1) = (j : Int) := by omega
        have hw1 : IntKind.i64.wrap (((j + 1 : Nat) : Int) - 1) = (j : Int) := by rw [show ((j + 1 : Nat) : Int) - 1 = (j : Int) by omega]; exact IntWalk.i64_in _ (by omega)
        have hw1' : IntKind.i64.wrap ((j : Int) + 1 - 1) = (j : Int) := by rw [hj1]; exact IntWalk.i64_in _ (by omega)
        have hj2 : (j : Int) < (T.length : Int) := by omega
        have hj3 : (j : Int) + 1 < (T.length : Int) := by omega
        have hj0 : (0 : Int) ≤ (j : Int) := by omega
        have hyd : decide (y < x) = false := by simp; omega
        go_cut [67] (fun v wc => v = .bool false ∧ Ints wc (some ⟨g, off, none⟩) T ∧ wc.cell? ⟨g, off + (j + 1), none⟩ = some (.int .i64 x) ∧ Below w.heap.size w wc)
        case first =>
          go_quiet (fail)
          go_wp2_with fail
          go_meet
          exact ⟨by first | rfl | (simp; omega), (HX0.out.alloc_ _).drewN_ _, by first | exact q0 | exact cell_alloc _ hzz q0 | simp [q0], below_drewN (by have h := HB.out; have hs := h.size; go_grown) _⟩
        case rest =>
          clear HX0 HB q0
          obtain ⟨rfl, X0, q0, hB⟩ := hcut
          have HX0 := Lib.hid X0
          have HB := Lib.hid hB
          clear X0 hB
          have hw3 : IntKind.i64.wrap (SK + x) = SK + x := IntWalk.i64_in _ (by omega)
          go_wp2_with fail
          go_roundw
          case rel => exact ⟨j + 1 + 1, by omega, by first | rfl | go_num, by rw [hsm.out], HX0.out, HB.out⟩
          case measure => simp [intOf]; omega
    · obtain rfl : k = T.length := by omega
      have e1 : sumI (T.take T.length) = n := by rw [List.take_length]; exact S1.out
      rw [e1]
      have e2 : voB n = decide (T.length = 1) := by rw [Bool.eq_iff_iff, S2.out]; simp
      by_cases h1 : T.length = 1
      · have e3 : voB n = true := S2.out.2 h1
        have e4 : ((T.length : Int) == 1) = true := by rw [h1]; rfl
        clear e1 e2 h1
        go_wp2
        go_ret
        exact ⟨by first | rfl | simp [e3], hB⟩
      · have e3 : voB n = false := by rw [e2]; simp [h1]
        have e4 : ((T.length : Int) == 1) = false := by simp; omega
        clear e1 e2 h1
        go_wp2
        go_ret
        exact ⟨by first | rfl | simp [e3], hB⟩
end Go.Proofs.Ytgbnaimkpnoeoaa
