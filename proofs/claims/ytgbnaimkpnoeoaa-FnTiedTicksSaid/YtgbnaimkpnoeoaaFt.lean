/- The walks of TiedTicks, of the program and of the reference. Conditions: as stated. -/
import Derived.Test.YtgbnaimkpnoeoaaFg
namespace Go.Proofs.Ytgbnaimkpnoeoaa
open Go.RowKit

theorem max_if (a b : Nat) : (if a < b then (b : Int) else (a : Int)) = ((max a b : Nat) : Int) := by split <;> omega
theorem Tab.grown {w w' : World} {g N : Nat} {c : Nat → Int} {row : Option Nat} (h : Tab w g N c) (hg : w.grownBy w' row) (hne : row ≠ some g) : Tab w' g N c := fun i hi => by
  obtain ⟨h1, h2⟩ := h i hi
  exact ⟨hg.cell h1 (fun e => hne e.symm), (World.frozen?_of_block (a := ⟨g, i, none⟩) (hg.block g (cell_lt h1) (fun e => hne e.symm))).trans h2⟩
theorem Gw_eq {r m : Nat} (h0 : 0 < r) (h : Fw r ≤ 768) : Gw m = Gw r - 1 ↔ Fw m = Fw r - 1 := by
  have h1 := (Fw_ge r).2 h0
  rw [Gw_t h]
  by_cases hm : Fw m ≤ 768
  · rw [Gw_t hm]
  · rw [Gw_f hm]
    omega
theorem parts_len {P : List Int} {r N : Nat} (h : P ++ TT r = TT N) (hf : Fw N ≤ 768) (hN : N ≤ 768) : P.length ≤ 96 := by
  have h1 := congrArg List.length h
  have h2 := TT_len N hf
  have h3 := Fw_few N hf
  rw [List.length_append] at h1
  omega
theorem parts_next {P : List Int} {r N : Nat} (h : P ++ TT r = TT N) (h0 : 0 < r) (hf : Fw r ≤ 768) : P ++ [((bs r : Nat) : Int)] ++ TT (r - bs r) = TT N := by
  rw [← h, TT_cons h0 hf, List.append_assoc]
  rfl
theorem ttV_out {n : Int} (h : inR n 1 768 = false) : ttV n = [] := ttV_f (fun hh => inR_f h ⟨hh.1, hh.2.1⟩)
theorem ttV_in {N : Nat} (h1 : 1 ≤ N) (h2 : N ≤ 768) (hf : Fw N ≤ 768) : ttV (N : Int) = TT N := ttV_t (n := (N : Int)) ⟨by omega, by omega, hf⟩
theorem ttV_no {N : Nat} (hf : ¬ Fw N ≤ 768) : ttV (N : Int) = [] := ttV_f (n := (N : Int)) (fun hh => hf hh.2.2)

set_option maxHeartbeats 8000000 in
theorem tiedTicks_any (n : Int) (w : World) : Calls Try.prog 22 #[.int .i64 n] w (IntsPost w (ttV n)) := by
  obtain ⟨i0, hi, hz0, hz1, hz2⟩ := info_parts infoI
  have HW := fun W => within_any n 1 768 W
  cases hr : inR n 1 768
  · rw [hr] at HW
    have HWW := Lib.hid HW
    have HR := Lib.hid (ttV_out hr)
    clear HW hr hi hz0 hz1 hz2
    go_enter Try.func22, Try.ntmps22
    go_wp2_with fail
    refine (HWW.out _).mono ?_
    rintro e w1 ⟨rfl, rfl⟩
    go_wp2
    go_ret
    rw [HR.out]
    exact intsPost_nil _ _ _ _ (by go_grown) (by unfold maxLen; omega)
  rw [hr] at HW
  obtain ⟨h1, h2⟩ := inR_t hr
  clear hr
  obtain ⟨N, rfl⟩ := Int.eq_ofNat_of_zero_le (show 0 ≤ n by omega)
  have HWW := Lib.hid HW
  clear HW
  have hN1 : 1 ≤ N := by omega
  have hN2 : N ≤ 768 := by omega
  go_enter Try.func22, Try.ntmps22
  go_wp2_with fail
  refine (HWW.out _).mono ?_
  rintro e w1 ⟨rfl, rfl⟩
  go_wp2_with fail
  refine (fewestValues_any N _ hN1 hN2).mono ?_
  rintro e w1 ⟨g, rfl, hB, hg, T⟩
  obtain ⟨a0, -⟩ := T N (by omega)
  have hNN : (N : Int) < (N : Int) + 1 := by omega
  by_cases hf : Fw N ≤ 768
  rotate_left
  · have HR := Lib.hid (ttV_no hf)
    have hff : 768 < Fw N := by omega
    clear T hf
    go_wp2
    go_ret
    rw [HR.out]
    exact intsPost_nil _ _ _ _ hB (by unfold maxLen; omega)
  have HR := Lib.hid (ttV_in hN1 hN2 hf)
  have hff : ¬ 768 < Fw N := by omega
  go_wp2_with fail
  have hgl := T.lt (by omega)
  have hs0 := hB.size
  have own0 : IRow w (w1.alloc (Obj.cells #[] 3)) (.slice (some ⟨w1.heap.size, 0, none⟩) 0 0) [] := World.ownsRow_made w1 #[] 0 hs0 (by unfold maxLen; omega) rfl
  have hB1 : Below w.heap.size w (w1.alloc (Obj.cells #[] 3)) := by go_grown
  have T1 := T.alloc (.cells #[] 3)
  clear T hB a0
  go_loopw [0, 4] (fun tv v wr => ∃ (r : Nat) (P : List Int), tv = .int .i64 (r : Int) ∧ r ≤ N ∧ Fw r ≤ 768 ∧ Hid (P ++ TT r = TT N) ∧ IRow w wr v P ∧ v.ownBlock ≠ some g ∧ Tab wr g (N + 1) Fw ∧ Below w.heap.size w wr) (fun tv _ _ => (intOf tv).toNat)
  case atStart => exact ⟨N, [], rfl, Nat.le_refl _, hf, Lib.hid rfl, own0, by simp [Value.ownBlock]; omega, T1, hB1⟩
  case round =>
    clear own0 hB1 T1 hgl hs0
    obtain ⟨r, P, rfl, hrN, hfr, HP, own, hne, T, hB⟩ := hrel
    have hsz := hB.size
    have hPl := parts_len HP.out hf hN2
    obtain ⟨u, cu, rfl⟩ := irow_shape own
    by_cases h0 : r = 0
    · subst h0
      have HE := Lib.hid (show P = TT N by have := HP.out; rw [TT_zero, List.append_nil] at this; exact this)
      have OWN := Lib.hid own
      rw [show ((0 : Nat) : Int) = 0 from rfl]
      clear own T
      go_wp2
      go_ret
      rw [HR.out, ← HE.out]
      exact intsPost_mk hB OWN.out
    obtain ⟨p, hp, e1, e2, e3, e4⟩ := bs_is (n := r) (by omega) hfr
    have HB4 := Lib.hid e4
    have hr0 : (0 : Int) < (r : Int) := by omega
    have HNX := Lib.hid (parts_next HP.out (by omega) hfr)
    have OWN := Lib.hid own
    have HB := Lib.hid hB
    have hfr1 := (Fw_ge r).2 (by omega)
    clear e1 e4 own hB
    go_wp2_with fail
    refine (values_any _).mono ?_
    rintro e w2 ⟨x, cx, rfl, hb, O, l1, l2⟩
    have own := OWN.out.pure hb
    replace T := T.pure hb
    have hB := below_pure HB.out hb
    obtain ⟨gv, ov, rfl, hgv, hcv⟩ := O (by omega)
    have SV : VAt w2 gv ov := fun i hi => (hcv i hi).1
    unfold maxLen at l2
    clear hb OWN HB hcv hgv hsz
    have OWN := Lib.hid own
    have HB := Lib.hid hB
    clear own hB
    go_wp2_with fail
    go_loopw [5, 24] (fun bv iv wr => ∃ q : Nat, q ≤ 30 ∧ iv = .int .i64 (q : Int) ∧ bv = .int .i64 ((bst r q : Nat) : Int) ∧ IRow w wr (.slice u P.length cu) P ∧ Tab wr g (N + 1) Fw ∧ VAt wr gv ov ∧ Below w.heap.size w wr) (fun _ iv _ => 30 - (intOf iv).toNat)
    case atStart => exact ⟨0, by omega, rfl, rfl, OWN.out, T, SV, HB.out⟩
    case round =>
      clear OWN T SV HB
      obtain ⟨q, hq, rfl, rfl, own, T, SV, hB⟩ := hrel
      have hsz := hB.size
      by_cases hlq : q < 30
      · obtain ⟨c0, c1, c2⟩ := v_at SV hlq
        have zl := cell_lt c0
        have htn := tn_bd hlq
        have HT : ∀ W, Calls Try.prog 17 #[.agg #[.int .i64 (vB q), .int .i64 (vD q), .int .i64 (vT q)]] W (Gives (.int .i64 ((tn q : Nat) : Int)) W) := fun W => by
          have h := ticksOf_any (vB q) (vD q) (vT q) W
          rw [tickV_t (valB_q hlq)] at h
          rw [htn.2.2]
          exact h
        replace HT := Lib.hid HT
        obtain ⟨tb1, tb2, -⟩ := htn
        have OWN := Lib.hid own
        have HB := Lib.hid hB
        have HTB := Lib.hid T
        have HSV := Lib.hid SV
        clear own hB T SV
        go_wp2_with fail
        refine (HT.out _).mono ?_
        rintro e w2 ⟨rfl, hb⟩
        have own := (OWN.out.alloc _).pure hb
        have T := (HTB.out.alloc _).pure hb
        have SV := (HSV.out.alloc _).pure hb
        have hB := below_pure (w := w) (by have h := HB.out; go_grown) hb
        clear hb c0 c1 c2 OWN HB HTB HSV hsz zl HT
        by_cases ht : tn q ≤ r
        · obtain ⟨j, hj⟩ : ∃ j, j = r - tn q := ⟨_, rfl⟩
          have hle : ((tn q : Nat) : Int) ≤ (r : Int) := by omega
          have hjm : (r : Int) - ((tn q : Nat) : Int) = (j : Int) := by omega
          have hw1 : IntKind.i64.wrap ((r : Int) - ((tn q : Nat) : Int)) = (j : Int) := by
            rw [hjm]
            exact IntWalk.i64_in _ (by omega)
          have hj0 : (0 : Int) ≤ (j : Int) := by omega
          have hj1 : (j : Int) < (N : Int) + 1 := by omega
          have hr1 : (r : Int) < (N : Int) + 1 := by omega
          obtain ⟨a1, -⟩ := T r (by omega)
          obtain ⟨a2, -⟩ := T j (by omega)
          have hF := Fw_ge r
          have hF2 := Fw_ge j
          have hF3 := Fw_le (n := j)
          by_cases hc : Fw j = Fw r - 1
          · have hY := Lib.hid (bst_yes (n := r) (q := q) ⟨ht, by rw [← hj]; exact hc⟩)
            rw [hc] at a2
            have hw2 : IntKind.i64.wrap (Fw r - 1) = Fw r - 1 := IntWalk.i64_in _ (by omega)
            clear hj hc hjm
            have OWN := Lib.hid own
            have HB := Lib.hid hB
            have HTB := Lib.hid T
            have HSV := Lib.hid SV
            clear own hB T SV
            go_upto_region 13 with fail
            go_cut [46] (fun cv wc => cv = .bool true ∧ IRow w wc (.slice u P.length cu) P ∧ Tab wc g (N + 1) Fw ∧ VAt wc gv ov ∧ Below w.heap.size w wc)
            case first =>
              go_quiet (fail)
              go_wp2_with fail
              go_meet
              exact ⟨by first | rfl | (simp; omega), OWN.out.drewN _, HTB.out.drewN _, HSV.out, below_drewN HB.out _⟩
            case rest =>
              clear OWN HB HTB HSV
              obtain ⟨rfl, own, T, SV, hB⟩ := hcut
              have OWN := Lib.hid own
              have HB := Lib.hid hB
              have HTB := Lib.hid T
              have HSV := Lib.hid SV
              clear own hB T SV
              go_wp2_with fail
              go_roundw
              case rel => exact ⟨q + 1, by omega, by go_num, by rw [hY.out, ← max_if], OWN.out, HTB.out, HSV.out, HB.out⟩
              case measure => simp [intOf]; omega
          · have hY := Lib.hid (bst_no (n := r) (q := q) (fun hh => hc (by rw [hj]; exact hh.2)))
            have hcb : (Fw j == Fw r - 1) = false := by simpa using hc
            have hw2 : IntKind.i64.wrap (Fw r - 1) = Fw r - 1 := IntWalk.i64_in _ (by omega)
            clear hj hjm
            have OWN := Lib.hid own
            have HB := Lib.hid hB
            have HTB := Lib.hid T
            have HSV := Lib.hid SV
            clear own hB T SV
            go_upto_region 13 with fail
            go_cut [46] (fun cv wc => cv = .bool false ∧ IRow w wc (.slice u P.length cu) P ∧ Tab wc g (N + 1) Fw ∧ VAt wc gv ov ∧ Below w.heap.size w wc)
            case first =>
              go_quiet (fail)
              go_wp2_with fail
              go_meet
              exact ⟨by first | rfl | (simp; omega), OWN.out.drewN _, HTB.out.drewN _, HSV.out, below_drewN HB.out _⟩
            case rest =>
              clear OWN HB HTB HSV
              obtain ⟨rfl, own, T, SV, hB⟩ := hcut
              have OWN := Lib.hid own
              have HB := Lib.hid hB
              have HTB := Lib.hid T
              have HSV := Lib.hid SV
              clear own hB T SV
              go_wp2_with fail
              go_roundw
              case rel => exact ⟨q + 1, by omega, by go_num, by rw [hY.out], OWN.out, HTB.out, HSV.out, HB.out⟩
              case measure => simp [intOf]; omega
        · have hY := Lib.hid (bst_no (n := r) (q := q) (fun hh => ht hh.1))
          have hle : ¬ ((tn q : Nat) : Int) ≤ (r : Int) := by omega
          have hled : decide (((tn q : Nat) : Int) ≤ (r : Int)) = false := by simpa using hle
          have OWN := Lib.hid own
          have HB := Lib.hid hB
          have HTB := Lib.hid T
          have HSV := Lib.hid SV
          clear own hB T SV
          go_upto_region 13 with fail
          go_cut [46] (fun cv wc => cv = .bool false ∧ IRow w wc (.slice u P.length cu) P ∧ Tab wc g (N + 1) Fw ∧ VAt wc gv ov ∧ Below w.heap.size w wc)
          case first =>
            go_quiet (fail)
            go_wp2_with fail
            go_meet
            exact ⟨by first | rfl | (simp; omega), OWN.out.drewN _, HTB.out.drewN _, HSV.out, below_drewN HB.out _⟩
          case rest =>
            clear OWN HB HTB HSV
            obtain ⟨rfl, own, T, SV, hB⟩ := hcut
            have OWN := Lib.hid own
            have HB := Lib.hid hB
            have HTB := Lib.hid T
            have HSV := Lib.hid SV
            clear own hB T SV
            go_wp2_with fail
            go_roundw
            case rel => exact ⟨q + 1, by omega, by go_num, by rw [hY.out], OWN.out, HTB.out, HSV.out, HB.out⟩
            case measure => simp [intOf]; omega
      · obtain rfl : q = 30 := by omega
        have e5 : bst r 30 = bs r := rfl
        rw [e5]
        have hbr : (r : Int) - ((bs r : Nat) : Int) = ((r - bs r : Nat) : Int) := by omega
        have OWN := Lib.hid (irow_row own rfl)
        have HB := Lib.hid hB
        have HTB := Lib.hid T
        have HSV := Lib.hid SV
        have hgl := T.lt (by omega)
        have hvl := SV.lt
        clear own hB T SV e5
        go_wp2_with (at_builtin; refine wpList_append_lies _ rfl _ _ 34 rfl w.heap.size 3 i0 (.int .i64 0) 1 8 Try.underlying34 hi hz0 hz1 hz2 rfl (by omega) (.slice u P.length cu) (P.length) (P.map (Value.int .i64)) rfl (World.ownsRow.alloc OWN.out _) ⟨wr.heap.size, 0, none⟩ 1 1 [.int .i64 ((bs r : Nat) : Int)] rfl rfl (World.news_of_block (heap_alloc_new _ _)) (one1 _) (by omega) (by unfold maxLen; omega) (by omega) (by simp; omega) (wr.heap.size + 1) (by simp) ?_; intro g' cap' w3 own3 hgrow hat hglt)
        have hB3 := below_append (show Below w.heap.size w wr from HB.out) (by omega) hgrow (fun j hj => (OWN.out.lt j hj).1)
        have own4 := Lib.hid (irow_more (L := P) rfl own3)
        have T3 := Lib.hid ((HTB.out.alloc _).grown hgrow hne)
        have hne3 : g' ≠ g := by
          rcases hat with h | h
          · intro e
            exact hne (by rw [h, e])
          · omega
        clear own3 hgrow hglt hat OWN HB HTB HSV
        go_wp2_with fail
        go_roundw
        case rel => exact ⟨r - bs r, P ++ [((bs r : Nat) : Int)], by first | rfl | rw [hbr], by omega, by rw [HB4.out]; omega, HNX, own4.out, by simp [Value.ownBlock]; exact hne3, T3.out, hB3⟩
        case measure => simp [intOf]; omega

set_option maxHeartbeats 8000000 in
theorem specTiedTicks_any (n : Int) (w : World) : Calls Try.prog 21 #[.int .i64 n] w (IntsPost w (ttV n)) := by
  obtain ⟨i0, hi, hz0, hz1, hz2⟩ := info_parts infoI
  have HW := fun W => l1In_any n 1 768 W
  cases hr : inR n 1 768
  · rw [hr] at HW
    have HWW := Lib.hid HW
    have HR := Lib.hid (ttV_out hr)
    clear HW hr hi hz0 hz1 hz2
    go_enter Try.func21, Try.ntmps21
    go_wp2_with fail
    refine (HWW.out _).mono ?_
    rintro e w1 ⟨rfl, rfl⟩
    go_wp2
    go_ret
    rw [HR.out]
    exact intsPost_nil _ _ _ _ (by go_grown) (by unfold maxLen; omega)
  rw [hr] at HW
  obtain ⟨h1, h2⟩ := inR_t hr
  clear hr
  obtain ⟨N, rfl⟩ := Int.eq_ofNat_of_zero_le (show 0 ≤ n by omega)
  have HWW := Lib.hid HW
  clear HW
  have hN1 : 1 ≤ N := by omega
  have hN2 : N ≤ 768 := by omega
  by_cases hf : Fw N ≤ 768
  rotate_left
  · have HR := Lib.hid (ttV_no hf)
    have HG := Lib.hid (Gw_f hf)
    go_enter Try.func21, Try.ntmps21
    go_wp2_with fail
    refine (HWW.out _).mono ?_
    rintro e w1 ⟨rfl, rfl⟩
    go_wp2_with fail
    refine (l4Fewest_any N _ hN1 hN2).mono ?_
    rintro e w1 ⟨g, cc, rfl, hb, hg, T, hcc⟩
    have hB := below_pure (w := w) (by go_grown) hb
    clear hb
    go_wp2_with fail
    refine (l4Values_any _).mono ?_
    rintro e w2 ⟨x, cx, rfl, hb, O, l1, l2⟩
    replace hB := below_pure hB hb
    obtain ⟨a0, -⟩ := T.pure hb N (by omega)
    rw [HG.out] at a0
    have hNN : (N : Int) < (N : Int) + 1 := by omega
    have hN0 : (0 : Int) < (N : Int) := by omega
    clear hb O T hf
    go_wp2_with fail
    refine wp_loop_rounds 1 ?_
    rw [rounds_succ]
    go_wp2
    go_ret
    rw [HR.out]
    exact intsPost_nil _ _ _ _ hB (by unfold maxLen; omega)
  have HR := Lib.hid (ttV_in hN1 hN2 hf)
  go_enter Try.func21, Try.ntmps21
  go_wp2_with fail
  refine (HWW.out _).mono ?_
  rintro e w1 ⟨rfl, rfl⟩
  go_wp2_with fail
  refine (l4Fewest_any N _ hN1 hN2).mono ?_
  rintro e w1 ⟨g, cc, rfl, hb, hg, T, hcc⟩
  have own0 : IRow w (w.alloc (Obj.cells #[] 3)) (.slice (some ⟨w.heap.size, 0, none⟩) 0 0) [] := World.ownsRow_made w #[] 0 (Nat.le_refl _) (by unfold maxLen; omega) rfl
  have hB := below_pure (w := w) (by go_grown) hb
  have own1 := own0.pure hb
  replace hg : w.heap.size < g := by simp at hg; omega
  clear hb own0
  go_wp2_with fail
  refine (l4Values_any _).mono ?_
  rintro e w2 ⟨x, cx, rfl, hb, O, l1, l2⟩
  have T1 := T.pure hb
  have own2 := own1.pure hb
  have hB1 := below_pure hB hb
  obtain ⟨gv, ov, rfl, hgv, hcv⟩ := O (by omega)
  have SV : VAt w2 gv ov := fun i hi => (hcv i hi).1
  unfold maxLen at l2
  have hgl := T.lt (by omega)
  have hws : w.heap.size ≤ w1.heap.size := hB.size
  clear hb T own1 hB hcv
  go_wp2_with fail
  go_loopw [3, 6] (fun v tv wr => ∃ (r : Nat) (P : List Int), tv = .int .i64 (r : Int) ∧ r ≤ N ∧ Fw r ≤ 768 ∧ Hid (P ++ TT r = TT N) ∧ IRow w wr v P ∧ v.ownBlock ≠ some g ∧ v.ownBlock ≠ some gv ∧ Tab wr g (N + 1) Gw ∧ VAt wr gv ov ∧ Below w.heap.size w wr) (fun _ tv _ => (intOf tv).toNat)
  case atStart => exact ⟨N, [], rfl, Nat.le_refl _, hf, Lib.hid rfl, own2, by simp [Value.ownBlock]; omega, by simp [Value.ownBlock]; omega, T1, SV, hB1⟩
  case round =>
    clear own2 hB1 T1 SV hgl hws
    obtain ⟨r, P, rfl, hrN, hfr, HP, own, hne, hnv, T, SV, hB⟩ := hrel
    have hsz := hB.size
    have hPl := parts_len HP.out hf hN2
    obtain ⟨u, cu, rfl⟩ := irow_shape own
    by_cases h0 : r = 0
    · subst h0
      have HE := Lib.hid (show P = TT N by have := HP.out; rw [TT_zero, List.append_nil] at this; exact this)
      have OWN := Lib.hid own
      rw [show ((0 : Nat) : Int) = 0 from rfl]
      clear own T
      go_wp2
      go_ret
      rw [HR.out, ← HE.out]
      exact intsPost_mk hB OWN.out
    obtain ⟨p, hp, e1, e2, e3, e4⟩ := bs_is (n := r) (by omega) hfr
    have HB4 := Lib.hid e4
    have hr0 : (0 : Int) < (r : Int) := by omega
    have HNX := Lib.hid (parts_next HP.out (by omega) hfr)
    have OWN := Lib.hid own
    have HB := Lib.hid hB
    have hfr1 := (Fw_ge r).2 (by omega)
    clear e1 e4 own hB
    obtain ⟨a9, -⟩ := T r (by omega)
    rw [Gw_t hfr] at a9
    have hgr : (0 : Int) < Fw r := by omega
    have hrr : (r : Int) < (N : Int) + 1 := by omega
    go_wp2_with fail
    clear a9
    go_loopw [7, 8] (fun bv iv wr => ∃ q : Nat, q ≤ 30 ∧ iv = .int .i64 (q : Int) ∧ bv = .int .i64 ((bst r q : Nat) : Int) ∧ IRow w wr (.slice u P.length cu) P ∧ Tab wr g (N + 1) Gw ∧ VAt wr gv ov ∧ Below w.heap.size w wr) (fun _ iv _ => 30 - (intOf iv).toNat)
    case atStart => exact ⟨0, by omega, rfl, rfl, OWN.out, T, SV, HB.out⟩
    case round =>
      clear OWN T SV HB
      obtain ⟨q, hq, rfl, rfl, own, T, SV, hB⟩ := hrel
      have hsz := hB.size
      by_cases hlq : q < 30
      · obtain ⟨c0, c1, c2⟩ := v_at SV hlq
        have zl := cell_lt c0
        have htn := tn_bd hlq
        have HT : ∀ W, Calls Try.prog 34 #[.agg #[.int .i64 (vB q), .int .i64 (vD q), .int .i64 (vT q)]] W (Gives (.int .i64 ((tn q : Nat) : Int)) W) := fun W => by
          have h := l4Ticks_any (vB q) (vD q) (vT q) (valB_q hlq) W
          rw [htn.2.2]
          exact h
        replace HT := Lib.hid HT
        obtain ⟨tb1, tb2, -⟩ := htn
        have OWN := Lib.hid own
        have HB := Lib.hid hB
        have HTB := Lib.hid T
        have HSV := Lib.hid SV
        clear own hB T SV
        go_wp2_with fail
        refine (HT.out _).mono ?_
        rintro e w2 ⟨rfl, hb⟩
        have own := OWN.out.pure hb
        have T := HTB.out.pure hb
        have SV := HSV.out.pure hb
        have hB := below_pure (w := w) (by have h := HB.out; go_grown) hb
        clear hb c0 c1 c2 OWN HB HTB HSV hsz zl HT
        by_cases ht : tn q ≤ r
        · obtain ⟨j, hj⟩ : ∃ j, j = r - tn q := ⟨_, rfl⟩
          have hle : ((tn q : Nat) : Int) ≤ (r : Int) := by omega
          have hjm : (r : Int) - ((tn q : Nat) : Int) = (j : Int) := by omega
          have hw1 : IntKind.i64.wrap ((r : Int) - ((tn q : Nat) : Int)) = (j : Int) := by
            rw [hjm]
            exact IntWalk.i64_in _ (by omega)
          have hj0 : (0 : Int) ≤ (j : Int) := by omega
          have hj1 : (j : Int) < (N : Int) + 1 := by omega
          have hr1 : (r : Int) < (N : Int) + 1 := by omega
          obtain ⟨a1, -⟩ := T r (by omega)
          obtain ⟨a2, -⟩ := T j (by omega)
          have hF := Gw_bd r
          have hF2 := Gw_bd j
          by_cases hc : Gw j = Gw r - 1
          · have hY := Lib.hid (bst_yes (n := r) (q := q) ⟨ht, by rw [← hj]; exact (Gw_eq (by omega) hfr).1 hc⟩)
            by_cases hm : bst r q < tn q
            · have hmi : ((bst r q : Nat) : Int) < ((tn q : Nat) : Int) := by omega
              rw [hc] at a2
              have hw2 : IntKind.i64.wrap (Gw r - 1) = Gw r - 1 := IntWalk.i64_in _ (by omega)
              clear hj hc hjm
              have OWN := Lib.hid own
              have HB := Lib.hid hB
              have HTB := Lib.hid T
              have HSV := Lib.hid SV
              clear own hB T SV
              go_upto_region 13 with fail
              go_cut [60] (fun cv wc => cv = .bool true ∧ IRow w wc (.slice u P.length cu) P ∧ Tab wc g (N + 1) Gw ∧ VAt wc gv ov ∧ Below w.heap.size w wc)
              case first =>
                go_quiet (fail)
                go_wp2_with fail
                go_meet
                exact ⟨by first | rfl | (simp; omega), OWN.out.drewN _, HTB.out.drewN _, HSV.out, below_drewN HB.out _⟩
              case rest =>
                clear OWN HB HTB HSV
                obtain ⟨rfl, own, T, SV, hB⟩ := hcut
                have OWN := Lib.hid own
                have HB := Lib.hid hB
                have HTB := Lib.hid T
                have HSV := Lib.hid SV
                clear own hB T SV
                go_wp2_with fail
                go_roundw
                case rel => exact ⟨q + 1, by omega, by go_num, by rw [hY.out, Nat.max_eq_right (by omega)], OWN.out, HTB.out, HSV.out, HB.out⟩
                case measure => simp [intOf]; omega
            · have hmi : ¬ ((bst r q : Nat) : Int) < ((tn q : Nat) : Int) := by omega
              rw [hc] at a2
              have hw2 : IntKind.i64.wrap (Gw r - 1) = Gw r - 1 := IntWalk.i64_in _ (by omega)
              clear hj hc hjm
              have OWN := Lib.hid own
              have HB := Lib.hid hB
              have HTB := Lib.hid T
              have HSV := Lib.hid SV
              clear own hB T SV
              go_upto_region 13 with fail
              go_cut [60] (fun cv wc => cv = .bool false ∧ IRow w wc (.slice u P.length cu) P ∧ Tab wc g (N + 1) Gw ∧ VAt wc gv ov ∧ Below w.heap.size w wc)
              case first =>
                go_quiet (fail)
                go_wp2_with fail
                go_meet
                exact ⟨by first | rfl | (simp; omega), OWN.out.drewN _, HTB.out.drewN _, HSV.out, below_drewN HB.out _⟩
              case rest =>
                clear OWN HB HTB HSV
                obtain ⟨rfl, own, T, SV, hB⟩ := hcut
                have OWN := Lib.hid own
                have HB := Lib.hid hB
                have HTB := Lib.hid T
                have HSV := Lib.hid SV
                clear own hB T SV
                go_wp2_with fail
                go_roundw
                case rel => exact ⟨q + 1, by omega, by go_num, by rw [hY.out, Nat.max_eq_left (by omega)], OWN.out, HTB.out, HSV.out, HB.out⟩
                case measure => simp [intOf]; omega
          · have hY := Lib.hid (bst_no (n := r) (q := q) (fun hh => hc ((Gw_eq (by omega) hfr).2 (by rw [hj]; exact hh.2))))
            have hcb : (Gw j == Gw r - 1) = false := by simpa using hc
            have hw2 : IntKind.i64.wrap (Gw r - 1) = Gw r - 1 := IntWalk.i64_in _ (by omega)
            clear hj hjm
            have OWN := Lib.hid own
            have HB := Lib.hid hB
            have HTB := Lib.hid T
            have HSV := Lib.hid SV
            clear own hB T SV
            go_upto_region 13 with fail
            go_cut [60] (fun cv wc => cv = .bool false ∧ IRow w wc (.slice u P.length cu) P ∧ Tab wc g (N + 1) Gw ∧ VAt wc gv ov ∧ Below w.heap.size w wc)
            case first =>
              go_quiet (fail)
              go_wp2_with fail
              go_meet
              exact ⟨by first | rfl | (simp; omega), OWN.out.drewN _, HTB.out.drewN _, HSV.out, below_drewN HB.out _⟩
            case rest =>
              clear OWN HB HTB HSV
              obtain ⟨rfl, own, T, SV, hB⟩ := hcut
              have OWN := Lib.hid own
              have HB := Lib.hid hB
              have HTB := Lib.hid T
              have HSV := Lib.hid SV
              clear own hB T SV
              go_wp2_with fail
              go_roundw
              case rel => exact ⟨q + 1, by omega, by go_num, by rw [hY.out], OWN.out, HTB.out, HSV.out, HB.out⟩
              case measure => simp [intOf]; omega
        · have hY := Lib.hid (bst_no (n := r) (q := q) (fun hh => ht hh.1))
          have hle : ¬ ((tn q : Nat) : Int) ≤ (r : Int) := by omega
          have hled : decide (((tn q : Nat) : Int) ≤ (r : Int)) = false := by simpa using hle
          have OWN := Lib.hid own
          have HB := Lib.hid hB
          have HTB := Lib.hid T
          have HSV := Lib.hid SV
          clear own hB T SV
          go_upto_region 13 with fail
          go_cut [60] (fun cv wc => cv = .bool false ∧ IRow w wc (.slice u P.length cu) P ∧ Tab wc g (N + 1) Gw ∧ VAt wc gv ov ∧ Below w.heap.size w wc)
          case first =>
            go_quiet (fail)
            go_wp2_with fail
            go_meet
            exact ⟨by first | rfl | (simp; omega), OWN.out.drewN _, HTB.out.drewN _, HSV.out, below_drewN HB.out _⟩
          case rest =>
            clear OWN HB HTB HSV
            obtain ⟨rfl, own, T, SV, hB⟩ := hcut
            have OWN := Lib.hid own
            have HB := Lib.hid hB
            have HTB := Lib.hid T
            have HSV := Lib.hid SV
            clear own hB T SV
            go_wp2_with fail
            go_roundw
            case rel => exact ⟨q + 1, by omega, by go_num, by rw [hY.out], OWN.out, HTB.out, HSV.out, HB.out⟩
            case measure => simp [intOf]; omega
      · obtain rfl : q = 30 := by omega
        have e5 : bst r 30 = bs r := rfl
        rw [e5]
        have hbr : (r : Int) - ((bs r : Nat) : Int) = ((r - bs r : Nat) : Int) := by omega
        have OWN := Lib.hid (irow_row own rfl)
        have HB := Lib.hid hB
        have HTB := Lib.hid T
        have HSV := Lib.hid SV
        have hgl := T.lt (by omega)
        have hvl := SV.lt
        clear own hB T SV e5
        go_wp2_with (at_builtin; refine wpList_append_lies _ rfl _ _ 34 rfl w.heap.size 3 i0 (.int .i64 0) 1 8 Try.underlying34 hi hz0 hz1 hz2 rfl (by omega) (.slice u P.length cu) (P.length) (P.map (Value.int .i64)) rfl (World.ownsRow.alloc OWN.out _) ⟨wr.heap.size, 0, none⟩ 1 1 [.int .i64 ((bs r : Nat) : Int)] rfl rfl (World.news_of_block (heap_alloc_new _ _)) (one1 _) (by omega) (by unfold maxLen; omega) (by omega) (by simp; omega) (wr.heap.size + 1) (by simp) ?_; intro g' cap' w3 own3 hgrow hat hglt)
        have hB3 := below_append (show Below w.heap.size w wr from HB.out) (by omega) hgrow (fun j hj => (OWN.out.lt j hj).1)
        have own4 := Lib.hid (irow_more (L := P) rfl own3)
        have T3 := Lib.hid ((HTB.out.alloc _).grown hgrow hne)
        have hne3 : g' ≠ g := by
          rcases hat with h | h
          · intro e
            exact hne (by rw [h, e])
          · omega
        have S3 := Lib.hid ((HSV.out.alloc _).grown hgrow hnv)
        have hnv3 : g' ≠ gv := by
          rcases hat with h | h
          · intro e
            exact hnv (by rw [h, e])
          · omega
        clear own3 hgrow hglt hat OWN HB HTB HSV
        go_wp2_with fail
        go_roundw
        case rel => exact ⟨r - bs r, P ++ [((bs r : Nat) : Int)], by first | rfl | rw [hbr], by omega, by rw [HB4.out]; omega, HNX, own4.out, by simp [Value.ownBlock]; exact hne3, by simp [Value.ownBlock]; exact hnv3, T3.out, S3.out, hB3⟩
        case measure => simp [intOf]; omega

end Go.Proofs.Ytgbnaimkpnoeoaa
