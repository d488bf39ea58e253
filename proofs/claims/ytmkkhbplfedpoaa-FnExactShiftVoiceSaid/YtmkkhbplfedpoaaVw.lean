/- The walk of VoiceValid of the reference: it tells the same plain test. Conditions: the notes lie in memory as a slice of notes does. -/
import Derived.Test.YtmkkhbplfedpoaaVv
namespace Go.Proofs.Ytmkkhbplfedpoaa
open Go.RowKit Go.Sort Go.BigFrame

set_option maxHeartbeats 8000000 in
set_option maxRecDepth 100000 in
theorem specVoiceValid_any (a : Option Addr) (n cap : Nat) (xs : List (Bool × Int × Int × Int × Int × Bool)) (w : World) (hx : xs.length = n) (h : Voice w a xs) (hn : n ≤ 10000000) :
    Calls Try.prog 21 #[.slice a n cap] w (Gives (.bool (vvB xs)) w) := by
  unfold Voice at h
  rw [hx] at h
  have HX := Lib.hid hx
  have HS := Lib.hid h
  clear h hx
  go_enter Try.func21, Try.ntmps21
  go_wp2_with fail
  go_loopw [3] (fun i wr => ∃ k : Nat, k ≤ n ∧ i = .int .i64 k ∧ Hid (∀ j, j < k → okB xs j = true) ∧ Below w.heap.size w wr) (fun i _ => n - (intOf i).toNat)
  case atStart => exact ⟨0, Nat.zero_le _, rfl, Lib.hid (fun j hj => absurd hj (Nat.not_lt_zero _)), Below.refl _ _⟩
  case round =>
    obtain ⟨k, hk, rfl, HO, hB⟩ := hrel
    have hsz := hB.size
    by_cases hlt : k < n
    · obtain ⟨⟨r, s, x, o, t, d⟩, hxk⟩ := nth (xs := xs) (k := k) (by have := HX.out; omega)
      obtain ⟨g, off, rfl, hc⟩ := (HS.out.pure hB) (by omega)
      obtain ⟨c0, c1, c2, c3, c4, c5⟩ := at6 hc hlt hxk
      have hi0 : (0 : Int) ≤ (k : Int) := by omega
      have hi1 : (k : Int) < (n : Int) := by omega
      have hw1 : IntKind.i64.wrap ((k : Int) + 1) = (k : Int) + 1 := IntWalk.i64_in _ (by omega)
      have hw2 : IntKind.i64.wrap ((n : Int) - 1) = (n : Int) - 1 := IntWalk.i64_in _ (by omega)
      have hwt : ((k : Int) + 1).toNat = k + 1 := by omega
      have HC := Lib.hid hc
      clear hc
      have HXK := Lib.hid hxk
      clear hxk
      have HK := Lib.hid (fun h : okB xs k = false => vv_f h (by have := HX.out; omega))
      have HN := fun W => specNoteValid_any r s x o t d W
      cases hnb : noteB r s x o t d
      · have HV := Lib.hid (HK.out (ok_note HXK.out hnb))
        rw [hnb] at HN
        replace HN := Lib.hid HN
        clear hnb
        go_wp2_with fail
        refine (HN.out _).mono ?_
        rintro e w2 ⟨rfl, hb⟩
        replace hB := below_pure hB hb
        clear hb
        go_wp2
        go_ret
        exact ⟨by rw [HV.out]; rfl, hB⟩
      rw [hnb] at HN
      replace HN := Lib.hid HN
      have HNB := Lib.hid hnb
      clear hnb
      go_wp2_with fail
      refine (HN.out _).mono ?_
      rintro e w2 ⟨rfl, hb⟩
      have hB2 := below_pure hB hb
      have hc2 : ∀ i, i < n * 6 → w2.cell? ⟨g, off + i, none⟩ = some (nc xs i) := fun i hi => (hb.cell (p := ⟨g, off + i, none⟩) (cell_lt (HC.out i hi))).trans (HC.out i hi)
      clear hb c0 c1 c2 c3 c4 c5 HC hB hsz
      obtain ⟨c0, c1, c2, c3, c4, c5⟩ := at6 hc2 hlt HXK.out
      have HC := Lib.hid hc2
      clear hc2
      have HB2 := Lib.hid hB2
      clear hB2
      go_upto_region 6 with fail
      go_cut [49] (fun v wc => v = .bool (!okB xs k) ∧ Below w.heap.size w wc)
      case first =>
        cases d
        · have HOK := Lib.hid (ok_free HXK.out HNB.out)
          go_quiet (fail)
          go_wp2_with fail
          go_meet
          exact ⟨by rw [HOK.out]; rfl, below_drewN HB2.out _⟩
        by_cases hl : k + 1 < n
        · obtain ⟨⟨r', s', x', o', t', d'⟩, hxl⟩ := nth (xs := xs) (k := k + 1) (by have := HX.out; omega)
          obtain ⟨g0, g1, g2, g3, -, -⟩ := at6 HC.out hl hxl
          have hok := ok_next HXK.out HNB.out hxl
          have hle : ((k : Int) == (n : Int) - 1) = false := by simp; omega
          have hj0 : (0 : Int) ≤ (k : Int) + 1 := by omega
          have hj1 : (k : Int) + 1 < (n : Int) := by omega
          clear hxl
          cases r'
          · by_cases h1 : s' = s
            · by_cases h2 : x' = x
              · by_cases h3 : o' = o
                · have HOK := Lib.hid (show okB xs k = true by rw [hok, h1, h2, h3]; simp)
                  obtain rfl : s = s' := h1.symm
                  obtain rfl : x = x' := h2.symm
                  obtain rfl : o = o' := h3.symm
                  clear hok h1 h2 h3
                  go_quiet (fail)
                  go_wp2_with fail
                  go_meet
                  exact ⟨by rw [HOK.out]; rfl, below_drewN HB2.out _⟩
                · have HOK := Lib.hid (show okB xs k = false by rw [hok, beq_false h3]; simp)
                  have b3 := beq_false h3
                  obtain rfl : s = s' := h1.symm
                  obtain rfl : x = x' := h2.symm
                  clear hok h1 h2
                  go_quiet (fail)
                  go_wp2_with fail
                  go_meet
                  exact ⟨by rw [HOK.out]; rfl, below_drewN HB2.out _⟩
              · have HOK := Lib.hid (show okB xs k = false by rw [hok, beq_false h2]; simp)
                have b2 := beq_false h2
                obtain rfl : s = s' := h1.symm
                clear hok h1
                go_quiet (fail)
                go_wp2_with fail
                go_meet
                exact ⟨by rw [HOK.out]; rfl, below_drewN HB2.out _⟩
            · have HOK := Lib.hid (show okB xs k = false by rw [hok, beq_false h1]; simp)
              have b1 := beq_false h1
              clear hok
              go_quiet (fail)
              go_wp2_with fail
              go_meet
              exact ⟨by rw [HOK.out]; rfl, below_drewN HB2.out _⟩
          · have HOK := Lib.hid (show okB xs k = false by rw [hok]; simp)
            clear hok
            go_quiet (fail)
            go_wp2_with fail
            go_meet
            exact ⟨by rw [HOK.out]; rfl, below_drewN HB2.out _⟩
        · have HOK := Lib.hid (ok_last HXK.out HNB.out (by rw [List.getElem?_eq_none]; have := HX.out; omega))
          have hle : ((k : Int) == (n : Int) - 1) = true := by simp; omega
          go_quiet (fail)
          go_wp2_with fail
          go_meet
          exact ⟨by rw [HOK.out]; rfl, below_drewN HB2.out _⟩
      case rest =>
        clear c0 c1 c2 c3 c4 c5 hw1 hw2 hwt HN HB2
        obtain ⟨rfl, hB⟩ := hcut
        cases hok : okB xs k
        · have HV := Lib.hid (HK.out hok)
          go_wp2_with fail
          go_ret
          exact ⟨by rw [HV.out]; rfl, hB⟩
        · have HO' := Lib.hid (fun j (hj : j < k + 1) => (show okB xs j = true by rcases Nat.lt_or_eq_of_le (Nat.le_of_lt_succ hj) with h | h; exact HO.out j h; rw [h]; exact hok))
          go_wp2_with fail
          go_roundw
          case rel => exact ⟨k + 1, by omega, by go_num, HO', hB⟩
          case measure => simp [intOf]; omega
    · obtain rfl : k = n := by omega
      by_cases h60 : k ≤ 60
      · have HV := Lib.hid (vv_t (xs := xs) (fun j hj => HO.out j (by have := HX.out; omega)) (by have := HX.out; omega))
        go_wp2
        go_ret
        exact ⟨by rw [HV.out]; simp; omega, hB⟩
      · have HV := Lib.hid (vv_long (xs := xs) (by have := HX.out; omega))
        go_wp2
        go_ret
        exact ⟨by rw [HV.out]; simp; omega, hB⟩

end Go.Proofs.Ytmkkhbplfedpoaa
