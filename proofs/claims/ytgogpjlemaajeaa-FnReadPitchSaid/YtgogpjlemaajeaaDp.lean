/- The walk of the draw of a pitch: it returns three numbers within -9..9, and moves nothing old but the reader. -/
import Derived.Test.YtgogpjlemaajeaaDr
import Derived.Deep.DeepCutAuto
namespace Go.Proofs.Ytgogpjlemaajeaa
open Go.RowKit

/-- What the draw of a pitch leaves. -/
def PitchPost (w : World) (R K : Nat) (e : Ending) (w' : World) : Prop :=
  ∃ s a o : Int, e = .returned (.agg #[.int .i64 s, .int .i64 a, .int .i64 o]) ∧ (-9 ≤ s ∧ s ≤ 9 ∧ -9 ≤ a ∧ a ≤ 9 ∧ -9 ≤ o ∧ o ≤ 9) ∧ Dr w w' R K

set_option maxHeartbeats 2000000 in
set_option maxRecDepth 100000 in
theorem l20Pitch_any (R K : Nat) (n : Int) (w : World) (h : RdOk w R K) (hK : K ≤ 50000) (hn : 0 ≤ n) (hn' : n ≤ 1000) :
    Calls Try.prog 43 #[.pointer (some ⟨R, 0, none⟩), .int .i64 n] w (PitchPost w R (K + 20)) := by
  have hR := h.lt
  go_enter Try.func43, Try.ntmps43
  go_wp2_with fail
  refine (pick_any R K 7 _ (RdOk.alloc h _) (by omega) (by omega) (by omega)).mono ?_
  rintro e w1 ⟨s, rfl, s0, s1, -, g1, r1⟩
  have D1 : Dr w w1 R (K + 1) := ((Dr.start h).alloc _).pick g1 r1
  have z1 : Blk w1 w.heap.size 25 #[.int .i64 0, .int .i64 0, .int .i64 0] := (Blk.new w _ _).grown g1 (fun e => by injection e; omega)
  have s2 := s1 (by omega)
  clear g1 r1 s1
  go_wp2_with fail
  refine (pick_any R (K + 1) 4 _ D1.rd (by omega) (by omega) (by omega)).mono ?_
  rintro e w2 ⟨o, rfl, o0, o1, -, g2, r2⟩
  have D2 : Dr w w2 R (K + 2) := D1.pick g2 r2
  have z2 : Blk w2 w.heap.size 25 #[.int .i64 0, .int .i64 0, .int .i64 0] := z1.grown g2 (fun e => by injection e; omega)
  have o2 := o1 (by omega)
  clear g2 r2 o1 z1 D1
  have S2 := D2.size
  have Z2 := z2.lt
  go_upto_region 2 with fail
  have P0 : DP w (w2.alloc (.cells #[.int .i64 s, .int .i64 0, .int .i64 (2 + o)] 25)) R (K + 2) w2.heap.size 25 := ⟨s, 0, 2 + o, by omega, Blk.new _ _ _, by omega, D2.alloc _, z2.alloc _⟩
  generalize w2.alloc (.cells #[.int .i64 s, .int .i64 0, .int .i64 (2 + o)] 25) = c at *
  generalize w2.heap.size = g at *
  clear D2 z2 S2 Z2
  go_wp2_with fail
  refine (pick_any R (K + 2) 3 _ (P0.rd) (by omega) (by omega) (by omega)).mono ?_
  rintro e c' ⟨v, rfl, v0, v1, -, hg, hr⟩
  replace v1 := v1 (by omega)
  replace P0 := P0.pick hg hr
  clear hg hr
  go_upto_if 14 with fail
  go_cut [] (fun wc => DP w wc R (K + 4) g 25)
  case first =>
    obtain ⟨x, y, z, c0, c1, c2, f0, f1, f2, zz⟩ := P0.cells
    by_cases hv0 : v = 0
    · subst hv0
      go_wp2_with fail
      refine (pick_any R (K + 3) 3 _ P0.rd (by omega) (by omega) (by omega)).mono ?_
      rintro e ca ⟨v, rfl, v0, v1, -, hg, hr⟩
      replace v1 := v1 (by omega)
      have Q := P0.pick hg hr
      obtain ⟨x', y', z', c0', c1', c2', f0', f1', f2', zz'⟩ := Q.cells
      clear hg hr
      go_wp2_with fail
      go_meet
      exact (Q.set1 _ (by omega) (by omega)).mono (by omega)
    · go_wp2_with fail
      go_meet
      exact P0.mono (by omega)
  case rest =>
    clear P0 v0 v1
    have P0 := hcut
    clear hcut
    go_wp2_with fail
    refine (pick_any R (K + 4) 12 _ (P0.rd) (by omega) (by omega) (by omega)).mono ?_
    rintro e c' ⟨v, rfl, v0, v1, -, hg, hr⟩
    replace v1 := v1 (by omega)
    replace P0 := P0.pick hg hr
    clear hg hr
    go_upto_if 21 with fail
    go_cut [] (fun wc => DP w wc R (K + 6) g 25)
    case first =>
      obtain ⟨x, y, z, c0, c1, c2, f0, f1, f2, zz⟩ := P0.cells
      by_cases hv0 : v = 0
      · subst hv0
        go_wp2_with fail
        refine (pick_any R (K + 5) 2 _ (RdOk.alloc P0.rd _) (by omega) (by omega) (by omega)).mono ?_
        rintro e ca ⟨v, rfl, v0, v1, -, hg, hr⟩
        replace v1 := v1 (by omega)
        have Q := (P0.alloc _).pick hg hr
        have B := (Blk.new _ _ _).grown hg (fun e => by have := P0.rd.lt; injection e; omega)
        have b0 := Blk.get (i := 0) B rfl
        have b1 := Blk.get (i := 1) B rfl
        clear hg hr B
        obtain ⟨x', y', z', c0', c1', c2', f0', f1', f2', zz'⟩ := Q.cells
        have hv : v = 0 ∨ v = 1 := by omega
        rcases hv with rfl | rfl
        all_goals
          go_wp2_with fail
          go_meet
          exact (Q.set1 _ (by omega) (by omega)).mono (by omega)
      · go_wp2_with fail
        go_meet
        exact P0.mono (by omega)
    case rest =>
      clear P0 v0 v1
      have P0 := hcut
      clear hcut
      go_wp2_with fail
      refine (pick_any R (K + 6) 9 _ (P0.rd) (by omega) (by omega) (by omega)).mono ?_
      rintro e c' ⟨v, rfl, v0, v1, -, hg, hr⟩
      replace v1 := v1 (by omega)
      replace P0 := P0.pick hg hr
      clear hg hr
      go_upto_if 30 with fail
      go_cut [] (fun wc => DP w wc R (K + 8) g 25)
      case first =>
        obtain ⟨x, y, z, c0, c1, c2, f0, f1, f2, zz⟩ := P0.cells
        by_cases hv0 : v = 0
        · subst hv0
          go_wp2_with fail
          refine (pick_any R (K + 7) 2 _ (RdOk.alloc P0.rd _) (by omega) (by omega) (by omega)).mono ?_
          rintro e ca ⟨v, rfl, v0, v1, -, hg, hr⟩
          replace v1 := v1 (by omega)
          have Q := (P0.alloc _).pick hg hr
          have B := (Blk.new _ _ _).grown hg (fun e => by have := P0.rd.lt; injection e; omega)
          have b0 := Blk.get (i := 0) B rfl
          have b1 := Blk.get (i := 1) B rfl
          clear hg hr B
          obtain ⟨x', y', z', c0', c1', c2', f0', f1', f2', zz'⟩ := Q.cells
          have hv : v = 0 ∨ v = 1 := by omega
          rcases hv with rfl | rfl
          all_goals
            go_wp2_with fail
            go_meet
            exact (Q.set2 _ (by omega) (by omega)).mono (by omega)
        · go_wp2_with fail
          go_meet
          exact P0.mono (by omega)
      case rest =>
        clear P0 v0 v1
        have P0 := hcut
        clear hcut
        go_wp2_with fail
        refine (odd_any R (K + 8) n _ P0.rd (by omega) (by omega) (by omega)).mono ?_
        rintro e c' ⟨b, rfl, -, hg, hr⟩
        replace P0 := P0.pick hg hr
        clear hg hr
        go_upto_if 39 with fail
        go_cut [] (fun wc => DP w wc R (K + 11) g 25)
        case first =>
          cases b
          · go_wp2_with fail
            go_meet
            exact P0.mono (by omega)
          · go_wp2_with fail
            refine (pick_any R (K + 9) 3 _ (P0.rd) (by omega) (by omega) (by omega)).mono ?_
            rintro e cb ⟨v, rfl, v0, v1, -, hg, hr⟩
            replace v1 := v1 (by omega)
            replace P0 := P0.pick hg hr
            clear hg hr
            obtain ⟨x, y, z, c0, c1, c2, f0, f1, f2, zz⟩ := P0.cells
            have hv3 : v = 0 ∨ v = 1 ∨ v = 2 := by omega
            rcases hv3 with rfl | rfl | rfl
            · skip
              go_wp2_with fail
              refine (pick_any R (K + 10) 2 _ (RdOk.alloc P0.rd _) (by omega) (by omega) (by omega)).mono ?_
              rintro e ca ⟨v, rfl, v0, v1, -, hg, hr⟩
              replace v1 := v1 (by omega)
              have Q := (P0.alloc _).pick hg hr
              have B := (Blk.new _ _ _).grown hg (fun e => by have := P0.rd.lt; injection e; omega)
              have b0 := Blk.get (i := 0) B rfl
              have b1 := Blk.get (i := 1) B rfl
              clear hg hr B
              obtain ⟨x', y', z', c0', c1', c2', f0', f1', f2', zz'⟩ := Q.cells
              have hv : v = 0 ∨ v = 1 := by omega
              rcases hv with rfl | rfl
              all_goals
                go_wp2_with fail
                go_meet
                exact (Q.set0 _ (by omega) (by omega)).mono (by omega)
            · skip
              go_wp2_with fail
              refine (pick_any R (K + 10) 2 _ (RdOk.alloc P0.rd _) (by omega) (by omega) (by omega)).mono ?_
              rintro e ca ⟨v, rfl, v0, v1, -, hg, hr⟩
              replace v1 := v1 (by omega)
              have Q := (P0.alloc _).pick hg hr
              have B := (Blk.new _ _ _).grown hg (fun e => by have := P0.rd.lt; injection e; omega)
              have b0 := Blk.get (i := 0) B rfl
              have b1 := Blk.get (i := 1) B rfl
              clear hg hr B
              obtain ⟨x', y', z', c0', c1', c2', f0', f1', f2', zz'⟩ := Q.cells
              have hv : v = 0 ∨ v = 1 := by omega
              rcases hv with rfl | rfl
              all_goals
                go_wp2_with fail
                go_meet
                exact (Q.set1 _ (by omega) (by omega)).mono (by omega)
            · skip
              go_wp2_with fail
              refine (pick_any R (K + 10) 2 _ (RdOk.alloc P0.rd _) (by omega) (by omega) (by omega)).mono ?_
              rintro e ca ⟨v, rfl, v0, v1, -, hg, hr⟩
              replace v1 := v1 (by omega)
              have Q := (P0.alloc _).pick hg hr
              have B := (Blk.new _ _ _).grown hg (fun e => by have := P0.rd.lt; injection e; omega)
              have b0 := Blk.get (i := 0) B rfl
              have b1 := Blk.get (i := 1) B rfl
              clear hg hr B
              obtain ⟨x', y', z', c0', c1', c2', f0', f1', f2', zz'⟩ := Q.cells
              have hv : v = 0 ∨ v = 1 := by omega
              rcases hv with rfl | rfl
              all_goals
                go_wp2_with fail
                go_meet
                exact (Q.set2 _ (by omega) (by omega)).mono (by omega)
        case rest =>
          clear P0
          obtain ⟨s, a, o, hb, B, hg, D, Z⟩ := hcut
          have b0 := Blk.get (i := 0) B rfl
          have b1 := Blk.get (i := 1) B rfl
          have b2 := Blk.get (i := 2) B rfl
          have z0 := Blk.get (i := 0) Z rfl
          have y0 := Blk.frozen Z 0
          have z1 := Blk.get (i := 1) Z rfl
          have y1 := Blk.frozen Z 1
          have z2 := Blk.get (i := 2) Z rfl
          have y2 := Blk.frozen Z 2
          have zl := Z.lt
          clear Z B
          go_wp2_with fail
          refine bodyPost_ret (v := .agg #[.int .i64 s, .int .i64 a, .int .i64 o]) (by simp [results, Try.results43, go_sem, *]) rfl ⟨s, a, o, rfl, hb, ?_⟩
          exact (((D.set_ (Nat.le_refl _) _).set_ (Nat.le_refl _) _).set_ (Nat.le_refl _) _).mono (by omega)
end Go.Proofs.Ytgogpjlemaajeaa
