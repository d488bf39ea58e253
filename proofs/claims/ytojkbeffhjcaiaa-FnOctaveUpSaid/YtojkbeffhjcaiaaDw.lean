/- The walk of the draw of an interval: it returns two numbers within bounds, and moves nothing old but the reader. -/
import Derived.Test.YtojkbeffhjcaiaaDr
import Derived.Deep.DeepCutAuto
namespace Go.Proofs.Ytojkbeffhjcaiaa
open Go.RowKit

/-- What the draw of an interval leaves. -/
def WayPost (w : World) (R K : Nat) (e : Ending) (w' : World) : Prop :=
  ∃ s h : Int, e = .returned (.agg #[.int .i64 s, .int .i64 h]) ∧ (-22 ≤ s ∧ s ≤ 22 ∧ -5000 ≤ h ∧ (h ≤ 5000 ∨ h = 9223372036854775807)) ∧ Dr w w' R K

/-- An interval that is being drawn: block g holds it, the result's block is still zero. -/
def DW (w W : World) (R K g : Nat) (T : TypeId) : Prop :=
  ∃ s h : Int, (-22 ≤ s ∧ s ≤ 22 ∧ -3000 ≤ h ∧ h ≤ 3000) ∧ Blk W g T #[.int .i64 s, .int .i64 h] ∧ w.heap.size < g ∧ Dr w W R K ∧ Blk W w.heap.size T #[.int .i64 0, .int .i64 0]

theorem two_at (j : Nat) (h : (j : Int) < 2) : ∃ y : Int, (#[Value.int .i64 9, Value.int .i64 (-9)] : Array Value)[j]? = some (.int .i64 y) ∧ (y = 9 ∨ y = -9) := by
  obtain rfl | rfl : j = 0 ∨ j = 1 := by omega
  · exact ⟨9, rfl, .inl rfl⟩
  · exact ⟨-9, rfl, .inr rfl⟩
theorem two_new (W : World) (T : TypeId) {j : Nat} {y : Int} {c : Array Value} (h : c[j]? = some (.int .i64 y)) : (W.alloc (.cells c T)).cell? ⟨W.heap.size, j, none⟩ = some (.int .i64 y) :=
  Blk.get (Blk.new W T c) h
theorem two_old {W ca : World} {R : Nat} (T : TypeId) {j : Nat} {y : Int} {c : Array Value} (ha : ((W.alloc (.cells c T)).drew).grownBy ca (some R)) (hR : R < W.heap.size) (h : c[j]? = some (.int .i64 y)) :
    ca.cell? ⟨W.heap.size, j, none⟩ = some (.int .i64 y) :=
  Blk.get ((Blk.new W T c).drew.grown ha (fun e => by injection e; omega)) h

set_option maxHeartbeats 2000000 in
set_option maxRecDepth 100000 in
theorem l20Way_any (R K : Nat) (n : Int) (w : World) (h : RdOk w R K) (hK : K ≤ 50000) (hn : 0 ≤ n) (hn' : n ≤ 1000) :
    Calls Try.prog 62 #[.pointer (some ⟨R, 0, none⟩), .int .i64 n] w (WayPost w R (K + 20)) := by
  have hR := h.lt
  go_enter Try.func62, Try.ntmps62
  go_wp2_with fail
  refine (pick_any R K 15 _ (RdOk.alloc h _) (by omega) (by omega) (by omega)).mono ?_
  rintro e w1 ⟨u, rfl, u0, u1, -, g1, r1⟩
  have D1 : Dr w w1 R (K + 1) := ((Dr.start h).alloc _).pick g1 r1
  have z1 : Blk w1 w.heap.size 57 #[.int .i64 0, .int .i64 0] := (Blk.new w _ _).grown g1 (fun e => by injection e; omega)
  replace u1 := u1 (by omega)
  clear g1 r1
  go_upto_region 2 with fail
  obtain ⟨s, hs⟩ : ∃ s, s = u - 7 := ⟨_, rfl⟩
  rw [← hs]
  have s0 : -7 ≤ s := by omega
  have s1 : s ≤ 7 := by omega
  clear hs u0 u1
  go_cut [6] (fun v6 wc => ∃ (g : Nat) (h : Int), v6 = .pointer (some ⟨g, 0, none⟩) ∧ (-3000 ≤ h ∧ h ≤ 3000) ∧ Blk wc g 57 #[.int .i64 s, .int .i64 h] ∧ w.heap.size < g ∧ Dr w wc R (K + 3) ∧ Blk wc w.heap.size 57 #[.int .i64 0, .int .i64 0])
  case first =>
    go_wp2_with fail
    case inr =>
      refine (l1Natural_any _ (by omega) (by omega) _).mono ?_
      rintro e w2 ⟨rfl, hb⟩
      replace D1 := D1.below hb
      replace z1 := z1.pure hb
      clear hb
      obtain ⟨m0, m1⟩ := natu_bd (s) (by omega) (by omega)
      generalize natu (s) = m at *
      go_wp2_with fail
      refine (pick_any R _ 7 _ D1.rd (by omega) (by omega) (by omega)).mono ?_
      rintro e w3 ⟨u, rfl, u0, u1, -, g2, r2⟩
      replace u1 := u1 (by omega)
      replace D1 := D1.pick g2 r2
      replace z1 := z1.grown g2 (fun e => by injection e; omega)
      clear g2 r2
      go_wp2_with fail
      refine (pick_any R _ 6 _ (D1.alloc _).rd (by omega) (by omega) (by omega)).mono ?_
      rintro e ca ⟨v, rfl, v0, v1, -, ha, hr⟩
      replace v1 := v1 (by omega)
      have Bn := (Blk.new _ _ _).grown ha (fun e => by have := D1.rd.lt; injection e; omega)
      have b0 := Blk.get (i := 0) Bn rfl
      have b1 := Blk.get (i := 1) Bn rfl
      have b2 := Blk.get (i := 2) Bn rfl
      have b3 := Blk.get (i := 3) Bn rfl
      have b4 := Blk.get (i := 4) Bn rfl
      have b5 := Blk.get (i := 5) Bn rfl
      have D2 := (D1.alloc _).pick ha hr
      have z2 := (z1.alloc _).grown ha (fun e => by injection e; omega)
      have S2 := D2.size
      have Z2 := z2.lt
      clear ha hr Bn D1 z1
      have hv : v = 0 ∨ v = 1 ∨ v = 2 ∨ v = 3 ∨ v = 4 ∨ v = 5 := by omega
      rcases hv with rfl | rfl | rfl | rfl | rfl | rfl
      all_goals
        go_wp2_with fail
        go_meet
        exact ⟨_, _, rfl, by omega, Blk.new _ _ _, by omega, (D2.alloc _).mono (by omega), z2.alloc _⟩
    case inl =>
      refine (l1Natural_any _ (by omega) (by omega) _).mono ?_
      rintro e w2 ⟨rfl, hb⟩
      replace D1 := D1.below hb
      replace z1 := z1.pure hb
      clear hb
      obtain ⟨m0, m1⟩ := natu_bd (-s) (by omega) (by omega)
      generalize natu (-s) = m at *
      go_wp2_with fail
      refine (pick_any R _ 7 _ D1.rd (by omega) (by omega) (by omega)).mono ?_
      rintro e w3 ⟨u, rfl, u0, u1, -, g2, r2⟩
      replace u1 := u1 (by omega)
      replace D1 := D1.pick g2 r2
      replace z1 := z1.grown g2 (fun e => by injection e; omega)
      clear g2 r2
      go_wp2_with fail
      refine (pick_any R _ 6 _ (D1.alloc _).rd (by omega) (by omega) (by omega)).mono ?_
      rintro e ca ⟨v, rfl, v0, v1, -, ha, hr⟩
      replace v1 := v1 (by omega)
      have Bn := (Blk.new _ _ _).grown ha (fun e => by have := D1.rd.lt; injection e; omega)
      have b0 := Blk.get (i := 0) Bn rfl
      have b1 := Blk.get (i := 1) Bn rfl
      have b2 := Blk.get (i := 2) Bn rfl
      have b3 := Blk.get (i := 3) Bn rfl
      have b4 := Blk.get (i := 4) Bn rfl
      have b5 := Blk.get (i := 5) Bn rfl
      have D2 := (D1.alloc _).pick ha hr
      have z2 := (z1.alloc _).grown ha (fun e => by injection e; omega)
      have S2 := D2.size
      have Z2 := z2.lt
      clear ha hr Bn D1 z1
      have hv : v = 0 ∨ v = 1 ∨ v = 2 ∨ v = 3 ∨ v = 4 ∨ v = 5 := by omega
      rcases hv with rfl | rfl | rfl | rfl | rfl | rfl
      all_goals
        go_wp2_with fail
        go_meet
        exact ⟨_, _, rfl, by omega, Blk.new _ _ _, by omega, (D2.alloc _).mono (by omega), z2.alloc _⟩
  case rest =>
    clear D1 z1
    obtain ⟨g, x, rfl, ⟨x0, x1⟩, B, hg, D1, z1⟩ := hcut
    go_upto_if 27 with fail
    go_cut [] (fun wc => DW w wc R (K + 3) g 57)
    case first =>
      have c0 := Blk.get (i := 0) B rfl
      have c1 := Blk.get (i := 1) B rfl
      have f0 := Blk.frozen B 0
      have f1 := Blk.frozen B 1
      have zl := B.lt
      by_cases hs : s < 0
      · go_wp2_with fail
        go_meet
        exact ⟨s, -x, by omega, B.set_ 1 _, hg, D1.set_ (by show w.heap.size ≤ g; omega) _, z1.ne (by omega) _⟩
      · go_wp2_with fail
        go_meet
        exact ⟨s, x, by omega, B, hg, D1, z1⟩
    case rest =>
      clear B D1 z1 x0 x1 hg
      obtain ⟨s, x, ⟨s0, s1, x0, x1⟩, B, hg, D1, z1⟩ := hcut
      go_wp2_with fail
      refine (odd_any R _ n _ D1.rd (by omega) (by omega) (by omega)).mono ?_
      rintro e w4 ⟨b, rfl, -, g2, r2⟩
      replace D1 := D1.pick g2 r2
      replace z1 := z1.grown g2 (fun e => by injection e; omega)
      replace B := B.grown g2 (fun e => by injection e; omega)
      clear g2 r2
      go_upto_if 34 with fail
      go_cut [] (fun wc => ∃ s h : Int, (-22 ≤ s ∧ s ≤ 22 ∧ -5000 ≤ h ∧ (h ≤ 5000 ∨ h = 9223372036854775807)) ∧ Blk wc g 57 #[.int .i64 s, .int .i64 h] ∧ Dr w wc R (K + 10) ∧ Blk wc w.heap.size 57 #[.int .i64 0, .int .i64 0])
      case first =>
        cases b
        · go_wp2_with fail
          go_meet
          exact ⟨s, x, by omega, B, D1.mono (by omega), z1⟩
        · go_wp2_with fail
          refine (pick_any R _ 3 _ D1.rd (by omega) (by omega) (by omega)).mono ?_
          rintro e w5 ⟨u, rfl, u0, u1, -, g2, r2⟩
          replace u1 := u1 (by omega)
          replace D1 := D1.pick g2 r2
          replace z1 := z1.grown g2 (fun e => by injection e; omega)
          replace B := B.grown g2 (fun e => by injection e; omega)
          clear g2 r2
          have c0 := Blk.get (i := 0) B rfl
          have c1 := Blk.get (i := 1) B rfl
          have f0 := Blk.frozen B 0
          have f1 := Blk.frozen B 1
          have zl := B.lt
          have hu : u = 0 ∨ u = 1 ∨ u = 2 := by omega
          rcases hu with rfl | rfl | rfl
          · go_wp2_with fail
            have NB : ∀ W : World, Blk W g 57 #[.int .i64 s, .int .i64 x] → Blk W w.heap.size 57 #[.int .i64 0, .int .i64 0] → Dr w W R (K + 3 + 1 + 1) → ∀ ca, W.grownBy ca (some R) → RdOk ca R (K + 3 + 1 + 1 + 1) → Hid (Blk ca g 57 #[.int .i64 s, .int .i64 x] ∧ Blk ca w.heap.size 57 #[.int .i64 0, .int .i64 0] ∧ Dr w ca R (K + 3 + 1 + 1 + 1)) := fun W h1 h2 h3 ca h4 h5 =>
              Lib.hid ⟨h1.grown h4 (fun e => by injection e; omega), h2.grown h4 (fun e => by injection e; omega), h3.pick h4 h5⟩
            go_region_with ((go_at_call 59; refine (pick_any R (K + 3 + 1 + 1) 2 _ ?_ (by omega) (by omega) (by omega)).mono ?_; (first | exact D1.drew.rd | exact (D1.alloc _).drew.rd); rintro e ca ⟨v, rfl, v0, v1, -, ha, hr⟩; replace v1 := v1 (by omega); obtain ⟨j, rfl⟩ := Int.eq_ofNat_of_zero_le v0; obtain ⟨y, hy, hy9⟩ := two_at j (by omega); have hw : IntKind.i64.wrap (x + y) = x + y := IntWalk.i64_in _ (by omega); have hj := two_new ca 3 hy; (first | (have hk := two_old (W := w5) 3 ha D1.rd.lt hy) | skip); have NC := NB _ (by first | exact B | exact B.alloc _) (by first | exact z1 | exact z1.alloc _) (by first | exact D1.drew | exact (D1.alloc _).drew) _ ha hr; have B2 := NC.out.1; have d1 := Blk.get (i := 1) B2 rfl; have d2 := Blk.frozen B2 1; have d3 := B2.lt; clear B2))
            all_goals
              obtain ⟨h1, h2, h3⟩ := NC.out
              have gw : w.heap.size ≤ g := by omega
              have gn : w.heap.size ≠ g := by omega
              have hm : K + 3 + 1 + 1 + 1 ≤ K + 10 := by omega
              have hb : -22 ≤ s ∧ s ≤ 22 ∧ -5000 ≤ x + y ∧ (x + y ≤ 5000 ∨ x + y = 9223372036854775807) := by omega
              go_wp2_with fail
              go_meet
              first
                | exact ⟨s, x + y, hb, h1.set_ 1 _, (h3.set_ gw _).mono hm, h2.ne gn _⟩
                | exact ⟨s, x + y, hb, (h1.set_ 1 _).alloc _, ((h3.set_ gw _).alloc _).mono hm, (h2.ne gn _).alloc _⟩
                | exact ⟨s, x + y, hb, (h1.alloc _).set_ 1 _, ((h3.alloc _).set_ gw _).mono hm, (h2.alloc _).ne gn _⟩
          · go_wp2_with fail
            refine (pick_any R _ 2 _ (D1.alloc _).rd (by omega) (by omega) (by omega)).mono ?_
            rintro e ca ⟨v, rfl, v0, v1, -, ha, hr⟩
            replace v1 := v1 (by omega)
            have Bn := (Blk.new _ _ _).grown ha (fun e => by have := D1.rd.lt; injection e; omega)
            have b0 := Blk.get (i := 0) Bn rfl
            have b1 := Blk.get (i := 1) Bn rfl
            have D2 := (D1.alloc _).pick ha hr
            have z2 := (z1.alloc _).grown ha (fun e => by injection e; omega)
            have B2 := (B.alloc _).grown ha (fun e => by injection e; omega)
            have d0 := Blk.get (i := 0) B2 rfl
            have d1 := Blk.frozen B2 0
            have zl2 := B2.lt
            have hv : v = 0 ∨ v = 1 := by omega
            clear ha hr Bn D1 z1
            rcases hv with rfl | rfl
            all_goals
              go_wp2_with fail
              go_meet
              exact ⟨_, _, by omega, B2.set_ 0 _, (D2.set_ (by show w.heap.size ≤ g; omega) _).mono (by omega), z2.ne (by omega) _⟩
          · go_wp2_with fail
            refine (pick_any R _ 3 _ (D1.alloc _).rd (by omega) (by omega) (by omega)).mono ?_
            rintro e ca ⟨v, rfl, v0, v1, -, ha, hr⟩
            replace v1 := v1 (by omega)
            have Bn := (Blk.new _ _ _).grown ha (fun e => by have := D1.rd.lt; injection e; omega)
            have b0 := Blk.get (i := 0) Bn rfl
            have b1 := Blk.get (i := 1) Bn rfl
            have b2 := Blk.get (i := 2) Bn rfl
            have D2 := (D1.alloc _).pick ha hr
            have z2 := (z1.alloc _).grown ha (fun e => by injection e; omega)
            have B2 := (B.alloc _).grown ha (fun e => by injection e; omega)
            have d0 := Blk.get (i := 1) B2 rfl
            have d1 := Blk.frozen B2 1
            have zl2 := B2.lt
            have hv : v = 0 ∨ v = 1 ∨ v = 2 := by omega
            clear ha hr Bn D1 z1
            rcases hv with rfl | rfl | rfl
            all_goals
              go_wp2_with fail
              go_meet
              exact ⟨_, _, by omega, B2.set_ 1 _, (D2.set_ (by show w.heap.size ≤ g; omega) _).mono (by omega), z2.ne (by omega) _⟩
      case rest =>
        clear B D1 z1 s0 s1 x0 x1
        obtain ⟨s, x, hb, B, D, Z⟩ := hcut
        have b0 := Blk.get (i := 0) B rfl
        have b1 := Blk.get (i := 1) B rfl
        have z0 := Blk.get (i := 0) Z rfl
        have z1 := Blk.get (i := 1) Z rfl
        have y0 := Blk.frozen Z 0
        have y1 := Blk.frozen Z 1
        have zl := Z.lt
        have HB := Lib.hid hb
        clear Z B hb
        go_wp2_with fail
        refine bodyPost_ret (v := .agg #[.int .i64 s, .int .i64 x]) (by simp [results, Try.results62, go_sem, *]) rfl ⟨s, x, rfl, HB.out, ?_⟩
        exact ((D.set_ (Nat.le_refl _) _).set_ (Nat.le_refl _) _).mono (by omega)

end Go.Proofs.Ytojkbeffhjcaiaa
