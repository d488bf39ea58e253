/- The walk of the draw of a note: it returns values within bounds, and moves nothing old but the reader. -/
import Derived.Test.YtmkkhbplfedpoaaDp
import Derived.Deep.DeepCutAuto
namespace Go.Proofs.Ytmkkhbplfedpoaa
open Go.RowKit

/-- What the draw of a note leaves. -/
def NotePost (w : World) (R K : Nat) (e : Ending) (w' : World) : Prop :=
  ∃ (r : Bool) (s a o t : Int) (d : Bool), e = .returned (.agg #[.bool r, .int .i64 s, .int .i64 a, .int .i64 o, .int .i64 t, .bool d]) ∧ (-9 ≤ s ∧ s ≤ 9 ∧ -9 ≤ a ∧ a ≤ 9 ∧ -9 ≤ o ∧ o ≤ 9 ∧ 0 ≤ t ∧ t ≤ 1000) ∧ Dr w w' R K

/-- A note that is being drawn: block g holds it, the result's block is still zero. -/
def DN (w W : World) (R K g : Nat) (T : TypeId) : Prop :=
  ∃ (r : Bool) (s a o t : Int) (d : Bool), (-9 ≤ s ∧ s ≤ 9 ∧ -9 ≤ a ∧ a ≤ 9 ∧ -9 ≤ o ∧ o ≤ 9 ∧ 0 ≤ t ∧ t ≤ 1000) ∧ Blk W g T #[.bool r, .int .i64 s, .int .i64 a, .int .i64 o, .int .i64 t, .bool d] ∧ w.heap.size < g ∧ Dr w W R K ∧ Blk W w.heap.size T #[.bool false, .int .i64 0, .int .i64 0, .int .i64 0, .int .i64 0, .bool false]
theorem DN.rd {w W : World} {R K g : Nat} {T : TypeId} (h : DN w W R K g T) : RdOk W R K := by
  obtain ⟨r, s, a, o, t, d, hb, h1, h2, h3, h4⟩ := h
  exact h3.rd
theorem DN.pick {w W w1 : World} {R K K' g : Nat} {T : TypeId} (h : DN w W R K g T) (hg : W.grownBy w1 (some R)) (hr : RdOk w1 R K') : DN w w1 R K' g T := by
  obtain ⟨r, s, a, o, t, d, hb, h1, h2, h3, h4⟩ := h
  have hR := h3.2.2
  exact ⟨r, s, a, o, t, d, hb, h1.grown hg (fun e => by injection e; omega), h2, h3.pick hg hr, h4.grown hg (fun e => by injection e; omega)⟩
theorem DN.alloc {w W : World} {R K g : Nat} {T : TypeId} (h : DN w W R K g T) (ob : Obj) : DN w (W.alloc ob) R K g T := by
  obtain ⟨r, s, a, o, t, d, hb, h1, h2, h3, h4⟩ := h
  exact ⟨r, s, a, o, t, d, hb, h1.alloc ob, h2, h3.alloc ob, h4.alloc ob⟩
theorem DN.mono {w W : World} {R K K' g : Nat} {T : TypeId} (h : DN w W R K g T) (hK : K ≤ K') : DN w W R K' g T := by
  obtain ⟨r, s, a, o, t, d, hb, h1, h2, h3, h4⟩ := h
  exact ⟨r, s, a, o, t, d, hb, h1, h2, h3.mono hK, h4⟩
theorem DN.setr {w W : World} {R K g : Nat} {T : TypeId} (h : DN w W R K g T) (x : Bool) : DN w (W.setCell ⟨g, 0, none⟩ (.bool x)) R K g T := by
  obtain ⟨r, s, a, o, t, d, hb, h1, h2, h3, h4⟩ := h
  exact ⟨x, s, a, o, t, d, by omega, h1.set_ 0 _, h2, h3.set_ (by show w.heap.size ≤ g; omega) _, h4.ne (by omega) _⟩
theorem DN.sets {w W : World} {R K g : Nat} {T : TypeId} (h : DN w W R K g T) (x : Int) (hx : -9 ≤ x) (hx' : x ≤ 9) : DN w (W.setCell ⟨g, 1, none⟩ (.int .i64 x)) R K g T := by
  obtain ⟨r, s, a, o, t, d, hb, h1, h2, h3, h4⟩ := h
  exact ⟨r, x, a, o, t, d, by omega, h1.set_ 1 _, h2, h3.set_ (by show w.heap.size ≤ g; omega) _, h4.ne (by omega) _⟩
theorem DN.seta {w W : World} {R K g : Nat} {T : TypeId} (h : DN w W R K g T) (x : Int) (hx : -9 ≤ x) (hx' : x ≤ 9) : DN w (W.setCell ⟨g, 2, none⟩ (.int .i64 x)) R K g T := by
  obtain ⟨r, s, a, o, t, d, hb, h1, h2, h3, h4⟩ := h
  exact ⟨r, s, x, o, t, d, by omega, h1.set_ 2 _, h2, h3.set_ (by show w.heap.size ≤ g; omega) _, h4.ne (by omega) _⟩
theorem DN.seto {w W : World} {R K g : Nat} {T : TypeId} (h : DN w W R K g T) (x : Int) (hx : -9 ≤ x) (hx' : x ≤ 9) : DN w (W.setCell ⟨g, 3, none⟩ (.int .i64 x)) R K g T := by
  obtain ⟨r, s, a, o, t, d, hb, h1, h2, h3, h4⟩ := h
  exact ⟨r, s, a, x, t, d, by omega, h1.set_ 3 _, h2, h3.set_ (by show w.heap.size ≤ g; omega) _, h4.ne (by omega) _⟩
theorem DN.sett {w W : World} {R K g : Nat} {T : TypeId} (h : DN w W R K g T) (x : Int) (hx : 0 ≤ x) (hx' : x ≤ 1000) : DN w (W.setCell ⟨g, 4, none⟩ (.int .i64 x)) R K g T := by
  obtain ⟨r, s, a, o, t, d, hb, h1, h2, h3, h4⟩ := h
  exact ⟨r, s, a, o, x, d, by omega, h1.set_ 4 _, h2, h3.set_ (by show w.heap.size ≤ g; omega) _, h4.ne (by omega) _⟩
theorem DN.setd {w W : World} {R K g : Nat} {T : TypeId} (h : DN w W R K g T) (x : Bool) : DN w (W.setCell ⟨g, 5, none⟩ (.bool x)) R K g T := by
  obtain ⟨r, s, a, o, t, d, hb, h1, h2, h3, h4⟩ := h
  exact ⟨r, s, a, o, t, x, by omega, h1.set_ 5 _, h2, h3.set_ (by show w.heap.size ≤ g; omega) _, h4.ne (by omega) _⟩
theorem DN.cells {w W : World} {R K g : Nat} {T : TypeId} (h : DN w W R K g T) :
    ∃ x0 x1 x2 x3 x4 x5 : Value, W.cell? ⟨g, 0, none⟩ = some x0 ∧ W.cell? ⟨g, 1, none⟩ = some x1 ∧ W.cell? ⟨g, 2, none⟩ = some x2 ∧ W.cell? ⟨g, 3, none⟩ = some x3 ∧ W.cell? ⟨g, 4, none⟩ = some x4 ∧ W.cell? ⟨g, 5, none⟩ = some x5 ∧
      W.frozen? ⟨g, 0, none⟩ = false ∧ W.frozen? ⟨g, 1, none⟩ = false ∧ W.frozen? ⟨g, 2, none⟩ = false ∧ W.frozen? ⟨g, 3, none⟩ = false ∧ W.frozen? ⟨g, 4, none⟩ = false ∧ W.frozen? ⟨g, 5, none⟩ = false ∧ g < W.heap.size := by
  obtain ⟨r, s, a, o, t, d, hb, h1, h2, h3, h4⟩ := h
  exact ⟨_, _, _, _, _, _, h1.get rfl, h1.get rfl, h1.get rfl, h1.get rfl, h1.get rfl, h1.get rfl, h1.frozen 0, h1.frozen 1, h1.frozen 2, h1.frozen 3, h1.frozen 4, h1.frozen 5, h1.lt⟩

set_option maxHeartbeats 4000000 in
set_option maxRecDepth 100000 in
theorem l20Note_any (R K : Nat) (n : Int) (w : World) (h : RdOk w R K) (hK : K ≤ 40000) (hn : 0 ≤ n) (hn' : n ≤ 1000) :
    Calls Try.prog 57 #[.pointer (some ⟨R, 0, none⟩), .int .i64 n] w (NotePost w R (K + 40)) := by
  have hR := h.lt
  go_enter Try.func57, Try.ntmps57
  go_wp2_with fail
  refine (l20Pitch_any R K 0 _ (RdOk.alloc h _) (by omega) (by omega) (by omega)).mono ?_
  rintro e w1 ⟨s, a, o, rfl, hbd, E⟩
  have D1 : Dr w w1 R (K + 20) := ((Dr.start h).alloc _).pick E.1 E.2.1
  have z1 : Blk w1 w.heap.size 29 #[.bool false, .int .i64 0, .int .i64 0, .int .i64 0, .int .i64 0, .bool false] := (Blk.new w _ _).grown E.1 (fun e => by injection e; omega)
  clear E
  go_wp2_with fail
  refine (pick_any R _ 7 _ (D1.alloc _).rd (by omega) (by omega) (by omega)).mono ?_
  rintro e w2 ⟨v, rfl, v0, v1, -, ha, hr⟩
  replace v1 := v1 (by omega)
  have Bn := (Blk.new _ _ _).grown ha (fun e => by have := D1.rd.lt; injection e; omega)
  have b0 := Blk.get (i := 0) Bn rfl
  have b1 := Blk.get (i := 1) Bn rfl
  have b2 := Blk.get (i := 2) Bn rfl
  have b3 := Blk.get (i := 3) Bn rfl
  have b4 := Blk.get (i := 4) Bn rfl
  have b5 := Blk.get (i := 5) Bn rfl
  have b6 := Blk.get (i := 6) Bn rfl
  have D2 := (D1.alloc _).pick ha hr
  have z2 := (z1.alloc _).grown ha (fun e => by injection e; omega)
  clear ha hr Bn D1 z1
  have Z2 := z2.lt
  have hlen := D2.size
  obtain ⟨t, ht, ht0, ht1⟩ : ∃ t : Int, w2.cell? ⟨w1.heap.size, v.toNat, none⟩ = some (.int .i64 t) ∧ 0 ≤ t ∧ t ≤ 1000 := by
    have hv : v = 0 ∨ v = 1 ∨ v = 2 ∨ v = 3 ∨ v = 4 ∨ v = 5 ∨ v = 6 := by omega
    rcases hv with rfl | rfl | rfl | rfl | rfl | rfl | rfl
    · exact ⟨_, b0, by omega, by omega⟩
    · exact ⟨_, b1, by omega, by omega⟩
    · exact ⟨_, b2, by omega, by omega⟩
    · exact ⟨_, b3, by omega, by omega⟩
    · exact ⟨_, b4, by omega, by omega⟩
    · exact ⟨_, b5, by omega, by omega⟩
    · exact ⟨_, b6, by omega, by omega⟩
  clear b0 b1 b2 b3 b4 b5 b6
  obtain ⟨j, rfl⟩ := Int.eq_ofNat_of_zero_le v0
  simp only [Int.toNat_natCast] at ht
  go_upto_region 2 with fail
  have P0 : DN w (w2.alloc (.cells #[.bool false, .int .i64 s, .int .i64 a, .int .i64 o, .int .i64 t, .bool false] 29)) R (K + 21) w2.heap.size 29 := ⟨false, s, a, o, t, false, by omega, Blk.new _ _ _, by omega, D2.alloc _, z2.alloc _⟩
  generalize w2.alloc (.cells #[.bool false, .int .i64 s, .int .i64 a, .int .i64 o, .int .i64 t, .bool false] 29) = c at *
  clear D2 z2 Z2 hlen ht hbd
  generalize w2.heap.size = g at *
  go_wp2_with fail
  refine (pick_any R _ 14 _ P0.rd (by omega) (by omega) (by omega)).mono ?_
  rintro e c' ⟨v, rfl, v0, v1, -, hg, hr⟩
  replace v1 := v1 (by omega)
  replace P0 := P0.pick hg hr
  clear hg hr
  go_upto_if 16 with fail
  go_cut [] (fun wc => DN w wc R (K + 23) g 29)
  case first =>
    obtain ⟨x0, x1, x2, x3, x4, x5, c0, c1, c2, c3, c4, c5, f0, f1, f2, f3, f4, f5, zz⟩ := P0.cells
    by_cases hv0 : v = 0
    · subst hv0
      go_wp2_with fail
      refine (pick_any R _ 3 _ (P0.alloc _).rd (by omega) (by omega) (by omega)).mono ?_
      rintro e ca ⟨v, rfl, v0, v1, -, hg, hr⟩
      replace v1 := v1 (by omega)
      have Q := (P0.alloc _).pick hg hr
      have B := (Blk.new _ _ _).grown hg (fun e => by have := P0.rd.lt; injection e; omega)
      have b0 := Blk.get (i := 0) B rfl
      have b1 := Blk.get (i := 1) B rfl
      have b2 := Blk.get (i := 2) B rfl
      clear hg hr B
      obtain ⟨x0', x1', x2', x3', x4', x5', c0', c1', c2', c3', c4', c5', f0', f1', f2', f3', f4', f5', zz'⟩ := Q.cells
      have hv : v = 0 ∨ v = 1 ∨ v = 2 := by omega
      rcases hv with rfl | rfl | rfl
      all_goals
        go_wp2_with fail
        go_meet
        exact (Q.sett _ (by omega) (by omega)).mono (by omega)
    · go_wp2_with fail
      go_meet
      exact P0.mono (by omega)
  case rest =>
    clear P0 v0 v1
    have P0 := hcut
    clear hcut
    go_wp2_with fail
    refine (pick_any R _ 5 _ P0.rd (by omega) (by omega) (by omega)).mono ?_
    rintro e c' ⟨v, rfl, v0, v1, -, hg, hr⟩
    replace v1 := v1 (by omega)
    replace P0 := P0.pick hg hr
    clear hg hr
    go_upto_if 25 with fail
    go_cut [] (fun wc => DN w wc R (K + 24) g 29)
    case first =>
      obtain ⟨x0, x1, x2, x3, x4, x5, c0, c1, c2, c3, c4, c5, f0, f1, f2, f3, f4, f5, zz⟩ := P0.cells
      by_cases hv0 : v = 0
      · subst hv0
        go_wp2_with fail
        go_meet
        exact ((((P0.setr _).sets 0 (by omega) (by omega)).seta 0 (by omega) (by omega)).seto 0 (by omega) (by omega)).mono (by omega)
      · go_wp2_with fail
        go_meet
        exact P0.mono (by omega)
    case rest =>
      clear P0 v0 v1
      have P0 := hcut
      clear hcut
      go_wp2_with fail
      refine (odd_any R _ n _ P0.rd (by omega) (by omega) (by omega)).mono ?_
      rintro e c' ⟨b, rfl, -, hg, hr⟩
      replace P0 := P0.pick hg hr
      clear hg hr
      go_upto_if 31 with fail
      go_cut [] (fun wc => DN w wc R (K + 29) g 29)
      case first =>
        cases b
        · go_wp2_with fail
          go_meet
          exact P0.mono (by omega)
        · go_wp2_with fail
          refine (pick_any R _ 4 _ P0.rd (by omega) (by omega) (by omega)).mono ?_
          rintro e cb ⟨v, rfl, v0, v1, -, hg, hr⟩
          replace v1 := v1 (by omega)
          replace P0 := P0.pick hg hr
          clear hg hr
          obtain ⟨x0, x1, x2, x3, x4, x5, c0, c1, c2, c3, c4, c5, f0, f1, f2, f3, f4, f5, zz⟩ := P0.cells
          have hv3 : v = 0 ∨ v = 1 ∨ v = 2 ∨ v = 3 := by omega
          rcases hv3 with rfl | rfl | rfl | rfl
          · skip
            go_wp2_with fail
            refine (pick_any R _ 2 _ (P0.alloc _).rd (by omega) (by omega) (by omega)).mono ?_
            rintro e ca ⟨v, rfl, v0, v1, -, hg, hr⟩
            replace v1 := v1 (by omega)
            have Q := (P0.alloc _).pick hg hr
            have B := (Blk.new _ _ _).grown hg (fun e => by have := P0.rd.lt; injection e; omega)
            have b0 := Blk.get (i := 0) B rfl
            have b1 := Blk.get (i := 1) B rfl
            clear hg hr B
            obtain ⟨x0', x1', x2', x3', x4', x5', c0', c1', c2', c3', c4', c5', f0', f1', f2', f3', f4', f5', zz'⟩ := Q.cells
            have hv : v = 0 ∨ v = 1 := by omega
            rcases hv with rfl | rfl
            all_goals
              go_wp2_with fail
              go_meet
              exact (Q.sett _ (by omega) (by omega)).mono (by omega)
          · go_wp2_with fail
            go_meet
            exact ((P0.setr _).setd _).mono (by omega)
          · go_wp2_with fail
            go_meet
            exact (P0.sets 7 (by omega) (by omega)).mono (by omega)
          · go_wp2_with fail
            go_meet
            exact ((((P0.setr _).sets 1 (by omega) (by omega)).seta 0 (by omega) (by omega)).seto 0 (by omega) (by omega)).mono (by omega)
      case rest =>
        clear P0
        obtain ⟨r, s, a, o, t, d, hb, B, hg, D, Z⟩ := hcut
        have b0 := Blk.get (i := 0) B rfl
        have b1 := Blk.get (i := 1) B rfl
        have b2 := Blk.get (i := 2) B rfl
        have b3 := Blk.get (i := 3) B rfl
        have b4 := Blk.get (i := 4) B rfl
        have b5 := Blk.get (i := 5) B rfl
        have z0 := Blk.get (i := 0) Z rfl
        have y0 := Blk.frozen Z 0
        have z1 := Blk.get (i := 1) Z rfl
        have y1 := Blk.frozen Z 1
        have z2 := Blk.get (i := 2) Z rfl
        have y2 := Blk.frozen Z 2
        have z3 := Blk.get (i := 3) Z rfl
        have y3 := Blk.frozen Z 3
        have z4 := Blk.get (i := 4) Z rfl
        have y4 := Blk.frozen Z 4
        have z5 := Blk.get (i := 5) Z rfl
        have y5 := Blk.frozen Z 5
        have zl := Z.lt
        have HB := Lib.hid hb
        clear Z B hb
        go_wp2_with fail
        refine bodyPost_ret (v := .agg #[.bool r, .int .i64 s, .int .i64 a, .int .i64 o, .int .i64 t, .bool d]) (by simp [results, Try.results57, go_sem, *]) rfl ⟨r, s, a, o, t, d, rfl, HB.out, ?_⟩
        exact ((((((D.set_ (Nat.le_refl _) _).set_ (Nat.le_refl _) _).set_ (Nat.le_refl _) _).set_ (Nat.le_refl _) _).set_ (Nat.le_refl _) _).set_ (Nat.le_refl _) _).mono (by omega)

end Go.Proofs.Ytmkkhbplfedpoaa
