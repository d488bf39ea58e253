/- Rows of notes: their cells, and the walks of the laws' small functions on them. Conditions: as stated. -/
import Derived.Test.YtmkkhbplfedpoaaVa
import Derived.Test.YtmkkhbplfedpoaaVb
import Derived.Test.YtmkkhbplfedpoaaRo
import Derived.Deep.RegionHeld3
import Derived.Deep.DeepCutAuto
import Derived.Laws.MakeOwn
namespace Go.Proofs.Ytmkkhbplfedpoaa
open Go.RowKit

/-- Cell number i of a row of notes. -/
def nc (xs : List (Bool × Int × Int × Int × Int × Bool)) (i : Nat) : Value :=
  match xs[i / 6]? with
  | some (r, s, a, o, t, d) => if i % 6 = 0 then .bool r else if i % 6 = 1 then .int .i64 s else if i % 6 = 2 then .int .i64 a else if i % 6 = 3 then .int .i64 o else if i % 6 = 4 then .int .i64 t else .bool d
  | none => undef
theorem nc_at {xs : List (Bool × Int × Int × Int × Int × Bool)} {k : Nat} {r : Bool} {s a o t : Int} {d : Bool} (h : xs[k]? = some (r, s, a, o, t, d)) :
    nc xs (k * 6) = .bool r ∧ nc xs (k * 6 + 1) = .int .i64 s ∧ nc xs (k * 6 + 2) = .int .i64 a ∧ nc xs (k * 6 + 3) = .int .i64 o ∧ nc xs (k * 6 + 4) = .int .i64 t ∧ nc xs (k * 6 + 5) = .bool d := by
  unfold nc
  rw [show k * 6 / 6 = k by omega, show (k * 6 + 1) / 6 = k by omega, show (k * 6 + 2) / 6 = k by omega, show (k * 6 + 3) / 6 = k by omega, show (k * 6 + 4) / 6 = k by omega, show (k * 6 + 5) / 6 = k by omega, h]
  refine ⟨?_, ?_, ?_, ?_, ?_, ?_⟩
  · exact if_pos (by omega)
  · show (if _ then _ else if _ then _ else _) = _
    rw [if_neg (by omega), if_pos (by omega)]
  · show (if _ then _ else if _ then _ else if _ then _ else _) = _
    rw [if_neg (by omega), if_neg (by omega), if_pos (by omega)]
  · show (if _ then _ else if _ then _ else if _ then _ else if _ then _ else _) = _
    rw [if_neg (by omega), if_neg (by omega), if_neg (by omega), if_pos (by omega)]
  · show (if _ then _ else if _ then _ else if _ then _ else if _ then _ else if _ then _ else _) = _
    rw [if_neg (by omega), if_neg (by omega), if_neg (by omega), if_neg (by omega), if_pos (by omega)]
  · show (if _ then _ else if _ then _ else if _ then _ else if _ then _ else if _ then _ else _) = _
    rw [if_neg (by omega), if_neg (by omega), if_neg (by omega), if_neg (by omega), if_neg (by omega)]
/-- The cells of note k. -/
theorem at6 {w : World} {g off n k : Nat} {xs : List (Bool × Int × Int × Int × Int × Bool)} {r : Bool} {s a o t : Int} {d : Bool} (hc : ∀ i, i < n * 6 → w.cell? ⟨g, off + i, none⟩ = some (nc xs i)) (hk : k < n) (h : xs[k]? = some (r, s, a, o, t, d)) :
    w.cell? ⟨g, off + k * 6, none⟩ = some (.bool r) ∧ w.cell? ⟨g, off + k * 6 + 1, none⟩ = some (.int .i64 s) ∧ w.cell? ⟨g, off + k * 6 + 2, none⟩ = some (.int .i64 a) ∧ w.cell? ⟨g, off + k * 6 + 3, none⟩ = some (.int .i64 o) ∧ w.cell? ⟨g, off + k * 6 + 4, none⟩ = some (.int .i64 t) ∧ w.cell? ⟨g, off + k * 6 + 5, none⟩ = some (.bool d) := by
  obtain ⟨e0, e1, e2, e3, e4, e5⟩ := nc_at h
  have c0 := hc (k * 6) (by omega)
  have c1 := hc (k * 6 + 1) (by omega)
  have c2 := hc (k * 6 + 2) (by omega)
  have c3 := hc (k * 6 + 3) (by omega)
  have c4 := hc (k * 6 + 4) (by omega)
  have c5 := hc (k * 6 + 5) (by omega)
  rw [e0] at c0
  rw [e1, ← Nat.add_assoc] at c1
  rw [e2, ← Nat.add_assoc] at c2
  rw [e3, ← Nat.add_assoc] at c3
  rw [e4, ← Nat.add_assoc] at c4
  rw [e5, ← Nat.add_assoc] at c5
  exact ⟨c0, c1, c2, c3, c4, c5⟩
theorem nth {α : Type} {xs : List α} {k : Nat} (h : k < xs.length) : ∃ x, xs[k]? = some x := ⟨xs[k], List.getElem?_eq_getElem h⟩
/-- Slice a sees the notes xs. -/
def Voice (w : World) (a : Option Addr) (xs : List (Bool × Int × Int × Int × Int × Bool)) : Prop := Sees w a (xs.length * 6) (nc xs)
theorem Voice.pure {w w' : World} {a : Option Addr} {xs : List (Bool × Int × Int × Int × Int × Bool)} (h : Voice w a xs) (hb : Below w.heap.size w w') : Voice w' a xs := Sees.pure h hb

set_option maxHeartbeats 1000000 in
theorem eqNote_same (r : Bool) (s a o t : Int) (d : Bool) (w : World) :
    Calls Try.prog 51 #[.agg #[.bool r, .int .i64 s, .int .i64 a, .int .i64 o, .int .i64 t, .bool d], .agg #[.bool r, .int .i64 s, .int .i64 a, .int .i64 o, .int .i64 t, .bool d]] w (Gives (.bool true) w) := by
  go_enter Try.func51, Try.ntmps51
  go_wp2_with fail
  go_call (eqPitch_same _ _ _ _) as e w1 ⟨rfl, hb⟩
  have hB := below_pure (w := w) (by go_grown) hb
  have z0 := size_pure (n := w.heap.size) hb (by go_size)
  have z1 := size_pure (n := w.heap.size + 1) hb (by go_size)
  obtain ⟨hc, hf⟩ := bcell hb
  clear hb
  go_wp2
  go_ret
  exact ⟨rfl, hB⟩

set_option maxHeartbeats 2000000 in
theorem eqNoteS_any (a a' : Option Addr) (n cap cap' : Nat) (xs : List (Bool × Int × Int × Int × Int × Bool)) (w : World) (hx : xs.length = n) (h : Voice w a xs) (h' : Voice w a' xs) (hn : n ≤ 10000000) :
    Calls Try.prog 24 #[.slice a n cap, .slice a' n cap'] w (Gives (.bool true) w) := by
  unfold Voice at h h'
  rw [hx] at h h'
  have HX := Lib.hid hx
  have HS := Lib.hid h
  have HT := Lib.hid h'
  clear h h' hx
  go_enter Try.func24, Try.ntmps24
  go_wp2_with fail
  go_loopw [5] (fun i wr => ∃ k : Nat, k ≤ n ∧ i = .int .i64 k ∧ Below w.heap.size w wr) (fun i _ => n - (intOf i).toNat)
  case atStart => exact ⟨0, Nat.zero_le _, rfl, Below.refl _ _⟩
  case round =>
    obtain ⟨k, hk, rfl, hB⟩ := hrel
    have hsz := hB.size
    by_cases hlt : k < n
    · obtain ⟨⟨r, s, x, o, t, d⟩, hxk⟩ := nth (xs := xs) (k := k) (by have := HX.out; omega)
      obtain ⟨g, off, rfl, hc⟩ := (HS.out.pure hB) (by omega)
      obtain ⟨c0, c1, c2, c3, c4, c5⟩ := at6 hc hlt hxk
      clear hc
      obtain ⟨g', off', rfl, hc⟩ := (HT.out.pure hB) (by omega)
      obtain ⟨d0, d1, d2, d3, d4, d5⟩ := at6 hc hlt hxk
      clear hc hxk
      have l0 := cell_lt c0
      have l1 := cell_lt d0
      have hi0 : (0 : Int) ≤ (k : Int) := by omega
      have hi1 : (k : Int) < (n : Int) := by omega
      go_upto_region 6 with fail
      go_cut [26] (fun v wc => v = .bool false ∧ Below w.heap.size w wc)
      case first =>
        go_region_held3 (fun w' => w'.cell? ⟨g, off + k * 6, none⟩ = some (.bool r) ∧ w'.cell? ⟨g, off + k * 6 + 1, none⟩ = some (.int .i64 s) ∧ w'.cell? ⟨g, off + k * 6 + 2, none⟩ = some (.int .i64 x) ∧ w'.cell? ⟨g, off + k * 6 + 3, none⟩ = some (.int .i64 o) ∧ w'.cell? ⟨g, off + k * 6 + 4, none⟩ = some (.int .i64 t) ∧ w'.cell? ⟨g, off + k * 6 + 5, none⟩ = some (.bool d) ∧
            w'.cell? ⟨g', off' + k * 6, none⟩ = some (.bool r) ∧ w'.cell? ⟨g', off' + k * 6 + 1, none⟩ = some (.int .i64 s) ∧ w'.cell? ⟨g', off' + k * 6 + 2, none⟩ = some (.int .i64 x) ∧ w'.cell? ⟨g', off' + k * 6 + 3, none⟩ = some (.int .i64 o) ∧ w'.cell? ⟨g', off' + k * 6 + 4, none⟩ = some (.int .i64 t) ∧ w'.cell? ⟨g', off' + k * 6 + 5, none⟩ = some (.bool d) ∧ Below w.heap.size w w')
          (first | exact ⟨c0, c1, c2, c3, c4, c5, d0, d1, d2, d3, d4, d5, hB.drew⟩ | (go_split_ands; (repeat' apply And.intro) <;> first | (with_reducible assumption) | (with_reducible exact cell_pure hbc (cell_lt (by assumption)) (by assumption)) | (with_reducible exact below_pure (by assumption) hbc)))
          (first | (go_at_call 51; refine (eqNote_same _ _ _ _ _ _ _).mono ?_; rintro e w2 ⟨rfl, hbc⟩))
        all_goals
          go_split_ands
          go_wp2_with fail
          go_meet
          exact ⟨rfl, by assumption⟩
      case rest =>
        clear c0 c1 c2 c3 c4 c5 d0 d1 d2 d3 d4 d5 l0 l1 hB hsz
        obtain ⟨rfl, hB⟩ := hcut
        go_wp2_with fail
        go_roundw
        case rel => exact ⟨k + 1, by omega, by go_num, hB⟩
        case measure => simp [intOf]; omega
    · obtain rfl : k = n := by omega
      go_wp2
      go_ret
      exact ⟨rfl, hB⟩

end Go.Proofs.Ytmkkhbplfedpoaa
