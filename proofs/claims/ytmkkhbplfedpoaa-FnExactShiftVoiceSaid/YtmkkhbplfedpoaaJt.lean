/- The walks of JoinTies, of the program and of the reference: the plain joined voice in a row of the call's own. Conditions: the notes lie in memory as a slice of notes does. -/
import Derived.Test.YtmkkhbplfedpoaaMv
import Derived.Laws.OwnMore
import Derived.Deep.QuietTactic
import Derived.BigQuiet
namespace Go.Proofs.Ytmkkhbplfedpoaa
open Go.RowKit

theorem jnV_len (xs : List (Bool × Int × Int × Int × Int × Bool)) : (jnV xs).length ≤ xs.length := by
  unfold jnV
  split
  · exact joinF_len xs
  · exact Nat.zero_le _
theorem last_get {α : Type} (o : List α) (x : α) : (o ++ [x])[o.length]? = some x := by simp
theorem nc_left {o : List (Bool × Int × Int × Int × Int × Bool)} {m : Bool × Int × Int × Int × Int × Bool} {i : Nat} (h : i < o.length * 6) : nc (o ++ [m]) i = nc o i := by
  unfold nc
  rw [List.getElem?_append_left (by omega)]
theorem row_cut (o : List (Bool × Int × Int × Int × Int × Bool)) (r : Bool) (s a oo t : Int) (d : Bool) : rowL (nc (o ++ [(r, s, a, oo, t, d)])) ((o.length + 1) * 6) = rowL (nc o) (o.length * 6) ++ [.bool r, .int .i64 s, .int .i64 a, .int .i64 oo, .int .i64 t, .bool d] := by
  rw [← n_row (L := o ++ [(r, s, a, oo, t, d)]) (k := o.length) (last_get o _)]
  congr 1
  exact rowL_congr fun i hi => nc_left hi
/-- The last note's ticks and tie stored anew. -/
theorem row_last (o : List (Bool × Int × Int × Int × Int × Bool)) (r : Bool) (s a oo t : Int) (d : Bool) (t' : Int) (d' : Bool) :
    ((rowL (nc (o ++ [(r, s, a, oo, t, d)])) ((o.length + 1) * 6)).set (o.length * 6 + 4) (.int .i64 t')).set (o.length * 6 + 5) (.bool d') = rowL (nc (o ++ [(r, s, a, oo, t', d')])) ((o.length + 1) * 6) := by
  rw [row_cut, row_cut]
  have e := rowL_len (nc o) (o.length * 6)
  rw [List.set_append_right (o.length * 6 + 4) _ (by omega), List.set_append_right (o.length * 6 + 5) _ (by omega), e, show o.length * 6 + 4 - o.length * 6 = 4 by omega, show o.length * 6 + 5 - o.length * 6 = 5 by omega]
  rfl
/-- The joined row so far. -/
def JRow (w wr : World) (v : Value) (L : List (Bool × Int × Int × Int × Int × Bool)) : Prop := wr.ownsRow w.heap.size 29 6 v L.length (rowL (nc L) (L.length * 6))
theorem JRow.pure {w w1 w2 : World} {v : Value} {L : List (Bool × Int × Int × Int × Int × Bool)} (h : JRow w w1 v L) (hb : Below w1.heap.size w1 w2) : JRow w w2 v L := row_pure h hb
theorem JRow.alloc {w w1 : World} {v : Value} {L : List (Bool × Int × Int × Int × Int × Bool)} (h : JRow w w1 v L) (ob : Obj) : JRow w (w1.alloc ob) v L := World.ownsRow.alloc h ob
theorem JRow.drewN {w w1 : World} {v : Value} {L : List (Bool × Int × Int × Int × Int × Bool)} (h : JRow w w1 v L) (n : Nat) : JRow w (w1.drewN n) v L := h
theorem JRow.drew {w w1 : World} {v : Value} {L : List (Bool × Int × Int × Int × Int × Bool)} (h : JRow w w1 v L) : JRow w w1.drew v L := h
theorem jrow_row {w w1 : World} {v : Value} {L : List (Bool × Int × Int × Int × Int × Bool)} {k : Nat} (h : JRow w w1 v L) (hk : L.length = k) : w1.ownsRow w.heap.size 29 6 v k (rowL (nc L) (k * 6)) := by
  subst hk
  exact h
/-- One more note behind an empty row, or behind a note that is not joined. -/
theorem jrow_more {w w3 : World} {v : Value} {L : List (Bool × Int × Int × Int × Int × Bool)} {k : Nat} {r : Bool} {s a oo t : Int} {d : Bool} (hk : L.length = k) (h : w3.ownsRow w.heap.size 29 6 v (k + 1) (rowL (nc L) (k * 6) ++ [.bool r, .int .i64 s, .int .i64 a, .int .i64 oo, .int .i64 t, .bool d])) : JRow w w3 v (L ++ [(r, s, a, oo, t, d)]) := by
  subst hk
  unfold JRow
  rw [List.length_append, List.length_singleton, row_cut]
  exact h
theorem jrow_last {w wr : World} {g c : Nat} {o : List (Bool × Int × Int × Int × Int × Bool)} {r : Bool} {s a oo t : Int} {d : Bool} (h : JRow w wr (.slice (some ⟨g, 0, none⟩) (o.length + 1) c) (o ++ [(r, s, a, oo, t, d)])) (t' : Int) (d' : Bool) :
    JRow w ((wr.setCell ⟨g, o.length * 6 + 4, none⟩ (.int .i64 t')).setCell ⟨g, o.length * 6 + 5, none⟩ (.bool d')) (.slice (some ⟨g, 0, none⟩) (o.length + 1) c) (o ++ [(r, s, a, oo, t', d')]) := by
  unfold JRow at h ⊢
  rw [List.length_append, List.length_singleton] at h ⊢
  have h2 := ((h.stored (o.length * 6 + 4) (.int .i64 t')).1.stored (o.length * 6 + 5) (.bool d')).1
  rw [row_last] at h2
  exact h2
/-- The last note's cells. -/
theorem jrow_cells {w wr : World} {v : Value} {o : List (Bool × Int × Int × Int × Int × Bool)} {r : Bool} {s a oo t : Int} {d : Bool} (h : JRow w wr v (o ++ [(r, s, a, oo, t, d)])) :
    ∃ g c, v = .slice (some ⟨g, 0, none⟩) (o.length + 1) c ∧ w.heap.size ≤ g ∧ g < wr.heap.size ∧ wr.cell? ⟨g, o.length * 6 + 4, none⟩ = some (.int .i64 t) ∧ wr.cell? ⟨g, o.length * 6 + 5, none⟩ = some (.bool d) ∧ wr.frozen? ⟨g, o.length * 6 + 4, none⟩ = false ∧ wr.frozen? ⟨g, o.length * 6 + 5, none⟩ = false := by
  have hl : (o ++ [(r, s, a, oo, t, d)]).length = o.length + 1 := by simp
  unfold JRow at h
  rw [hl] at h
  obtain ⟨g, c, rfl, h1, h2⟩ := h.form (by omega)
  obtain ⟨-, -, -, -, e4, e5⟩ := nc_at (xs := o ++ [(r, s, a, oo, t, d)]) (k := o.length) (last_get o _)
  refine ⟨g, c, rfl, h1, h2, ?_, ?_, h.frozenAt _, h.frozenAt _⟩
  · rw [h.cellAt _ (by omega), rowL_get (by omega), e4]
  · rw [h.cellAt _ (by omega), rowL_get (by omega), e5]
theorem jrow_empty {w wr : World} {v : Value} (h : JRow w wr v []) : ∃ a c, v = .slice a 0 c := by
  obtain ⟨a, c, rfl, -⟩ := owns_of_row h
  exact ⟨a, c, rfl⟩

set_option maxHeartbeats 8000000 in
theorem joinTies_any (a : Option Addr) (n cap : Nat) (xs : List (Bool × Int × Int × Int × Int × Bool)) (w : World) (hx : xs.length = n) (h : Voice w a xs) (hn : n ≤ 10000000) :
    Calls Try.prog 34 #[.slice a n cap] w (RowPost w (jnV xs)) := by
  cases hv : vvB xs
  · have HV := fun W (hW : Voice W a xs) => voiceValid_any a n cap xs W hx hW hn
    rw [hv] at HV
    have HR := Lib.hid (jnV_f hv)
    have HVV := Lib.hid HV
    clear HV hv hx
    go_enter Try.func34, Try.ntmps34
    go_wp2_with fail
    refine (HVV.out _ h).mono ?_
    rintro e w1 ⟨rfl, hb⟩
    go_wp2
    go_ret
    rw [HR.out]
    exact rowPost_nil _ _ _ _ hb (by unfold maxLen; omega)
  have HR := Lib.hid (jnV_t hv)
  have HV2 := fun W (hW : Voice W a xs) => voiceValid_any a n cap xs W hx hW hn
  rw [hv] at HV2
  have HVV := Lib.hid HV2
  have h60 : n ≤ 60 := by have := (vv_all hv).1; omega
  have h0 := h
  unfold Voice at h
  rw [hx] at h
  have HX := Lib.hid hx
  have HS := Lib.hid h
  have HSM := Lib.hid (fun k (hk : k ≤ n) => jN_small hv k (by omega))
  have HTK := Lib.hid (fun k (hk : k < n) => tk_bd hv (k := k) (by omega))
  have HALL := Lib.hid (show jN xs n = joinF xs by rw [← hx]; exact jN_all xs)
  clear HV2 hv h hx
  obtain ⟨i0, hi, hz0, hz1, hz2⟩ := info_parts infoN
  go_enter Try.func34, Try.ntmps34
  go_wp2_with fail
  refine (HVV.out _ h0).mono ?_
  rintro e w1 ⟨rfl, HB0⟩
  clear h0
  go_wp2_with fail
  have hs0 := HB0.size
  have own0 : JRow w (w1.alloc (Obj.cells #[] 29)) (.slice (some ⟨w1.heap.size, 0, none⟩) 0 0) (jN xs 0) := World.ownsRow_made w1 #[] 0 hs0 (by unfold maxLen; omega) rfl
  have hB : Below w.heap.size w (w1.alloc (Obj.cells #[] 29)) := by go_grown
  go_loopw [3, 13] (fun v iv wr => ∃ k : Nat, k ≤ n ∧ iv = .int .i64 (k : Int) ∧ JRow w wr v (jN xs k) ∧ Below w.heap.size w wr) (fun _ iv _ => n - (intOf iv).toNat)
  case atStart => exact ⟨0, Nat.zero_le _, rfl, own0, hB⟩
  case round =>
    clear own0 hB HB0 hs0
    obtain ⟨k, hk, rfl, own, hB⟩ := hrel
    have hsz := hB.size
    by_cases hlt : k < n
    rotate_left
    · obtain rfl : k = n := by omega
      have OWN := Lib.hid own
      clear own
      go_wp2
      go_ret
      rw [HR.out, ← HALL.out]
      exact rowPost_mk rfl hB OWN.out
    obtain ⟨⟨r, s, x, o, t, d⟩, hxk⟩ := nth (xs := xs) (k := k) (by have := HX.out; omega)
    have HT := HTK.out k hlt
    rw [tk_at hxk] at HT
    have HSk := Lib.hid (HSM.out k hk)
    obtain ⟨g, off, rfl, hc⟩ := (HS.out.pure hB) (by omega)
    obtain ⟨c0, c1, c2, c3, c4, c5⟩ := at6 hc hlt hxk
    have hzz := cell_lt c0
    have HJ := Lib.hid (jN_succ hxk)
    have hLk := jN_len xs k
    have hi1 : (k : Int) < (n : Int) := by omega
    have hi2 : (0 : Int) ≤ (k : Int) := by omega
    clear hxk hc
    generalize hLL : jN xs k = L at *
    clear hLL
    rcases nil_or_snoc L with rfl | ⟨l, ⟨r', s', x', o', t', d'⟩, rfl⟩
    · obtain ⟨u, cc, rfl⟩ := jrow_empty own
      have OWN := Lib.hid own
      have HB1 := Lib.hid hB
      clear own hB
      go_upto_region 8 with fail
      go_cut [39] (fun v wc => v = .bool false ∧ Blk wc wr.heap.size 29 #[.bool r, .int .i64 s, .int .i64 x, .int .i64 o, .int .i64 t, .bool d] ∧ JRow w wc (.slice u 0 cc) ([]) ∧ Below wr.heap.size wr wc ∧ Below w.heap.size w wc)
      case first =>
        go_quiet (fail)
        go_wp2_with fail
        go_meet
        exact ⟨by first | rfl | (simp; omega), (Blk.new _ _ _).drewN _, (OWN.out.alloc _).drewN _, below_drewN (by go_grown) _, below_drewN (by have h := HB1.out; go_grown) _⟩
      case rest =>
        clear OWN HB1
        obtain ⟨rfl, kb, own, hbw, hB⟩ := hcut
        have b0 := Blk.get (i := 0) kb rfl
        have b1 := Blk.get (i := 1) kb rfl
        have b2 := Blk.get (i := 2) kb rfl
        have b3 := Blk.get (i := 3) kb rfl
        have b4 := Blk.get (i := 4) kb rfl
        have b5 := Blk.get (i := 5) kb rfl
        have bz := kb.lt
        clear kb
        have OWN := Lib.hid (jrow_row own (show _ = 0 by first | rfl | simp))
        have HB1 := Lib.hid hB
        have hsz2 := hB.size
        clear own hB
        go_wp2_with (at_builtin; refine wpList_append_lies _ rfl _ _ 35 rfl w.heap.size 29 i0 (.agg #[.bool false, .int .i64 0, .int .i64 0, .int .i64 0, .int .i64 0, .bool false]) 6 48 Try.underlying35 hi hz0 hz1 hz2 rfl (by omega) (.slice u 0 cc) (0) (rowL (nc []) ((0) * 6)) rfl (World.ownsRow.alloc OWN.out _) ⟨wc.heap.size, 0, none⟩ 1 1 [.bool r, .int .i64 s, .int .i64 x, .int .i64 o, .int .i64 t, .bool d] rfl rfl (World.news_of_block (heap_alloc_new _ _)) (one6 _ _ _ _ _ _) (by omega) (by unfold maxLen; omega) (by omega) (by simp; omega) (wc.heap.size + 1) (by simp) ?_; intro g' cap' w3 own3 hgrow hat hglt)
        have hB3 := below_append (show Below w.heap.size w wc from HB1.out) (by omega) hgrow (fun j hj => (OWN.out.lt j hj).1)
        have own4 := Lib.hid (jrow_more (L := []) (by first | rfl | simp) own3)
        clear own3 hgrow hglt OWN HB1
        go_wp2_with fail
        go_roundw
        case rel => exact ⟨k + 1, by omega, by go_num, by rw [HJ.out, jstep_nil]; exact own4.out, hB3⟩
        case measure => simp [intOf]; omega
    · have hll : (l ++ [(r', s', x', o', t', d')]).length = l.length + 1 := by simp
      have ht' := HSk.out (r', s', x', o', t', d') (by simp)
      replace ht' : 1 ≤ t' ∧ t' ≤ 768 := ht'
      obtain ⟨g2, cc, rfl, hg2, hg2', q4, q5, f4, f5⟩ := jrow_cells own
      clear HSk
      by_cases hj : d' = true ∧ t' + t ≤ 768
      · obtain ⟨rfl, hle⟩ := hj
        have OWN := Lib.hid own
        have HB1 := Lib.hid hB
        clear own hB
        go_upto_region 8 with fail
        go_cut [39] (fun v wc => v = .bool true ∧ Blk wc wr.heap.size 29 #[.bool r, .int .i64 s, .int .i64 x, .int .i64 o, .int .i64 t, .bool d] ∧ JRow w wc (.slice (some ⟨g2, 0, none⟩) (l.length + 1) cc) (l ++ [(r', s', x', o', t', true)]) ∧ Below wr.heap.size wr wc ∧ Below w.heap.size w wc)
        case first =>
          go_quiet (fail)
          go_wp2_with fail
          go_meet
          exact ⟨by first | rfl | (simp; omega), (Blk.new _ _ _).drewN _, (OWN.out.alloc _).drewN _, below_drewN (by go_grown) _, below_drewN (by have h := HB1.out; go_grown) _⟩
        case rest =>
          clear OWN HB1
          obtain ⟨rfl, kb, own, hbw, hB⟩ := hcut
          have b0 := Blk.get (i := 0) kb rfl
          have b1 := Blk.get (i := 1) kb rfl
          have b2 := Blk.get (i := 2) kb rfl
          have b3 := Blk.get (i := 3) kb rfl
          have b4 := Blk.get (i := 4) kb rfl
          have b5 := Blk.get (i := 5) kb rfl
          have bz := kb.lt
          clear kb
          have HJ2 := Lib.hid (jstep_yes (out := l) (m := (r', s', x', o', t', true)) (n := (r, s, x, o, t, d)) ⟨rfl, hle⟩)
          replace q4 := (hbw.cell (p := ⟨g2, l.length * 6 + 4, none⟩) hg2').trans q4
          replace q5 := (hbw.cell (p := ⟨g2, l.length * 6 + 5, none⟩) hg2').trans q5
          replace f4 := (hbw.frozen (p := ⟨g2, l.length * 6 + 4, none⟩) hg2').trans f4
          replace f5 := (hbw.frozen (p := ⟨g2, l.length * 6 + 5, none⟩) hg2').trans f5
          have own4 := Lib.hid (jrow_last own (t' + t) d)
          have hB4 := Lib.hid ((hB.setCell (p := ⟨g2, l.length * 6 + 4, none⟩) hg2 (.int .i64 (t' + t))).setCell (p := ⟨g2, l.length * 6 + 5, none⟩) hg2 (.bool d))
          clear own hB hbw
          have hw1 : IntKind.i64.wrap (t' + t) = t' + t := IntWalk.i64_in _ (by omega)
          have hl1 : (l.length : Int) < (l.length : Int) + 1 := by omega
          go_wp2_with fail
          go_region
          go_wp2_with fail
          go_roundw
          case rel => exact ⟨k + 1, by omega, by go_num, by rw [HJ.out, HJ2.out]; exact own4.out.drew, hB4.out.drew⟩
          case measure => simp [intOf]; omega
      · have HJ2 := Lib.hid (jstep_no (out := l) (m := (r', s', x', o', t', d')) (n := (r, s, x, o, t, d)) hj)
        cases d'
        · clear hj
          have OWN := Lib.hid own
          have HB1 := Lib.hid hB
          clear own hB
          go_upto_region 8 with fail
          go_cut [39] (fun v wc => v = .bool false ∧ Blk wc wr.heap.size 29 #[.bool r, .int .i64 s, .int .i64 x, .int .i64 o, .int .i64 t, .bool d] ∧ JRow w wc (.slice (some ⟨g2, 0, none⟩) (l.length + 1) cc) (l ++ [(r', s', x', o', t', false)]) ∧ Below wr.heap.size wr wc ∧ Below w.heap.size w wc)
          case first =>
            go_quiet (fail)
            go_wp2_with fail
            go_meet
            exact ⟨by first | rfl | (simp; omega), (Blk.new _ _ _).drewN _, (OWN.out.alloc _).drewN _, below_drewN (by go_grown) _, below_drewN (by have h := HB1.out; go_grown) _⟩
          case rest =>
            clear OWN HB1
            obtain ⟨rfl, kb, own, hbw, hB⟩ := hcut
            have b0 := Blk.get (i := 0) kb rfl
            have b1 := Blk.get (i := 1) kb rfl
            have b2 := Blk.get (i := 2) kb rfl
            have b3 := Blk.get (i := 3) kb rfl
            have b4 := Blk.get (i := 4) kb rfl
            have b5 := Blk.get (i := 5) kb rfl
            have bz := kb.lt
            clear kb
            have OWN := Lib.hid (jrow_row own (show _ = l.length + 1 by first | rfl | simp))
            have HB1 := Lib.hid hB
            have hsz2 := hB.size
            clear own hB
            go_wp2_with (at_builtin; refine wpList_append_lies _ rfl _ _ 35 rfl w.heap.size 29 i0 (.agg #[.bool false, .int .i64 0, .int .i64 0, .int .i64 0, .int .i64 0, .bool false]) 6 48 Try.underlying35 hi hz0 hz1 hz2 rfl (by omega) (.slice (some ⟨g2, 0, none⟩) (l.length + 1) cc) (l.length + 1) (rowL (nc (l ++ [(r', s', x', o', t', false)])) ((l.length + 1) * 6)) rfl (World.ownsRow.alloc OWN.out _) ⟨wc.heap.size, 0, none⟩ 1 1 [.bool r, .int .i64 s, .int .i64 x, .int .i64 o, .int .i64 t, .bool d] rfl rfl (World.news_of_block (heap_alloc_new _ _)) (one6 _ _ _ _ _ _) (by omega) (by unfold maxLen; omega) (by omega) (by simp; omega) (wc.heap.size + 1) (by simp) ?_; intro g' cap' w3 own3 hgrow hat hglt)
            have hB3 := below_append (show Below w.heap.size w wc from HB1.out) (by omega) hgrow (fun j hj => (OWN.out.lt j hj).1)
            have own4 := Lib.hid (jrow_more (L := (l ++ [(r', s', x', o', t', false)])) (by first | rfl | simp) own3)
            clear own3 hgrow hglt OWN HB1
            go_wp2_with fail
            go_roundw
            case rel => exact ⟨k + 1, by omega, by go_num, by rw [HJ.out, HJ2.out]; exact own4.out, hB3⟩
            case measure => simp [intOf]; omega
        · have hle : ¬ t' + t ≤ 768 := fun hh => hj ⟨rfl, hh⟩
          clear hj
          have OWN := Lib.hid own
          have HB1 := Lib.hid hB
          clear own hB
          go_upto_region 8 with fail
          go_cut [39] (fun v wc => v = .bool false ∧ Blk wc wr.heap.size 29 #[.bool r, .int .i64 s, .int .i64 x, .int .i64 o, .int .i64 t, .bool d] ∧ JRow w wc (.slice (some ⟨g2, 0, none⟩) (l.length + 1) cc) (l ++ [(r', s', x', o', t', true)]) ∧ Below wr.heap.size wr wc ∧ Below w.heap.size w wc)
          case first =>
            go_quiet (fail)
            go_wp2_with fail
            go_meet
            exact ⟨by first | rfl | (simp; omega), (Blk.new _ _ _).drewN _, (OWN.out.alloc _).drewN _, below_drewN (by go_grown) _, below_drewN (by have h := HB1.out; go_grown) _⟩
          case rest =>
            clear OWN HB1
            obtain ⟨rfl, kb, own, hbw, hB⟩ := hcut
            have b0 := Blk.get (i := 0) kb rfl
            have b1 := Blk.get (i := 1) kb rfl
            have b2 := Blk.get (i := 2) kb rfl
            have b3 := Blk.get (i := 3) kb rfl
            have b4 := Blk.get (i := 4) kb rfl
            have b5 := Blk.get (i := 5) kb rfl
            have bz := kb.lt
            clear kb
            have OWN := Lib.hid (jrow_row own (show _ = l.length + 1 by first | rfl | simp))
            have HB1 := Lib.hid hB
            have hsz2 := hB.size
            clear own hB
            go_wp2_with (at_builtin; refine wpList_append_lies _ rfl _ _ 35 rfl w.heap.size 29 i0 (.agg #[.bool false, .int .i64 0, .int .i64 0, .int .i64 0, .int .i64 0, .bool false]) 6 48 Try.underlying35 hi hz0 hz1 hz2 rfl (by omega) (.slice (some ⟨g2, 0, none⟩) (l.length + 1) cc) (l.length + 1) (rowL (nc (l ++ [(r', s', x', o', t', true)])) ((l.length + 1) * 6)) rfl (World.ownsRow.alloc OWN.out _) ⟨wc.heap.size, 0, none⟩ 1 1 [.bool r, .int .i64 s, .int .i64 x, .int .i64 o, .int .i64 t, .bool d] rfl rfl (World.news_of_block (heap_alloc_new _ _)) (one6 _ _ _ _ _ _) (by omega) (by unfold maxLen; omega) (by omega) (by simp; omega) (wc.heap.size + 1) (by simp) ?_; intro g' cap' w3 own3 hgrow hat hglt)
            have hB3 := below_append (show Below w.heap.size w wc from HB1.out) (by omega) hgrow (fun j hj => (OWN.out.lt j hj).1)
            have own4 := Lib.hid (jrow_more (L := (l ++ [(r', s', x', o', t', true)])) (by first | rfl | simp) own3)
            clear own3 hgrow hglt OWN HB1
            go_wp2_with fail
            go_roundw
            case rel => exact ⟨k + 1, by omega, by go_num, by rw [HJ.out, HJ2.out]; exact own4.out, hB3⟩
            case measure => simp [intOf]; omega

set_option maxHeartbeats 8000000 in
theorem specJoinTies_any (a : Option Addr) (n cap : Nat) (xs : List (Bool × Int × Int × Int × Int × Bool)) (w : World) (hx : xs.length = n) (h : Voice w a xs) (hn : n ≤ 10000000) :
    Calls Try.prog 33 #[.slice a n cap] w (RowPost w (jnV xs)) := by
  cases hv : vvB xs
  · have HV := fun W (hW : Voice W a xs) => specVoiceValid_any a n cap xs W hx hW hn
    rw [hv] at HV
    have HR := Lib.hid (jnV_f hv)
    have HVV := Lib.hid HV
    have hpos : 0 < n := by
      rcases Nat.eq_zero_or_pos n with h0 | h0
      · subst h0
        rw [List.length_eq_zero_iff.1 hx] at hv
        cases hv
      · exact h0
    have hj : (0 : Int) < (n : Int) := by omega
    clear HV hv hx
    go_enter Try.func33, Try.ntmps33
    go_wp2_with fail
    refine wp_loop_rounds 1 ?_
    rw [rounds_succ]
    go_wp2_with fail
    refine (HVV.out _ (h.pure (by go_grown))).mono ?_
    rintro e w1 ⟨rfl, hb⟩
    have hB := below_pure (w := w) (by go_grown) hb
    go_wp2
    go_ret
    rw [HR.out]
    exact rowPost_nil _ _ _ _ hB (by unfold maxLen; omega)
  have HR := Lib.hid (jnV_t hv)
  have HV2 := fun W (hW : Voice W a xs) => specVoiceValid_any a n cap xs W hx hW hn
  rw [hv] at HV2
  have HVV := Lib.hid HV2
  have h60 : n ≤ 60 := by have := (vv_all hv).1; omega
  have h0 := h
  unfold Voice at h
  rw [hx] at h
  have HX := Lib.hid hx
  have HS := Lib.hid h
  have HSM := Lib.hid (fun k (hk : k ≤ n) => jN_small hv k (by omega))
  have HTK := Lib.hid (fun k (hk : k < n) => tk_bd hv (k := k) (by omega))
  have HALL := Lib.hid (show jN xs n = joinF xs by rw [← hx]; exact jN_all xs)
  clear HV2 hv h hx
  obtain ⟨i0, hi, hz0, hz1, hz2⟩ := info_parts infoN
  go_enter Try.func33, Try.ntmps33
  go_wp2_with fail
  have HB0 := Below.refl w.heap.size w
  have hs0 := HB0.size
  have own0 : JRow w (w.alloc (Obj.cells #[] 29)) (.slice (some ⟨w.heap.size, 0, none⟩) 0 0) (jN xs 0) := World.ownsRow_made w #[] 0 hs0 (by unfold maxLen; omega) rfl
  have hB : Below w.heap.size w (w.alloc (Obj.cells #[] 29)) := by go_grown
  go_loopw [3, 4] (fun v iv wr => ∃ k : Nat, k ≤ n ∧ iv = .int .i64 (k : Int) ∧ JRow w wr v (jN xs k) ∧ Below w.heap.size w wr) (fun _ iv _ => n - (intOf iv).toNat)
  case atStart => exact ⟨0, Nat.zero_le _, rfl, own0, hB⟩
  case round =>
    clear own0 hB HB0 hs0
    obtain ⟨k, hk, rfl, own, hB⟩ := hrel
    have hsz := hB.size
    by_cases hlt : k < n
    rotate_left
    · obtain rfl : k = n := by omega
      have OWN := Lib.hid own
      clear own
      go_wp2
      go_ret
      rw [HR.out, ← HALL.out]
      exact rowPost_mk rfl hB OWN.out
    have HVw : Voice wr a xs := by
      have q := HS.out.pure hB
      unfold Voice
      rw [HX.out]
      exact q
    have OWN0 := Lib.hid own
    clear own
    go_wp2_with fail
    refine (HVV.out _ HVw).mono ?_
    rintro e w2 ⟨rfl, hb⟩
    replace hB := below_pure hB hb
    have own := OWN0.out.pure hb
    clear hb HVw hsz OWN0
    have hsz := hB.size
    obtain ⟨⟨r, s, x, o, t, d⟩, hxk⟩ := nth (xs := xs) (k := k) (by have := HX.out; omega)
    have HT := HTK.out k hlt
    rw [tk_at hxk] at HT
    have HSk := Lib.hid (HSM.out k hk)
    obtain ⟨g, off, rfl, hc⟩ := (HS.out.pure hB) (by omega)
    obtain ⟨c0, c1, c2, c3, c4, c5⟩ := at6 hc hlt hxk
    have hzz := cell_lt c0
    have HJ := Lib.hid (jN_succ hxk)
    have hLk := jN_len xs k
    have hi1 : (k : Int) < (n : Int) := by omega
    have hi2 : (0 : Int) ≤ (k : Int) := by omega
    clear hxk hc
    generalize hLL : jN xs k = L at *
    clear hLL
    rcases nil_or_snoc L with rfl | ⟨l, ⟨r', s', x', o', t', d'⟩, rfl⟩
    · obtain ⟨u, cc, rfl⟩ := jrow_empty own
      have OWN := Lib.hid own
      have HB1 := Lib.hid hB
      clear own hB
      go_upto_region 6 with fail
      go_cut [42] (fun v wc => v = .bool false ∧ JRow w wc (.slice u 0 cc) ([]) ∧ Below w2.heap.size w2 wc ∧ Below w.heap.size w wc)
      case first =>
        go_quiet (fail)
        go_wp2_with fail
        go_meet
        exact ⟨by first | rfl | (simp; omega), OWN.out.drewN _, below_drewN (Below.refl _ _) _, below_drewN HB1.out _⟩
      case rest =>
        clear OWN HB1
        obtain ⟨rfl, own, hbw, hB⟩ := hcut
        replace c0 := (hbw.cell (p := ⟨g, off + k * 6, none⟩) hzz).trans c0
        replace c1 := (hbw.cell (p := ⟨g, off + k * 6 + 1, none⟩) hzz).trans c1
        replace c2 := (hbw.cell (p := ⟨g, off + k * 6 + 2, none⟩) hzz).trans c2
        replace c3 := (hbw.cell (p := ⟨g, off + k * 6 + 3, none⟩) hzz).trans c3
        replace c4 := (hbw.cell (p := ⟨g, off + k * 6 + 4, none⟩) hzz).trans c4
        replace c5 := (hbw.cell (p := ⟨g, off + k * 6 + 5, none⟩) hzz).trans c5
        replace hzz := Nat.lt_of_lt_of_le hzz hbw.size
        have OWN := Lib.hid (jrow_row own (show _ = 0 by first | rfl | simp))
        have HB1 := Lib.hid hB
        have hsz2 := hB.size
        clear own hB
        go_wp2_with (at_builtin; refine wpList_append_lies _ rfl _ _ 35 rfl w.heap.size 29 i0 (.agg #[.bool false, .int .i64 0, .int .i64 0, .int .i64 0, .int .i64 0, .bool false]) 6 48 Try.underlying35 hi hz0 hz1 hz2 rfl (by omega) (.slice u 0 cc) (0) (rowL (nc []) ((0) * 6)) rfl (World.ownsRow.alloc OWN.out _) ⟨wc.heap.size, 0, none⟩ 1 1 [.bool r, .int .i64 s, .int .i64 x, .int .i64 o, .int .i64 t, .bool d] rfl rfl (World.news_of_block (heap_alloc_new _ _)) (one6 _ _ _ _ _ _) (by omega) (by unfold maxLen; omega) (by omega) (by simp; omega) (wc.heap.size + 1) (by simp) ?_; intro g' cap' w3 own3 hgrow hat hglt)
        have hB3 := below_append (show Below w.heap.size w wc from HB1.out) (by omega) hgrow (fun j hj => (OWN.out.lt j hj).1)
        have own4 := Lib.hid (jrow_more (L := []) (by first | rfl | simp) own3)
        clear own3 hgrow hglt OWN HB1
        go_wp2_with fail
        go_roundw
        case rel => exact ⟨k + 1, by omega, by go_num, by rw [HJ.out, jstep_nil]; exact own4.out, hB3⟩
        case measure => simp [intOf]; omega
    · have hll : (l ++ [(r', s', x', o', t', d')]).length = l.length + 1 := by simp
      have ht' := HSk.out (r', s', x', o', t', d') (by simp)
      replace ht' : 1 ≤ t' ∧ t' ≤ 768 := ht'
      obtain ⟨g2, cc, rfl, hg2, hg2', q4, q5, f4, f5⟩ := jrow_cells own
      clear HSk
      by_cases hj : d' = true ∧ t' + t ≤ 768
      · obtain ⟨rfl, hle⟩ := hj
        have OWN := Lib.hid own
        have HB1 := Lib.hid hB
        clear own hB
        go_upto_region 6 with fail
        go_cut [42] (fun v wc => v = .bool true ∧ JRow w wc (.slice (some ⟨g2, 0, none⟩) (l.length + 1) cc) (l ++ [(r', s', x', o', t', true)]) ∧ Below w2.heap.size w2 wc ∧ Below w.heap.size w wc)
        case first =>
          go_quiet (fail)
          go_wp2_with fail
          go_meet
          exact ⟨by first | rfl | (simp; omega), OWN.out.drewN _, below_drewN (Below.refl _ _) _, below_drewN HB1.out _⟩
        case rest =>
          clear OWN HB1
          obtain ⟨rfl, own, hbw, hB⟩ := hcut
          replace c0 := (hbw.cell (p := ⟨g, off + k * 6, none⟩) hzz).trans c0
          replace c1 := (hbw.cell (p := ⟨g, off + k * 6 + 1, none⟩) hzz).trans c1
          replace c2 := (hbw.cell (p := ⟨g, off + k * 6 + 2, none⟩) hzz).trans c2
          replace c3 := (hbw.cell (p := ⟨g, off + k * 6 + 3, none⟩) hzz).trans c3
          replace c4 := (hbw.cell (p := ⟨g, off + k * 6 + 4, none⟩) hzz).trans c4
          replace c5 := (hbw.cell (p := ⟨g, off + k * 6 + 5, none⟩) hzz).trans c5
          replace hzz := Nat.lt_of_lt_of_le hzz hbw.size
          have HJ2 := Lib.hid (jstep_yes (out := l) (m := (r', s', x', o', t', true)) (n := (r, s, x, o, t, d)) ⟨rfl, hle⟩)
          replace q4 := (hbw.cell (p := ⟨g2, l.length * 6 + 4, none⟩) hg2').trans q4
          replace q5 := (hbw.cell (p := ⟨g2, l.length * 6 + 5, none⟩) hg2').trans q5
          replace f4 := (hbw.frozen (p := ⟨g2, l.length * 6 + 4, none⟩) hg2').trans f4
          replace f5 := (hbw.frozen (p := ⟨g2, l.length * 6 + 5, none⟩) hg2').trans f5
          have own4 := Lib.hid (jrow_last own (t' + t) d)
          have hB4 := Lib.hid ((hB.setCell (p := ⟨g2, l.length * 6 + 4, none⟩) hg2 (.int .i64 (t' + t))).setCell (p := ⟨g2, l.length * 6 + 5, none⟩) hg2 (.bool d))
          clear own hB hbw
          have hw1 : IntKind.i64.wrap (t' + t) = t' + t := IntWalk.i64_in _ (by omega)
          have hl1 : (l.length : Int) < (l.length : Int) + 1 := by omega
          go_wp2_with fail
          go_region
          go_wp2_with fail
          go_roundw
          case rel => exact ⟨k + 1, by omega, by go_num, by rw [HJ.out, HJ2.out]; exact own4.out.drew, hB4.out.drew⟩
          case measure => simp [intOf]; omega
      · have HJ2 := Lib.hid (jstep_no (out := l) (m := (r', s', x', o', t', d')) (n := (r, s, x, o, t, d)) hj)
        cases d'
        · clear hj
          have OWN := Lib.hid own
          have HB1 := Lib.hid hB
          clear own hB
          go_upto_region 6 with fail
          go_cut [42] (fun v wc => v = .bool false ∧ JRow w wc (.slice (some ⟨g2, 0, none⟩) (l.length + 1) cc) (l ++ [(r', s', x', o', t', false)]) ∧ Below w2.heap.size w2 wc ∧ Below w.heap.size w wc)
          case first =>
            go_quiet (fail)
            go_wp2_with fail
            go_meet
            exact ⟨by first | rfl | (simp; omega), OWN.out.drewN _, below_drewN (Below.refl _ _) _, below_drewN HB1.out _⟩
          case rest =>
            clear OWN HB1
            obtain ⟨rfl, own, hbw, hB⟩ := hcut
            replace c0 := (hbw.cell (p := ⟨g, off + k * 6, none⟩) hzz).trans c0
            replace c1 := (hbw.cell (p := ⟨g, off + k * 6 + 1, none⟩) hzz).trans c1
            replace c2 := (hbw.cell (p := ⟨g, off + k * 6 + 2, none⟩) hzz).trans c2
            replace c3 := (hbw.cell (p := ⟨g, off + k * 6 + 3, none⟩) hzz).trans c3
            replace c4 := (hbw.cell (p := ⟨g, off + k * 6 + 4, none⟩) hzz).trans c4
            replace c5 := (hbw.cell (p := ⟨g, off + k * 6 + 5, none⟩) hzz).trans c5
            replace hzz := Nat.lt_of_lt_of_le hzz hbw.size
            have OWN := Lib.hid (jrow_row own (show _ = l.length + 1 by first | rfl | simp))
            have HB1 := Lib.hid hB
            have hsz2 := hB.size
            clear own hB
            go_wp2_with (at_builtin; refine wpList_append_lies _ rfl _ _ 35 rfl w.heap.size 29 i0 (.agg #[.bool false, .int .i64 0, .int .i64 0, .int .i64 0, .int .i64 0, .bool false]) 6 48 Try.underlying35 hi hz0 hz1 hz2 rfl (by omega) (.slice (some ⟨g2, 0, none⟩) (l.length + 1) cc) (l.length + 1) (rowL (nc (l ++ [(r', s', x', o', t', false)])) ((l.length + 1) * 6)) rfl (World.ownsRow.alloc OWN.out _) ⟨wc.heap.size, 0, none⟩ 1 1 [.bool r, .int .i64 s, .int .i64 x, .int .i64 o, .int .i64 t, .bool d] rfl rfl (World.news_of_block (heap_alloc_new _ _)) (one6 _ _ _ _ _ _) (by omega) (by unfold maxLen; omega) (by omega) (by simp; omega) (wc.heap.size + 1) (by simp) ?_; intro g' cap' w3 own3 hgrow hat hglt)
            have hB3 := below_append (show Below w.heap.size w wc from HB1.out) (by omega) hgrow (fun j hj => (OWN.out.lt j hj).1)
            have own4 := Lib.hid (jrow_more (L := (l ++ [(r', s', x', o', t', false)])) (by first | rfl | simp) own3)
            clear own3 hgrow hglt OWN HB1
            go_wp2_with fail
            go_roundw
            case rel => exact ⟨k + 1, by omega, by go_num, by rw [HJ.out, HJ2.out]; exact own4.out, hB3⟩
            case measure => simp [intOf]; omega
        · have hle : ¬ t' + t ≤ 768 := fun hh => hj ⟨rfl, hh⟩
          clear hj
          have OWN := Lib.hid own
          have HB1 := Lib.hid hB
          clear own hB
          go_upto_region 6 with fail
          go_cut [42] (fun v wc => v = .bool false ∧ JRow w wc (.slice (some ⟨g2, 0, none⟩) (l.length + 1) cc) (l ++ [(r', s', x', o', t', true)]) ∧ Below w2.heap.size w2 wc ∧ Below w.heap.size w wc)
          case first =>
            go_quiet (fail)
            go_wp2_with fail
            go_meet
            exact ⟨by first | rfl | (simp; omega), OWN.out.drewN _, below_drewN (Below.refl _ _) _, below_drewN HB1.out _⟩
          case rest =>
            clear OWN HB1
            obtain ⟨rfl, own, hbw, hB⟩ := hcut
            replace c0 := (hbw.cell (p := ⟨g, off + k * 6, none⟩) hzz).trans c0
            replace c1 := (hbw.cell (p := ⟨g, off + k * 6 + 1, none⟩) hzz).trans c1
            replace c2 := (hbw.cell (p := ⟨g, off + k * 6 + 2, none⟩) hzz).trans c2
            replace c3 := (hbw.cell (p := ⟨g, off + k * 6 + 3, none⟩) hzz).trans c3
            replace c4 := (hbw.cell (p := ⟨g, off + k * 6 + 4, none⟩) hzz).trans c4
            replace c5 := (hbw.cell (p := ⟨g, off + k * 6 + 5, none⟩) hzz).trans c5
            replace hzz := Nat.lt_of_lt_of_le hzz hbw.size
            have OWN := Lib.hid (jrow_row own (show _ = l.length + 1 by first | rfl | simp))
            have HB1 := Lib.hid hB
            have hsz2 := hB.size
            clear own hB
            go_wp2_with (at_builtin; refine wpList_append_lies _ rfl _ _ 35 rfl w.heap.size 29 i0 (.agg #[.bool false, .int .i64 0, .int .i64 0, .int .i64 0, .int .i64 0, .bool false]) 6 48 Try.underlying35 hi hz0 hz1 hz2 rfl (by omega) (.slice (some ⟨g2, 0, none⟩) (l.length + 1) cc) (l.length + 1) (rowL (nc (l ++ [(r', s', x', o', t', true)])) ((l.length + 1) * 6)) rfl (World.ownsRow.alloc OWN.out _) ⟨wc.heap.size, 0, none⟩ 1 1 [.bool r, .int .i64 s, .int .i64 x, .int .i64 o, .int .i64 t, .bool d] rfl rfl (World.news_of_block (heap_alloc_new _ _)) (one6 _ _ _ _ _ _) (by omega) (by unfold maxLen; omega) (by omega) (by simp; omega) (wc.heap.size + 1) (by simp) ?_; intro g' cap' w3 own3 hgrow hat hglt)
            have hB3 := below_append (show Below w.heap.size w wc from HB1.out) (by omega) hgrow (fun j hj => (OWN.out.lt j hj).1)
            have own4 := Lib.hid (jrow_more (L := (l ++ [(r', s', x', o', t', true)])) (by first | rfl | simp) own3)
            clear own3 hgrow hglt OWN HB1
            go_wp2_with fail
            go_roundw
            case rel => exact ⟨k + 1, by omega, by go_num, by rw [HJ.out, HJ2.out]; exact own4.out, hB3⟩
            case measure => simp [intOf]; omega

end Go.Proofs.Ytmkkhbplfedpoaa
