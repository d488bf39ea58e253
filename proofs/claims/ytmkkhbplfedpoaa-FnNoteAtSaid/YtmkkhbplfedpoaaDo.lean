/- The walk of the draw of a voice: it returns some notes in a row of its own, and moves nothing old but the reader. -/
import Derived.Test.YtmkkhbplfedpoaaJt
import Derived.Test.YtmkkhbplfedpoaaDn
namespace Go.Proofs.Ytmkkhbplfedpoaa
open Go.RowKit

theorem Dr.app {w W W1 : World} {R K : Nat} {ob : Obj} {row : Option Nat} (h : Dr w W R K) (hg : (W.alloc ob).grownBy W1 row) (hr : ∀ k, row = some k → w.heap.size ≤ k) : Dr w W1 R K := by
  have h1 := h.alloc ob
  have hb : Below w.heap.size (W.alloc ob) W1 := ⟨hg.os, hg.tape, hg.output, hg.size, fun i hi => hg.block i (by have := h1.size; omega) (fun e => by have := hr i e.symm; omega)⟩
  exact ⟨⟨hb.os.trans h1.1.os, hb.tape.trans h1.1.tape, hb.output.trans h1.1.output, Nat.le_trans h1.1.size hb.size, fun i hi hne => (hb.block i hi).trans (h1.1.block i hi hne)⟩, h1.2.1.below hb h.2.2, h.2.2⟩
theorem row_tie (o : List (Bool × Int × Int × Int × Int × Bool)) (r : Bool) (s a oo t : Int) (d : Bool) (d' : Bool) :
    (rowL (nc (o ++ [(r, s, a, oo, t, d)])) ((o.length + 1) * 6)).set (o.length * 6 + 5) (.bool d') = rowL (nc (o ++ [(r, s, a, oo, t, d')])) ((o.length + 1) * 6) := by
  rw [row_cut, row_cut]
  have e := rowL_len (nc o) (o.length * 6)
  rw [List.set_append_right (o.length * 6 + 5) _ (by omega), e, show o.length * 6 + 5 - o.length * 6 = 5 by omega]
  rfl
theorem jrow_tie {w wr : World} {g c : Nat} {o : List (Bool × Int × Int × Int × Int × Bool)} {r : Bool} {s a oo t : Int} {d : Bool} (h : JRow w wr (.slice (some ⟨g, 0, none⟩) (o.length + 1) c) (o ++ [(r, s, a, oo, t, d)])) (d' : Bool) :
    JRow w (wr.setCell ⟨g, o.length * 6 + 5, none⟩ (.bool d')) (.slice (some ⟨g, 0, none⟩) (o.length + 1) c) (o ++ [(r, s, a, oo, t, d')]) := by
  unfold JRow at h ⊢
  rw [List.length_append, List.length_singleton] at h ⊢
  have h2 := (h.stored (o.length * 6 + 5) (.bool d')).1
  rw [row_tie] at h2
  exact h2
theorem jrow_head {w wr : World} {v : Value} {o : List (Bool × Int × Int × Int × Int × Bool)} {r : Bool} {s a oo t : Int} {d : Bool} (h : JRow w wr v (o ++ [(r, s, a, oo, t, d)])) :
    ∃ g c, v = .slice (some ⟨g, 0, none⟩) (o.length + 1) c ∧ w.heap.size ≤ g ∧ g < wr.heap.size ∧ wr.cell? ⟨g, o.length * 6, none⟩ = some (.bool r) ∧ wr.cell? ⟨g, o.length * 6 + 1, none⟩ = some (.int .i64 s) ∧ wr.cell? ⟨g, o.length * 6 + 2, none⟩ = some (.int .i64 a) ∧ wr.cell? ⟨g, o.length * 6 + 3, none⟩ = some (.int .i64 oo) ∧ wr.cell? ⟨g, o.length * 6 + 5, none⟩ = some (.bool d) ∧ wr.frozen? ⟨g, o.length * 6 + 5, none⟩ = false := by
  have hl : (o ++ [(r, s, a, oo, t, d)]).length = o.length + 1 := by simp
  unfold JRow at h
  rw [hl] at h
  obtain ⟨g, c, rfl, h1, h2⟩ := h.form (by omega)
  obtain ⟨e0, e1, e2, e3, e4, e5⟩ := nc_at (xs := o ++ [(r, s, a, oo, t, d)]) (k := o.length) (last_get o _)
  refine ⟨g, c, rfl, h1, h2, ?_, ?_, ?_, ?_, ?_, h.frozenAt _⟩
  · rw [h.cellAt _ (by omega), rowL_get (by omega), e0]
  · rw [h.cellAt _ (by omega), rowL_get (by omega), e1]
  · rw [h.cellAt _ (by omega), rowL_get (by omega), e2]
  · rw [h.cellAt _ (by omega), rowL_get (by omega), e3]
  · rw [h.cellAt _ (by omega), rowL_get (by omega), e5]
theorem jrow_at {w wr : World} {g c : Nat} {o : List (Bool × Int × Int × Int × Int × Bool)} {r : Bool} {s a oo t : Int} {d : Bool} (h : JRow w wr (.slice (some ⟨g, 0, none⟩) (o.length + 1) c) (o ++ [(r, s, a, oo, t, d)])) :
    w.heap.size ≤ g ∧ g < wr.heap.size ∧ wr.cell? ⟨g, o.length * 6, none⟩ = some (.bool r) ∧ wr.cell? ⟨g, o.length * 6 + 1, none⟩ = some (.int .i64 s) ∧ wr.cell? ⟨g, o.length * 6 + 2, none⟩ = some (.int .i64 a) ∧ wr.cell? ⟨g, o.length * 6 + 3, none⟩ = some (.int .i64 oo) ∧ wr.cell? ⟨g, o.length * 6 + 5, none⟩ = some (.bool d) ∧ wr.frozen? ⟨g, o.length * 6 + 5, none⟩ = false := by
  obtain ⟨g', c', e, h1, h2, h3, h4, h5, h6, h7, h8⟩ := jrow_head h
  obtain ⟨rfl, rfl⟩ : g = g' ∧ c = c' := by
    injection e with e1 e2 e3
    injection e1 with e4
    injection e4 with e5
    exact ⟨e5, e3⟩
  exact ⟨h1, h2, h3, h4, h5, h6, h7, h8⟩
theorem Blk.put4 {W : World} {g : Nat} {t : TypeId} {a b c d e f x y z u : Value} (h : Blk W g t #[a, b, c, d, e, f]) : Blk ((((W.setCell ⟨g, 0, none⟩ x).setCell ⟨g, 1, none⟩ y).setCell ⟨g, 2, none⟩ z).setCell ⟨g, 3, none⟩ u) g t #[x, y, z, u, e, f] := (((h.set_ 0 x).set_ 1 y).set_ 2 z).set_ 3 u
theorem JRow.pick {w w1 w2 : World} {v : Value} {L : List (Bool × Int × Int × Int × Int × Bool)} {R : Nat} (h : JRow w w1 v L) (hg : w1.grownBy w2 (some R)) (hR : R < w.heap.size) : JRow w w2 v L :=
  World.ownsRow.kept h hg (by
    cases hv : v.ownBlock with
    | none => exact .inl rfl
    | some k =>
      right
      intro e
      injection e with e
      have := (World.ownsRow.lt h k hv).1
      omega)
theorem JRow.far {w w1 : World} {v : Value} {L : List (Bool × Int × Int × Int × Int × Bool)} (h : JRow w w1 v L) {p : Addr} (hp : v.ownBlock ≠ some p.block) (u : Value) : JRow w (w1.setCell p u) v L :=
  World.ownsRow.kept (row := some p.block) h ⟨rfl, rfl, rfl, by simp [World.setCell], fun i _ hne => Below.heap_setCell w1 p u i (fun e => hne (by rw [e]))⟩ (.inr hp)
theorem jrow_shape {w wr : World} {v : Value} {L : List (Bool × Int × Int × Int × Int × Bool)} (h : JRow w wr v L) : ∃ a c, v = .slice a L.length c := by
  obtain ⟨a, c, rfl, -⟩ := owns_of_row h
  exact ⟨a, c, rfl⟩
def slLen : Value → Nat | .slice _ n _ => n | _ => 0

/-- What the draw of a voice leaves. -/
def VoicePost (w : World) (R K : Nat) (e : Ending) (w' : World) : Prop :=
  ∃ a cap L, e = .returned (.slice a (List.length L) cap) ∧ L.length ≤ 70 ∧ Dr w w' R K ∧ Owns w' w.heap.size a (L.length * 6) (nc L) ∧ L.length ≤ cap ∧ cap ≤ maxLen
theorem voicePost_mk {w w' : World} {R K K' : Nat} {L : List (Bool × Int × Int × Int × Int × Bool)} {v : Value} (hD : Dr w w' R K') (hK : K' ≤ K) (hl : L.length ≤ 70) (h : JRow w w' v L) : VoicePost w R K (.returned v) w' := by
  obtain ⟨a, cap, rfl, h1, h2, h3⟩ := owns_of_row h
  exact ⟨a, cap, L, rfl, hl, hD.mono hK, h3, h1, h2⟩

set_option maxHeartbeats 8000000 in
set_option maxRecDepth 100000 in
theorem l20Voice_any (R K : Nat) (n : Int) (w : World) (h : RdOk w R K) (hK : K ≤ 20000) (hn : 0 ≤ n) (hn' : n ≤ 1000) :
    Calls Try.prog 60 #[.pointer (some ⟨R, 0, none⟩), .int .i64 n] w (VoicePost w R (K + 500)) := by
  have hR := h.lt
  obtain ⟨i0, hi, hz0, hz1, hz2⟩ := info_parts infoN
  go_enter Try.func60, Try.ntmps60
  go_wp2_with fail
  have D0 : Dr w (w.alloc (Obj.cells #[] 29)) R K := (Dr.start h).alloc _
  have own0 : JRow w (w.alloc (Obj.cells #[] 29)) (.slice (some ⟨w.heap.size, 0, none⟩) 0 0) [] := World.ownsRow_made w #[] 0 (Nat.le_refl _) (by unfold maxLen; omega) rfl
  refine (pick_any R _ 9 _ D0.rd (by omega) (by omega) (by omega)).mono ?_
  rintro e w1 ⟨v, rfl, v0, v1, -, hg, hr⟩
  replace v1 := v1 (by omega)
  have D1 := D0.pick hg hr
  have own1 := own0.pick hg hR
  clear hg hr D0 own0
  obtain ⟨j0, rfl⟩ := Int.eq_ofNat_of_zero_le v0
  have hj0 : j0 ≤ 8 := by omega
  go_wp2_with fail
  go_loopw [5, 6] (fun v kv wr => ∃ (j : Nat) (L : List (Bool × Int × Int × Int × Int × Bool)), j ≤ 8 ∧ kv = .int .i64 (j : Int) ∧ L.length + j ≤ 8 ∧ JRow w wr v L ∧ Dr w wr R (K + 1 + 42 * (8 - j))) (fun _ kv _ => (intOf kv).toNat)
  case atStart => exact ⟨j0, [], hj0, rfl, by simpa using hj0, own1, D1.mono (by omega)⟩
  case round =>
    clear D1 own1 v1
    obtain ⟨j, L, hj, rfl, hLj, own, D⟩ := hrel
    have hsz := D.size
    cases j with
    | zero =>
      rw [show ((0 : Nat) : Int) = 0 from rfl]
      have OWN := Lib.hid own
      clear own
      go_wp2_with fail
      refine (odd_any R _ n _ D.rd (by omega) (by omega) (by omega)).mono ?_
      rintro e w2 ⟨b, rfl, -, hg, hr⟩
      replace D := D.pick hg hr
      have own := OWN.out.pick hg hR
      clear hg hr OWN hsz
      have hsz := D.size
      cases b
      · have OWN := Lib.hid own
        clear own
        go_wp2
        go_ret
        exact voicePost_mk D (by omega) (by omega) OWN.out
      · have OWN := Lib.hid own
        clear own
        go_wp2_with fail
        refine (pick_any R _ 3 _ D.rd (by omega) (by omega) (by omega)).mono ?_
        rintro e w3 ⟨v, rfl, v0, v1, -, hg, hr⟩
        replace v1 := v1 (by omega)
        replace D := D.pick hg hr
        have own := OWN.out.pick hg hR
        clear hg hr OWN hsz
        have hsz := D.size
        have hv : v = 0 ∨ v = 1 ∨ v = 2 := by omega
        rcases hv with rfl | rfl | rfl
        · have OWN := Lib.hid own
          clear own v0 v1
          go_wp2_with fail
          refine (l20Note_any R _ 1 _ D.rd (by omega) (by omega) (by omega)).mono ?_
          rintro e w4 ⟨r, s, x, o, t, d, rfl, hbd, E⟩
          replace D := D.pick E.1 E.2.1
          have own := OWN.out.pick E.1 hR
          clear E OWN hsz hbd
          have hsz := D.size
          obtain ⟨u, cu, rfl⟩ := jrow_shape own
          have OWN := Lib.hid (jrow_row own (show _ = L.length by first | rfl | simp))
          clear own
          go_wp2_with (at_builtin; refine wpList_append_lies _ rfl _ _ 35 rfl w.heap.size 29 i0 (.agg #[.bool false, .int .i64 0, .int .i64 0, .int .i64 0, .int .i64 0, .bool false]) 6 48 Try.underlying35 hi hz0 hz1 hz2 rfl (by omega) (.slice u L.length cu) (L.length) (rowL (nc L) ((L.length) * 6)) rfl (World.ownsRow.alloc OWN.out _) ⟨w4.heap.size, 0, none⟩ 1 1 [.bool r, .int .i64 s, .int .i64 x, .int .i64 o, .int .i64 t, .bool d] rfl rfl (World.news_of_block (heap_alloc_new _ _)) (one6 _ _ _ _ _ _) (by omega) (by unfold maxLen; omega) (by omega) (by simp; omega) (w4.heap.size + 1) (by simp) ?_; intro g' cap' w3 own3 hgrow hat hglt)
          have D3 := Dr.app D hgrow (fun j hj => (OWN.out.lt j hj).1)
          have own4 := Lib.hid (jrow_more (L := L) (by first | rfl | simp) own3)
          clear own3 hgrow hglt OWN
          go_wp2
          go_ret
          exact voicePost_mk D3 (by omega) (by simp; omega) own4.out
        · clear v0 v1
          obtain ⟨u, cu, rfl⟩ := jrow_shape own
          have OWN := Lib.hid (jrow_row own (show _ = L.length by first | rfl | simp))
          clear own
          go_wp2_with (at_builtin; refine wpList_append_lies _ rfl _ _ 35 rfl w.heap.size 29 i0 (.agg #[.bool false, .int .i64 0, .int .i64 0, .int .i64 0, .int .i64 0, .bool false]) 6 48 Try.underlying35 hi hz0 hz1 hz2 rfl (by omega) (.slice u L.length cu) (L.length) (rowL (nc L) ((L.length) * 6)) rfl (World.ownsRow.alloc OWN.out _) ⟨w3.heap.size, 0, none⟩ 1 1 [.bool false, .int .i64 0, .int .i64 0, .int .i64 0, .int .i64 12, .bool true] rfl rfl (World.news_of_block (heap_alloc_new _ _)) (one6 _ _ _ _ _ _) (by omega) (by unfold maxLen; omega) (by omega) (by simp; omega) (w3.heap.size + 1) (by simp) ?_; intro g' cap' w3 own3 hgrow hat hglt)
          have D3 := Dr.app D hgrow (fun j hj => (OWN.out.lt j hj).1)
          have own4 := Lib.hid (jrow_more (L := L) (by first | rfl | simp) own3)
          clear own3 hgrow hglt OWN
          go_wp2
          go_ret
          exact voicePost_mk D3 (by omega) (by simp; omega) own4.out
        · clear v0 v1
          obtain ⟨u, cu, rfl⟩ := jrow_shape own
          go_wp2_with fail
          go_loopw [5] (fun v wr => ∃ L : List (Bool × Int × Int × Int × Int × Bool), L.length ≤ 61 ∧ JRow w wr v L ∧ Dr w wr R (K + 400)) (fun v _ => 61 - slLen v)
          case atStart => exact ⟨L, by omega, own, D.mono (by omega)⟩
          case round =>
            clear own D hsz hLj
            obtain ⟨L, hL, own, D⟩ := hrel
            have hsz := D.size
            obtain ⟨u, cu, rfl⟩ := jrow_shape own
            by_cases h60 : L.length ≤ 60
            · have hli : (L.length : Int) ≤ 60 := by omega
              have OWN := Lib.hid (jrow_row own (show _ = L.length by first | rfl | simp))
              clear own
              go_wp2_with (at_builtin; refine wpList_append_lies _ rfl _ _ 35 rfl w.heap.size 29 i0 (.agg #[.bool false, .int .i64 0, .int .i64 0, .int .i64 0, .int .i64 0, .bool false]) 6 48 Try.underlying35 hi hz0 hz1 hz2 rfl (by omega) (.slice u L.length cu) (L.length) (rowL (nc L) ((L.length) * 6)) rfl (World.ownsRow.alloc OWN.out _) ⟨wr.heap.size, 0, none⟩ 1 1 [.bool true, .int .i64 0, .int .i64 0, .int .i64 0, .int .i64 12, .bool false] rfl rfl (World.news_of_block (heap_alloc_new _ _)) (one6 _ _ _ _ _ _) (by omega) (by unfold maxLen; omega) (by omega) (by simp; omega) (wr.heap.size + 1) (by simp) ?_; intro g' cap' w3 own3 hgrow hat hglt)
              have D3 := Dr.app D hgrow (fun j hj => (OWN.out.lt j hj).1)
              have own4 := Lib.hid (jrow_more (L := L) (by first | rfl | simp) own3)
              clear own3 hgrow hglt OWN
              go_wp2_with fail
              go_roundw
              case rel => exact ⟨_, by simp; omega, own4.out, D3⟩
              case measure => simp [slLen]; omega
            · have hli : ¬ (L.length : Int) ≤ 60 := by omega
              have OWN := Lib.hid own
              clear own
              go_wp2
              go_ret
              exact voicePost_mk D (by omega) (by omega) OWN.out
    | succ j =>
      have hj1 : ((j + 1 : Nat) : Int) - 1 = (j : Int) := by omega
      have hj2 : (0 : Int) < ((j + 1 : Nat) : Int) := by omega
      have OWN := Lib.hid own
      clear own
      go_wp2_with fail
      refine (l20Note_any R _ 0 _ D.rd (by omega) (by omega) (by omega)).mono ?_
      rintro e w2 ⟨r, s, x, o, t, d, rfl, hbd, E⟩
      replace D := D.pick E.1 E.2.1
      have own := OWN.out.pick E.1 hR
      clear E OWN hsz hbd
      have hsz := D.size
      rcases nil_or_snoc L with rfl | ⟨l, ⟨r', s', x', o', t', d'⟩, rfl⟩
      · obtain ⟨u, cu, rfl⟩ := jrow_shape own
        rw [show ([] : List (Bool × Int × Int × Int × Int × Bool)).length = 0 from rfl] at own hLj ⊢
        have OWN := Lib.hid (jrow_row own (show _ = 0 by first | rfl | simp))
        clear own
        go_wp2_with (at_builtin; refine wpList_append_lies _ rfl _ _ 35 rfl w.heap.size 29 i0 (.agg #[.bool false, .int .i64 0, .int .i64 0, .int .i64 0, .int .i64 0, .bool false]) 6 48 Try.underlying35 hi hz0 hz1 hz2 rfl (by omega) (.slice u 0 cu) (0) (rowL (nc ([] : List (Bool × Int × Int × Int × Int × Bool))) ((0) * 6)) rfl ((World.ownsRow.alloc OWN.out _).alloc _) ⟨w2.heap.size + 1, 0, none⟩ 1 1 [.bool r, .int .i64 s, .int .i64 x, .int .i64 o, .int .i64 t, .bool d] rfl rfl (World.news_of_block (news2 _ _ _ _)) (one6 _ _ _ _ _ _) (by omega) (by unfold maxLen; omega) (by omega) (by simp; omega) (w2.heap.size + 1 + 1) (by simp) ?_; intro g' cap' w3 own3 hgrow hat hglt)
        have D3 := Dr.app (D.alloc _) hgrow (fun j hj => (OWN.out.lt j hj).1)
        have own4 := Lib.hid (jrow_more (L := ([] : List (Bool × Int × Int × Int × Int × Bool))) (by first | rfl | simp) own3)
        clear own3 hgrow hglt OWN
        go_wp2_with fail
        go_roundw
        case rel => exact ⟨j, _, by omega, by go_num, by simp; omega, own4.out, D3.mono (by omega)⟩
        case measure => simp [intOf]
      · have hll : (l ++ [(r', s', x', o', t', d')]).length = l.length + 1 := by simp
        rw [hll] at hLj
        obtain ⟨g2, cc, rfl, hg2, hg2', q0, q1, q2, q3, q5, f5⟩ := jrow_head own
        cases r'
        · have OWN := Lib.hid own
          have hnR : w2.heap.size ≠ R := by omega
          clear own q0 q1 q2 q3 q5 f5
          obtain ⟨-, -, q0, -, -, -, -, -⟩ := jrow_at (OWN.out.alloc (.cells #[.bool r, .int .i64 s, .int .i64 x, .int .i64 o, .int .i64 t, .bool d] 29))
          go_wp2_with fail
          refine (pick_any R _ 4 _ (D.alloc _).rd (by omega) (by omega) (by omega)).mono ?_
          rintro e w4 ⟨v, rfl, v0, v1, -, hg, hr⟩
          replace v1 := v1 (by omega)
          replace D := (D.alloc _).pick hg hr
          have own := (OWN.out.alloc _).pick hg hR
          have kx := (Blk.new _ _ _).grown hg (fun e => by injection e; omega)
          clear hg hr OWN q0
          generalize hnb : w2.heap.size = nb at *
          clear hnb
          by_cases hv : v = 0
          · subst hv
            obtain ⟨-, -, q0, q1, q2, q3, q5, f5⟩ := jrow_at own
            have b0 := Blk.get (i := 0) kx rfl
            have b1 := Blk.get (i := 1) kx rfl
            have b2 := Blk.get (i := 2) kx rfl
            have b3 := Blk.get (i := 3) kx rfl
            have y0 := Blk.frozen kx 0
            have y1 := Blk.frozen kx 1
            have y2 := Blk.frozen kx 2
            have y3 := Blk.frozen kx 3
            have hne : nb ≠ g2 := by omega
            have hob : (Value.slice (some ⟨g2, 0, none⟩) (l.length + 1) cc).ownBlock ≠ some nb := by simp [Value.ownBlock]; omega
            have D5 := (((D.set_ (p := ⟨nb, 0, none⟩) hsz (.bool false)).set_ (p := ⟨nb, 1, none⟩) hsz (.int .i64 s')).set_ (p := ⟨nb, 2, none⟩) hsz (.int .i64 x')).set_ (p := ⟨nb, 3, none⟩) hsz (.int .i64 o')
            have own5 := Lib.hid ((((own.far (p := ⟨nb, 0, none⟩) hob (.bool false)).far (p := ⟨nb, 1, none⟩) hob (.int .i64 s')).far (p := ⟨nb, 2, none⟩) hob (.int .i64 x')).far (p := ⟨nb, 3, none⟩) hob (.int .i64 o'))
            have kx5 := Lib.hid (Blk.put4 (x := .bool false) (y := .int .i64 s') (z := .int .i64 x') (u := .int .i64 o') kx)
            clear own kx D
            go_wp2_with fail
            refine (pick_any R _ 4 _ D5.rd (by omega) (by omega) (by omega)).mono ?_
            rintro e w6 ⟨v, rfl, v0, v1, -, hg, hr⟩
            replace v1 := v1 (by omega)
            have D := D5.pick hg hr
            have own := own5.out.pick hg hR
            have kx := kx5.out.grown hg (fun e => by injection e; omega)
            clear hg hr own5 kx5 D5 q0 q1 q2 q3 q5 f5 b0 b1 b2 b3 y0 y1 y2 y3
            obtain ⟨-, -, -, -, -, -, q5, f5⟩ := jrow_at own
            obtain ⟨bb, hbb⟩ : ∃ bb : Bool, decide (0 < v) = bb := ⟨_, rfl⟩
            have D7 := D.set_ (p := ⟨g2, l.length * 6 + 5, none⟩) hg2 (.bool bb)
            have own7 := jrow_tie own bb
            have kx7 := kx.ne (j := l.length * 6 + 5) hne (.bool bb)
            have HD := Lib.hid D7
            have HO := Lib.hid own7
            have HK := Lib.hid kx7
            clear D own kx D7 own7 kx7
            have hl1 : (l.length : Int) < (l.length : Int) + 1 := by omega
            go_upto_region 11 with fail
            have D := HD.out
            have own := HO.out
            have kx := HK.out
            clear HD HO HK q5 f5 hl1
            generalize w6.setCell ⟨g2, l.length * 6 + 5, none⟩ (.bool bb) = w7 at *
            have b0 := Blk.get (i := 0) kx rfl
            have b1 := Blk.get (i := 1) kx rfl
            have b2 := Blk.get (i := 2) kx rfl
            have b3 := Blk.get (i := 3) kx rfl
            have b4 := Blk.get (i := 4) kx rfl
            have b5 := Blk.get (i := 5) kx rfl
            have hbz := kx.lt
            have hsz7 := D.size
            clear kx hbb
            have OWN := Lib.hid (jrow_row own (show _ = l.length + 1 by first | rfl | simp))
            clear own
            go_wp2_with (at_builtin; refine wpList_append_lies _ rfl _ _ 35 rfl w.heap.size 29 i0 (.agg #[.bool false, .int .i64 0, .int .i64 0, .int .i64 0, .int .i64 0, .bool false]) 6 48 Try.underlying35 hi hz0 hz1 hz2 rfl (by omega) (.slice (some ⟨g2, 0, none⟩) (l.length + 1) cc) (l.length + 1) (rowL (nc (l ++ [(false, s', x', o', t', bb)])) ((l.length + 1) * 6)) rfl (World.ownsRow.alloc OWN.out _) ⟨w7.heap.size, 0, none⟩ 1 1 [.bool false, .int .i64 s', .int .i64 x', .int .i64 o', .int .i64 t, .bool d] rfl rfl (World.news_of_block (heap_alloc_new _ _)) (one6 _ _ _ _ _ _) (by omega) (by unfold maxLen; omega) (by omega) (by simp; omega) (w7.heap.size + 1) (by simp) ?_; intro g' cap' w3 own3 hgrow hat hglt)
            have D3 := Dr.app D hgrow (fun j hj => (OWN.out.lt j hj).1)
            have own4 := Lib.hid (jrow_more (L := (l ++ [(false, s', x', o', t', bb)])) (by first | rfl | simp) own3)
            clear own3 hgrow hglt OWN
            go_wp2_with fail
            go_roundw
            case rel => exact ⟨j, _, by omega, by go_num, by simp; omega, own4.out, D3.mono (by omega)⟩
            case measure => simp [intOf]
          · obtain ⟨-, -, q0, -, -, -, -, -⟩ := jrow_at own
            have b0 := Blk.get (i := 0) kx rfl
            have b1 := Blk.get (i := 1) kx rfl
            have b2 := Blk.get (i := 2) kx rfl
            have b3 := Blk.get (i := 3) kx rfl
            have b4 := Blk.get (i := 4) kx rfl
            have b5 := Blk.get (i := 5) kx rfl
            have hbz := kx.lt
            have hsz7 := D.size
            clear kx
            have OWN := Lib.hid (jrow_row own (show _ = l.length + 1 by first | rfl | simp))
            clear own
            go_wp2_with (at_builtin; refine wpList_append_lies _ rfl _ _ 35 rfl w.heap.size 29 i0 (.agg #[.bool false, .int .i64 0, .int .i64 0, .int .i64 0, .int .i64 0, .bool false]) 6 48 Try.underlying35 hi hz0 hz1 hz2 rfl (by omega) (.slice (some ⟨g2, 0, none⟩) (l.length + 1) cc) (l.length + 1) (rowL (nc (l ++ [(false, s', x', o', t', d')])) ((l.length + 1) * 6)) rfl (World.ownsRow.alloc OWN.out _) ⟨w4.heap.size, 0, none⟩ 1 1 [.bool r, .int .i64 s, .int .i64 x, .int .i64 o, .int .i64 t, .bool d] rfl rfl (World.news_of_block (heap_alloc_new _ _)) (one6 _ _ _ _ _ _) (by omega) (by unfold maxLen; omega) (by omega) (by simp; omega) (w4.heap.size + 1) (by simp) ?_; intro g' cap' w3 own3 hgrow hat hglt)
            have D3 := Dr.app D hgrow (fun j hj => (OWN.out.lt j hj).1)
            have own4 := Lib.hid (jrow_more (L := (l ++ [(false, s', x', o', t', d')])) (by first | rfl | simp) own3)
            clear own3 hgrow hglt OWN
            go_wp2_with fail
            go_roundw
            case rel => exact ⟨j, _, by omega, by go_num, by simp; omega, own4.out, D3.mono (by omega)⟩
            case measure => simp [intOf]
        · skip
          have OWN := Lib.hid (jrow_row own (show _ = l.length + 1 by first | rfl | simp))
          clear own
          go_wp2_with (at_builtin; refine wpList_append_lies _ rfl _ _ 35 rfl w.heap.size 29 i0 (.agg #[.bool false, .int .i64 0, .int .i64 0, .int .i64 0, .int .i64 0, .bool false]) 6 48 Try.underlying35 hi hz0 hz1 hz2 rfl (by omega) (.slice (some ⟨g2, 0, none⟩) (l.length + 1) cc) (l.length + 1) (rowL (nc (l ++ [(true, s', x', o', t', d')])) ((l.length + 1) * 6)) rfl ((World.ownsRow.alloc OWN.out _).alloc _) ⟨w2.heap.size + 1, 0, none⟩ 1 1 [.bool r, .int .i64 s, .int .i64 x, .int .i64 o, .int .i64 t, .bool d] rfl rfl (World.news_of_block (news2 _ _ _ _)) (one6 _ _ _ _ _ _) (by omega) (by unfold maxLen; omega) (by omega) (by simp; omega) (w2.heap.size + 1 + 1) (by simp) ?_; intro g' cap' w3 own3 hgrow hat hglt)
          have D3 := Dr.app (D.alloc _) hgrow (fun j hj => (OWN.out.lt j hj).1)
          have own4 := Lib.hid (jrow_more (L := (l ++ [(true, s', x', o', t', d')])) (by first | rfl | simp) own3)
          clear own3 hgrow hglt OWN
          go_wp2_with fail
          go_roundw
          case rel => exact ⟨j, _, by omega, by go_num, by simp; omega, own4.out, D3.mono (by omega)⟩
          case measure => simp [intOf]

end Go.Proofs.Ytmkkhbplfedpoaa
