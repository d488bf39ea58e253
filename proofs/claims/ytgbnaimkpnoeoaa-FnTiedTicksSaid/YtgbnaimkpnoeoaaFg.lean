/- The walk of the reference's table of fewest values. Conditions: as stated. -/
import Derived.Test.YtgbnaimkpnoeoaaFw
import Derived.Laws.OwnMore
namespace Go.Proofs.Ytgbnaimkpnoeoaa
open Go.RowKit

/-- A row of whole numbers of the call's own. -/
def IRow (w wr : World) (v : Value) (L : List Int) : Prop := wr.ownsRow w.heap.size 3 1 v L.length (L.map (Value.int .i64))
theorem IRow.pure {w w1 w2 : World} {v : Value} {L : List Int} (h : IRow w w1 v L) (hb : Below w1.heap.size w1 w2) : IRow w w2 v L := row_pure h hb
theorem IRow.alloc {w w1 : World} {v : Value} {L : List Int} (h : IRow w w1 v L) (o : Obj) : IRow w (w1.alloc o) v L := World.ownsRow.alloc h o
theorem IRow.drewN {w w1 : World} {v : Value} {L : List Int} (h : IRow w w1 v L) (n : Nat) : IRow w (w1.drewN n) v L := h
theorem irow_row {w w1 : World} {v : Value} {L : List Int} {k : Nat} (h : IRow w w1 v L) (hk : L.length = k) : w1.ownsRow w.heap.size 3 1 v k (L.map (Value.int .i64)) := by
  subst hk
  exact h
theorem irow_more {w w3 : World} {v : Value} {L : List Int} {k : Nat} {x : Int} (hk : L.length = k) (h : w3.ownsRow w.heap.size 3 1 v (k + 1) (L.map (Value.int .i64) ++ [.int .i64 x])) : IRow w w3 v (L ++ [x]) := by
  subst hk
  unfold IRow
  rw [List.length_append, List.length_singleton, List.map_append]
  exact h
theorem irow_shape {w wr : World} {v : Value} {L : List Int} (h : IRow w wr v L) : ∃ a c, v = .slice a L.length c := by
  rcases h.2 with ⟨h1, h2⟩ | ⟨g, cap, cur, h1, -⟩
  · exact ⟨none, 0, by rw [h1, h2]⟩
  · exact ⟨_, _, h1⟩
theorem one1 (x : Int) : ∀ u ∈ [Value.int .i64 x], u.oneCell' = true := by
  intro u hu
  simp only [List.mem_cons, List.not_mem_nil, or_false] at hu
  subst hu
  rfl
/-- The whole numbers of a list by place. -/
def lg (L : List Int) (i : Nat) : Int := L.getD i 0
theorem lg_get {L : List Int} {i : Nat} {x : Int} (h : L[i]? = some x) : lg L i = x := by
  unfold lg
  rw [List.getD_eq_getElem?_getD, h]
  rfl
theorem map_rowL (L : List Int) : L.map (Value.int .i64) = rowL (ic (lg L)) (L.length * 1) := by
  refine List.ext_getElem? fun i => ?_
  by_cases h : i < L.length
  · rw [rowL_get (by omega), List.getElem?_map]
    obtain ⟨x, hx⟩ : ∃ x, L[i]? = some x := ⟨L[i], List.getElem?_eq_getElem h⟩
    unfold ic
    rw [hx, lg_get hx]
    rfl
  · rw [List.getElem?_eq_none (by simpa using h), List.getElem?_eq_none (by rw [rowL_len]; omega)]
/-- A slice of whole numbers that the call made. -/
def IntsPost (w : World) (L : List Int) (e : Ending) (w' : World) : Prop :=
  ∃ a cap, e = .returned (.slice a L.length cap) ∧ Below w.heap.size w w' ∧ Owns w' w.heap.size a L.length (ic (lg L)) ∧ L.length ≤ cap ∧ cap ≤ maxLen
theorem intsPost_mk {w w' : World} {L : List Int} {v : Value} (hB : Below w.heap.size w w') (h : IRow w w' v L) : IntsPost w L (.returned v) w' := by
  unfold IRow at h
  rw [map_rowL] at h
  obtain ⟨a, cap, rfl, h1, h2, h3⟩ := owns_of_row h
  rw [Nat.mul_one] at h3
  exact ⟨a, cap, rfl, hB, h3, h1, h2⟩
theorem intsPost_nil (w w' : World) (a : Option Addr) (cap : Nat) (hB : Below w.heap.size w w') (hc : cap ≤ maxLen) : IntsPost w [] (.returned (.slice a 0 cap)) w' :=
  ⟨a, cap, rfl, hB, Owns.none _ _ _ _, Nat.zero_le _, hc⟩
/-- A place of the row. -/
theorem irow_tab {w wr : World} {v : Value} {c : Nat → Int} {n : Nat} (h : IRow w wr v ((List.range (n + 1)).map c)) : ∃ g cap, v = .slice (some ⟨g, 0, none⟩) (n + 1) cap ∧ w.heap.size ≤ g ∧ g < wr.heap.size ∧ Tab wr g (n + 1) c ∧ cap ≤ maxLen := by
  have h' := irow_row h (k := n + 1) (by simp)
  rcases h'.2 with ⟨_, h0⟩ | ⟨g, cap, cur, rfl, hb, hg, hn, hm, hs, ht⟩
  · omega
  · refine ⟨g, cap, rfl, hb, (Array.getElem?_eq_some_iff.1 hg).1, fun i hi => ⟨?_, h'.frozenAt i⟩, hm⟩
    rw [h'.cellAt i (by omega)]
    simp [hi]
theorem range_snoc (c : Nat → Int) (n : Nat) : (List.range (n + 1)).map c ++ [c (n + 1)] = (List.range (n + 1 + 1)).map c := by
  rw [List.range_succ (n := n + 1), List.map_append]
  rfl

/-- The list of all values, at a place. -/
def VAt (w : World) (g off : Nat) : Prop := ∀ i, i < 30 * 3 → w.cell? ⟨g, off + i, none⟩ = some (ic vI i)
theorem VAt.pure {w w' : World} {g off : Nat} (h : VAt w g off) (hb : Below w.heap.size w w') : VAt w' g off := fun i hi => (hb.cell (p := ⟨g, off + i, none⟩) (cell_lt (h i hi))).trans (h i hi)
theorem VAt.alloc {w : World} {g off : Nat} (h : VAt w g off) (o : Obj) : VAt (w.alloc o) g off := h.pure ((Below.refl _ _).alloc (Nat.le_refl _) o)
theorem VAt.grown {w w' : World} {g off : Nat} {row : Option Nat} (h : VAt w g off) (hg : w.grownBy w' row) (hne : row ≠ some g) : VAt w' g off := fun i hi => hg.cell (h i hi) (fun e => hne e.symm)
theorem VAt.lt {w : World} {g off : Nat} (h : VAt w g off) : g < w.heap.size := cell_lt (h 0 (by omega))

/-- A round of the inner loop that changes nothing, or finds less. -/
theorem gx_no {n q : Nat} (hn : n ≤ 1000) (hq : q < 30) (h : ¬ (tn q ≤ n ∧ 0 ≤ Gw (n - tn q) ∧ (gx n q < 0 ∨ Gw (n - tn q) + 1 < gx n q))) : gx n (q + 1) = gx n q := by rw [gx_step hn hq, if_neg h]
theorem gx_yes {n q : Nat} (hn : n ≤ 1000) (hq : q < 30) (h : tn q ≤ n ∧ 0 ≤ Gw (n - tn q) ∧ (gx n q < 0 ∨ Gw (n - tn q) + 1 < gx n q)) : gx n (q + 1) = Gw (n - tn q) + 1 := by rw [gx_step hn hq, if_pos h]
theorem Gw_bd (n : Nat) : -1 ≤ Gw n ∧ Gw n ≤ 768 := by
  have := Fw_ge n
  by_cases h : Fw n ≤ 768
  · rw [Gw_t h]
    omega
  · rw [Gw_f h]
    omega
theorem gx_bd (n q : Nat) : -1 ≤ gx n q ∧ gx n q ≤ 768 := by
  have := fstep_bd (L := Fw) (fun i => (Fw_ge i).1) n q
  unfold gx
  split <;> omega

/-- A table that the call made, with room. -/
def TabPost' (w : World) (n : Nat) (c : Nat → Int) (e : Ending) (w' : World) : Prop :=
  ∃ g cap, e = .returned (.slice (some ⟨g, 0, none⟩) (n + 1) cap) ∧ Below w.heap.size w w' ∧ w.heap.size ≤ g ∧ Tab w' g (n + 1) c ∧ cap ≤ maxLen

/-- The reference's table as a list. -/
def gl (m : Nat) : List Int := (List.range (m + 1)).map Gw
theorem gl_len (m : Nat) : (gl m).length = m + 1 := by simp [gl]
theorem gl_more (m : Nat) : gl m ++ [Gw (m + 1)] = gl (m + 1) := range_snoc Gw m

set_option maxHeartbeats 8000000 in
theorem l4Fewest_any (n : Nat) (w : World) (h1 : 1 ≤ n) (h2 : n ≤ 768) :
    Calls Try.prog 37 #[.int .i64 (n : Int)] w (TabPost' w n Gw) := by
  obtain ⟨i0, hi, hz0, hz1, hz2⟩ := info_parts infoI
  go_enter Try.func37, Try.ntmps37
  go_wp2_with fail
  refine (l4Values_any _).mono ?_
  rintro e w1 ⟨x, cx, rfl, hb, O, l1, l2⟩
  have own0 : IRow w (w.alloc (.cells #[.int .i64 0] 3)) (.slice (some ⟨w.heap.size, 0, none⟩) 1 1) (gl 0) := World.ownsRow_lit (base := w.heap.size) w #[.int .i64 0] 1 (Nat.le_refl _) (by unfold maxLen; omega) rfl
  have own1 := own0.pure hb
  have hB1 := below_pure (w := w) (by go_grown) hb
  obtain ⟨g, off, rfl, hg0, hc0⟩ := O (by omega)
  have S0 : VAt w1 g off := fun i hi => (hc0 i hi).1
  have hgw : w.heap.size < g := by simp at hg0; omega
  unfold maxLen at l2
  clear hb O own0 hc0 hg0
  go_wp2_with fail
  go_loopw [3, 5] (fun v i wr => ∃ m : Nat, m ≤ n ∧ i = .int .i64 ((m : Int) + 1) ∧ IRow w wr v (gl m) ∧ v.ownBlock ≠ some g ∧ VAt wr g off ∧ Below w.heap.size w wr) (fun _ i _ => n + 1 - (intOf i).toNat)
  case atStart => exact ⟨0, Nat.zero_le _, rfl, own1, by simp [Value.ownBlock]; omega, S0, hB1⟩
  case round =>
    clear own1 S0 hB1
    obtain ⟨m, hm, rfl, own, hne, S0, hB⟩ := hrel
    have hsz := hB.size
    by_cases hlt : m < n
    · obtain ⟨g2, cc, rfl, hg2, hg2', TT0, hcm⟩ := irow_tab own
      have hng : g2 ≠ g := fun e => hne (by simp [Value.ownBlock, e])
      have hmn : (m : Int) + 1 ≤ (n : Int) := by omega
      have OWN := Lib.hid own
      have HB := Lib.hid hB
      clear own hB TT0 hne
      go_wp2_with fail
      go_loopw [6, 7] (fun xv kv wr => ∃ q : Nat, q ≤ 30 ∧ kv = .int .i64 (q : Int) ∧ xv = .int .i64 (gx (m + 1) q) ∧ IRow w wr (.slice (some ⟨g2, 0, none⟩) (m + 1) cc) (gl m) ∧ VAt wr g off ∧ Below w.heap.size w wr) (fun _ kv _ => 30 - (intOf kv).toNat)
      case atStart => exact ⟨0, by omega, rfl, by rw [gx_zero], OWN.out, S0, HB.out⟩
      case round =>
        clear OWN S0 HB hg2' hsz
        obtain ⟨q, hq, rfl, rfl, own, S0, hB⟩ := hrel
        have hsz := hB.size
        by_cases hlq : q < 30
        · obtain ⟨c0, c1, c2⟩ := v_at S0 hlq
          have SH := Lib.hid S0
          clear S0
          have zl := cell_lt c0
          have htn := tn_bd hlq
          have HT : ∀ W, Calls Try.prog 34 #[.agg #[.int .i64 (vB q), .int .i64 (vD q), .int .i64 (vT q)]] W (Gives (.int .i64 ((tn q : Nat) : Int)) W) := fun W => by
            have h := l4Ticks_any (vB q) (vD q) (vT q) (valB_q hlq) W
            rw [htn.2.2]
            exact h
          replace HT := Lib.hid HT
          obtain ⟨tb1, tb2, -⟩ := htn
          have xb := gx_bd (m + 1) q
          have OWN := Lib.hid own
          have HB := Lib.hid hB
          have hno := Lib.hid (gx_no (n := m + 1) (q := q) (by omega) hlq)
          have hyes := Lib.hid (gx_yes (n := m + 1) (q := q) (by omega) hlq)
          clear own hB
          go_wp2_with fail
          refine (HT.out _).mono ?_
          rintro e w2 ⟨rfl, hb⟩
          have own := OWN.out.pure hb
          have S1 := Lib.hid (SH.out.pure hb)
          have hB := below_pure HB.out hb
          clear hb c0 c1 c2 SH hsz zl HT OWN HB
          obtain ⟨g2', cc', hv, -, hlt2, T, -⟩ := irow_tab own
          obtain ⟨rfl, rfl⟩ : g2 = g2' ∧ cc = cc' := by
            injection hv with e1 e2 e3
            injection e1 with e4
            injection e4 with e5
            exact ⟨e5, e3⟩
          clear hv
          have OWN := Lib.hid own
          have HB := Lib.hid hB
          clear own hB
          by_cases ht : tn q ≤ m + 1
          · obtain ⟨j, hj⟩ : ∃ j, j = m + 1 - tn q := ⟨_, rfl⟩
            have hjm : (m : Int) + 1 - (tn q : Int) = (j : Int) := by omega
            have hj0 : (0 : Int) ≤ (j : Int) := by omega
            have hj1 : (j : Int) < (m : Int) + 1 := by omega
            obtain ⟨a2, -⟩ := T j (by omega)
            have gb := Gw_bd j
            rw [← hj] at hno hyes
            clear T hj
            generalize hG : Gw j = G at *
            generalize hX : gx (m + 1) q = X at *
            clear hG
            by_cases hg : 0 ≤ G
            · by_cases hx : X < 0
              · have hr := Lib.hid (hyes.out ⟨ht, hg, .inl hx⟩)
                clear hno hyes hX
                go_wp2_with fail
                go_roundw
                case rel => exact ⟨q + 1, by omega, by go_num, by rw [hr.out], OWN.out, S1.out, HB.out⟩
                case measure => simp [intOf]; omega
              · by_cases hl : G + 1 < X
                · have hr := Lib.hid (hyes.out ⟨ht, hg, .inr hl⟩)
                  clear hno hyes hX
                  go_wp2_with fail
                  go_roundw
                  case rel => exact ⟨q + 1, by omega, by go_num, by rw [hr.out], OWN.out, S1.out, HB.out⟩
                  case measure => simp [intOf]; omega
                · have hr := Lib.hid ((hno.out (fun hh => by rcases hh.2.2 with h | h; exact hx h; exact hl h)))
                  have hXX := Lib.hid hX
                  clear hno hyes hX
                  go_wp2_with fail
                  go_roundw
                  case rel => exact ⟨q + 1, by omega, by go_num, by rw [hr.out], OWN.out, S1.out, HB.out⟩
                  case measure => simp [intOf]; omega
            · have hr := Lib.hid ((hno.out (fun hh => hg hh.2.1)))
              clear hno hyes hX
              go_wp2_with fail
              go_roundw
              case rel => exact ⟨q + 1, by omega, by go_num, by rw [hr.out], OWN.out, S1.out, HB.out⟩
              case measure => simp [intOf]; omega
          · have hr := Lib.hid ((hno.out (fun hh => ht hh.1)))
            have hjn : ¬ (0 : Int) ≤ (m : Int) + 1 - (tn q : Int) := by omega
            clear hno hyes T
            go_wp2_with fail
            go_roundw
            case rel => exact ⟨q + 1, by omega, by go_num, by rw [hr.out], OWN.out, S1.out, HB.out⟩
            case measure => simp [intOf]; omega
        · obtain rfl : q = 30 := by omega
          rw [gx_all (by omega)]
          have OWN := Lib.hid (irow_row own (gl_len m))
          have HB := Lib.hid hB
          clear own hB
          generalize hG : Gw (m + 1) = G at *
          have HG := Lib.hid hG
          clear hG
          go_wp2_with (at_builtin; refine wpList_append_lies _ rfl _ _ 34 rfl w.heap.size 3 i0 (.int .i64 0) 1 8 Try.underlying34 hi hz0 hz1 hz2 rfl (by omega) (.slice (some ⟨g2, 0, none⟩) (m + 1) cc) (m + 1) ((gl m).map (Value.int .i64)) rfl (World.ownsRow.alloc OWN.out _) ⟨wr.heap.size, 0, none⟩ 1 1 [.int .i64 G] rfl rfl (World.news_of_block (heap_alloc_new _ _)) (one1 _) (by omega) (by unfold maxLen; omega) (by omega) (by simp; omega) (wr.heap.size + 1) (by simp) ?_; intro g' cap' w3 own3 hgrow hat hglt)
          have hB3 := below_append (show Below w.heap.size w wr from HB.out) (by omega) hgrow (fun j hj => (OWN.out.lt j hj).1)
          have own4 := irow_more (gl_len m) own3
          rw [← HG.out, gl_more] at own4
          replace own4 := Lib.hid own4
          have hgl := S0.lt
          have S3 := Lib.hid ((S0.alloc _).grown hgrow (by simp [Value.ownBlock]; exact hng))
          have hne3 : g' ≠ g := by
            rcases hat with h | h
            · simp [Value.ownBlock] at h
              omega
            · omega
          clear own3 hgrow hglt hat OWN HG HB S0
          go_wp2_with fail
          go_roundw
          case rel => exact ⟨m + 1, by omega, by go_num, own4.out, by simp [Value.ownBlock]; exact hne3, S3.out, hB3⟩
          case measure => simp [intOf]; omega
    · obtain rfl : m = n := by omega
      obtain ⟨g2, cc, rfl, hg2, hg2', T, hcm⟩ := irow_tab own
      have HT := Lib.hid T
      clear own T
      go_wp2
      go_ret
      exact ⟨_, _, rfl, hB, hg2, HT.out, hcm⟩

end Go.Proofs.Ytgbnaimkpnoeoaa
