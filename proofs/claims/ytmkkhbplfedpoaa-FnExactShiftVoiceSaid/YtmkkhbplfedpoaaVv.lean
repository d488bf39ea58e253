/- The walks of VoiceValid, of the program and of the reference: both tell the same plain test. Conditions: the notes lie in memory as a slice of notes does. -/
import Derived.Test.YtmkkhbplfedpoaaNo
import Derived.Deep.QuietTactic
import Derived.BigQuiet
import Derived.Lib.QuietBelow
namespace Go.Proofs.Ytmkkhbplfedpoaa
open Go.RowKit Go.Sort Go.BigFrame

theorem beq_false {a b : Int} (h : ¬ a = b) : (a == b) = false := by simpa using h
/-- Note k of a voice is in order. -/
def okB (xs : List (Bool × Int × Int × Int × Int × Bool)) (k : Nat) : Bool :=
  match xs[k]? with
  | some (r, s, a, o, t, d) => noteB r s a o t d && (!d || (match xs[k + 1]? with
    | some (r', s', a', o', _, _) => !r' && (s' == s) && (a' == a) && (o' == o)
    | none => false))
  | none => true
def vvB (xs : List (Bool × Int × Int × Int × Int × Bool)) : Bool := decide (xs.length ≤ 60) && (List.range xs.length).all (okB xs)
theorem vv_t {xs : List (Bool × Int × Int × Int × Int × Bool)} (h : ∀ j, j < xs.length → okB xs j = true) (hl : xs.length ≤ 60) : vvB xs = true := by
  unfold vvB
  rw [decide_eq_true hl, Bool.true_and, List.all_eq_true]
  exact fun j hj => h j (by simpa using hj)
theorem vv_f {xs : List (Bool × Int × Int × Int × Int × Bool)} {k : Nat} (h : okB xs k = false) (hk : k < xs.length) : vvB xs = false := by
  cases hv : vvB xs
  · rfl
  · unfold vvB at hv
    rw [Bool.and_eq_true, List.all_eq_true] at hv
    have := hv.2 k (by simpa using hk)
    rw [h] at this
    cases this
theorem vv_long {xs : List (Bool × Int × Int × Int × Int × Bool)} (h : 60 < xs.length) : vvB xs = false := by
  unfold vvB
  rw [decide_eq_false (by omega)]
  rfl
theorem vv_all {xs : List (Bool × Int × Int × Int × Int × Bool)} (h : vvB xs = true) : xs.length ≤ 60 ∧ ∀ j, j < xs.length → okB xs j = true := by
  unfold vvB at h
  rw [Bool.and_eq_true, List.all_eq_true] at h
  exact ⟨by simpa using h.1, fun j hj => h.2 j (by simpa using hj)⟩
theorem ok_note {xs : List (Bool × Int × Int × Int × Int × Bool)} {k : Nat} {r : Bool} {s a o t : Int} {d : Bool} (h : xs[k]? = some (r, s, a, o, t, d)) (hn : noteB r s a o t d = false) : okB xs k = false := by
  unfold okB
  rw [h]
  show (noteB r s a o t d && _) = false
  rw [hn]
  rfl
theorem ok_free {xs : List (Bool × Int × Int × Int × Int × Bool)} {k : Nat} {r : Bool} {s a o t : Int} (h : xs[k]? = some (r, s, a, o, t, false)) (hn : noteB r s a o t false = true) : okB xs k = true := by
  unfold okB
  rw [h]
  show (noteB r s a o t false && _) = true
  rw [hn]
  rfl
theorem ok_last {xs : List (Bool × Int × Int × Int × Int × Bool)} {k : Nat} {r : Bool} {s a o t : Int} (h : xs[k]? = some (r, s, a, o, t, true)) (hn : noteB r s a o t true = true) (hl : xs[k + 1]? = none) : okB xs k = false := by
  unfold okB
  rw [h]
  show (noteB r s a o t true && _) = false
  rw [hn, hl]
  rfl
theorem ok_next {xs : List (Bool × Int × Int × Int × Int × Bool)} {k : Nat} {r : Bool} {s a o t : Int} {r' : Bool} {s' a' o' t' : Int} {d' : Bool} (h : xs[k]? = some (r, s, a, o, t, true)) (hn : noteB r s a o t true = true) (hl : xs[k + 1]? = some (r', s', a', o', t', d')) :
    okB xs k = (!r' && (s' == s) && (a' == a) && (o' == o)) := by
  unfold okB
  rw [h]
  show (noteB r s a o t true && _) = _
  rw [hn, hl]
  rfl

set_option maxHeartbeats 8000000 in
set_option maxRecDepth 100000 in
theorem voiceValid_any (a : Option Addr) (n cap : Nat) (xs : List (Bool × Int × Int × Int × Int × Bool)) (w : World) (hx : xs.length = n) (h : Voice w a xs) (hn : n ≤ 10000000) :
    Calls Try.prog 23 #[.slice a n cap] w (Gives (.bool (vvB xs)) w) := by
  unfold Voice at h
  rw [hx] at h
  by_cases hlong : 60 < n
  · have HV := Lib.hid (vv_long (xs := xs) (by omega))
    clear h
    go_enter Try.func23, Try.ntmps23
    go_wp2
    go_ret
    exact ⟨by rw [HV.out]; rfl, by go_grown⟩
  have HX := Lib.hid hx
  have HS := Lib.hid h
  clear h hx
  go_enter Try.func23, Try.ntmps23
  go_wp2_with fail
  go_loopw [10] (fun i wr => ∃ k : Nat, k ≤ n ∧ i = .int .i64 k ∧ Hid (∀ j, j < k → okB xs j = true) ∧ Below w.heap.size w wr) (fun i _ => n - (intOf i).toNat)
  case atStart => exact ⟨0, Nat.zero_le _, rfl, Lib.hid (fun j hj => absurd hj (Nat.not_lt_zero _)), Below.refl _ _⟩
  case round =>
    obtain ⟨k, hk, rfl, HO, hB⟩ := hrel
    have hsz := hB.size
    by_cases hlt : k < n
    · obtain ⟨⟨r, s, x, o, t, d⟩, hxk⟩ := nth (xs := xs) (k := k) (by have := HX.out; omega)
      obtain ⟨g, off, rfl, hc⟩ := (HS.out.pure hB) (by omega)
      obtain ⟨c0, c1, c2, c3, c4, c5⟩ := at6 hc hlt hxk
      have HC := Lib.hid hc
      clear hc
      have l0 := cell_lt c0
      have hi0 : (0 : Int) ≤ (k : Int) := by omega
      have hi1 : (k : Int) < (n : Int) := by omega
      have hw1 : IntKind.i64.wrap ((k : Int) + 1) = (k : Int) + 1 := IntWalk.i64_in _ (by omega)
      have hwt : ((k : Int) + 1).toNat = k + 1 := by omega
      have HXK := Lib.hid hxk
      have HN := fun W => noteValid_any r s x o t d W
      clear hxk
      go_upto_region 6 with fail
      go_cut [47] (fun v wc => v = .bool (!okB xs k) ∧ Below w.heap.size w wc)
      case first =>
        have k0 : Blk (wr.alloc (.cells #[.bool r, .int .i64 s, .int .i64 x, .int .i64 o, .int .i64 t, .bool d] 29)) wr.heap.size 29 #[.bool r, .int .i64 s, .int .i64 x, .int .i64 o, .int .i64 t, .bool d] := Blk.new _ _ _
        have hB1 : Below w.heap.size w (wr.alloc (.cells #[.bool r, .int .i64 s, .int .i64 x, .int .i64 o, .int .i64 t, .bool d] 29)) := by go_grown
        have hc1 : ∀ i, i < n * 6 → (wr.alloc (.cells #[.bool r, .int .i64 s, .int .i64 x, .int .i64 o, .int .i64 t, .bool d] 29)).cell? ⟨g, off + i, none⟩ = some (nc xs i) := fun i hi => cell_alloc _ l0 (HC.out i hi)
        clear c0 c1 c2 c3 c4 c5 hB HC
        generalize wr.alloc (.cells #[.bool r, .int .i64 s, .int .i64 x, .int .i64 o, .int .i64 t, .bool d] 29) = u at *
        have e0 := Blk.get (i := 0) k0 rfl
        have e1 := Blk.get (i := 1) k0 rfl
        have e2 := Blk.get (i := 2) k0 rfl
        have e3 := Blk.get (i := 3) k0 rfl
        have e4 := Blk.get (i := 4) k0 rfl
        have e5 := Blk.get (i := 5) k0 rfl
        have HK := Lib.hid k0
        have HC1 := Lib.hid hc1
        clear k0 hc1
        cases hnb : noteB r s x o t d
        · have HOK := Lib.hid (ok_note HXK.out hnb)
          rw [hnb] at HN
          clear hnb
          have cN : ∀ dd os, Calls Try.prog 19 #[.agg #[.bool r, .int .i64 s, .int .i64 x, .int .i64 o, .int .i64 t, .bool d]] (grow (redrawn u dd) os) fun e w'' => e = .returned (.bool false) ∧ ∃ p : Regrown, w'' = grow (redrawn u p.d) p.os := fun dd os => Calls.regrown_of (HN _)
          have ke0 := cell_regrown e0
          have ke1 := cell_regrown e1
          have ke2 := cell_regrown e2
          have ke3 := cell_regrown e3
          have ke4 := cell_regrown e4
          have ke5 := cell_regrown e5
          have HBu := Lib.hid hB1
          clear HN hB1 e0 e1 e2 e3 e4 e5
          refine wp_region_quiet_below (by kernel_rfl) (by kernel_rfl) ?_
          repeat (go_big_quiet_step ((go_at_call 19; exact cN _ _)))
          refine wpQuiet_nil ?_
          intro _ hw'
          obtain ⟨⟨dq, osq⟩, hw''⟩ := hw'
          subst hw''
          go_wp2_with fail
          go_meet
          exact ⟨by rw [HOK.out]; rfl, below_pure HBu.out (below_regrown u dq osq)⟩
        rw [hnb] at HN
        cases d
        · have HOK := Lib.hid (ok_free HXK.out hnb)
          clear hnb
          have cN : ∀ dd os, Calls Try.prog 19 #[.agg #[.bool r, .int .i64 s, .int .i64 x, .int .i64 o, .int .i64 t, .bool false]] (grow (redrawn u dd) os) fun e w'' => e = .returned (.bool true) ∧ ∃ p : Regrown, w'' = grow (redrawn u p.d) p.os := fun dd os => Calls.regrown_of (HN _)
          have ke0 := cell_regrown e0
          have ke1 := cell_regrown e1
          have ke2 := cell_regrown e2
          have ke3 := cell_regrown e3
          have ke4 := cell_regrown e4
          have ke5 := cell_regrown e5
          have HBu := Lib.hid hB1
          clear HN hB1 e0 e1 e2 e3 e4 e5
          refine wp_region_quiet_below (by kernel_rfl) (by kernel_rfl) ?_
          repeat (go_big_quiet_step ((go_at_call 19; exact cN _ _)))
          refine wpQuiet_nil ?_
          intro _ hw'
          obtain ⟨⟨dq, osq⟩, hw''⟩ := hw'
          subst hw''
          go_wp2_with fail
          go_meet
          exact ⟨by rw [HOK.out]; rfl, below_pure HBu.out (below_regrown u dq osq)⟩
        by_cases hl : k + 1 < n
        · obtain ⟨⟨r', s', x', o', t', d'⟩, hxl⟩ := nth (xs := xs) (k := k + 1) (by have := HX.out; omega)
          obtain ⟨g0, g1, g2, g3, -, -⟩ := at6 HC1.out hl hxl
          have hok := ok_next HXK.out hnb hxl
          have hle : ((k : Int) + 1 == (n : Int)) = false := by simp; omega
          have hj0 : (0 : Int) ≤ (k : Int) + 1 := by omega
          have hj1 : (k : Int) + 1 < (n : Int) := by omega
          clear hnb hxl
          cases r'
          · by_cases h1 : s' = s
            · by_cases h2 : x' = x
              · by_cases h3 : o' = o
                · have HOK := Lib.hid (show okB xs k = true by rw [hok, h1, h2, h3]; simp)
                  obtain rfl : s = s' := h1.symm
                  obtain rfl : x = x' := h2.symm
                  obtain rfl : o = o' := h3.symm
                  clear hok h1 h2 h3
                  have cN : ∀ dd os, Calls Try.prog 19 #[.agg #[.bool r, .int .i64 s, .int .i64 x, .int .i64 o, .int .i64 t, .bool true]] (grow (redrawn u dd) os) fun e w'' => e = .returned (.bool true) ∧ ∃ p : Regrown, w'' = grow (redrawn u p.d) p.os := fun dd os => Calls.regrown_of (HN _)
                  have ke0 := cell_regrown e0
                  have ke1 := cell_regrown e1
                  have ke2 := cell_regrown e2
                  have ke3 := cell_regrown e3
                  have ke4 := cell_regrown e4
                  have ke5 := cell_regrown e5
                  have kg0 := cell_regrown g0
                  have kg1 := cell_regrown g1
                  have kg2 := cell_regrown g2
                  have kg3 := cell_regrown g3
                  have HBu := Lib.hid hB1
                  clear HN hB1 e0 e1 e2 e3 e4 e5 g0 g1 g2 g3
                  refine wp_region_quiet_below (by kernel_rfl) (by kernel_rfl) ?_
                  repeat (go_big_quiet_step ((go_at_call 19; exact cN _ _)))
                  refine wpQuiet_nil ?_
                  intro _ hw'
                  obtain ⟨⟨dq, osq⟩, hw''⟩ := hw'
                  subst hw''
                  go_wp2_with fail
                  go_meet
                  exact ⟨by rw [HOK.out]; rfl, below_pure HBu.out (below_regrown u dq osq)⟩
                · have HOK := Lib.hid (show okB xs k = false by rw [hok, beq_false h3]; simp)
                  have b3 := beq_false h3
                  obtain rfl : s = s' := h1.symm
                  obtain rfl : x = x' := h2.symm
                  clear hok h1 h2
                  have cN : ∀ dd os, Calls Try.prog 19 #[.agg #[.bool r, .int .i64 s, .int .i64 x, .int .i64 o, .int .i64 t, .bool true]] (grow (redrawn u dd) os) fun e w'' => e = .returned (.bool true) ∧ ∃ p : Regrown, w'' = grow (redrawn u p.d) p.os := fun dd os => Calls.regrown_of (HN _)
                  have ke0 := cell_regrown e0
                  have ke1 := cell_regrown e1
                  have ke2 := cell_regrown e2
                  have ke3 := cell_regrown e3
                  have ke4 := cell_regrown e4
                  have ke5 := cell_regrown e5
                  have kg0 := cell_regrown g0
                  have kg1 := cell_regrown g1
                  have kg2 := cell_regrown g2
                  have kg3 := cell_regrown g3
                  have HBu := Lib.hid hB1
                  clear HN hB1 e0 e1 e2 e3 e4 e5 g0 g1 g2 g3
                  refine wp_region_quiet_below (by kernel_rfl) (by kernel_rfl) ?_
                  repeat (go_big_quiet_step ((go_at_call 19; exact cN _ _)))
                  refine wpQuiet_nil ?_
                  intro _ hw'
                  obtain ⟨⟨dq, osq⟩, hw''⟩ := hw'
                  subst hw''
                  go_wp2_with fail
                  go_meet
                  exact ⟨by rw [HOK.out]; rfl, below_pure HBu.out (below_regrown u dq osq)⟩
              · have HOK := Lib.hid (show okB xs k = false by rw [hok, beq_false h2]; simp)
                have b2 := beq_false h2
                obtain rfl : s = s' := h1.symm
                clear hok h1
                have cN : ∀ dd os, Calls Try.prog 19 #[.agg #[.bool r, .int .i64 s, .int .i64 x, .int .i64 o, .int .i64 t, .bool true]] (grow (redrawn u dd) os) fun e w'' => e = .returned (.bool true) ∧ ∃ p : Regrown, w'' = grow (redrawn u p.d) p.os := fun dd os => Calls.regrown_of (HN _)
                have ke0 := cell_regrown e0
                have ke1 := cell_regrown e1
                have ke2 := cell_regrown e2
                have ke3 := cell_regrown e3
                have ke4 := cell_regrown e4
                have ke5 := cell_regrown e5
                have kg0 := cell_regrown g0
                have kg1 := cell_regrown g1
                have kg2 := cell_regrown g2
                have kg3 := cell_regrown g3
                have HBu := Lib.hid hB1
                clear HN hB1 e0 e1 e2 e3 e4 e5 g0 g1 g2 g3
                refine wp_region_quiet_below (by kernel_rfl) (by kernel_rfl) ?_
                repeat (go_big_quiet_step ((go_at_call 19; exact cN _ _)))
                refine wpQuiet_nil ?_
                intro _ hw'
                obtain ⟨⟨dq, osq⟩, hw''⟩ := hw'
                subst hw''
                go_wp2_with fail
                go_meet
                exact ⟨by rw [HOK.out]; rfl, below_pure HBu.out (below_regrown u dq osq)⟩
            · have HOK := Lib.hid (show okB xs k = false by rw [hok, beq_false h1]; simp)
              have b1 := beq_false h1
              clear hok
              have cN : ∀ dd os, Calls Try.prog 19 #[.agg #[.bool r, .int .i64 s, .int .i64 x, .int .i64 o, .int .i64 t, .bool true]] (grow (redrawn u dd) os) fun e w'' => e = .returned (.bool true) ∧ ∃ p : Regrown, w'' = grow (redrawn u p.d) p.os := fun dd os => Calls.regrown_of (HN _)
              have ke0 := cell_regrown e0
              have ke1 := cell_regrown e1
              have ke2 := cell_regrown e2
              have ke3 := cell_regrown e3
              have ke4 := cell_regrown e4
              have ke5 := cell_regrown e5
              have kg0 := cell_regrown g0
              have kg1 := cell_regrown g1
              have kg2 := cell_regrown g2
              have kg3 := cell_regrown g3
              have HBu := Lib.hid hB1
              clear HN hB1 e0 e1 e2 e3 e4 e5 g0 g1 g2 g3
              refine wp_region_quiet_below (by kernel_rfl) (by kernel_rfl) ?_
              repeat (go_big_quiet_step ((go_at_call 19; exact cN _ _)))
              refine wpQuiet_nil ?_
              intro _ hw'
              obtain ⟨⟨dq, osq⟩, hw''⟩ := hw'
              subst hw''
              go_wp2_with fail
              go_meet
              exact ⟨by rw [HOK.out]; rfl, below_pure HBu.out (below_regrown u dq osq)⟩
          · have HOK := Lib.hid (show okB xs k = false by rw [hok]; simp)
            clear hok
            have cN : ∀ dd os, Calls Try.prog 19 #[.agg #[.bool r, .int .i64 s, .int .i64 x, .int .i64 o, .int .i64 t, .bool true]] (grow (redrawn u dd) os) fun e w'' => e = .returned (.bool true) ∧ ∃ p : Regrown, w'' = grow (redrawn u p.d) p.os := fun dd os => Calls.regrown_of (HN _)
            have ke0 := cell_regrown e0
            have ke1 := cell_regrown e1
            have ke2 := cell_regrown e2
            have ke3 := cell_regrown e3
            have ke4 := cell_regrown e4
            have ke5 := cell_regrown e5
            have kg0 := cell_regrown g0
            have kg1 := cell_regrown g1
            have kg2 := cell_regrown g2
            have kg3 := cell_regrown g3
            have HBu := Lib.hid hB1
            clear HN hB1 e0 e1 e2 e3 e4 e5 g0 g1 g2 g3
            refine wp_region_quiet_below (by kernel_rfl) (by kernel_rfl) ?_
            repeat (go_big_quiet_step ((go_at_call 19; exact cN _ _)))
            refine wpQuiet_nil ?_
            intro _ hw'
            obtain ⟨⟨dq, osq⟩, hw''⟩ := hw'
            subst hw''
            go_wp2_with fail
            go_meet
            exact ⟨by rw [HOK.out]; rfl, below_pure HBu.out (below_regrown u dq osq)⟩
        · have HOK := Lib.hid (ok_last HXK.out hnb (by rw [List.getElem?_eq_none]; have := HX.out; omega))
          have hle : ((k : Int) + 1 == (n : Int)) = true := by simp; omega
          clear hnb
          have cN : ∀ dd os, Calls Try.prog 19 #[.agg #[.bool r, .int .i64 s, .int .i64 x, .int .i64 o, .int .i64 t, .bool true]] (grow (redrawn u dd) os) fun e w'' => e = .returned (.bool true) ∧ ∃ p : Regrown, w'' = grow (redrawn u p.d) p.os := fun dd os => Calls.regrown_of (HN _)
          have ke0 := cell_regrown e0
          have ke1 := cell_regrown e1
          have ke2 := cell_regrown e2
          have ke3 := cell_regrown e3
          have ke4 := cell_regrown e4
          have ke5 := cell_regrown e5
          have HBu := Lib.hid hB1
          clear HN hB1 e0 e1 e2 e3 e4 e5
          refine wp_region_quiet_below (by kernel_rfl) (by kernel_rfl) ?_
          repeat (go_big_quiet_step ((go_at_call 19; exact cN _ _)))
          refine wpQuiet_nil ?_
          intro _ hw'
          obtain ⟨⟨dq, osq⟩, hw''⟩ := hw'
          subst hw''
          go_wp2_with fail
          go_meet
          exact ⟨by rw [HOK.out]; rfl, below_pure HBu.out (below_regrown u dq osq)⟩
      case rest =>
        clear c0 c1 c2 c3 c4 c5 hB hsz l0 hw1 hwt HN
        obtain ⟨rfl, hB⟩ := hcut
        have HK := Lib.hid (fun h : okB xs k = false => vv_f h (by have := HX.out; omega))
        cases hok : okB xs k
        · have HV := Lib.hid (HK.out hok)
          go_wp2_with fail
          go_ret
          exact ⟨by rw [HV.out]; rfl, hB⟩
        · have HO' := Lib.hid (fun j (hj : j < k + 1) => (show okB xs j = true by rcases Nat.lt_or_eq_of_le (Nat.le_of_lt_succ hj) with h | h; exact HO.out j h; rw [h]; exact hok))
          go_wp2_with fail
          go_roundw
          case rel => exact ⟨k + 1, by omega, by go_num, HO', hB⟩
          case measure => simp [intOf]; omega
    · obtain rfl : k = n := by omega
      have HV := Lib.hid (vv_t (xs := xs) (fun j hj => HO.out j (by have := HX.out; omega)) (by have := HX.out; omega))
      go_wp2
      go_ret
      exact ⟨by rw [HV.out]; rfl, hB⟩

end Go.Proofs.Ytmkkhbplfedpoaa
