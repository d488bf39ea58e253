/- The walks of VoiceTicks and NoteAt, of the program and of the reference. Conditions: the notes lie in memory as a slice of notes does. -/
import Derived.Test.YtmkkhbplfedpoaaVw
namespace Go.Proofs.Ytmkkhbplfedpoaa
open Go.RowKit

/-- The ticks of note k, and of the first k notes. -/
def tk (xs : List (Bool × Int × Int × Int × Int × Bool)) (k : Nat) : Int := match xs[k]? with | some (_, _, _, _, t, _) => t | none => 0
def tS (xs : List (Bool × Int × Int × Int × Int × Bool)) : Nat → Int
  | 0 => 0
  | k + 1 => tS xs k + tk xs k
theorem tk_at {xs : List (Bool × Int × Int × Int × Int × Bool)} {k : Nat} {r : Bool} {s a o t : Int} {d : Bool} (h : xs[k]? = some (r, s, a, o, t, d)) : tk xs k = t := by unfold tk; rw [h]
theorem tS_succ (xs : List (Bool × Int × Int × Int × Int × Bool)) (k : Nat) : tS xs k + tk xs k = tS xs (k + 1) := rfl
theorem note_ticks {r : Bool} {s a o t : Int} {d : Bool} (h : noteB r s a o t d = true) : 1 ≤ t ∧ t ≤ 768 := by
  unfold noteB at h
  rw [Bool.and_eq_true] at h
  exact inR_t h.1
theorem ok_noteB {xs : List (Bool × Int × Int × Int × Int × Bool)} {k : Nat} {r : Bool} {s a o t : Int} {d : Bool} (h : xs[k]? = some (r, s, a, o, t, d)) (hk : okB xs k = true) : noteB r s a o t d = true := by
  cases hn : noteB r s a o t d
  · rw [ok_note h hn] at hk
    cases hk
  · rfl
theorem tk_bd {xs : List (Bool × Int × Int × Int × Int × Bool)} (hv : vvB xs = true) {k : Nat} (hk : k < xs.length) : 1 ≤ tk xs k ∧ tk xs k ≤ 768 := by
  obtain ⟨⟨r, s, a, o, t, d⟩, hx⟩ := nth hk
  rw [tk_at hx]
  exact note_ticks (ok_noteB hx ((vv_all hv).2 k hk))
theorem tS_bd {xs : List (Bool × Int × Int × Int × Int × Bool)} (hv : vvB xs = true) : ∀ k : Nat, k ≤ xs.length → (k : Int) ≤ tS xs k ∧ tS xs k ≤ 768 * (k : Int)
  | 0, _ => by simp [tS]
  | k + 1, hk => by
    have h1 := tS_bd hv k (by omega)
    have h2 := tk_bd hv (k := k) (by omega)
    rw [← tS_succ]
    omega
def vtV (xs : List (Bool × Int × Int × Int × Int × Bool)) : Int := if vvB xs then tS xs xs.length else -1
theorem vtV_t {xs : List (Bool × Int × Int × Int × Int × Bool)} (h : vvB xs = true) : vtV xs = tS xs xs.length := by unfold vtV; rw [if_pos h]
theorem vtV_f {xs : List (Bool × Int × Int × Int × Int × Bool)} (h : vvB xs = false) : vtV xs = -1 := by unfold vtV; rw [h]; rfl
/-- The note at a tick. -/
def naN (xs : List (Bool × Int × Int × Int × Int × Bool)) (i : Int) : Option Nat := (List.range xs.length).find? (fun k => decide (i < tS xs (k + 1)))
def naV (xs : List (Bool × Int × Int × Int × Int × Bool)) (i : Int) : Int := if vvB xs && decide (0 ≤ i) then (match naN xs i with | some k => (k : Int) | none => -1) else -1
theorem naV_f {xs : List (Bool × Int × Int × Int × Int × Bool)} {i : Int} (h : vvB xs = false) : naV xs i = -1 := by unfold naV; rw [h]; rfl
theorem naV_neg {xs : List (Bool × Int × Int × Int × Int × Bool)} {i : Int} (h : i < 0) : naV xs i = -1 := by unfold naV; rw [decide_eq_false (by omega), Bool.and_false]; rfl
theorem naV_some {xs : List (Bool × Int × Int × Int × Int × Bool)} {i : Int} {k : Nat} (hv : vvB xs = true) (hi : 0 ≤ i) (hk : k < xs.length) (h : ∀ j, j < k → tS xs (j + 1) ≤ i) (hp : i < tS xs (k + 1)) : naV xs i = (k : Int) := by
  have e : naN xs i = some k := by
    unfold naN
    rw [List.find?_range_eq_some]
    exact ⟨by simpa using hp, by simpa using hk, fun j hj => by simpa using h j hj⟩
  unfold naV
  rw [hv, decide_eq_true hi, e]
  rfl
theorem naV_none {xs : List (Bool × Int × Int × Int × Int × Bool)} {i : Int} (h : ∀ j, j < xs.length → tS xs (j + 1) ≤ i) : naV xs i = -1 := by
  have e : naN xs i = none := by
    unfold naN
    rw [List.find?_range_eq_none]
    intro j hj
    simpa using h j (by simpa using hj)
  unfold naV
  rw [e]
  split <;> rfl

set_option maxHeartbeats 4000000 in
theorem voiceTicks_any (a : Option Addr) (n cap : Nat) (xs : List (Bool × Int × Int × Int × Int × Bool)) (w : World) (hx : xs.length = n) (h : Voice w a xs) (hv : vvB xs = true) :
    Calls Try.prog 52 #[.slice a n cap] w (Gives (.int .i64 (tS xs n)) w) := by
  unfold Voice at h
  rw [hx] at h
  have HX := Lib.hid hx
  have HS := Lib.hid h
  have h60 : n ≤ 60 := by have := (vv_all hv).1; omega
  have HT : ∀ k, k < n → 1 ≤ tk xs k ∧ tk xs k ≤ 768 := fun k hk => tk_bd hv (by omega)
  have HU : ∀ k, k ≤ n → (k : Int) ≤ tS xs k ∧ tS xs k ≤ 768 * (k : Int) := fun k hk => tS_bd hv k (by omega)
  replace HT := Lib.hid HT
  replace HU := Lib.hid HU
  have HV := Lib.hid hv
  clear h hx hv
  have HB0 := Below.refl w.heap.size w
  go_enter Try.func52, Try.ntmps52
  go_wp2_with fail
  go_loopw [3, 8] (fun v i wr => ∃ k : Nat, k ≤ n ∧ i = .int .i64 k ∧ v = .int .i64 (tS xs k) ∧ Below w.heap.size w wr) (fun _ i _ => n - (intOf i).toNat)
  case atStart => exact ⟨0, Nat.zero_le _, rfl, rfl, HB0⟩
  case round =>
    clear HB0
    obtain ⟨k, hk, rfl, rfl, hB⟩ := hrel
    have hsz := hB.size
    by_cases hlt : k < n
    · skip
      obtain ⟨⟨r, s, x, o, t, d⟩, hxk⟩ := nth (xs := xs) (k := k) (by have := HX.out; omega)
      obtain ⟨g, off, rfl, hc⟩ := (HS.out.pure hB) (by omega)
      obtain ⟨c0, c1, c2, c3, c4, c5⟩ := at6 hc hlt hxk
      clear hc
      have et := tk_at hxk
      clear hxk
      have ht := HT.out k hlt
      rw [et] at ht
      have hu := HU.out k hk
      have hs := tS_succ xs k
      rw [et] at hs
      have ES := Lib.hid hs
      clear et hs
      have hB1 := Lib.hid hB
      clear hB
      go_wp2_with fail
      go_roundw
      case rel => exact ⟨k + 1, by omega, by go_num, by rw [← ES.out], by have h := hB1.out; go_grown⟩
      case measure => simp [intOf]; omega
    · obtain rfl : k = n := by omega
      go_wp2
      go_ret
      exact ⟨rfl, hB⟩

set_option maxHeartbeats 4000000 in
theorem voiceTicksV_any (a : Option Addr) (n cap : Nat) (xs : List (Bool × Int × Int × Int × Int × Bool)) (w : World) (hx : xs.length = n) (h : Voice w a xs) (hn : n ≤ 10000000) :
    Calls Try.prog 26 #[.slice a n cap] w (Gives (.int .i64 (vtV xs)) w) := by
  cases hv : vvB xs
  · have HV := fun W (hW : Voice W a xs) => voiceValid_any a n cap xs W hx hW hn
    rw [hv] at HV
    have HR := Lib.hid (vtV_f hv)
    have HVV := Lib.hid HV
    clear HV hv hx
    go_enter Try.func26, Try.ntmps26
    go_wp2_with fail
    refine (HVV.out _ h).mono ?_
    rintro e w1 ⟨rfl, hb⟩
    go_wp2
    go_ret
    exact ⟨by rw [HR.out]; rfl, hb⟩
  · have HV := fun W (hW : Voice W a xs) => voiceValid_any a n cap xs W hx hW hn
    rw [hv] at HV
    have HR := Lib.hid (vtV_t hv)
    have HW := Lib.hid (fun W (hW : Voice W a xs) => voiceTicks_any a n cap xs W hx hW hv)
    have HX := Lib.hid hx
    have HVV := Lib.hid HV
    clear HV hv hx
    go_enter Try.func26, Try.ntmps26
    go_wp2_with fail
    refine (HVV.out _ h).mono ?_
    rintro e w1 ⟨rfl, hb⟩
    have h1 := h.pure hb
    have hB := Lib.hid hb
    clear h hb
    go_wp2_with fail
    refine (HW.out _ h1).mono ?_
    rintro e w2 ⟨rfl, hb⟩
    have hB2 := below_pure hB.out hb
    clear hb
    go_wp2
    go_ret
    exact ⟨by rw [HR.out, HX.out]; rfl, hB2⟩

set_option maxHeartbeats 4000000 in
theorem specVoiceTicks_any (a : Option Addr) (n cap : Nat) (xs : List (Bool × Int × Int × Int × Int × Bool)) (w : World) (hx : xs.length = n) (h : Voice w a xs) (hn : n ≤ 10000000) :
    Calls Try.prog 25 #[.slice a n cap] w (Gives (.int .i64 (vtV xs)) w) := by
  cases hv : vvB xs
  · have HV := fun W (hW : Voice W a xs) => specVoiceValid_any a n cap xs W hx hW hn
    rw [hv] at HV
    have HR := Lib.hid (vtV_f hv)
    have HVV := Lib.hid HV
    clear HV hv hx
    go_enter Try.func25, Try.ntmps25
    go_wp2_with fail
    refine (HVV.out _ h).mono ?_
    rintro e w1 ⟨rfl, hb⟩
    go_wp2
    go_ret
    exact ⟨by rw [HR.out]; rfl, hb⟩
  have HV2 := fun W (hW : Voice W a xs) => specVoiceValid_any a n cap xs W hx hW hn
  rw [hv] at HV2
  have HR := Lib.hid (vtV_t hv)
  have HVV := Lib.hid HV2
  have h0 := h
  clear HV2
  unfold Voice at h
  rw [hx] at h
  have HX := Lib.hid hx
  have HS := Lib.hid h
  have h60 : n ≤ 60 := by have := (vv_all hv).1; omega
  have HT : ∀ k, k < n → 1 ≤ tk xs k ∧ tk xs k ≤ 768 := fun k hk => tk_bd hv (by omega)
  have HU : ∀ k, k ≤ n → (k : Int) ≤ tS xs k ∧ tS xs k ≤ 768 * (k : Int) := fun k hk => tS_bd hv k (by omega)
  replace HT := Lib.hid HT
  replace HU := Lib.hid HU
  have HV := Lib.hid hv
  clear h hx hv
  go_enter Try.func25, Try.ntmps25
  go_wp2_with fail
  refine (HVV.out _ h0).mono ?_
  rintro e w1 ⟨rfl, HB0⟩
  go_wp2_with fail
  go_loopw [3, 4] (fun v i wr => ∃ k : Nat, k ≤ n ∧ i = .int .i64 k ∧ v = .int .i64 (tS xs k) ∧ Below w.heap.size w wr) (fun _ i _ => n - (intOf i).toNat)
  case atStart => exact ⟨0, Nat.zero_le _, rfl, rfl, HB0⟩
  case round =>
    clear HB0
    obtain ⟨k, hk, rfl, rfl, hB⟩ := hrel
    have hsz := hB.size
    by_cases hlt : k < n
    · skip
      obtain ⟨⟨r, s, x, o, t, d⟩, hxk⟩ := nth (xs := xs) (k := k) (by have := HX.out; omega)
      obtain ⟨g, off, rfl, hc⟩ := (HS.out.pure hB) (by omega)
      obtain ⟨c0, c1, c2, c3, c4, c5⟩ := at6 hc hlt hxk
      clear hc
      have et := tk_at hxk
      clear hxk
      have ht := HT.out k hlt
      rw [et] at ht
      have hu := HU.out k hk
      have hs := tS_succ xs k
      rw [et] at hs
      have ES := Lib.hid hs
      clear et hs
      have hB1 := Lib.hid hB
      clear hB
      go_wp2_with fail
      go_roundw
      case rel => exact ⟨k + 1, by omega, by go_num, by rw [← ES.out], hB1.out⟩
      case measure => simp [intOf]; omega
    · obtain rfl : k = n := by omega
      go_wp2
      go_ret
      exact ⟨by rw [HR.out, HX.out]; rfl, hB⟩

set_option maxHeartbeats 4000000 in
theorem noteAt_any (a : Option Addr) (n cap : Nat) (xs : List (Bool × Int × Int × Int × Int × Bool)) (i : Int) (w : World) (hx : xs.length = n) (h : Voice w a xs) (hn : n ≤ 10000000) (hi : i ≤ 9223372036854775807) :
    Calls Try.prog 28 #[.slice a n cap, .int .i64 i] w (Gives (.int .i64 (naV xs i)) w) := by
  cases hv : vvB xs
  · have HV := fun W (hW : Voice W a xs) => voiceValid_any a n cap xs W hx hW hn
    rw [hv] at HV
    have HR := Lib.hid (naV_f (i := i) hv)
    have HVV := Lib.hid HV
    clear HV hv hx
    go_enter Try.func28, Try.ntmps28
    go_wp2_with fail
    refine (HVV.out _ h).mono ?_
    rintro e w1 ⟨rfl, hb⟩
    go_wp2
    go_ret
    exact ⟨by rw [HR.out]; rfl, hb⟩
  have HV2 := fun W (hW : Voice W a xs) => voiceValid_any a n cap xs W hx hW hn
  rw [hv] at HV2
  have HVV := Lib.hid HV2
  have h0 := h
  clear HV2
  by_cases hneg : i < 0
  · have HR := Lib.hid (naV_neg (xs := xs) hneg)
    clear hv hx h0
    go_enter Try.func28, Try.ntmps28
    go_wp2_with fail
    refine (HVV.out _ h).mono ?_
    rintro e w1 ⟨rfl, hb⟩
    go_wp2
    go_ret
    exact ⟨by rw [HR.out]; rfl, hb⟩
  unfold Voice at h
  rw [hx] at h
  have HX := Lib.hid hx
  have HS := Lib.hid h
  have h60 : n ≤ 60 := by have := (vv_all hv).1; omega
  have HT : ∀ k, k < n → 1 ≤ tk xs k ∧ tk xs k ≤ 768 := fun k hk => tk_bd hv (by omega)
  have HU : ∀ k, k ≤ n → (k : Int) ≤ tS xs k ∧ tS xs k ≤ 768 * (k : Int) := fun k hk => tS_bd hv k (by omega)
  replace HT := Lib.hid HT
  replace HU := Lib.hid HU
  have HV := Lib.hid hv
  clear h hx hv
  go_enter Try.func28, Try.ntmps28
  go_wp2_with fail
  refine (HVV.out _ h0).mono ?_
  rintro e w1 ⟨rfl, HB0⟩
  go_wp2_with fail
  go_loopw [1, 16] (fun v ii wr => ∃ k : Nat, k ≤ n ∧ ii = .int .i64 k ∧ v = .int .i64 (i - tS xs k) ∧ tS xs k ≤ i ∧ Hid (∀ j, j < k → tS xs (j + 1) ≤ i) ∧ Below w.heap.size w wr) (fun _ ii _ => n - (intOf ii).toNat)
  case atStart => exact ⟨0, Nat.zero_le _, rfl, by simp [tS], by simp [tS]; omega, Lib.hid (fun j hj => absurd hj (Nat.not_lt_zero _)), HB0⟩
  case round =>
    clear HB0
    obtain ⟨k, hk, rfl, rfl, hle, HO, hB⟩ := hrel
    have hsz := hB.size
    by_cases hlt : k < n
    · skip
      obtain ⟨⟨r, s, x, o, t, d⟩, hxk⟩ := nth (xs := xs) (k := k) (by have := HX.out; omega)
      obtain ⟨g, off, rfl, hc⟩ := (HS.out.pure hB) (by omega)
      obtain ⟨c0, c1, c2, c3, c4, c5⟩ := at6 hc hlt hxk
      clear hc
      have et := tk_at hxk
      clear hxk
      have ht := HT.out k hlt
      rw [et] at ht
      have hu := HU.out k hk
      have hs := tS_succ xs k
      rw [et] at hs
      have ES := Lib.hid hs
      clear et hs
      have hB1 := Lib.hid hB
      clear hB
      by_cases hit : i < tS xs (k + 1)
      · have HR := Lib.hid (naV_some HV.out (by omega) (by have := HX.out; omega) HO.out hit)
        have hit2 : i - tS xs k < t := by have := ES.out; omega
        clear hit
        go_wp2_with fail
        go_ret
        exact ⟨by rw [HR.out]; rfl, by have h := hB1.out; go_grown⟩
      · have hit2 : ¬ i - tS xs k < t := by have := ES.out; omega
        have HO' := Lib.hid (fun j (hj : j < k + 1) => (show tS xs (j + 1) ≤ i by rcases Nat.lt_or_eq_of_le (Nat.le_of_lt_succ hj) with h | h; exact HO.out j h; rw [h]; omega))
        have hle2 := Lib.hid (show tS xs (k + 1) ≤ i by omega)
        clear hit
        go_wp2_with fail
        go_roundw
        case rel => exact ⟨k + 1, by omega, by go_num, by have := ES.out; congr 1; omega, hle2.out, HO', by have h := hB1.out; go_grown⟩
        case measure => simp [intOf]; omega
    · obtain rfl : k = n := by omega
      have HR := Lib.hid (naV_none (xs := xs) (i := i) (fun j hj => HO.out j (by have := HX.out; omega)))
      go_wp2
      go_ret
      exact ⟨by rw [HR.out]; rfl, hB⟩

set_option maxHeartbeats 4000000 in
theorem specNoteAt_any (a : Option Addr) (n cap : Nat) (xs : List (Bool × Int × Int × Int × Int × Bool)) (i : Int) (w : World) (hx : xs.length = n) (h : Voice w a xs) (hn : n ≤ 10000000) (hi : i ≤ 9223372036854775807) :
    Calls Try.prog 27 #[.slice a n cap, .int .i64 i] w (Gives (.int .i64 (naV xs i)) w) := by
  cases hv : vvB xs
  · have HV := fun W (hW : Voice W a xs) => specVoiceValid_any a n cap xs W hx hW hn
    rw [hv] at HV
    have HR := Lib.hid (naV_f (i := i) hv)
    have HVV := Lib.hid HV
    clear HV hv hx
    by_cases hn0 : n = 0
    · have hl0 : ¬ (0 : Int) < (n : Int) := by omega
      go_enter Try.func27, Try.ntmps27
      go_wp2_with fail
      refine wp_loop_rounds 1 ?_
      rw [rounds_succ]
      go_wp2
      go_ret
      exact ⟨by rw [HR.out]; rfl, Below.refl _ _⟩
    · have hl0 : (0 : Int) < (n : Int) := by omega
      go_enter Try.func27, Try.ntmps27
      go_wp2_with fail
      refine wp_loop_rounds 1 ?_
      rw [rounds_succ]
      go_wp2_with fail
      refine (HVV.out _ h).mono ?_
      rintro e w1 ⟨rfl, hb⟩
      go_wp2
      go_ret
      exact ⟨by rw [HR.out]; rfl, hb⟩
  have HV2 := fun W (hW : Voice W a xs) => specVoiceValid_any a n cap xs W hx hW hn
  rw [hv] at HV2
  have HVV := Lib.hid HV2
  have h0 := h
  clear HV2
  by_cases hneg : i < 0
  · have HR := Lib.hid (naV_neg (xs := xs) hneg)
    clear hv hx h0
    by_cases hn0 : n = 0
    · have hl0 : ¬ (0 : Int) < (n : Int) := by omega
      go_enter Try.func27, Try.ntmps27
      go_wp2_with fail
      refine wp_loop_rounds 1 ?_
      rw [rounds_succ]
      go_wp2
      go_ret
      exact ⟨by rw [HR.out]; rfl, Below.refl _ _⟩
    · have hl0 : (0 : Int) < (n : Int) := by omega
      go_enter Try.func27, Try.ntmps27
      go_wp2_with fail
      refine wp_loop_rounds 1 ?_
      rw [rounds_succ]
      go_wp2_with fail
      refine (HVV.out _ h).mono ?_
      rintro e w1 ⟨rfl, hb⟩
      go_wp2
      go_ret
      exact ⟨by rw [HR.out]; rfl, hb⟩
  unfold Voice at h
  rw [hx] at h
  have HX := Lib.hid hx
  have HS := Lib.hid h
  have h60 : n ≤ 60 := by have := (vv_all hv).1; omega
  have HT : ∀ k, k < n → 1 ≤ tk xs k ∧ tk xs k ≤ 768 := fun k hk => tk_bd hv (by omega)
  have HU : ∀ k, k ≤ n → (k : Int) ≤ tS xs k ∧ tS xs k ≤ 768 * (k : Int) := fun k hk => tS_bd hv k (by omega)
  replace HT := Lib.hid HT
  replace HU := Lib.hid HU
  have HV := Lib.hid hv
  clear h hx hv
  have HB0 := Below.refl w.heap.size w
  go_enter Try.func27, Try.ntmps27
  go_wp2_with fail
  go_loopw [1, 5] (fun v ii wr => ∃ k : Nat, k ≤ n ∧ ii = .int .i64 k ∧ v = .int .i64 (i - tS xs k) ∧ tS xs k ≤ i ∧ Hid (∀ j, j < k → tS xs (j + 1) ≤ i) ∧ Below w.heap.size w wr) (fun _ ii _ => n - (intOf ii).toNat)
  case atStart => exact ⟨0, Nat.zero_le _, rfl, by simp [tS], by simp [tS]; omega, Lib.hid (fun j hj => absurd hj (Nat.not_lt_zero _)), HB0⟩
  case round =>
    clear HB0
    obtain ⟨k, hk, rfl, rfl, hle, HO, hB⟩ := hrel
    have hsz := hB.size
    by_cases hlt : k < n
    · skip
      have HVw : Voice wr a xs := by
        have q := HS.out.pure hB
        unfold Voice
        rw [HX.out]
        exact q
      go_wp2_with fail
      refine (HVV.out _ HVw).mono ?_
      rintro e w2 ⟨rfl, hb⟩
      replace hB := below_pure hB hb
      clear hb HVw hsz
      have hsz := hB.size
      obtain ⟨⟨r, s, x, o, t, d⟩, hxk⟩ := nth (xs := xs) (k := k) (by have := HX.out; omega)
      obtain ⟨g, off, rfl, hc⟩ := (HS.out.pure hB) (by omega)
      obtain ⟨c0, c1, c2, c3, c4, c5⟩ := at6 hc hlt hxk
      clear hc
      have et := tk_at hxk
      clear hxk
      have ht := HT.out k hlt
      rw [et] at ht
      have hu := HU.out k hk
      have hs := tS_succ xs k
      rw [et] at hs
      have ES := Lib.hid hs
      clear et hs
      have hB1 := Lib.hid hB
      clear hB
      by_cases hit : i < tS xs (k + 1)
      · have HR := Lib.hid (naV_some HV.out (by omega) (by have := HX.out; omega) HO.out hit)
        have hit2 : i - tS xs k < t := by have := ES.out; omega
        clear hit
        go_wp2_with fail
        go_ret
        exact ⟨by rw [HR.out]; rfl, hB1.out⟩
      · have hit2 : ¬ i - tS xs k < t := by have := ES.out; omega
        have HO' := Lib.hid (fun j (hj : j < k + 1) => (show tS xs (j + 1) ≤ i by rcases Nat.lt_or_eq_of_le (Nat.le_of_lt_succ hj) with h | h; exact HO.out j h; rw [h]; omega))
        have hle2 := Lib.hid (show tS xs (k + 1) ≤ i by omega)
        clear hit
        go_wp2_with fail
        go_roundw
        case rel => exact ⟨k + 1, by omega, by go_num, by have := ES.out; congr 1; omega, hle2.out, HO', hB1.out⟩
        case measure => simp [intOf]; omega
    · obtain rfl : k = n := by omega
      have HR := Lib.hid (naV_none (xs := xs) (i := i) (fun j hj => HO.out j (by have := HX.out; omega)))
      go_wp2
      go_ret
      exact ⟨by rw [HR.out]; rfl, hB⟩

end Go.Proofs.Ytmkkhbplfedpoaa
