/- Plain facts on turned voices: they are valid, they turn back, they have the same ticks, and they join to as many notes. No program in sight. No condition. -/
import Derived.Test.YtmkkhbplfedpoaaMv
namespace Go.Proofs.Ytmkkhbplfedpoaa
set_option linter.unusedVariables false

theorem turn_get {xs : List N6} {k i : Nat} {x : N6} (h : k + 1 + i = xs.length) (hx : xs[i]? = some x) : (turnL xs)[k]? = some (x.1, x.2.1, x.2.2.1, x.2.2.2.1, nT x, tiedB xs i) := by
  obtain ⟨r, s, a, o, t, d⟩ := x
  rw [turnL_at h, turnAt_at hx]
  rfl
theorem tiedB_get {xs : List N6} {j : Nat} {x : N6} (h : xs[j]? = some x) : tiedB xs (j + 1) = nD x := by
  obtain ⟨r, s, a, o, t, d⟩ := x
  exact tiedB_s h
theorem turn_tk {xs : List N6} {k i : Nat} (h : k + 1 + i = xs.length) : tk (turnL xs) k = tk xs i := by
  obtain ⟨x, hx⟩ := nth (xs := xs) (k := i) (by omega)
  rw [tk_get (turn_get h hx), tk_get hx]
  rfl
theorem turn_tS (xs : List N6) : ∀ k, k ≤ xs.length → tS (turnL xs) k + tS xs (xs.length - k) = tS xs xs.length
  | 0, _ => by simp [tS]
  | k + 1, hk => by
    have ih := turn_tS xs k (by omega)
    rw [← tS_succ, turn_tk (i := xs.length - (k + 1)) (by omega)]
    rw [show xs.length - k = xs.length - (k + 1) + 1 by omega, ← tS_succ] at ih
    omega
theorem turn_sum (xs : List N6) : sumT (turnL xs) = sumT xs := by
  have h := turn_tS xs xs.length (Nat.le_refl _)
  rw [Nat.sub_self] at h
  unfold sumT
  rw [turnL_len]
  have e : tS xs 0 = 0 := rfl
  omega

theorem turn_vv {xs : List N6} (h : vvB xs = true) : vvB (turnL xs) = true := by
  obtain ⟨h1, h2⟩ := vv_iff.1 h
  refine vv_iff.2 ⟨by rw [turnL_len]; exact h1, vL_mk fun k y hy => ?_⟩
  have hk : k < xs.length := by
    have := (List.getElem?_eq_some_iff.1 hy).1
    rwa [turnL_len] at this
  obtain ⟨i, hi⟩ : ∃ i, k + 1 + i = xs.length := ⟨xs.length - (k + 1), by omega⟩
  obtain ⟨x, hx⟩ := nth (xs := xs) (k := i) (by omega)
  rw [turn_get hi hx] at hy
  injection hy with hy
  subst hy
  have hg := vL_get h2 hx
  cases i with
  | zero =>
    refine ⟨nB_other hg.1 (nB_ticks hg.1) (fun hd => by cases hd), fun hd => by cases hd⟩
  | succ j =>
    obtain ⟨z, hz⟩ := nth (xs := xs) (k := j) (by omega)
    have hz2 := vL_get h2 hz
    rw [tiedB_get hz]
    have hp : nD z = true → nP x = nP z := fun hd => by
      obtain ⟨y, hy, hp⟩ := hz2.2 hd
      rw [hx] at hy
      cases hy
      exact hp
    refine ⟨nB_other hg.1 (nB_ticks hg.1) (fun hd => ?_), fun hd => ?_⟩
    · have e := hp hd
      have e1 : x.1 = z.1 := congrArg (·.1) e
      rw [e1]
      exact nB_tied hz2.1 hd
    · exact ⟨_, turn_get (k := k + 1) (i := j) (by omega) hz, (hp hd).symm⟩

theorem vL_fin {xs : List N6} (h : vL xs) {k : Nat} {x : N6} (hx : xs[k]? = some x) (hl : k + 1 = xs.length) : nD x = false := by
  cases hd : nD x
  · rfl
  · obtain ⟨y, hy, -⟩ := (vL_get h hx).2 hd
    rw [List.getElem?_eq_none (by omega)] at hy
    cases hy

theorem turn_turn {xs : List N6} (h : vvB xs = true) : turnL (turnL xs) = xs := by
  obtain ⟨h1, h2⟩ := vv_iff.1 h
  refine List.ext_getElem? fun k => ?_
  by_cases hk : k < xs.length
  · obtain ⟨i, hi⟩ : ∃ i, k + 1 + i = xs.length := ⟨xs.length - (k + 1), by omega⟩
    obtain ⟨x, hx⟩ := nth (xs := xs) (k := k) hk
    have e1 := turn_get (k := i) (i := k) (by omega) hx
    rw [turn_get (xs := turnL xs) (k := k) (i := i) (by rw [turnL_len]; omega) e1, hx]
    congr 1
    obtain ⟨r, s, a, o, t, d⟩ := x
    show (r, s, a, o, t, tiedB (turnL xs) i) = (r, s, a, o, t, d)
    congr 5
    cases i with
    | zero => exact (vL_fin h2 hx (by omega)).symm
    | succ j =>
      obtain ⟨z, hz⟩ := nth (xs := xs) (k := k + 1) (by omega)
      rw [tiedB_get (turn_get (k := j) (i := k + 1) (by omega) hz)]
      exact tiedB_get hx
  · rw [List.getElem?_eq_none (by rw [turnL_len, turnL_len]; omega), List.getElem?_eq_none (by omega)]

theorem trV_t {xs : List N6} (h : vvB xs = true) : trV xs = turnL xs := by unfold trV; rw [if_pos h]
theorem trV_f {xs : List N6} (h : vvB xs = false) : trV xs = [] := by unfold trV; rw [h]; rfl

/-- How many notes are not tied. -/
def free : List N6 → Nat
  | [] => 0
  | n :: r => (if nD n = true then 0 else 1) + free r
def anyTied (xs : List N6) : Bool := xs.any nD
theorem free_jfrom : ∀ (r : List N6) (m : N6), free (jfrom m r) = free (m :: r)
  | [], m => rfl
  | n :: r, m => by
    by_cases h : nD m = true ∧ nT m + nT n ≤ 768
    · rw [jfrom_yes h, free_jfrom r]
      show (if nD n = true then 0 else 1) + free r = (if nD m = true then 0 else 1) + ((if nD n = true then 0 else 1) + free r)
      rw [if_pos h.1]
      omega
    · rw [jfrom_no h]
      show (if nD m = true then 0 else 1) + free (jfrom n r) = _
      rw [free_jfrom r]
      rfl
theorem free_joinF (xs : List N6) : free (joinF xs) = free xs := by
  cases xs with
  | nil => rfl
  | cons n r => exact free_jfrom r n
theorem free_all : ∀ {xs : List N6}, anyTied xs = false → free xs = xs.length
  | [], _ => rfl
  | n :: r, h => by
    simp [anyTied] at h
    show (if nD n = true then 0 else 1) + free r = r.length + 1
    rw [if_neg (by simp [h.1]), free_all (by simpa [anyTied] using h.2)]
    omega
/-- The same count by places. -/
def fr (xs : List N6) (k : Nat) : Nat := match xs[k]? with | some x => if nD x = true then 0 else 1 | none => 0
def fS (xs : List N6) : Nat → Nat
  | 0 => 0
  | k + 1 => fS xs k + fr xs k
theorem fr_get {xs : List N6} {k : Nat} {x : N6} (h : xs[k]? = some x) : fr xs k = if nD x = true then 0 else 1 := by unfold fr; rw [h]
theorem fS_succ (xs : List N6) (k : Nat) : fS xs (k + 1) = fS xs k + fr xs k := rfl
theorem fS_cons (n : N6) (r : List N6) : ∀ k, fS (n :: r) (k + 1) = (if nD n = true then 0 else 1) + fS r k
  | 0 => by
    rw [fS_succ, fr_get (x := n) rfl]
    show 0 + _ = _ + 0
    omega
  | k + 1 => by
    rw [fS_succ, fS_cons n r k, fS_succ r k]
    show _ + fr r k = _
    omega
theorem free_fS : ∀ xs : List N6, free xs = fS xs xs.length
  | [] => rfl
  | n :: r => by
    show _ + free r = fS (n :: r) (r.length + 1)
    rw [fS_cons, free_fS r]
/-- Turned: note k of the turned voice is not tied exactly if the note ahead is not. -/
theorem turn_fS {xs : List N6} (h : vL xs) (hn : 0 < xs.length) : ∀ k, k < xs.length → fS (turnL xs) k + fS xs (xs.length - 1 - k) + 1 = fS xs xs.length
  | 0, _ => by
    obtain ⟨x, hx⟩ := nth (xs := xs) (k := xs.length - 1) (by omega)
    have hf := vL_fin h hx (by omega)
    have e : fS xs (xs.length - 1 + 1) = _ := fS_succ xs (xs.length - 1)
    rw [fr_get hx, hf, show xs.length - 1 + 1 = xs.length by omega] at e
    simp at e
    rw [Nat.sub_zero]
    show 0 + _ + 1 = _
    omega
  | k + 1, hk => by
    have ih := turn_fS h hn k (by omega)
    obtain ⟨i, hi⟩ : ∃ i, k + 1 + (i + 1) = xs.length := ⟨xs.length - (k + 2), by omega⟩
    obtain ⟨x, hx⟩ := nth (xs := xs) (k := i + 1) (by omega)
    obtain ⟨z, hz⟩ := nth (xs := xs) (k := i) (by omega)
    rw [fS_succ, fr_get (turn_get hi hx)]
    rw [show xs.length - 1 - k = i + 1 by omega, fS_succ, fr_get hz] at ih
    rw [show xs.length - 1 - (k + 1) = i by omega]
    have e : nD (x.1, x.2.1, x.2.2.1, x.2.2.2.1, nT x, tiedB xs (i + 1)) = nD z := tiedB_get hz
    rw [e]
    omega
theorem turn_free {xs : List N6} (h : vvB xs = true) : free (turnL xs) = free xs := by
  obtain ⟨h1, h2⟩ := vv_iff.1 h
  rw [free_fS, free_fS, turnL_len]
  rcases Nat.eq_zero_or_pos xs.length with h0 | h0
  · rw [h0]
    rfl
  · have e := turn_fS h2 h0 (xs.length - 1) (by omega)
    obtain ⟨x, hx⟩ := nth (xs := xs) (k := 0) (by omega)
    have e2 : fS (turnL xs) (xs.length - 1 + 1) = _ := fS_succ (turnL xs) (xs.length - 1)
    rw [fr_get (turn_get (k := xs.length - 1) (i := 0) (by omega) hx)] at e2
    have e3 : nD (x.1, x.2.1, x.2.2.1, x.2.2.2.1, nT x, tiedB xs 0) = false := rfl
    rw [e3, show xs.length - 1 + 1 = xs.length by omega] at e2
    rw [Nat.sub_self] at e
    have e4 : fS xs 0 = 0 := rfl
    simp at e2
    omega

/-- Groups of tied notes are short. -/
def grp : Int → List N6 → Prop
  | _, [] => True
  | acc, n :: r => acc + nT n ≤ 768 ∧ grp (if nD n = true then acc + nT n else 0) r
def tiedRun (xs : List N6) (i j : Nat) : Prop := ∀ l, i ≤ l → l < j → ∃ x, xs[l]? = some x ∧ nD x = true
def shortG (xs : List N6) : Prop := ∀ i j, i ≤ j → j < xs.length → tiedRun xs i j → tS xs (j + 1) - tS xs i ≤ 768
theorem run_cons {n : N6} {r : List N6} {i j : Nat} : tiedRun (n :: r) (i + 1) (j + 1) ↔ tiedRun r i j := by
  constructor
  · intro h l h1 h2
    exact h (l + 1) (by omega) (by omega)
  · intro h l h1 h2
    cases l with
    | zero => omega
    | succ l => exact h l (by omega) (by omega)
theorem shortG_cons {n : N6} {r : List N6} : shortG (n :: r) ↔ shortG r ∧ ∀ j, j < r.length + 1 → tiedRun (n :: r) 0 j → tS (n :: r) (j + 1) ≤ 768 := by
  constructor
  · intro h
    refine ⟨fun i j hij hj hr => ?_, fun j hj hr => ?_⟩
    · have := h (i + 1) (j + 1) (by omega) (by simpa using hj) (run_cons.2 hr)
      rw [tS_cons, tS_cons] at this
      omega
    · have := h 0 j (by omega) (by simpa using hj) hr
      have e : tS (n :: r) 0 = 0 := rfl
      omega
  · rintro ⟨h1, h2⟩ i j hij hj hr
    cases i with
    | zero =>
      have := h2 j (by simpa using hj) hr
      have e : tS (n :: r) 0 = 0 := rfl
      omega
    | succ i =>
      cases j with
      | zero => omega
      | succ j =>
        have := h1 i j (by omega) (by simpa using hj) (run_cons.1 hr)
        rw [tS_cons, tS_cons]
        omega
theorem grp_iff : ∀ (xs : List N6) (acc : Int), 0 ≤ acc → (∀ x ∈ xs, 0 ≤ nT x) → (grp acc xs ↔ (∀ j, j < xs.length → tiedRun xs 0 j → acc + tS xs (j + 1) ≤ 768) ∧ shortG xs)
  | [], acc, _, _ => ⟨fun _ => ⟨fun j hj => absurd hj (Nat.not_lt_zero _), fun i j hij hj => absurd hj (Nat.not_lt_zero _)⟩, fun _ => trivial⟩
  | n :: r, acc, h0, hp => by
    have hn := hp n (by simp)
    have ih := grp_iff r (if nD n = true then acc + nT n else 0) (by split <;> omega) (fun x hx => hp x (by simp [hx]))
    have e0 : tS r 0 = 0 := rfl
    rw [shortG_cons]
    show (acc + nT n ≤ 768 ∧ grp _ r) ↔ _
    rw [ih]
    constructor
    · rintro ⟨h1, h2, h3⟩
      have A : ∀ j, j < r.length + 1 → tiedRun (n :: r) 0 j → acc + tS (n :: r) (j + 1) ≤ 768 := by
        intro j hj hr
        cases j with
        | zero =>
          rw [tS_cons]
          omega
        | succ j =>
          obtain ⟨x, hx, hd⟩ := hr 0 (by omega) (by omega)
          simp at hx
          subst hx
          have := h2 j (by omega) (fun l a b => hr (l + 1) (by omega) (by omega))
          rw [if_pos hd] at this
          rw [tS_cons]
          omega
      exact ⟨fun j hj hr => A j (by simpa using hj) hr, h3, fun j hj hr => by have := A j hj hr; omega⟩
    · rintro ⟨h1, h2, h3⟩
      refine ⟨?_, fun j hj hr => ?_, h2⟩
      · have := h1 0 (by simp) (fun l a b => by omega)
        rw [tS_cons] at this
        omega
      · by_cases hd : nD n = true
        · rw [if_pos hd]
          have := h1 (j + 1) (by simpa using hj) (fun l a b => by
            cases l with
            | zero => exact ⟨n, rfl, hd⟩
            | succ l => exact hr l (by omega) (by omega))
          rw [tS_cons] at this
          omega
        · rw [if_neg hd]
          have := h2 0 j (by omega) hj hr
          omega
theorem any_grp : ∀ (r : List N6) (m : N6), vL (m :: r) → (anyTied (jfrom m r) = false ↔ grp 0 (m :: r))
  | [], m, hv => by
    have hd : nD m = false := by
      cases hd : nD m
      · rfl
      · obtain ⟨k, hk, -⟩ := hv.2.1 hd
        cases hk
    have t := nB_ticks hv.1
    constructor
    · intro _
      exact ⟨by omega, trivial⟩
    · intro _
      show anyTied [m] = false
      simp [anyTied, hd]
  | n :: r, m, hv => by
    have t := nB_ticks hv.1
    by_cases h : nD m = true ∧ nT m + nT n ≤ 768
    · rw [jfrom_yes h, any_grp r _ (vL_mrg hv h)]
      show (0 + nT (mrg m n) ≤ 768 ∧ grp (if nD (mrg m n) = true then 0 + nT (mrg m n) else 0) r) ↔ (0 + nT m ≤ 768 ∧ (if nD m = true then 0 + nT m else 0) + nT n ≤ 768 ∧ grp (if nD n = true then (if nD m = true then 0 + nT m else 0) + nT n else 0) r)
      rw [mrg_T, mrg_D, if_pos h.1, show 0 + (nT m + nT n) = 0 + nT m + nT n by omega]
      constructor
      · rintro ⟨h1, h2⟩
        exact ⟨by omega, h1, h2⟩
      · rintro ⟨h1, h2, h3⟩
        exact ⟨h2, h3⟩
    · rw [jfrom_no h]
      show (nD m || anyTied (jfrom n r)) = false ↔ (0 + nT m ≤ 768 ∧ (if nD m = true then 0 + nT m else 0) + nT n ≤ 768 ∧ grp (if nD n = true then (if nD m = true then 0 + nT m else 0) + nT n else 0) r)
      cases hd : nD m
      · rw [Bool.false_or, any_grp r n hv.2.2, if_neg (by simp)]
        show (0 + nT n ≤ 768 ∧ grp (if nD n = true then 0 + nT n else 0) r) ↔ _
        constructor
        · rintro ⟨h1, h2⟩
          exact ⟨by omega, h1, h2⟩
        · rintro ⟨h1, h2, h3⟩
          exact ⟨h2, h3⟩
      · rw [Bool.true_or, if_pos rfl]
        constructor
        · intro hh
          cases hh
        · rintro ⟨h1, h2, h3⟩
          exact absurd ⟨hd, by omega⟩ h
theorem any_short {xs : List N6} (h : vvB xs = true) : anyTied (joinF xs) = false ↔ shortG xs := by
  obtain ⟨h1, h2⟩ := vv_iff.1 h
  have hp : ∀ x ∈ xs, 0 ≤ nT x := fun x hx => by
    obtain ⟨k, hk⟩ := List.mem_iff_getElem?.1 hx
    have := nB_ticks (vL_get h2 hk).1
    omega
  have hg := grp_iff xs 0 (by omega) hp
  have e : anyTied (joinF xs) = false ↔ grp 0 xs := by
    cases xs with
    | nil => exact ⟨fun _ => trivial, fun _ => rfl⟩
    | cons n r => exact any_grp r n h2
  rw [e, hg]
  constructor
  · exact fun h => h.2
  · exact fun hs => ⟨fun j hj hr => by
      have := hs 0 j (by omega) hj hr
      have e : tS xs 0 = 0 := rfl
      omega, hs⟩
theorem turn_short {xs : List N6} (h : shortG xs) : shortG (turnL xs) := by
  intro i j hij hj hr
  rw [turnL_len] at hj
  have a := turn_tS xs (j + 1) (by omega)
  have b := turn_tS xs i (by omega)
  have c := h (xs.length - 1 - j) (xs.length - 1 - i) (by omega) (by omega) (fun l h1 h2 => by
    obtain ⟨y, hy, hd⟩ := hr (xs.length - 2 - l) (by omega) (by omega)
    obtain ⟨x, hx⟩ := nth (xs := xs) (k := l + 1) (by omega)
    obtain ⟨z, hz⟩ := nth (xs := xs) (k := l) (by omega)
    rw [turn_get (k := xs.length - 2 - l) (i := l + 1) (by omega) hx] at hy
    injection hy with hy
    subst hy
    exact ⟨z, hz, by rw [← tiedB_get hz]; exact hd⟩)
  rw [show xs.length - 1 - i + 1 = xs.length - i by omega] at c
  rw [show xs.length - (j + 1) = xs.length - 1 - j by omega] at a
  omega
/-- Turned and joined there are as many notes, if no joined note is tied. -/
theorem turn_join_len {xs : List N6} (h : vvB xs = true) (hn : anyTied (joinF xs) = false) : (joinF (turnL xs)).length = (joinF xs).length := by
  have hs := turn_short ((any_short h).1 hn)
  have h2 := (any_short (turn_vv h)).2 hs
  rw [← free_all h2, ← free_all hn, free_joinF, free_joinF, turn_free h]

end Go.Proofs.Ytmkkhbplfedpoaa
