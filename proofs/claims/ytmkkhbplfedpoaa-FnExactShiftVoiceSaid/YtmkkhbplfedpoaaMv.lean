/- Plain facts on voices as lists: what a valid voice is, voices in parts, joined voices, turned voices. No program in sight. No condition. -/
import Derived.Test.YtmkkhbplfedpoaaTv
namespace Go.Proofs.Ytmkkhbplfedpoaa
set_option linter.unusedVariables false

theorem nil_or_snoc {α : Type} (L : List α) : L = [] ∨ ∃ o m, L = o ++ [m] := by
  rcases List.eq_nil_or_concat L with h | ⟨o, m, h⟩
  · exact .inl h
  · exact .inr ⟨o, m, by rw [h, List.concat_eq_append]⟩

abbrev N6 := Bool × Int × Int × Int × Int × Bool
def nB (n : N6) : Bool := noteB n.1 n.2.1 n.2.2.1 n.2.2.2.1 n.2.2.2.2.1 n.2.2.2.2.2
def nT (n : N6) : Int := n.2.2.2.2.1
def nD (n : N6) : Bool := n.2.2.2.2.2
def nP (n : N6) : Bool × Int × Int × Int := (n.1, n.2.1, n.2.2.1, n.2.2.2.1)

theorem nB_ticks {n : N6} (h : nB n = true) : 1 ≤ nT n ∧ nT n ≤ 768 := by
  obtain ⟨r, s, a, o, t, d⟩ := n
  exact note_ticks h
theorem nB_tied {n : N6} (h : nB n = true) (hd : nD n = true) : n.1 = false := by
  obtain ⟨r, s, a, o, t, d⟩ := n
  cases r
  · rfl
  · have hd' : d = true := hd
    subst hd'
    simp [nB, noteB] at h
/-- Another length and, for what is no rest, another tie: the note stays valid. -/
theorem nB_other {n : N6} {t : Int} {d : Bool} (h : nB n = true) (ht : 1 ≤ t ∧ t ≤ 768) (hd : d = true → n.1 = false) : nB (n.1, n.2.1, n.2.2.1, n.2.2.2.1, t, d) = true := by
  obtain ⟨r, s, a, o, t0, d0⟩ := n
  have e : inR t 1 768 = true := by simpa [inR] using ht
  simp only [nB, noteB] at h ⊢
  rw [Bool.and_eq_true] at h
  rw [e]
  cases r
  · simpa using h.2
  · have hf : d = false := by
      cases d
      · rfl
      · exact absurd (hd rfl) (by simp)
    subst hf
    have h2 := h.2
    simp at h2 ⊢
    exact h2.1

/-- A voice in order, but for its length. -/
def vL : List N6 → Prop
  | [] => True
  | n :: r => nB n = true ∧ (nD n = true → ∃ m, r.head? = some m ∧ nP m = nP n) ∧ vL r

theorem okB_succ (n : N6) (r : List N6) (k : Nat) : okB (n :: r) (k + 1) = okB r k := rfl
theorem okB_zero (n : N6) (r : List N6) : okB (n :: r) 0 = true ↔ nB n = true ∧ (nD n = true → ∃ m, r.head? = some m ∧ nP m = nP n) := by
  obtain ⟨b, s, a, o, t, d⟩ := n
  cases hn : noteB b s a o t d
  · have e : okB ((b, s, a, o, t, d) :: r) 0 = false := ok_note rfl hn
    rw [e]
    constructor
    · intro h
      cases h
    · intro h
      have h1 : noteB b s a o t d = true := h.1
      rw [hn] at h1
      cases h1
  · cases d
    · have e : okB ((b, s, a, o, t, false) :: r) 0 = true := ok_free rfl hn
      rw [e]
      exact ⟨fun _ => ⟨hn, fun h => by cases h⟩, fun _ => rfl⟩
    · have hb : b = false := nB_tied (n := (b, s, a, o, t, true)) hn rfl
      cases r with
      | nil =>
        have e : okB [(b, s, a, o, t, true)] 0 = false := ok_last rfl hn rfl
        rw [e]
        constructor
        · intro h
          cases h
        · intro h
          obtain ⟨m, hm, -⟩ := h.2 rfl
          cases hm
      | cons m r' =>
        obtain ⟨b', s', a', o', t', d'⟩ := m
        have e : okB ((b, s, a, o, t, true) :: (b', s', a', o', t', d') :: r') 0 = (!b' && (s' == s) && (a' == a) && (o' == o)) := ok_next rfl hn rfl
        rw [e]
        subst hb
        constructor
        · intro h
          simp at h
          obtain ⟨⟨⟨h1, h2⟩, h3⟩, h4⟩ := h
          subst h1 h2 h3 h4
          exact ⟨hn, fun _ => ⟨_, rfl, rfl⟩⟩
        · intro h
          obtain ⟨m, hm, hp⟩ := h.2 rfl
          simp at hm
          subst hm
          simp [nP] at hp
          simp [hp]
theorem ok_iff : ∀ xs : List N6, (∀ j, j < xs.length → okB xs j = true) ↔ vL xs
  | [] => ⟨fun _ => trivial, fun _ j hj => absurd hj (Nat.not_lt_zero _)⟩
  | n :: r => by
    have ih := ok_iff r
    have h0 := okB_zero n r
    constructor
    · intro h
      obtain ⟨h1, h2⟩ := h0.1 (h 0 (by simp))
      exact ⟨h1, h2, ih.1 fun j hj => by
        have := h (j + 1) (by simpa using hj)
        rwa [okB_succ] at this⟩
    · rintro ⟨h1, h2, h3⟩ j hj
      cases j with
      | zero => exact h0.2 ⟨h1, h2⟩
      | succ j =>
        rw [okB_succ]
        exact ih.2 h3 j (by simpa using hj)
theorem vv_iff {xs : List N6} : vvB xs = true ↔ xs.length ≤ 60 ∧ vL xs :=
  ⟨fun h => ⟨(vv_all h).1, (ok_iff xs).1 (vv_all h).2⟩, fun h => vv_t ((ok_iff xs).2 h.2) h.1⟩

theorem vL_drop : ∀ (k : Nat) {xs : List N6}, vL xs → vL (xs.drop k)
  | 0, _, h => h
  | k + 1, [], _ => trivial
  | k + 1, n :: r, h => vL_drop k (xs := r) h.2.2
theorem vv_drop {xs : List N6} (h : vvB xs = true) (k : Nat) : vvB (xs.drop k) = true := by
  obtain ⟨h1, h2⟩ := vv_iff.1 h
  exact vv_iff.2 ⟨by rw [List.length_drop]; omega, vL_drop k h2⟩
theorem vL_get : ∀ {xs : List N6} (_ : vL xs) {k : Nat} {x : N6} (_ : xs[k]? = some x), nB x = true ∧ (nD x = true → ∃ y, xs[k + 1]? = some y ∧ nP y = nP x)
  | [], _, k, x, hx => by simp at hx
  | n :: r, h, 0, x, hx => by
    simp at hx
    subst hx
    refine ⟨h.1, fun hd => ?_⟩
    obtain ⟨m, hm, hp⟩ := h.2.1 hd
    exact ⟨m, by cases r <;> simp_all, hp⟩
  | n :: r, h, k + 1, x, hx => vL_get (xs := r) h.2.2 (k := k) hx
theorem vL_mk : ∀ {xs : List N6} (_ : ∀ k x, xs[k]? = some x → nB x = true ∧ (nD x = true → ∃ y, xs[k + 1]? = some y ∧ nP y = nP x)), vL xs
  | [], _ => trivial
  | n :: r, h => ⟨(h 0 n rfl).1, fun hd => by
      obtain ⟨y, hy, hp⟩ := (h 0 n rfl).2 hd
      exact ⟨y, by cases r <;> simp_all, hp⟩, vL_mk (xs := r) fun k x hx => h (k + 1) x hx⟩
/-- The first notes of a valid voice are a valid voice exactly if the last of them is not tied. -/
theorem vv_take_t {xs : List N6} (h : vvB xs = true) {k : Nat} (hk : k = 0 ∨ ∃ x, xs[k - 1]? = some x ∧ nD x = false) : vvB (xs.take k) = true := by
  obtain ⟨h1, h2⟩ := vv_iff.1 h
  refine vv_iff.2 ⟨by rw [List.length_take]; omega, vL_mk fun j x hx => ?_⟩
  have hj : j < k := by
    rcases Nat.lt_or_ge j k with hj | hj
    · exact hj
    · rw [List.getElem?_take_eq_none hj] at hx
      cases hx
  rw [List.getElem?_take_of_lt hj] at hx
  obtain ⟨g1, g2⟩ := vL_get h2 hx
  refine ⟨g1, fun hd => ?_⟩
  obtain ⟨y, hy, hp⟩ := g2 hd
  by_cases hl : j + 1 < k
  · exact ⟨y, by rw [List.getElem?_take_of_lt hl]; exact hy, hp⟩
  · rcases hk with rfl | ⟨z, hz, hzd⟩
    · omega
    · rw [show k - 1 = j by omega, hx] at hz
      cases hz
      rw [hd] at hzd
      cases hzd
theorem vv_take_f {xs : List N6} (h : vvB xs = true) {k : Nat} {x : N6} (hk : 0 < k) (hx : xs[k - 1]? = some x) (hd : nD x = true) : vvB (xs.take k) = false := by
  cases hv : vvB (xs.take k)
  · rfl
  · obtain ⟨h1, h2⟩ := vv_iff.1 hv
    have e : (xs.take k)[k - 1]? = some x := by rw [List.getElem?_take_of_lt (by omega)]; exact hx
    obtain ⟨y, hy, -⟩ := (vL_get h2 e).2 hd
    rw [List.getElem?_take_eq_none (by omega)] at hy
    cases hy

theorem tk_get {xs : List N6} {k : Nat} {x : N6} (h : xs[k]? = some x) : tk xs k = nT x := by
  obtain ⟨r, s, a, o, t, d⟩ := x
  exact tk_at h
theorem tk_none {xs : List N6} {k : Nat} (h : xs[k]? = none) : tk xs k = 0 := by unfold tk; rw [h]
theorem tk_congr {xs ys : List N6} {j k : Nat} (h : xs[j]? = ys[k]?) : tk xs j = tk ys k := by unfold tk; rw [h]
theorem tS_take (xs : List N6) (k : Nat) : ∀ j, j ≤ k → tS (xs.take k) j = tS xs j
  | 0, _ => rfl
  | j + 1, h => by
    rw [← tS_succ, ← tS_succ, tS_take xs k j (by omega), tk_congr (List.getElem?_take_of_lt (show j < k by omega))]
theorem tS_drop (xs : List N6) (k : Nat) : ∀ j, tS xs k + tS (xs.drop k) j = tS xs (k + j)
  | 0 => by simp [tS]
  | j + 1 => by
    rw [← tS_succ, ← Nat.add_assoc, ← tS_succ, ← tS_drop xs k j, tk_congr (show (xs.drop k)[j]? = xs[k + j]? from List.getElem?_drop)]
    omega
theorem tS_cons (n : N6) (r : List N6) : ∀ k, tS (n :: r) (k + 1) = nT n + tS r k
  | 0 => by
    rw [← tS_succ]
    show 0 + tk (n :: r) 0 = nT n + 0
    rw [tk_get (x := n) rfl]
    omega
  | k + 1 => by
    rw [← tS_succ, tS_cons n r k, ← tS_succ r k, tk_congr (show (n :: r)[k + 1]? = r[k]? from rfl)]
    omega

/-- The ticks of all notes. -/
def sumT (xs : List N6) : Int := tS xs xs.length
theorem sumT_cons (n : N6) (r : List N6) : sumT (n :: r) = nT n + sumT r := tS_cons n r r.length
theorem sumT_nil : sumT [] = 0 := rfl

/-- What sounds at a tick. -/
def sA : List N6 → Int → Option (Bool × Int × Int × Int)
  | [], _ => none
  | n :: r, i => if i < nT n then some (nP n) else sA r (i - nT n)
theorem sA_at : ∀ {xs : List N6} {k : Nat} {x : N6} {i : Int} (_ : vL xs) (_ : xs[k]? = some x) (_ : tS xs k ≤ i) (_ : i < tS xs (k + 1)), sA xs i = some (nP x)
  | [], k, x, i, _, hx, _, _ => by simp at hx
  | n :: r, 0, x, i, _, hx, _, h2 => by
    simp at hx
    subst hx
    rw [tS_cons] at h2
    show (if i < nT n then some (nP n) else _) = _
    rw [if_pos (by have : tS r 0 = 0 := rfl; omega)]
  | n :: r, k + 1, x, i, hv, hx, h1, h2 => by
    rw [tS_cons] at h1 h2
    have hx' : r[k]? = some x := hx
    have hp := tS_pos hv.2.2 k (by
      have := (List.getElem?_eq_some_iff.1 hx').1
      omega)
    show (if i < nT n then some (nP n) else sA r (i - nT n)) = _
    rw [if_neg (by omega)]
    exact sA_at hv.2.2 hx' (by omega) (by omega)
where
  tS_pos {r : List N6} (h : vL r) : ∀ k, k ≤ r.length → 0 ≤ tS r k
    | 0, _ => by simp [tS]
    | k + 1, hk => by
      have h1 := tS_pos h k (by omega)
      obtain ⟨x, hx⟩ := nth (xs := r) (k := k) (by omega)
      have h2 := nB_ticks (vL_get h hx).1
      rw [← tS_succ, tk_get hx]
      omega

/-- The note that is found sounds. -/
theorem na_found {xs : List N6} (hv : vvB xs = true) {i : Int} (h0 : 0 ≤ i) (h1 : i < sumT xs) : ∃ (k : Nat) (x : N6), naV xs i = (k : Int) ∧ xs[k]? = some x ∧ tS xs k ≤ i ∧ i < tS xs (k + 1) ∧ sA xs i = some (nP x) := by
  have key : ∀ n : Nat, n ≤ xs.length → i < tS xs n → ∃ k, k < n ∧ tS xs k ≤ i ∧ i < tS xs (k + 1) := by
    intro n
    induction n with
    | zero => intro _ h; simp [tS] at h; omega
    | succ n ih =>
      intro hn h
      by_cases hc : i < tS xs n
      · obtain ⟨k, hk, h⟩ := ih (by omega) hc
        exact ⟨k, by omega, h⟩
      · exact ⟨n, by omega, by omega, h⟩
  obtain ⟨k, hk, a, b⟩ := key xs.length (Nat.le_refl _) h1
  obtain ⟨x, hx⟩ := nth hk
  refine ⟨k, x, naV_some hv h0 hk (fun j hj => ?_) b, hx, a, b, sA_at (vv_iff.1 hv).2 hx a b⟩
  have mono : ∀ d, j + 1 + d ≤ xs.length → tS xs (j + 1) ≤ tS xs (j + 1 + d) := by
    intro d
    induction d with
    | zero => intro _; exact Int.le_refl _
    | succ d ih =>
      intro hd
      have h2 := tk_bd hv (k := j + 1 + d) (by omega)
      have h3 := ih (by omega)
      rw [← Nat.add_assoc, ← tS_succ xs (j + 1 + d)]
      omega
  have := mono (k - (j + 1)) (by omega)
  rw [show j + 1 + (k - (j + 1)) = k by omega] at this
  omega
theorem na_none {xs : List N6} {i : Int} (h : naV xs i < 0) : naV xs i = -1 ∧ (vvB xs = true → i < 0 ∨ sumT xs ≤ i) := by
  cases hv : vvB xs
  · exact ⟨naV_f hv, fun h => by cases h⟩
  · by_cases h0 : i < 0
    · exact ⟨naV_neg h0, fun _ => .inl h0⟩
    · by_cases h1 : i < sumT xs
      · obtain ⟨k, x, e, -⟩ := na_found hv (by omega) h1
        rw [e] at h
        omega
      · refine ⟨naV_none fun j hj => ?_, fun _ => .inr (by omega)⟩
        have hd := tS_bd hv
        have mono : ∀ d, j + 1 + d ≤ xs.length → tS xs (j + 1) ≤ tS xs (j + 1 + d) := by
          intro d
          induction d with
          | zero => intro _; exact Int.le_refl _
          | succ d ih =>
            intro hd
            have h2 := tk_bd hv (k := j + 1 + d) (by omega)
            have h3 := ih (by omega)
            rw [← Nat.add_assoc, ← tS_succ xs (j + 1 + d)]
            omega
        have := mono (xs.length - (j + 1)) (by omega)
        rw [show j + 1 + (xs.length - (j + 1)) = xs.length by omega] at this
        unfold sumT at h1
        omega

/-- Joining, from a first note on. -/
def mrg (m n : N6) : N6 := (m.1, m.2.1, m.2.2.1, m.2.2.2.1, nT m + nT n, nD n)
def jfrom (m : N6) : List N6 → List N6
  | [] => [m]
  | n :: r => if nD m = true ∧ nT m + nT n ≤ 768 then jfrom (mrg m n) r else m :: jfrom n r
def joinF : List N6 → List N6
  | [] => []
  | n :: r => jfrom n r
theorem mrg_T (m n : N6) : nT (mrg m n) = nT m + nT n := rfl
theorem mrg_D (m n : N6) : nD (mrg m n) = nD n := rfl
theorem mrg_P (m n : N6) : nP (mrg m n) = nP m := rfl
theorem jfrom_yes {m n : N6} (h : nD m = true ∧ nT m + nT n ≤ 768) (r : List N6) : jfrom m (n :: r) = jfrom (mrg m n) r := if_pos h
theorem jfrom_no {m n : N6} (h : ¬ (nD m = true ∧ nT m + nT n ≤ 768)) (r : List N6) : jfrom m (n :: r) = m :: jfrom n r := if_neg h
theorem jfrom_sum : ∀ (r : List N6) (m : N6), sumT (jfrom m r) = nT m + sumT r
  | [], m => by
    show sumT [m] = _
    rw [sumT_cons]
  | n :: r, m => by
    by_cases h : nD m = true ∧ nT m + nT n ≤ 768
    · rw [jfrom_yes h, jfrom_sum r, mrg_T, sumT_cons]
      omega
    · rw [jfrom_no h, sumT_cons, jfrom_sum r, sumT_cons]
theorem jfrom_len : ∀ (r : List N6) (m : N6), (jfrom m r).length ≤ r.length + 1
  | [], m => Nat.le_refl _
  | n :: r, m => by
    by_cases h : nD m = true ∧ nT m + nT n ≤ 768
    · rw [jfrom_yes h]
      have := jfrom_len r (mrg m n)
      simp
      omega
    · rw [jfrom_no h]
      have := jfrom_len r n
      simp
      omega
theorem vL_mrg {m n : N6} {r : List N6} (hv : vL (m :: n :: r)) (h : nD m = true ∧ nT m + nT n ≤ 768) : vL (mrg m n :: r) := by
  obtain ⟨h1, h2, h3, h4, h5⟩ := hv
  obtain ⟨k, hk, hp⟩ := h2 h.1
  simp at hk
  subst hk
  have t1 := nB_ticks h1
  have t2 := nB_ticks h3
  refine ⟨nB_other h1 (by omega) (fun _ => nB_tied h1 h.1), fun hd => ?_, h5⟩
  obtain ⟨k, hk, hq⟩ := h4 hd
  exact ⟨k, hk, by rw [mrg_P, hq, hp]⟩
theorem jfrom_head : ∀ (r : List N6) (m : N6), vL (m :: r) → ∃ h t, jfrom m r = h :: t ∧ nP h = nP m ∧ nT m ≤ nT h
  | [], m, _ => ⟨m, [], rfl, rfl, Int.le_refl _⟩
  | n :: r, m, hv => by
    by_cases h : nD m = true ∧ nT m + nT n ≤ 768
    · obtain ⟨a, t, e, hp, ht⟩ := jfrom_head r (mrg m n) (vL_mrg hv h)
      have t2 := nB_ticks hv.2.2.1
      exact ⟨a, t, by rw [jfrom_yes h, e], by rw [hp, mrg_P], by rw [mrg_T] at ht; omega⟩
    · exact ⟨m, jfrom n r, jfrom_no h r, rfl, Int.le_refl _⟩
theorem jfrom_vL : ∀ (r : List N6) (m : N6), vL (m :: r) → vL (jfrom m r)
  | [], m, hv => hv
  | n :: r, m, hv => by
    by_cases h : nD m = true ∧ nT m + nT n ≤ 768
    · rw [jfrom_yes h]
      exact jfrom_vL r _ (vL_mrg hv h)
    · rw [jfrom_no h]
      refine ⟨hv.1, fun hd => ?_, jfrom_vL r n hv.2.2⟩
      obtain ⟨a, t, e, hp, -⟩ := jfrom_head r n hv.2.2
      obtain ⟨k, hk, hq⟩ := hv.2.1 hd
      simp at hk
      subst hk
      exact ⟨a, by rw [e]; rfl, by rw [hp, hq]⟩
theorem jfrom_sound : ∀ (r : List N6) (m : N6) (i : Int), vL (m :: r) → sA (jfrom m r) i = sA (m :: r) i
  | [], m, i, _ => rfl
  | n :: r, m, i, hv => by
    by_cases h : nD m = true ∧ nT m + nT n ≤ 768
    · rw [jfrom_yes h, jfrom_sound r _ i (vL_mrg hv h)]
      obtain ⟨k, hk, hp⟩ := hv.2.1 h.1
      simp at hk
      subst hk
      have t2 := nB_ticks hv.2.2.1
      show (if i < nT (mrg m n) then some (nP (mrg m n)) else sA r (i - nT (mrg m n))) = (if i < nT m then some (nP m) else if i - nT m < nT n then some (nP n) else sA r (i - nT m - nT n))
      rw [mrg_T, mrg_P, hp]
      by_cases h1 : i < nT m
      · rw [if_pos h1, if_pos (by omega)]
      · rw [if_neg h1]
        by_cases h2 : i - nT m < nT n
        · rw [if_pos h2, if_pos (by omega)]
        · rw [if_neg h2, if_neg (by omega), show i - (nT m + nT n) = i - nT m - nT n by omega]
    · rw [jfrom_no h]
      show (if i < nT m then some (nP m) else sA (jfrom n r) (i - nT m)) = (if i < nT m then some (nP m) else sA (n :: r) (i - nT m))
      rw [jfrom_sound r n _ hv.2.2]
theorem jfrom_again : ∀ (r : List N6) (m : N6), vL (m :: r) → joinF (jfrom m r) = jfrom m r
  | [], m, _ => rfl
  | n :: r, m, hv => by
    by_cases h : nD m = true ∧ nT m + nT n ≤ 768
    · rw [jfrom_yes h]
      exact jfrom_again r _ (vL_mrg hv h)
    · rw [jfrom_no h]
      obtain ⟨a, t, e, -, ht⟩ := jfrom_head r n hv.2.2
      have ih := jfrom_again r n hv.2.2
      rw [e] at ih ⊢
      show jfrom m (a :: t) = m :: a :: t
      rw [jfrom_no (fun hh => h ⟨hh.1, by omega⟩)]
      exact congrArg (m :: ·) ih
theorem joinF_sum (xs : List N6) : sumT (joinF xs) = sumT xs := by
  cases xs with
  | nil => rfl
  | cons n r => rw [sumT_cons]; exact jfrom_sum r n
theorem joinF_len (xs : List N6) : (joinF xs).length ≤ xs.length := by
  cases xs with
  | nil => exact Nat.le_refl _
  | cons n r => exact jfrom_len r n
theorem joinF_vv {xs : List N6} (h : vvB xs = true) : vvB (joinF xs) = true := by
  obtain ⟨h1, h2⟩ := vv_iff.1 h
  refine vv_iff.2 ⟨by have := joinF_len xs; omega, ?_⟩
  cases xs with
  | nil => trivial
  | cons n r => exact jfrom_vL r n h2
theorem joinF_again {xs : List N6} (h : vvB xs = true) : joinF (joinF xs) = joinF xs := by
  obtain ⟨h1, h2⟩ := vv_iff.1 h
  cases xs with
  | nil => rfl
  | cons n r => exact jfrom_again r n h2
theorem joinF_sound {xs : List N6} (h : vvB xs = true) (i : Int) : sA (joinF xs) i = sA xs i := by
  obtain ⟨h1, h2⟩ := vv_iff.1 h
  cases xs with
  | nil => rfl
  | cons n r => exact jfrom_sound r n i h2

/-- The plain joined voice. -/
def jnV (xs : List N6) : List N6 := if vvB xs then joinF xs else []
theorem jnV_t {xs : List N6} (h : vvB xs = true) : jnV xs = joinF xs := by unfold jnV; rw [if_pos h]
theorem jnV_f {xs : List N6} (h : vvB xs = false) : jnV xs = [] := by unfold jnV; rw [h]; rfl

/-- One step of joining, at the end of what is there. -/
def jstep (out : List N6) (n : N6) : List N6 :=
  match out.getLast? with
  | some m => if nD m = true ∧ nT m + nT n ≤ 768 then out.dropLast ++ [mrg m n] else out ++ [n]
  | none => [n]
theorem jstep_nil (n : N6) : jstep [] n = [n] := rfl
theorem jstep_yes {out : List N6} {m n : N6} (h : nD m = true ∧ nT m + nT n ≤ 768) : jstep (out ++ [m]) n = out ++ [mrg m n] := by
  unfold jstep
  rw [List.getLast?_concat]
  show (if nD m = true ∧ nT m + nT n ≤ 768 then _ else _) = _
  rw [if_pos h, List.dropLast_concat]
theorem jstep_no {out : List N6} {m n : N6} (h : ¬ (nD m = true ∧ nT m + nT n ≤ 768)) : jstep (out ++ [m]) n = out ++ [m] ++ [n] := by
  unfold jstep
  rw [List.getLast?_concat]
  show (if nD m = true ∧ nT m + nT n ≤ 768 then _ else _) = _
  rw [if_neg h]
/-- What is there behind the first k notes. -/
def jN (xs : List N6) : Nat → List N6
  | 0 => []
  | k + 1 => match xs[k]? with | some n => jstep (jN xs k) n | none => jN xs k
theorem jN_succ {xs : List N6} {k : Nat} {n : N6} (h : xs[k]? = some n) : jN xs (k + 1) = jstep (jN xs k) n := by
  show (match xs[k]? with | some n => jstep (jN xs k) n | none => jN xs k) = _
  rw [h]
theorem fold_jfrom : ∀ (r : List N6) (out : List N6) (m : N6), r.foldl jstep (out ++ [m]) = out ++ jfrom m r
  | [], out, m => rfl
  | n :: r, out, m => by
    by_cases h : nD m = true ∧ nT m + nT n ≤ 768
    · rw [List.foldl_cons, jstep_yes h, fold_jfrom r, jfrom_yes h]
    · rw [List.foldl_cons, jstep_no h, fold_jfrom r, jfrom_no h, List.append_assoc]
      rfl
theorem jN_fold (xs : List N6) : ∀ k, k ≤ xs.length → jN xs k = (xs.take k).foldl jstep []
  | 0, _ => by simp [jN]
  | k + 1, h => by
    obtain ⟨x, hx⟩ := nth (xs := xs) (k := k) (by omega)
    rw [jN_succ hx, jN_fold xs k (by omega), List.take_add_one, hx, List.foldl_append]
    rfl
theorem jN_all (xs : List N6) : jN xs xs.length = joinF xs := by
  rw [jN_fold xs _ (Nat.le_refl _), List.take_length]
  cases xs with
  | nil => rfl
  | cons n r => exact fold_jfrom r [] n
theorem jstep_len (out : List N6) (n : N6) : (jstep out n).length ≤ out.length + 1 := by
  rcases nil_or_snoc out with rfl | ⟨o, m, rfl⟩
  · simp [jstep]
  · by_cases h : nD m = true ∧ nT m + nT n ≤ 768
    · rw [jstep_yes h]
      simp
    · rw [jstep_no h]
      simp
theorem jN_len (xs : List N6) : ∀ k, (jN xs k).length ≤ k
  | 0 => Nat.le_refl _
  | k + 1 => by
    have ih := jN_len xs k
    cases hx : xs[k]? with
    | none =>
      have e : jN xs (k + 1) = jN xs k := by
        show (match xs[k]? with | some n => jstep (jN xs k) n | none => jN xs k) = _
        rw [hx]
      rw [e]
      omega
    | some n =>
      rw [jN_succ hx]
      have := jstep_len (jN xs k) n
      omega

/-- Every note so far has few ticks. -/
theorem jN_small {xs : List N6} (hv : vvB xs = true) : ∀ k, k ≤ xs.length → ∀ x ∈ jN xs k, 1 ≤ nT x ∧ nT x ≤ 768
  | 0, _, x, hx => by cases hx
  | k + 1, hk, x, hx => by
    obtain ⟨n, hn⟩ := nth (xs := xs) (k := k) (by omega)
    have t := nB_ticks (vL_get (vv_iff.1 hv).2 hn).1
    have ih := jN_small hv k (by omega)
    rw [jN_succ hn] at hx
    generalize jN xs k = out at *
    rcases nil_or_snoc out with rfl | ⟨o, m, rfl⟩
    · simp [jstep] at hx
      subst hx
      exact t
    · by_cases h : nD m = true ∧ nT m + nT n ≤ 768
      · rw [jstep_yes h] at hx
        simp at hx
        rcases hx with hx | rfl
        · exact ih x (by simp [hx])
        · have := ih m (by simp)
          rw [mrg_T]
          omega
      · rw [jstep_no h] at hx
        simp at hx
        rcases hx with hx | rfl | rfl
        · exact ih x (by simp [hx])
        · exact ih _ (by simp)
        · exact t

end Go.Proofs.Ytmkkhbplfedpoaa
