/- Plain facts on the fewest values that make a number of ticks, and on the parts that are chosen. No program in sight. No condition. -/
import Derived.Test.YtgbnaimkpnoeoaaLo
namespace Go.Proofs.Ytgbnaimkpnoeoaa

/-- The ticks of value q as a natural number. -/
def tn (q : Nat) : Nat := (tq q).toNat
theorem tn_bd {q : Nat} (h : q < 30) : 8 ≤ tn q ∧ tn q ≤ 336 ∧ ((tn q : Nat) : Int) = tq q := by
  have := tq_bd h
  unfold tn
  omega
/-- The least number for n ticks, out of the first q values. -/
def fstep (L : Nat → Int) (n : Nat) : Nat → Int
  | 0 => 769
  | q + 1 => if tn q ≤ n then min (fstep L n q) (L (n - tn q) + 1) else fstep L n q
theorem fstep_yes {L : Nat → Int} {n q : Nat} (h : tn q ≤ n) : fstep L n (q + 1) = min (fstep L n q) (L (n - tn q) + 1) := if_pos h
theorem fstep_no {L : Nat → Int} {n q : Nat} (h : ¬ tn q ≤ n) : fstep L n (q + 1) = fstep L n q := if_neg h
/-- The table behind n rounds. -/
def FT : Nat → Nat → Int
  | 0 => fun _ => 0
  | n + 1 => fun i => if i = n + 1 then fstep (FT n) (n + 1) 30 else FT n i
def Fw (n : Nat) : Int := FT n n
theorem FT_far : ∀ {m i : Nat}, m < i → FT m i = 0
  | 0, _, _ => rfl
  | m + 1, i, h => by
    show (if i = m + 1 then _ else FT m i) = 0
    rw [if_neg (by omega), FT_far (by omega)]
theorem FT_same : ∀ {m i : Nat}, i ≤ m → FT m i = Fw i
  | 0, i, h => by
    obtain rfl : i = 0 := by omega
    rfl
  | m + 1, i, h => by
    by_cases e : i = m + 1
    · subst e
      rfl
    · show (if i = m + 1 then _ else FT m i) = Fw i
      rw [if_neg e, FT_same (by omega)]
theorem fstep_congr {L L' : Nat → Int} {n : Nat} (hn : 0 < n) (h : ∀ i, i < n → L i = L' i) : ∀ q, q ≤ 30 → fstep L n q = fstep L' n q
  | 0, _ => rfl
  | q + 1, hq => by
    have := tn_bd (q := q) (by omega)
    by_cases ht : tn q ≤ n
    · rw [fstep_yes ht, fstep_yes ht, fstep_congr hn h q (by omega), h _ (by omega)]
    · rw [fstep_no ht, fstep_no ht, fstep_congr hn h q (by omega)]
theorem Fw_zero : Fw 0 = 0 := rfl
theorem Fw_succ (n : Nat) : Fw (n + 1) = fstep Fw (n + 1) 30 := by
  have e : Fw (n + 1) = fstep (FT n) (n + 1) 30 := by
    show (if n + 1 = n + 1 then _ else _) = _
    rw [if_pos rfl]
  rw [e]
  exact fstep_congr (by omega) (fun i hi => FT_same (by omega)) 30 (Nat.le_refl _)
theorem Fw_pos {n : Nat} (h : 0 < n) : Fw n = fstep Fw n 30 := by
  obtain ⟨m, rfl⟩ : ∃ m, n = m + 1 := ⟨n - 1, by omega⟩
  exact Fw_succ m
theorem fstep_le (n : Nat) : ∀ q, fstep Fw n q ≤ 769
  | 0 => Int.le_refl _
  | q + 1 => by
    have := fstep_le n q
    by_cases ht : tn q ≤ n
    · rw [fstep_yes ht]
      omega
    · rw [fstep_no ht]
      exact this
theorem fstep_lower {n : Nat} : ∀ {q p : Nat}, p < q → tn p ≤ n → fstep Fw n q ≤ Fw (n - tn p) + 1
  | 0, p, h, _ => by omega
  | q + 1, p, h, hp => by
    by_cases e : p = q
    · subst e
      rw [fstep_yes hp]
      omega
    · have := fstep_lower (n := n) (q := q) (p := p) (by omega) hp
      by_cases ht : tn q ≤ n
      · rw [fstep_yes ht]
        omega
      · rw [fstep_no ht]
        exact this
theorem fstep_found {n : Nat} : ∀ {q : Nat}, fstep Fw n q ≤ 768 → ∃ p, p < q ∧ tn p ≤ n ∧ fstep Fw n q = Fw (n - tn p) + 1
  | 0, h => by simp [fstep] at h
  | q + 1, h => by
    by_cases ht : tn q ≤ n
    · rw [fstep_yes ht] at h ⊢
      by_cases hc : fstep Fw n q ≤ Fw (n - tn q) + 1
      · obtain ⟨p, hp, h1, h2⟩ := fstep_found (n := n) (q := q) (by omega)
        exact ⟨p, by omega, h1, by omega⟩
      · exact ⟨q, by omega, ht, by omega⟩
    · rw [fstep_no ht] at h ⊢
      obtain ⟨p, hp, h1, h2⟩ := fstep_found h
      exact ⟨p, by omega, h1, h2⟩
theorem Fw_le {n : Nat} : Fw n ≤ 769 := by
  rcases Nat.eq_zero_or_pos n with rfl | h
  · rw [Fw_zero]
    omega
  · rw [Fw_pos h]
    exact fstep_le n 30
theorem Fw_ge : ∀ n : Nat, 0 ≤ Fw n ∧ (0 < n → 1 ≤ Fw n) := by
  intro n
  induction n using Nat.strongRecOn with
  | _ n ih =>
    rcases Nat.eq_zero_or_pos n with rfl | h
    · exact ⟨by rw [Fw_zero]; omega, fun h => absurd h (Nat.lt_irrefl 0)⟩
    · have key : 1 ≤ Fw n := by
        by_cases hc : Fw n ≤ 768
        · rw [Fw_pos h] at hc ⊢
          obtain ⟨p, hp, h1, h2⟩ := fstep_found hc
          have := tn_bd hp
          have := (ih (n - tn p) (by omega)).1
          omega
        · omega
      exact ⟨by omega, fun _ => key⟩
theorem Fw_lower {n p : Nat} (hp : p < 30) (h : tn p ≤ n) : Fw n ≤ Fw (n - tn p) + 1 := by
  have := tn_bd hp
  rw [Fw_pos (n := n) (by omega)]
  exact fstep_lower hp h
theorem Fw_found {n : Nat} (h0 : 0 < n) (h : Fw n ≤ 768) : ∃ p, p < 30 ∧ tn p ≤ n ∧ Fw n = Fw (n - tn p) + 1 := by
  rw [Fw_pos h0] at h ⊢
  exact fstep_found h
/-- Few: each value has at least eight ticks. -/
theorem Fw_few : ∀ n : Nat, Fw n ≤ 768 → 8 * Fw n ≤ n := by
  intro n
  induction n using Nat.strongRecOn with
  | _ n ih =>
    intro h
    rcases Nat.eq_zero_or_pos n with rfl | h0
    · rw [Fw_zero]
      omega
    · obtain ⟨p, hp, h1, h2⟩ := Fw_found h0 h
      have t := tn_bd hp
      have := ih (n - tn p) (by omega) (by omega)
      omega

/-- The reference's table: -1 where there is none. -/
def Gw (n : Nat) : Int := if Fw n ≤ 768 then Fw n else -1
theorem Gw_t {n : Nat} (h : Fw n ≤ 768) : Gw n = Fw n := if_pos h
theorem Gw_f {n : Nat} (h : ¬ Fw n ≤ 768) : Gw n = -1 := if_neg h
def gx (n q : Nat) : Int := if fstep Fw n q ≤ 768 then fstep Fw n q else -1
theorem gx_zero (n : Nat) : gx n 0 = -1 := by
  unfold gx
  rw [if_neg (by simp [fstep])]
theorem gx_all {n : Nat} (h : 0 < n) : gx n 30 = Gw n := by
  unfold gx Gw
  rw [Fw_pos h]
/-- A round of the reference's inner loop. -/
theorem gx_step {n q : Nat} (hn : n ≤ 1000) (hq : q < 30) : gx n (q + 1) = if tn q ≤ n ∧ 0 ≤ Gw (n - tn q) ∧ (gx n q < 0 ∨ Gw (n - tn q) + 1 < gx n q) then Gw (n - tn q) + 1 else gx n q := by
  have t := tn_bd hq
  by_cases ht : tn q ≤ n
  · have e : fstep Fw n (q + 1) = min (fstep Fw n q) (Fw (n - tn q) + 1) := fstep_yes ht
    have hle := fstep_le n q
    by_cases hf : Fw (n - tn q) ≤ 768
    · have few := Fw_few _ hf
      have ge := (Fw_ge (n - tn q)).1
      rw [Gw_t hf]
      unfold gx
      rw [e]
      by_cases hc : fstep Fw n q ≤ 768
      · have h0 : 0 ≤ fstep Fw n q := by
          cases q with
          | zero => simp [fstep] at hc
          | succ q =>
            obtain ⟨p, hp, h1, h2⟩ := fstep_found hc
            have := (Fw_ge (n - tn p)).1
            omega
        rw [if_pos hc, if_pos (show min (fstep Fw n q) (Fw (n - tn q) + 1) ≤ 768 by omega)]
        by_cases hl : Fw (n - tn q) + 1 < fstep Fw n q
        · rw [if_pos ⟨ht, ge, .inr hl⟩]
          omega
        · rw [if_neg (fun hh => by rcases hh.2.2 with h | h <;> omega)]
          omega
      · rw [if_neg hc, if_pos (show min (fstep Fw n q) (Fw (n - tn q) + 1) ≤ 768 by omega), if_pos ⟨ht, ge, .inl (by omega)⟩]
        omega
    · rw [Gw_f hf, if_neg (fun hh => by omega)]
      unfold gx
      rw [e]
      have := Fw_le (n := n - tn q)
      by_cases hc : fstep Fw n q ≤ 768
      · rw [if_pos hc, if_pos (show min (fstep Fw n q) (Fw (n - tn q) + 1) ≤ 768 by omega)]
        omega
      · rw [if_neg hc, if_neg (show ¬ min (fstep Fw n q) (Fw (n - tn q) + 1) ≤ 768 by omega)]
  · rw [if_neg (fun hh => ht hh.1)]
    unfold gx
    rw [fstep_no ht]

/-- The greatest first part, out of the first q values. -/
def bst (n : Nat) : Nat → Nat
  | 0 => 0
  | q + 1 => if tn q ≤ n ∧ Fw (n - tn q) = Fw n - 1 then max (bst n q) (tn q) else bst n q
theorem bst_yes {n q : Nat} (h : tn q ≤ n ∧ Fw (n - tn q) = Fw n - 1) : bst n (q + 1) = max (bst n q) (tn q) := if_pos h
theorem bst_no {n q : Nat} (h : ¬ (tn q ≤ n ∧ Fw (n - tn q) = Fw n - 1)) : bst n (q + 1) = bst n q := if_neg h
theorem bst_ge {n : Nat} : ∀ {q p : Nat}, p < q → tn p ≤ n → Fw (n - tn p) = Fw n - 1 → tn p ≤ bst n q
  | 0, p, h, _, _ => by omega
  | q + 1, p, h, h1, h2 => by
    by_cases e : p = q
    · subst e
      rw [bst_yes ⟨h1, h2⟩]
      omega
    · have := bst_ge (n := n) (q := q) (p := p) (by omega) h1 h2
      by_cases hc : tn q ≤ n ∧ Fw (n - tn q) = Fw n - 1
      · rw [bst_yes hc]
        omega
      · rw [bst_no hc]
        exact this
theorem bst_is {n : Nat} : ∀ {q : Nat}, q ≤ 30 → bst n q = 0 ∨ ∃ p, p < q ∧ bst n q = tn p ∧ tn p ≤ n ∧ Fw (n - tn p) = Fw n - 1
  | 0, _ => .inl rfl
  | q + 1, hq => by
    by_cases hc : tn q ≤ n ∧ Fw (n - tn q) = Fw n - 1
    · rw [bst_yes hc]
      rcases bst_is (n := n) (q := q) (by omega) with h | ⟨p, hp, h1, h2⟩
      · rw [h]
        exact .inr ⟨q, by omega, by omega, hc⟩
      · by_cases hm : tn p ≤ tn q
        · exact .inr ⟨q, by omega, by omega, hc⟩
        · exact .inr ⟨p, by omega, by omega, h2⟩
    · rw [bst_no hc]
      rcases bst_is (n := n) (q := q) (by omega) with h | ⟨p, hp, h1⟩
      · exact .inl h
      · exact .inr ⟨p, by omega, h1⟩
theorem bst_bd (n : Nat) {q : Nat} (hq : q ≤ 30) : bst n q ≤ 336 := by
  rcases bst_is (n := n) hq with h | ⟨p, hp, h1, h2⟩
  · omega
  · have := tn_bd (q := p) (by omega)
    omega
/-- The whole choice. -/
def bs (n : Nat) : Nat := bst n 30
theorem bs_is {n : Nat} (h0 : 0 < n) (h : Fw n ≤ 768) : ∃ p, p < 30 ∧ bs n = tn p ∧ 8 ≤ bs n ∧ bs n ≤ n ∧ Fw (n - bs n) = Fw n - 1 := by
  obtain ⟨p, hp, h1, h2⟩ := Fw_found h0 h
  have t := tn_bd hp
  have hge : tn p ≤ bst n 30 := bst_ge hp h1 (by omega)
  rcases bst_is (n := n) (q := 30) (Nat.le_refl _) with e | ⟨k, hk, e1, e2, e3⟩
  · omega
  · have t2 := tn_bd hk
    exact ⟨k, hk, e1, by unfold bs; omega, by unfold bs; omega, by unfold bs; rw [e1]; exact e3⟩
/-- The parts: at most k of them. -/
def pts : Nat → Nat → List Int
  | 0, _ => []
  | k + 1, n => if n = 0 then [] else (bs n : Int) :: pts k (n - bs n)
theorem pts_succ (k n : Nat) : pts (k + 1) n = if n = 0 then [] else (bs n : Int) :: pts k (n - bs n) := rfl
def TT (n : Nat) : List Int := pts n n
theorem pts_fuel : ∀ (k n : Nat), n ≤ k → Fw n ≤ 768 → pts k n = pts n n := by
  intro k
  induction k using Nat.strongRecOn with
  | _ k ih =>
    intro n h hf
    cases n with
    | zero => cases k <;> rfl
    | succ n =>
      obtain ⟨k, rfl⟩ : ∃ j, k = j + 1 := ⟨k - 1, by omega⟩
      rw [pts_succ, pts_succ, if_neg (by omega), if_neg (by omega)]
      obtain ⟨p, hp, h1, h2, h3, h4⟩ := bs_is (n := n + 1) (by omega) hf
      have e1 := ih k (by omega) (n + 1 - bs (n + 1)) (by omega) (by omega)
      have e2 := ih n (by omega) (n + 1 - bs (n + 1)) (by omega) (by omega)
      rw [e1, e2]
theorem TT_zero : TT 0 = [] := rfl
theorem TT_cons {n : Nat} (h0 : 0 < n) (h : Fw n ≤ 768) : TT n = (bs n : Int) :: TT (n - bs n) := by
  obtain ⟨m, rfl⟩ : ∃ m, n = m + 1 := ⟨n - 1, by omega⟩
  obtain ⟨p, hp, h1, h2, h3, h4⟩ := bs_is h0 h
  have e : TT (m + 1) = pts (m + 1) (m + 1) := rfl
  rw [e, pts_succ, if_neg (by omega), pts_fuel m _ (by omega) (by omega)]
  rfl
theorem TT_len : ∀ n : Nat, Fw n ≤ 768 → ((TT n).length : Int) = Fw n := by
  intro n
  induction n using Nat.strongRecOn with
  | _ n ih =>
    intro h
    rcases Nat.eq_zero_or_pos n with rfl | h0
    · rfl
    · obtain ⟨p, hp, h1, h2, h3, h4⟩ := bs_is h0 h
      have := ih (n - bs n) (by omega) (by omega)
      rw [TT_cons h0 h, List.length_cons]
      omega
/-- The parts add up. -/
def sumI : List Int → Int
  | [] => 0
  | x :: r => x + sumI r
theorem TT_sum : ∀ n : Nat, Fw n ≤ 768 → sumI (TT n) = n := by
  intro n
  induction n using Nat.strongRecOn with
  | _ n ih =>
    intro h
    rcases Nat.eq_zero_or_pos n with rfl | h0
    · rfl
    · obtain ⟨p, hp, h1, h2, h3, h4⟩ := bs_is h0 h
      have := ih (n - bs n) (by omega) (by omega)
      rw [TT_cons h0 h]
      show (bs n : Int) + sumI _ = _
      omega
/-- Each part is the ticks of a value. -/
theorem TT_val : ∀ n : Nat, Fw n ≤ 768 → ∀ x ∈ TT n, ∃ p, p < 30 ∧ x = tq p := by
  intro n
  induction n using Nat.strongRecOn with
  | _ n ih =>
    intro h x hx
    rcases Nat.eq_zero_or_pos n with rfl | h0
    · cases hx
    · obtain ⟨p, hp, h1, h2, h3, h4⟩ := bs_is h0 h
      rw [TT_cons h0 h] at hx
      simp at hx
      rcases hx with rfl | hx
      · exact ⟨p, hp, by have := tn_bd hp; omega⟩
      · exact ih (n - bs n) (by omega) (by omega) x hx
/-- A part is not greater than the one ahead. -/
theorem bs_down {n : Nat} (h0 : 0 < n) (h : Fw n ≤ 768) (h1 : 0 < n - bs n) : bs (n - bs n) ≤ bs n := by
  obtain ⟨p, hp, a1, a2, a3, a4⟩ := bs_is h0 h
  obtain ⟨q, hq, b1, b2, b3, b4⟩ := bs_is h1 (by omega)
  have f1 : Fw n ≤ Fw (n - tn q) + 1 := Fw_lower hq (by omega)
  have f2 : Fw (n - tn q) ≤ Fw (n - tn q - tn p) + 1 := Fw_lower hp (by omega)
  rw [show n - tn q - tn p = n - bs n - bs (n - bs n) by omega] at f2
  have := bst_ge (n := n) hq (by omega) (by omega)
  rw [b1]
  exact this
theorem TT_down : ∀ n : Nat, Fw n ≤ 768 → ∀ k x y, (TT n)[k]? = some x → (TT n)[k + 1]? = some y → y ≤ x := by
  intro n
  induction n using Nat.strongRecOn with
  | _ n ih =>
    intro h k x y hx hy
    rcases Nat.eq_zero_or_pos n with rfl | h0
    · simp [TT_zero] at hx
    · obtain ⟨p, hp, a1, a2, a3, a4⟩ := bs_is h0 h
      rw [TT_cons h0 h] at hx hy
      cases k with
      | zero =>
        simp at hx hy
        rcases Nat.eq_zero_or_pos (n - bs n) with hz | hz
        · rw [hz, TT_zero] at hy
          simp at hy
        · rw [TT_cons hz (by omega)] at hy
          simp at hy
          have := bs_down h0 h hz
          omega
      | succ k => exact ih (n - bs n) (by omega) (by omega) k x y (by simpa using hx) (by simpa using hy)
/-- One value alone. -/
theorem Fw_one {n : Nat} (h0 : 0 < n) : Fw n = 1 ↔ ∃ p, p < 30 ∧ tn p = n := by
  constructor
  · intro h
    obtain ⟨p, hp, h1, h2⟩ := Fw_found h0 (by omega)
    refine ⟨p, hp, ?_⟩
    rcases Nat.eq_zero_or_pos (n - tn p) with hz | hz
    · omega
    · have := (Fw_ge (n - tn p)).2 hz
      omega
  · rintro ⟨p, hp, rfl⟩
    have f := Fw_lower (n := tn p) hp (Nat.le_refl _)
    rw [Nat.sub_self, Fw_zero] at f
    have := (Fw_ge (tn p)).2 h0
    omega
theorem vo_iff {n : Int} : voB n = true ↔ ∃ p, p < 30 ∧ tq p = n := by
  constructor
  · intro h
    obtain ⟨q, hq, e, -⟩ := vo_t h
    exact ⟨q, hq, e⟩
  · rintro ⟨p, hp, e⟩
    cases hb : voB n
    · have := (vo_f hb).2 p hp
      rw [e] at this
      simp at this
    · rfl
theorem vo_one {n : Nat} (h0 : 0 < n) : voB (n : Int) = true ↔ Fw n = 1 := by
  rw [vo_iff, Fw_one h0]
  constructor
  · rintro ⟨p, hp, e⟩
    exact ⟨p, hp, by have := tn_bd hp; omega⟩
  · rintro ⟨p, hp, e⟩
    exact ⟨p, hp, by have := tn_bd hp; omega⟩
/-- A whole note more needs at most one value more. -/
theorem Fw_whole {n : Nat} : Fw (n + 192) ≤ Fw n + 1 := by
  have e : tn 0 = 192 := by decide
  have := Fw_lower (n := n + 192) (p := 0) (by omega) (by omega)
  rw [e, Nat.add_sub_cancel] at this
  exact this
/-- What TiedTicks returns. -/
def ttV (n : Int) : List Int := if 1 ≤ n ∧ n ≤ 768 ∧ Fw n.toNat ≤ 768 then TT n.toNat else []
theorem ttV_t {n : Int} (h : 1 ≤ n ∧ n ≤ 768 ∧ Fw n.toNat ≤ 768) : ttV n = TT n.toNat := if_pos h
theorem ttV_f {n : Int} (h : ¬ (1 ≤ n ∧ n ≤ 768 ∧ Fw n.toNat ≤ 768)) : ttV n = [] := if_neg h

end Go.Proofs.Ytgbnaimkpnoeoaa
