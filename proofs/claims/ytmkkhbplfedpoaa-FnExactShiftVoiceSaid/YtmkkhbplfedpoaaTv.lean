/- The walks of TurnVoice, of the program and of the reference: the plain turned voice in a row of the call's own. Conditions: the notes lie in memory as a slice of notes does. -/
import Derived.Test.YtmkkhbplfedpoaaVt
import Derived.Test.YtmkkhbplfedpoaaNp
namespace Go.Proofs.Ytmkkhbplfedpoaa
open Go.RowKit

theorem n_row {L : List (Bool × Int × Int × Int × Int × Bool)} {k : Nat} {r : Bool} {s a o t : Int} {d : Bool} (h : L[k]? = some (r, s, a, o, t, d)) : rowL (nc L) (k * 6) ++ [.bool r, .int .i64 s, .int .i64 a, .int .i64 o, .int .i64 t, .bool d] = rowL (nc L) ((k + 1) * 6) := by
  obtain ⟨e0, e1, e2, e3, e4, e5⟩ := nc_at h
  rw [show (k + 1) * 6 = k * 6 + 6 by omega, rowL_6, e0, e1, e2, e3, e4, e5]
theorem news2 (W : World) (o : Obj) (c : Array Value) (t : TypeId) : ((W.alloc o).alloc (.cells c t)).heap[W.heap.size + 1]? = some (.cells c t (0, 0)) := by
  rw [show W.heap.size + 1 = (W.alloc o).heap.size by simp]
  exact heap_alloc_new _ _
theorem one6 (r : Bool) (s a o t : Int) (d : Bool) : ∀ u ∈ [Value.bool r, Value.int .i64 s, Value.int .i64 a, Value.int .i64 o, Value.int .i64 t, Value.bool d], u.oneCell' = true := by
  intro u hu
  simp only [List.mem_cons, List.not_mem_nil, or_false] at hu
  rcases hu with rfl | rfl | rfl | rfl | rfl | rfl <;> rfl
/-- A slice that the call made: it holds the notes L. -/
def RowPost (w : World) (L : List (Bool × Int × Int × Int × Int × Bool)) (e : Ending) (w' : World) : Prop :=
  ∃ a cap, e = .returned (.slice a L.length cap) ∧ Below w.heap.size w w' ∧ Owns w' w.heap.size a (L.length * 6) (nc L) ∧ L.length ≤ cap ∧ cap ≤ maxLen
theorem rowPost_mk {w w' : World} {L : List (Bool × Int × Int × Int × Int × Bool)} {v : Value} {n : Nat} (hn : L.length = n) (hB : Below w.heap.size w w') (h : w'.ownsRow w.heap.size 29 6 v n (rowL (nc L) (n * 6))) : RowPost w L (.returned v) w' := by
  subst hn
  obtain ⟨a, cap, rfl, h1, h2, h3⟩ := owns_of_row h
  exact ⟨a, cap, rfl, hB, h3, h1, h2⟩
theorem rowPost_nil (w w' : World) (a : Option Addr) (cap : Nat) (hB : Below w.heap.size w w') (hc : cap ≤ maxLen) : RowPost w [] (.returned (.slice a 0 cap)) w' :=
  ⟨a, cap, rfl, hB, Owns.none _ _ _ _, Nat.zero_le _, hc⟩

/-- Is the note ahead of note i tied? -/
def tiedB (xs : List (Bool × Int × Int × Int × Int × Bool)) (i : Nat) : Bool := match i with | 0 => false | j + 1 => (match xs[j]? with | some (_, _, _, _, _, d) => d | none => false)
def turnAt (xs : List (Bool × Int × Int × Int × Int × Bool)) (i : Nat) : Bool × Int × Int × Int × Int × Bool := match xs[i]? with | some (r, s, a, o, t, _) => (r, s, a, o, t, tiedB xs i) | none => (false, 0, 0, 0, 0, false)
def turnL (xs : List (Bool × Int × Int × Int × Int × Bool)) : List (Bool × Int × Int × Int × Int × Bool) := (List.range xs.length).map (fun k => turnAt xs (xs.length - 1 - k))
def trV (xs : List (Bool × Int × Int × Int × Int × Bool)) : List (Bool × Int × Int × Int × Int × Bool) := if vvB xs then turnL xs else []
theorem turnL_len (xs : List (Bool × Int × Int × Int × Int × Bool)) : (turnL xs).length = xs.length := by simp [turnL]
theorem trV_len (xs : List (Bool × Int × Int × Int × Int × Bool)) : (trV xs).length ≤ xs.length := by
  unfold trV
  split
  · exact Nat.le_of_eq (turnL_len xs)
  · exact Nat.zero_le _
theorem turnL_at {xs : List (Bool × Int × Int × Int × Int × Bool)} {i k : Nat} (h : k + 1 + i = xs.length) : (turnL xs)[k]? = some (turnAt xs i) := by
  unfold turnL
  rw [List.getElem?_map, List.getElem?_range (by omega)]
  show some (turnAt xs (xs.length - 1 - k)) = _
  rw [show xs.length - 1 - k = i by omega]
theorem turnAt_at {xs : List (Bool × Int × Int × Int × Int × Bool)} {i : Nat} {r : Bool} {s a o t : Int} {d : Bool} (h : xs[i]? = some (r, s, a, o, t, d)) : turnAt xs i = (r, s, a, o, t, tiedB xs i) := by unfold turnAt; rw [h]
theorem tiedB_s {xs : List (Bool × Int × Int × Int × Int × Bool)} {j : Nat} {r : Bool} {s a o t : Int} {d : Bool} (h : xs[j]? = some (r, s, a, o, t, d)) : tiedB xs (j + 1) = d := by
  show (match xs[j]? with | some (_, _, _, _, _, d) => d | none => false) = d
  rw [h]

set_option maxHeartbeats 8000000 in
theorem turnVoice_any (a : Option Addr) (n cap : Nat) (xs : List (Bool × Int × Int × Int × Int × Bool)) (w : World) (hx : xs.length = n) (h : Voice w a xs) (hn : n ≤ 10000000) :
    Calls Try.prog 30 #[.slice a n cap] w (RowPost w (trV xs)) := by
  cases hv : vvB xs
  · have HV := fun W (hW : Voice W a xs) => voiceValid_any a n cap xs W hx hW hn
    rw [hv] at HV
    have HR := Lib.hid (show trV xs = [] by unfold trV; rw [hv]; rfl)
    have HVV := Lib.hid HV
    clear HV hv hx
    go_enter Try.func30, Try.ntmps30
    go_wp2_with fail
    refine (HVV.out _ h).mono ?_
    rintro e w1 ⟨rfl, hb⟩
    go_wp2
    go_ret
    rw [HR.out]
    exact rowPost_nil _ _ _ _ hb (by unfold maxLen; omega)
  have HR := Lib.hid (show trV xs = turnL xs by unfold trV; rw [hv]; rfl)
  have HV2 := fun W (hW : Voice W a xs) => voiceValid_any a n cap xs W hx hW hn
  rw [hv] at HV2
  have HVV := Lib.hid HV2
  have h60 : n ≤ 60 := by have := (vv_all hv).1; omega
  have h0 := h
  unfold Voice at h
  rw [hx] at h
  have HX := Lib.hid hx
  have HS := Lib.hid h
  have HL := Lib.hid ((turnL_len xs).trans hx)
  clear HV2 hv h hx
  obtain ⟨i0, hi, hz0, hz1, hz2⟩ := info_parts infoN
  go_enter Try.func30, Try.ntmps30
  go_wp2_with fail
  refine (HVV.out _ h0).mono ?_
  rintro e w1 ⟨rfl, HB0⟩
  clear h0
  go_wp2_with fail
  have hs0 := HB0.size
  have own0 : (w1.alloc (Obj.cells #[] 29)).ownsRow w.heap.size 29 6 (.slice (some ⟨w1.heap.size, 0, none⟩) 0 0) 0 (rowL (nc (turnL xs)) (0 * 6)) := World.ownsRow_made w1 #[] 0 hs0 (by unfold maxLen; omega) rfl
  have hB : Below w.heap.size w (w1.alloc (Obj.cells #[] 29)) := by go_grown
  go_loopw [3, 4] (fun v iv wr => ∃ m : Nat, m ≤ n ∧ iv = .int .i64 ((m : Int) - 1) ∧ wr.ownsRow w.heap.size 29 6 v (n - m) (rowL (nc (turnL xs)) ((n - m) * 6)) ∧ Below w.heap.size w wr) (fun _ iv _ => (intOf iv + 1).toNat)
  case atStart => exact ⟨n, Nat.le_refl _, rfl, by rw [Nat.sub_self]; exact own0, hB⟩
  case round =>
    clear own0 hB HB0 hs0
    obtain ⟨m, hm, rfl, own, hB⟩ := hrel
    have hsz := hB.size
    cases m with
    | zero =>
      rw [show ((0 : Nat) : Int) - 1 = -1 from rfl]
      go_wp2
      go_ret
      rw [HR.out]
      exact rowPost_mk HL.out hB (by simpa using own)
    | succ i =>
      rw [show ((i + 1 : Nat) : Int) - 1 = (i : Int) by omega]
      obtain ⟨⟨r, s, x, o, t, d⟩, hxk⟩ := nth (xs := xs) (k := i) (by have := HX.out; omega)
      obtain ⟨k, hk⟩ : ∃ k, k = n - (i + 1) := ⟨_, rfl⟩
      rw [← hk] at own
      have hki : k + 1 + i = n := by omega
      have hat := turnL_at (xs := xs) (i := i) (k := k) (by have := HX.out; omega)
      rw [turnAt_at hxk] at hat
      obtain ⟨g, off, rfl, hc⟩ := (HS.out.pure hB) (by omega)
      obtain ⟨c0, c1, c2, c3, c4, c5⟩ := at6 hc (show i < n by omega) hxk
      have hi1 : (i : Int) < (n : Int) := by omega
      have hi2 : (0 : Int) ≤ (i : Int) := by omega
      clear hxk hk
      have hzz := cell_lt c0
      cases i with
      | zero =>
        have hd : tiedB xs 0 = false := rfl
        rw [hd] at hat
        have HR3 := Lib.hid (n_row hat)
        have hk60 : k + 1 ≤ 60 := by omega
        have HKI := Lib.hid hki
        clear hat hd hc hki
        have OWN := Lib.hid own
        have HB1 := Lib.hid hB
        rw [show ((0 : Nat) : Int) = 0 from rfl] at hi1 hi2 ⊢
        simp only [Nat.zero_mul, Nat.add_zero] at c0 c1 c2 c3 c4 c5
        clear own hB
        go_wp2_with (at_builtin; refine wpList_append_lies _ rfl _ _ 35 rfl w.heap.size 29 i0 (.agg #[.bool false, .int .i64 0, .int .i64 0, .int .i64 0, .int .i64 0, .bool false]) 6 48 Try.underlying35 hi hz0 hz1 hz2 rfl (by omega) u3 (k) (rowL (nc (turnL xs)) ((k) * 6)) rfl ((OWN.out.alloc _).alloc _) ⟨wr.heap.size + 1, 0, none⟩ 1 1 [.bool r, .int .i64 s, .int .i64 x, .int .i64 o, .int .i64 t, .bool false] rfl rfl (World.news_of_block (news2 _ _ _ _)) (one6 _ _ _ _ _ _) (by omega) (by unfold maxLen; omega) (by omega) (by simp; omega) (wr.heap.size + 1 + 1) (by simp) ?_; intro g' cap' w3 own3 hgrow hat hglt)
        rw [HR3.out] at own3
        have hB3 := below_append (show Below w.heap.size w (wr.alloc (.cells #[.bool r, .int .i64 s, .int .i64 x, .int .i64 o, .int .i64 t, .bool false] 29)) by have := HB1.out; go_grown) (by simp; omega) hgrow (fun j hj => (OWN.out.lt j hj).1)
        clear hgrow hglt OWN HR3 c0 c1 c2 c3 c4 c5
        go_wp2_with fail
        go_roundw
        case rel => exact ⟨0, by omega, by rfl, by rw [show n - 0 = k + 1 by have := HKI.out; omega]; exact own3, hB3⟩
        case measure => simp [intOf]
      | succ j =>
        obtain ⟨⟨r', s', x', o', t', d'⟩, hxl⟩ := nth (xs := xs) (k := j) (by have := HX.out; omega)
        obtain ⟨-, -, -, -, -, d5⟩ := at6 hc (show j < n by omega) hxl
        rw [tiedB_s hxl] at hat
        have HR3 := Lib.hid (n_row hat)
        clear hat hc hxl
        have OWN := Lib.hid own
        have HB1 := Lib.hid hB
        have hw1 : IntKind.i64.wrap (((j + 1 : Nat) : Int) - 1) = (j : Int) := by rw [show ((j + 1 : Nat) : Int) - 1 = (j : Int) by omega]; exact IntWalk.i64_in _ (by omega)
        have hj1 : ((j + 1 : Nat) : Int) - 1 = (j : Int) := by omega
        have hj2 : (0 : Int) < ((j + 1 : Nat) : Int) := by omega
        have hj3 : (j : Int) < (n : Int) := by omega
        clear own hB
        go_wp2_with (at_builtin; refine wpList_append_lies _ rfl _ _ 35 rfl w.heap.size 29 i0 (.agg #[.bool false, .int .i64 0, .int .i64 0, .int .i64 0, .int .i64 0, .bool false]) 6 48 Try.underlying35 hi hz0 hz1 hz2 rfl (by omega) u3 (k) (rowL (nc (turnL xs)) ((k) * 6)) rfl ((OWN.out.alloc _).alloc _) ⟨wr.heap.size + 1, 0, none⟩ 1 1 [.bool r, .int .i64 s, .int .i64 x, .int .i64 o, .int .i64 t, .bool d'] rfl rfl (World.news_of_block (news2 _ _ _ _)) (one6 _ _ _ _ _ _) (by omega) (by unfold maxLen; omega) (by omega) (by simp; omega) (wr.heap.size + 1 + 1) (by simp) ?_; intro g' cap' w3 own3 hgrow hat hglt)
        rw [HR3.out] at own3
        have hB3 := below_append (show Below w.heap.size w (wr.alloc (.cells #[.bool r, .int .i64 s, .int .i64 x, .int .i64 o, .int .i64 t, .bool d'] 29)) by have := HB1.out; go_grown) (by simp; omega) hgrow (fun j hj => (OWN.out.lt j hj).1)
        clear hgrow hglt OWN HR3 c0 c1 c2 c3 c4 c5 d5
        go_wp2_with fail
        go_roundw
        case rel => exact ⟨j + 1, by omega, by go_num, by rw [show n - (j + 1) = k + 1 by omega]; exact own3, hB3⟩
        case measure => simp [intOf]; omega

set_option maxHeartbeats 8000000 in
theorem specTurnVoice_any (a : Option Addr) (n cap : Nat) (xs : List (Bool × Int × Int × Int × Int × Bool)) (w : World) (hx : xs.length = n) (h : Voice w a xs) (hn : n ≤ 10000000) :
    Calls Try.prog 29 #[.slice a n cap] w (RowPost w (trV xs)) := by
  cases hv : vvB xs
  · have HV := fun W (hW : Voice W a xs) => specVoiceValid_any a n cap xs W hx hW hn
    rw [hv] at HV
    have HR := Lib.hid (show trV xs = [] by unfold trV; rw [hv]; rfl)
    have HVV := Lib.hid HV
    have hpos : 0 < n := by
      rcases Nat.eq_zero_or_pos n with h0 | h0
      · subst h0
        rw [List.length_eq_zero_iff.1 hx] at hv
        cases hv
      · exact h0
    have hj : (0 : Int) ≤ (n : Int) - 1 := by omega
    clear HV hv hx
    go_enter Try.func29, Try.ntmps29
    go_wp2_with fail
    refine wp_loop_rounds 1 ?_
    rw [rounds_succ]
    go_wp2_with fail
    refine (HVV.out _ (h.pure (by go_grown))).mono ?_
    rintro e w1 ⟨rfl, hb⟩
    have hB := below_pure (w := w) (by go_grown) hb
    go_wp2
    go_ret
    rw [HR.out]
    exact rowPost_nil _ _ _ _ hB (by unfold maxLen; omega)
  have HR := Lib.hid (show trV xs = turnL xs by unfold trV; rw [hv]; rfl)
  have HV2 := fun W (hW : Voice W a xs) => specVoiceValid_any a n cap xs W hx hW hn
  rw [hv] at HV2
  have HVV := Lib.hid HV2
  have h60 : n ≤ 60 := by have := (vv_all hv).1; omega
  have h0 := h
  unfold Voice at h
  rw [hx] at h
  have HX := Lib.hid hx
  have HS := Lib.hid h
  have HL := Lib.hid ((turnL_len xs).trans hx)
  clear HV2 hv h hx
  obtain ⟨i0, hi, hz0, hz1, hz2⟩ := info_parts infoN
  go_enter Try.func29, Try.ntmps29
  go_wp2_with fail
  have HB0 := Below.refl w.heap.size w
  have hs0 := HB0.size
  have own0 : (w.alloc (Obj.cells #[] 29)).ownsRow w.heap.size 29 6 (.slice (some ⟨w.heap.size, 0, none⟩) 0 0) 0 (rowL (nc (turnL xs)) (0 * 6)) := World.ownsRow_made w #[] 0 hs0 (by unfold maxLen; omega) rfl
  have hB : Below w.heap.size w (w.alloc (Obj.cells #[] 29)) := by go_grown
  go_loopw [3, 4] (fun v iv wr => ∃ m : Nat, m ≤ n ∧ iv = .int .i64 ((m : Int) - 1) ∧ wr.ownsRow w.heap.size 29 6 v (n - m) (rowL (nc (turnL xs)) ((n - m) * 6)) ∧ Below w.heap.size w wr) (fun _ iv _ => (intOf iv + 1).toNat)
  case atStart => exact ⟨n, Nat.le_refl _, rfl, by rw [Nat.sub_self]; exact own0, hB⟩
  case round =>
    clear own0 hB HB0 hs0
    obtain ⟨m, hm, rfl, own, hB⟩ := hrel
    have hsz := hB.size
    cases m with
    | zero =>
      rw [show ((0 : Nat) : Int) - 1 = -1 from rfl]
      go_wp2
      go_ret
      rw [HR.out]
      exact rowPost_mk HL.out hB (by simpa using own)
    | succ i =>
      rw [show ((i + 1 : Nat) : Int) - 1 = (i : Int) by omega]
      have HVw : Voice wr a xs := by
        have q := HS.out.pure hB
        unfold Voice
        rw [HX.out]
        exact q
      have hi0 : (0 : Int) ≤ (i : Int) := by omega
      go_wp2_with fail
      refine (HVV.out _ HVw).mono ?_
      rintro e w2 ⟨rfl, hb⟩
      replace hB := below_pure hB hb
      replace own := row_pure own hb
      clear hb HVw hsz
      have hsz := hB.size
      obtain ⟨⟨r, s, x, o, t, d⟩, hxk⟩ := nth (xs := xs) (k := i) (by have := HX.out; omega)
      obtain ⟨k, hk⟩ : ∃ k, k = n - (i + 1) := ⟨_, rfl⟩
      rw [← hk] at own
      have hki : k + 1 + i = n := by omega
      have hat := turnL_at (xs := xs) (i := i) (k := k) (by have := HX.out; omega)
      rw [turnAt_at hxk] at hat
      obtain ⟨g, off, rfl, hc⟩ := (HS.out.pure hB) (by omega)
      obtain ⟨c0, c1, c2, c3, c4, c5⟩ := at6 hc (show i < n by omega) hxk
      have hi1 : (i : Int) < (n : Int) := by omega
      have hi2 : (0 : Int) ≤ (i : Int) := by omega
      clear hxk hk
      have hzz := cell_lt c0
      cases i with
      | zero =>
        have hd : tiedB xs 0 = false := rfl
        rw [hd] at hat
        have HR3 := Lib.hid (n_row hat)
        have hk60 : k + 1 ≤ 60 := by omega
        have HKI := Lib.hid hki
        clear hat hd hc hki
        have OWN := Lib.hid own
        have HB1 := Lib.hid hB
        rw [show ((0 : Nat) : Int) = 0 from rfl] at hi1 hi2 ⊢
        simp only [Nat.zero_mul, Nat.add_zero] at c0 c1 c2 c3 c4 c5
        clear own hB
        go_wp2_with (at_builtin; refine wpList_append_lies _ rfl _ _ 35 rfl w.heap.size 29 i0 (.agg #[.bool false, .int .i64 0, .int .i64 0, .int .i64 0, .int .i64 0, .bool false]) 6 48 Try.underlying35 hi hz0 hz1 hz2 rfl (by omega) u3 (k) (rowL (nc (turnL xs)) ((k) * 6)) rfl ((OWN.out.alloc _).alloc _) ⟨w2.heap.size + 1, 0, none⟩ 1 1 [.bool r, .int .i64 s, .int .i64 x, .int .i64 o, .int .i64 t, .bool false] rfl rfl (World.news_of_block (news2 _ _ _ _)) (one6 _ _ _ _ _ _) (by omega) (by unfold maxLen; omega) (by omega) (by simp; omega) (w2.heap.size + 1 + 1) (by simp) ?_; intro g' cap' w3 own3 hgrow hat hglt)
        rw [HR3.out] at own3
        have hB3 := below_append (show Below w.heap.size w (w2.alloc (.cells #[.bool r, .int .i64 s, .int .i64 x, .int .i64 o, .int .i64 t, .bool false] 29)) by have := HB1.out; go_grown) (by simp; omega) hgrow (fun j hj => (OWN.out.lt j hj).1)
        clear hgrow hglt OWN HR3 c0 c1 c2 c3 c4 c5
        go_wp2_with fail
        go_roundw
        case rel => exact ⟨0, by omega, by rfl, by rw [show n - 0 = k + 1 by have := HKI.out; omega]; exact own3, hB3⟩
        case measure => simp [intOf]
      | succ j =>
        obtain ⟨⟨r', s', x', o', t', d'⟩, hxl⟩ := nth (xs := xs) (k := j) (by have := HX.out; omega)
        obtain ⟨-, -, -, -, -, d5⟩ := at6 hc (show j < n by omega) hxl
        rw [tiedB_s hxl] at hat
        have HR3 := Lib.hid (n_row hat)
        clear hat hc hxl
        have OWN := Lib.hid own
        have HB1 := Lib.hid hB
        have hw1 : IntKind.i64.wrap (((j + 1 : Nat) : Int) - 1) = (j : Int) := by rw [show ((j + 1 : Nat) : Int) - 1 = (j : Int) by omega]; exact IntWalk.i64_in _ (by omega)
        have hj1 : ((j + 1 : Nat) : Int) - 1 = (j : Int) := by omega
        have hj2 : (0 : Int) < ((j + 1 : Nat) : Int) := by omega
        have hj3 : (j : Int) < (n : Int) := by omega
        clear own hB
        go_wp2_with (at_builtin; refine wpList_append_lies _ rfl _ _ 35 rfl w.heap.size 29 i0 (.agg #[.bool false, .int .i64 0, .int .i64 0, .int .i64 0, .int .i64 0, .bool false]) 6 48 Try.underlying35 hi hz0 hz1 hz2 rfl (by omega) u3 (k) (rowL (nc (turnL xs)) ((k) * 6)) rfl ((OWN.out.alloc _).alloc _) ⟨w2.heap.size + 1, 0, none⟩ 1 1 [.bool r, .int .i64 s, .int .i64 x, .int .i64 o, .int .i64 t, .bool d'] rfl rfl (World.news_of_block (news2 _ _ _ _)) (one6 _ _ _ _ _ _) (by omega) (by unfold maxLen; omega) (by omega) (by simp; omega) (w2.heap.size + 1 + 1) (by simp) ?_; intro g' cap' w3 own3 hgrow hat hglt)
        rw [HR3.out] at own3
        have hB3 := below_append (show Below w.heap.size w (w2.alloc (.cells #[.bool r, .int .i64 s, .int .i64 x, .int .i64 o, .int .i64 t, .bool d'] 29)) by have := HB1.out; go_grown) (by simp; omega) hgrow (fun j hj => (OWN.out.lt j hj).1)
        clear hgrow hglt OWN HR3 c0 c1 c2 c3 c4 c5 d5
        go_wp2_with fail
        go_roundw
        case rel => exact ⟨j + 1, by omega, by go_num, by rw [show n - (j + 1) = k + 1 by omega]; exact own3, hB3⟩
        case measure => simp [intOf]; omega

end Go.Proofs.Ytmkkhbplfedpoaa
