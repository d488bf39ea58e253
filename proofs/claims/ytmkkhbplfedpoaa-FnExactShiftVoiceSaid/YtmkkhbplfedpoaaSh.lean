/- The walks of ShiftVoice, of the program and of the reference: the plain moved voice in a row of the call's own. Conditions: the notes lie in memory as a slice of notes does. -/
import Derived.Test.YtmkkhbplfedpoaaJt
import Derived.Test.YtmkkhbplfedpoaaId
namespace Go.Proofs.Ytmkkhbplfedpoaa
open Go.RowKit

def shK (x y : Int) (n : N6) : Bool := n.1 || addB n.2.1 n.2.2.1 n.2.2.2.1 x y
def shN (x y : Int) (n : N6) : N6 := if n.1 then n else (false, (placeV n.2.1 n.2.2.1 n.2.2.2.1 + x) % 7, keyV n.2.1 n.2.2.1 n.2.2.2.1 + y - natu (placeV n.2.1 n.2.2.1 n.2.2.2.1 + x), (placeV n.2.1 n.2.2.1 n.2.2.2.1 + x) / 7, n.2.2.2.2.1, n.2.2.2.2.2)
def shB (xs : List (Bool × Int × Int × Int × Int × Bool)) (x y : Int) : Bool := vvB xs && intB x y && xs.all (shK x y)
def shL (xs : List (Bool × Int × Int × Int × Int × Bool)) (x y : Int) : List (Bool × Int × Int × Int × Int × Bool) := if shB xs x y then xs.map (shN x y) else []
theorem shL_t {xs : List (Bool × Int × Int × Int × Int × Bool)} {x y : Int} (h : shB xs x y = true) : shL xs x y = xs.map (shN x y) := by unfold shL; rw [if_pos h]
theorem shL_f {xs : List (Bool × Int × Int × Int × Int × Bool)} {x y : Int} (h : shB xs x y = false) : shL xs x y = [] := by unfold shL; rw [h]; rfl
theorem shL_len (xs : List (Bool × Int × Int × Int × Int × Bool)) (x y : Int) : (shL xs x y).length ≤ xs.length := by
  unfold shL
  split
  · rw [List.length_map]
    exact Nat.le_refl _
  · exact Nat.zero_le _
theorem shB_1 {xs : List (Bool × Int × Int × Int × Int × Bool)} {x y : Int} (h : vvB xs = false) : shB xs x y = false := by unfold shB; rw [h]; rfl
theorem shB_2 {xs : List (Bool × Int × Int × Int × Int × Bool)} {x y : Int} (h : intB x y = false) : shB xs x y = false := by unfold shB; rw [h, Bool.and_false]; rfl
theorem shB_3 {xs : List (Bool × Int × Int × Int × Int × Bool)} {x y : Int} {k : Nat} {n : N6} (hn : xs[k]? = some n) (h : shK x y n = false) : shB xs x y = false := by
  cases hb : shB xs x y
  · rfl
  · unfold shB at hb
    rw [Bool.and_eq_true, List.all_eq_true] at hb
    have := hb.2 n (List.mem_of_getElem? hn)
    rw [h] at this
    cases this
theorem shB_t {xs : List (Bool × Int × Int × Int × Int × Bool)} {x y : Int} (h1 : vvB xs = true) (h2 : intB x y = true) (h3 : ∀ (k : Nat) (n : N6), xs[k]? = some n → shK x y n = true) : shB xs x y = true := by
  unfold shB
  rw [h1, h2, Bool.true_and, Bool.true_and, List.all_eq_true]
  intro n hn
  obtain ⟨k, hk⟩ := List.mem_iff_getElem?.1 hn
  exact h3 k n hk
theorem sh_rest (x y : Int) (s a o t : Int) (d : Bool) : shN x y (true, s, a, o, t, d) = (true, s, a, o, t, d) := rfl
theorem sh_note (x y : Int) (s a o t : Int) (d : Bool) : shN x y (false, s, a, o, t, d) = (false, (placeV s a o + x) % 7, keyV s a o + y - natu (placeV s a o + x), (placeV s a o + x) / 7, t, d) := rfl
theorem sh_at {xs : List (Bool × Int × Int × Int × Int × Bool)} {x y : Int} {k : Nat} {n : N6} (h : xs[k]? = some n) : (xs.map (shN x y))[k]? = some (shN x y n) := by rw [List.getElem?_map, h]; rfl
theorem Owns.less {w : World} {B B' : Nat} {a : Option Addr} {N : Nat} {c : Nat → Value} (h : Owns w B a N c) (hB : B' ≤ B) : Owns w B' a N c := fun h0 => by
  obtain ⟨g, off, e, h1, hc⟩ := h h0
  exact ⟨g, off, e, by omega, hc⟩
/-- A slice that the call made, and a bool. -/
def RowPost2 (w : World) (L : List (Bool × Int × Int × Int × Int × Bool)) (b : Bool) (e : Ending) (w' : World) : Prop :=
  ∃ a cap, e = .returned (.tuple #[.slice a L.length cap, .bool b]) ∧ Below w.heap.size w w' ∧ Owns w' w.heap.size a (L.length * 6) (nc L) ∧ L.length ≤ cap ∧ cap ≤ maxLen
theorem rowPost2_mk {w w' : World} {L : List (Bool × Int × Int × Int × Int × Bool)} {v : Value} {n : Nat} (hn : L.length = n) (hB : Below w.heap.size w w') (h : w'.ownsRow (w.heap.size + 1) 29 6 v n (rowL (nc L) (n * 6))) : RowPost2 w L true (.returned (.tuple #[v, .bool true])) w' := by
  subst hn
  obtain ⟨a, cap, rfl, h1, h2, h3⟩ := owns_of_row h
  exact ⟨a, cap, rfl, hB, h3.less (by omega), h1, h2⟩
theorem rowPost2_nil (w w' : World) (a : Option Addr) (cap : Nat) (hB : Below w.heap.size w w') (hc : cap ≤ maxLen) : RowPost2 w [] false (.returned (.tuple #[.slice a 0 cap, .bool false])) w' :=
  ⟨a, cap, rfl, hB, Owns.none _ _ _ _, Nat.zero_le _, hc⟩
theorem Blk.put13 {W : World} {g : Nat} {t : TypeId} {a b c d e f y z u : Value} (h : Blk W g t #[a, b, c, d, e, f]) : Blk (((W.setCell ⟨g, 1, none⟩ y).setCell ⟨g, 2, none⟩ z).setCell ⟨g, 3, none⟩ u) g t #[a, y, z, u, e, f] := ((h.set_ 1 y).set_ 2 z).set_ 3 u
theorem row_far {w : World} {B : Nat} {e : TypeId} {size n : Nat} {v : Value} {xs : List Value} (h : w.ownsRow B e size v n xs) {p : Addr} (hp : v.ownBlock ≠ some p.block) (u : Value) : (w.setCell p u).ownsRow B e size v n xs :=
  World.ownsRow.kept (row := some p.block) h ⟨rfl, rfl, rfl, by simp [World.setCell], fun i _ hne => Below.heap_setCell w p u i (fun e => hne (by rw [e]))⟩ (.inr hp)

set_option maxHeartbeats 8000000 in
set_option maxRecDepth 100000 in
theorem shiftVoice_any (a : Option Addr) (n cap : Nat) (xs : List (Bool × Int × Int × Int × Int × Bool)) (x y : Int) (w : World) (hx : xs.length = n) (h : Voice w a xs) (hn : n ≤ 10000000) :
    Calls Try.prog 37 #[.slice a n cap, .agg #[.int .i64 x, .int .i64 y]] w (RowPost2 w (shL xs x y) (shB xs x y)) := by
  cases hv : vvB xs
  · have HV := fun W (hW : Voice W a xs) => voiceValid_any a n cap xs W hx hW hn
    rw [hv] at HV
    have HR := Lib.hid (shB_1 (x := x) (y := y) hv)
    have HVV := Lib.hid HV
    clear HV hv hx
    go_enter Try.func37, Try.ntmps37
    go_wp2_with fail
    have k0 : Blk (w.alloc (Obj.cells #[.int .i64 x, .int .i64 y] 47)) w.heap.size 47 #[.int .i64 x, .int .i64 y] := Blk.new _ _ _
    have hB0 : Below w.heap.size w (w.alloc (Obj.cells #[.int .i64 x, .int .i64 y] 47)) := by go_grown
    have V1 : Voice (w.alloc (Obj.cells #[.int .i64 x, .int .i64 y] 47)) a xs := h.pure (by go_grown)
    refine (HVV.out _ V1).mono ?_
    rintro e w1 ⟨rfl, hb⟩
    have hB := below_pure hB0 hb
    clear k0 V1 hb
    go_wp2
    go_ret2
    rw [shL_f HR.out, HR.out]
    exact rowPost2_nil _ _ _ _ hB (by unfold maxLen; omega)
  have HV2 := fun W (hW : Voice W a xs) => voiceValid_any a n cap xs W hx hW hn
  rw [hv] at HV2
  have HVV := Lib.hid HV2
  have HI0 := fun W => intervalValid_any x y W
  cases hiv : intB x y
  · rw [hiv] at HI0
    have HR := Lib.hid (shB_2 (xs := xs) hiv)
    have HI := Lib.hid HI0
    clear HV2 HI0 hv hiv hx
    go_enter Try.func37, Try.ntmps37
    go_wp2_with fail
    have k0 : Blk (w.alloc (Obj.cells #[.int .i64 x, .int .i64 y] 47)) w.heap.size 47 #[.int .i64 x, .int .i64 y] := Blk.new _ _ _
    have hB0 : Below w.heap.size w (w.alloc (Obj.cells #[.int .i64 x, .int .i64 y] 47)) := by go_grown
    have V1 : Voice (w.alloc (Obj.cells #[.int .i64 x, .int .i64 y] 47)) a xs := h.pure (by go_grown)
    refine (HVV.out _ V1).mono ?_
    rintro e w1 ⟨rfl, hb⟩
    have hB := below_pure hB0 hb
    replace k0 := k0.pure hb
    have k0c := Blk.get (i := 0) k0 rfl
    have k0d := Blk.get (i := 1) k0 rfl
    have k0z := k0.lt
    clear k0 V1 hb
    go_wp2_with fail
    refine (HI.out _).mono ?_
    rintro e w2 ⟨rfl, hb⟩
    replace hB := below_pure hB hb
    clear hb k0c k0d k0z
    go_wp2
    go_ret2
    rw [shL_f HR.out, HR.out]
    exact rowPost2_nil _ _ _ _ hB (by unfold maxLen; omega)
  rw [hiv] at HI0
  have HI := Lib.hid HI0
  have HT0 := fun hk => shB_t (xs := xs) (x := x) (y := y) hv hiv hk
  have HTT := Lib.hid HT0
  have h60 : n ≤ 60 := by have := (vv_all hv).1; omega
  have h0 := h
  unfold Voice at h
  rw [hx] at h
  have HX := Lib.hid hx
  have HS := Lib.hid h
  obtain ⟨T, hT⟩ : ∃ T, xs.map (shN x y) = T := ⟨_, rfl⟩
  have HAT := Lib.hid (fun (k : Nat) (m : N6) (hm : xs[k]? = some m) => (show T[k]? = some (shN x y m) by rw [← hT]; exact sh_at hm))
  have HTL := Lib.hid (show T.length = n by rw [← hT, List.length_map]; exact hx)
  have HEQ := Lib.hid (fun (hb : shB xs x y = true) => (show shL xs x y = T by rw [shL_t hb, hT]))
  clear HV2 HI0 HT0 hv hiv hx hT h
  obtain ⟨i0, hi, hz0, hz1, hz2⟩ := info_parts infoN
  go_enter Try.func37, Try.ntmps37
  go_wp2_with fail
  have k0 : Blk (w.alloc (Obj.cells #[.int .i64 x, .int .i64 y] 47)) w.heap.size 47 #[.int .i64 x, .int .i64 y] := Blk.new _ _ _
  have hB0 : Below w.heap.size w (w.alloc (Obj.cells #[.int .i64 x, .int .i64 y] 47)) := by go_grown
  have V1 : Voice (w.alloc (Obj.cells #[.int .i64 x, .int .i64 y] 47)) a xs := h0.pure (by go_grown)
  refine (HVV.out _ V1).mono ?_
  rintro e w1 ⟨rfl, hb⟩
  have hB := below_pure hB0 hb
  replace k0 := k0.pure hb
  have k0c := Blk.get (i := 0) k0 rfl
  have k0d := Blk.get (i := 1) k0 rfl
  have k0z := k0.lt
  clear V1 hb hB0
  go_wp2_with fail
  refine (HI.out _).mono ?_
  rintro e w2 ⟨rfl, hb⟩
  replace hB := below_pure hB hb
  replace k0 := k0.pure hb
  clear hb k0c k0d k0z h0
  have hs0 := k0.lt
  have own1 : (w2.alloc (Obj.cells #[] 29)).ownsRow (w.heap.size + 1) 29 6 (.slice (some ⟨w2.heap.size, 0, none⟩) 0 0) 0 (rowL (nc T) (0 * 6)) := World.ownsRow_made w2 #[] 0 (by omega) (by unfold maxLen; omega) rfl
  have hB1 : Below w.heap.size w (w2.alloc (Obj.cells #[] 29)) := by have hs := hB.size; go_grown
  have k1 : Blk (w2.alloc (Obj.cells #[] 29)) w.heap.size 47 #[.int .i64 x, .int .i64 y] := k0.alloc _
  clear hB k0
  go_wp2_with fail
  go_loopw [6, 22] (fun v kv wr => ∃ k : Nat, k ≤ n ∧ kv = .int .i64 (k : Int) ∧ wr.ownsRow (w.heap.size + 1) 29 6 v k (rowL (nc T) (k * 6)) ∧ Hid (∀ (j : Nat) (m : N6), j < k → xs[j]? = some m → shK x y m = true) ∧ Blk wr w.heap.size 47 #[.int .i64 x, .int .i64 y] ∧ Below w.heap.size w wr) (fun _ kv _ => n - (intOf kv).toNat)
  case atStart => exact ⟨0, Nat.zero_le _, rfl, own1, Lib.hid (fun j m hj => absurd hj (Nat.not_lt_zero _)), k1, hB1⟩
  case round =>
    clear own1 hB1 k1 hs0
    obtain ⟨k, hk, rfl, own, HK, k0, hB⟩ := hrel
    have hsz := hB.size
    by_cases hlt : k < n
    rotate_left
    · obtain rfl : k = n := by omega
      have HB := Lib.hid (HTT.out (fun j m hm => HK.out j m (by have := (List.getElem?_eq_some_iff.1 hm).1; have := HX.out; omega) hm))
      have OWN := Lib.hid own
      clear own k0
      go_wp2
      go_ret2
      rw [HEQ.out HB.out, HB.out]
      exact rowPost2_mk HTL.out hB OWN.out
    obtain ⟨⟨r, s, p, o, t, d⟩, hxk⟩ := nth (xs := xs) (k := k) (by have := HX.out; omega)
    have hat := HAT.out k _ hxk
    have HNO := Lib.hid (fun (hk : shK x y (r, s, p, o, t, d) = false) => shB_3 (x := x) (y := y) hxk hk)
    have HYES := Lib.hid (fun (hkk : shK x y (r, s, p, o, t, d) = true) => (show ∀ (j : Nat) (m : N6), j < k + 1 → xs[j]? = some m → shK x y m = true from fun j m hj hm => by
      rcases Nat.lt_or_eq_of_le (Nat.le_of_lt_succ hj) with h | h
      · exact HK.out j m h hm
      · subst h
        rw [hxk] at hm
        cases hm
        exact hkk))
    obtain ⟨g, off, rfl, hc⟩ := (HS.out.pure hB) (by omega)
    obtain ⟨c0, c1, c2, c3, c4, c5⟩ := at6 hc hlt hxk
    have hzz := cell_lt c0
    have k0z := k0.lt
    have hi1 : (k : Int) < (n : Int) := by omega
    have hi2 : (0 : Int) ≤ (k : Int) := by omega
    clear hxk hc HK
    cases r
    rotate_left
    · rw [sh_rest] at hat
      have HR3 := Lib.hid (n_row hat)
      have HY := Lib.hid (HYES.out rfl)
      have OWN := Lib.hid own
      have HB1 := Lib.hid hB
      have HK0 := Lib.hid k0
      have hnb : u6.ownBlock ≠ some w.heap.size := by
        intro e
        have := (own.lt _ e).1
        omega
      clear own hB k0 hat HYES HNO
      go_wp2_with (at_builtin; refine wpList_append_lies _ rfl _ _ 35 rfl (w.heap.size + 1) 29 i0 (.agg #[.bool false, .int .i64 0, .int .i64 0, .int .i64 0, .int .i64 0, .bool false]) 6 48 Try.underlying35 hi hz0 hz1 hz2 rfl (by omega) u6 (k) (rowL (nc T) ((k) * 6)) rfl ((World.ownsRow.alloc OWN.out _).alloc _) ⟨wr.heap.size + 1, 0, none⟩ 1 1 [.bool true, .int .i64 s, .int .i64 p, .int .i64 o, .int .i64 t, .bool d] rfl rfl (World.news_of_block (news2 _ _ _ _)) (one6 _ _ _ _ _ _) (by omega) (by unfold maxLen; omega) (by omega) (by simp; omega) (wr.heap.size + 1 + 1) (by simp) ?_; intro g' cap' w5 own5 hgrow hat hglt)
      rw [HR3.out] at own5
      have hB5 := below_append (show Below w.heap.size w (wr.alloc (.cells #[.bool true, .int .i64 s, .int .i64 p, .int .i64 o, .int .i64 t, .bool d] 29)) by have := HB1.out; go_grown) (by simp; omega) hgrow (fun j hj => by have := (OWN.out.lt j hj).1; omega)
      have k5 := Lib.hid (Blk.grown ((HK0.out.alloc _).alloc _) hgrow (fun e => hnb e.symm))
      have own6 := Lib.hid own5
      clear own5 hgrow hglt OWN HR3 c0 c1 c2 c3 c4 c5 hnb
      go_wp2_with fail
      go_roundw
      case rel => exact ⟨k + 1, by omega, by go_num, own6.out, HY, k5.out, hB5⟩
      case measure => simp [intOf]; omega
    · rw [sh_note] at hat
      have HA := fun W => addInterval_any s p o x y W _ _ rfl rfl
      have OWN := Lib.hid own
      have HB1 := Lib.hid hB
      have HK0 := Lib.hid k0
      have q0 := Blk.get (i := 0) k0 rfl
      have q1 := Blk.get (i := 1) k0 rfl
      clear own hB k0
      cases hadd : addB s p o x y
      · rw [hadd] at HA
        have HAH := Lib.hid HA
        have HN := Lib.hid (HNO.out hadd)
        clear HA hat HYES HNO hadd
        go_wp2_with fail
        refine (HAH.out _).mono ?_
        rintro e w3 ⟨rfl, hb⟩
        have hB := below_pure (w := w) (by have := HB1.out; go_grown) hb
        clear hb HB1 HK0 OWN q0 q1 c0 c1 c2 c3 c4 c5
        have hsz3 := hB.size
        go_wp2
        go_ret2
        rw [shL_f HN.out, HN.out]
        exact rowPost2_nil _ _ _ _ (by go_grown) (by unfold maxLen; omega)
      · rw [hadd] at HA
        simp only [ofX, if_pos] at HA
        have HR3 := Lib.hid (n_row hat)
        have HY := Lib.hid (HYES.out hadd)
        generalize (placeV s p o + x) % 7 = s2 at *
        generalize keyV s p o + y - natu (placeV s p o + x) = p2 at *
        generalize (placeV s p o + x) / 7 = o2 at *
        have HAH := Lib.hid HA
        clear HA hat HYES HNO hadd
        go_wp2_with fail
        refine (HAH.out _).mono ?_
        rintro e w3 ⟨rfl, hb⟩
        have kx : Blk w3 wr.heap.size 29 #[.bool false, .int .i64 s, .int .i64 p, .int .i64 o, .int .i64 t, .bool d] := (Blk.new _ _ _).pure hb
        have own := row_pure (World.ownsRow.alloc OWN.out _) hb
        have k3 := (HK0.out.alloc _).pure hb
        have hB := below_pure (w := w) (by have := HB1.out; go_grown) hb
        have hown : ∀ j, u6.ownBlock = some j → w.heap.size + 1 ≤ j ∧ j < wr.heap.size := fun j hj => OWN.out.lt j hj
        clear hb HB1 HK0 OWN q0 q1 c0 c1 c2 c3 c4 c5
        generalize hnb : wr.heap.size = nb at *
        have hzk := kx.lt
        have hnw : nb ≠ w.heap.size := by omega
        have hob : u6.ownBlock ≠ some nb := by
          intro e
          have := (hown _ e).2
          omega
        have hob2 : u6.ownBlock ≠ some w.heap.size := by
          intro e
          have := (hown _ e).1
          omega
        have OWN := Lib.hid (World.ownsRow.alloc (row_far (row_far (row_far own (p := ⟨nb, 1, none⟩) hob (.int .i64 s2)) (p := ⟨nb, 2, none⟩) hob (.int .i64 p2)) (p := ⟨nb, 3, none⟩) hob (.int .i64 o2)) (.cells #[.int .i64 s2, .int .i64 p2, .int .i64 o2] 27))
        have KX := Lib.hid ((Blk.put13 (y := .int .i64 s2) (z := .int .i64 p2) (u := .int .i64 o2) kx).alloc (.cells #[.int .i64 s2, .int .i64 p2, .int .i64 o2] 27))
        have K3 := Lib.hid ((((k3.ne (j := 1) hnw.symm (.int .i64 s2)).ne (j := 2) hnw.symm (.int .i64 p2)).ne (j := 3) hnw.symm (.int .i64 o2)).alloc (.cells #[.int .i64 s2, .int .i64 p2, .int .i64 o2] 27))
        have hs3 := hB.size
        have HB := Lib.hid ((((hB.setCell (p := ⟨nb, 1, none⟩) (show w.heap.size ≤ nb by omega) (.int .i64 s2)).setCell (p := ⟨nb, 2, none⟩) (show w.heap.size ≤ nb by omega) (.int .i64 p2)).setCell (p := ⟨nb, 3, none⟩) (show w.heap.size ≤ nb by omega) (.int .i64 o2)).alloc (by simpa [World.setCell] using hs3) (.cells #[.int .i64 s2, .int .i64 p2, .int .i64 o2] 27))
        have f1 := Blk.frozen kx 1
        have f2 := Blk.frozen kx 2
        have f3 := Blk.frozen kx 3
        have b1 := Blk.get (i := 1) kx rfl
        have b2 := Blk.get (i := 2) kx rfl
        have b3 := Blk.get (i := 3) kx rfl
        clear own kx k3 hB hown
        go_upto_region 12 with fail
        clear f1 f2 f3 b1 b2 b3 hzk
        have OWN2 := OWN.out
        have KX2 := KX.out
        have K32 := K3.out
        have HB2 := HB.out
        clear OWN KX K3 HB
        generalize (((w3.setCell ⟨nb, 1, none⟩ (.int .i64 s2)).setCell ⟨nb, 2, none⟩ (.int .i64 p2)).setCell ⟨nb, 3, none⟩ (.int .i64 o2)).alloc (Obj.cells #[.int .i64 s2, .int .i64 p2, .int .i64 o2] 27) = w4 at *
        have b0 := Blk.get (i := 0) KX2 rfl
        have b1 := Blk.get (i := 1) KX2 rfl
        have b2 := Blk.get (i := 2) KX2 rfl
        have b3 := Blk.get (i := 3) KX2 rfl
        have b4 := Blk.get (i := 4) KX2 rfl
        have b5 := Blk.get (i := 5) KX2 rfl
        have hzk := KX2.lt
        have OWN := Lib.hid OWN2
        have HK0 := Lib.hid K32
        have HB1 := Lib.hid HB2
        have hs4 := HB2.size
        clear OWN2 KX2 K32 HB2
        go_wp2_with (at_builtin; refine wpList_append_lies _ rfl _ _ 35 rfl (w.heap.size + 1) 29 i0 (.agg #[.bool false, .int .i64 0, .int .i64 0, .int .i64 0, .int .i64 0, .bool false]) 6 48 Try.underlying35 hi hz0 hz1 hz2 rfl (by omega) u6 (k) (rowL (nc T) ((k) * 6)) rfl (World.ownsRow.alloc OWN.out _) ⟨w4.heap.size, 0, none⟩ 1 1 [.bool false, .int .i64 s2, .int .i64 p2, .int .i64 o2, .int .i64 t, .bool d] rfl rfl (World.news_of_block (heap_alloc_new _ _)) (one6 _ _ _ _ _ _) (by omega) (by unfold maxLen; omega) (by omega) (by simp; omega) (w4.heap.size + 1) (by simp) ?_; intro g' cap' w5 own5 hgrow hat hglt)
        rw [HR3.out] at own5
        have hB5 := below_append (show Below w.heap.size w w4 from HB1.out) (by omega) hgrow (fun j hj => by have := (OWN.out.lt j hj).1; omega)
        have k5 := Lib.hid (Blk.grown (HK0.out.alloc _) hgrow (fun e => hob2 e.symm))
        have own6 := Lib.hid own5
        clear own5 hgrow hglt OWN HR3 b0 b1 b2 b3 b4 b5 hob hob2
        go_wp2_with fail
        go_roundw
        case rel => exact ⟨k + 1, by omega, by go_num, own6.out, HY, k5.out, hB5⟩
        case measure => simp [intOf]; omega

set_option maxHeartbeats 8000000 in
set_option maxRecDepth 100000 in
theorem specShiftVoice_any (a : Option Addr) (n cap : Nat) (xs : List (Bool × Int × Int × Int × Int × Bool)) (x y : Int) (w : World) (hx : xs.length = n) (h : Voice w a xs) (hn : n ≤ 10000000) :
    Calls Try.prog 35 #[.slice a n cap, .agg #[.int .i64 x, .int .i64 y]] w (RowPost2 w (shL xs x y) (shB xs x y)) := by
  cases hv : vvB xs
  · have HV := fun W (hW : Voice W a xs) => specVoiceValid_any a n cap xs W hx hW hn
    rw [hv] at HV
    have HR := Lib.hid (shB_1 (x := x) (y := y) hv)
    have HVV := Lib.hid HV
    clear HV hv hx
    go_enter Try.func35, Try.ntmps35
    go_wp2_with fail
    have k0 : Blk ((w.alloc (Obj.cells #[.int .i64 x, .int .i64 y] 47)).alloc (Obj.cells #[] 29)) w.heap.size 47 #[.int .i64 x, .int .i64 y] := (Blk.new _ _ _).alloc _
    have hB0 : Below w.heap.size w ((w.alloc (Obj.cells #[.int .i64 x, .int .i64 y] 47)).alloc (Obj.cells #[] 29)) := by go_grown
    have V1 : Voice ((w.alloc (Obj.cells #[.int .i64 x, .int .i64 y] 47)).alloc (Obj.cells #[] 29)) a xs := h.pure (by go_grown)
    refine (HVV.out _ V1).mono ?_
    rintro e w1 ⟨rfl, hb⟩
    have hB := below_pure hB0 hb
    clear k0 V1 hb
    go_wp2
    go_ret2
    rw [shL_f HR.out, HR.out]
    exact rowPost2_nil _ _ _ _ hB (by unfold maxLen; omega)
  have HV2 := fun W (hW : Voice W a xs) => specVoiceValid_any a n cap xs W hx hW hn
  rw [hv] at HV2
  have HVV := Lib.hid HV2
  have HI0 := fun W => specIntervalValid_any x y W
  cases hiv : intB x y
  · rw [hiv] at HI0
    have HR := Lib.hid (shB_2 (xs := xs) hiv)
    have HI := Lib.hid HI0
    clear HV2 HI0 hv hiv hx
    go_enter Try.func35, Try.ntmps35
    go_wp2_with fail
    have k0 : Blk ((w.alloc (Obj.cells #[.int .i64 x, .int .i64 y] 47)).alloc (Obj.cells #[] 29)) w.heap.size 47 #[.int .i64 x, .int .i64 y] := (Blk.new _ _ _).alloc _
    have hB0 : Below w.heap.size w ((w.alloc (Obj.cells #[.int .i64 x, .int .i64 y] 47)).alloc (Obj.cells #[] 29)) := by go_grown
    have V1 : Voice ((w.alloc (Obj.cells #[.int .i64 x, .int .i64 y] 47)).alloc (Obj.cells #[] 29)) a xs := h.pure (by go_grown)
    refine (HVV.out _ V1).mono ?_
    rintro e w1 ⟨rfl, hb⟩
    have hB := below_pure hB0 hb
    replace k0 := k0.pure hb
    have k0c := Blk.get (i := 0) k0 rfl
    have k0d := Blk.get (i := 1) k0 rfl
    have k0z := k0.lt
    clear k0 V1 hb
    go_wp2_with fail
    refine (HI.out _).mono ?_
    rintro e w2 ⟨rfl, hb⟩
    replace hB := below_pure hB hb
    clear hb k0c k0d k0z
    go_wp2
    go_ret2
    rw [shL_f HR.out, HR.out]
    exact rowPost2_nil _ _ _ _ hB (by unfold maxLen; omega)
  rw [hiv] at HI0
  have HI := Lib.hid HI0
  have HT0 := fun hk => shB_t (xs := xs) (x := x) (y := y) hv hiv hk
  have HTT := Lib.hid HT0
  have h60 : n ≤ 60 := by have := (vv_all hv).1; omega
  have h0 := h
  unfold Voice at h
  rw [hx] at h
  have HX := Lib.hid hx
  have HS := Lib.hid h
  obtain ⟨T, hT⟩ : ∃ T, xs.map (shN x y) = T := ⟨_, rfl⟩
  have HAT := Lib.hid (fun (k : Nat) (m : N6) (hm : xs[k]? = some m) => (show T[k]? = some (shN x y m) by rw [← hT]; exact sh_at hm))
  have HTL := Lib.hid (show T.length = n by rw [← hT, List.length_map]; exact hx)
  have HEQ := Lib.hid (fun (hb : shB xs x y = true) => (show shL xs x y = T by rw [shL_t hb, hT]))
  clear HV2 HI0 HT0 hv hiv hx hT h
  obtain ⟨i0, hi, hz0, hz1, hz2⟩ := info_parts infoN
  go_enter Try.func35, Try.ntmps35
  go_wp2_with fail
  have k0 : Blk ((w.alloc (Obj.cells #[.int .i64 x, .int .i64 y] 47)).alloc (Obj.cells #[] 29)) w.heap.size 47 #[.int .i64 x, .int .i64 y] := (Blk.new _ _ _).alloc _
  have hB0 : Below w.heap.size w ((w.alloc (Obj.cells #[.int .i64 x, .int .i64 y] 47)).alloc (Obj.cells #[] 29)) := by go_grown
  have V1 : Voice ((w.alloc (Obj.cells #[.int .i64 x, .int .i64 y] 47)).alloc (Obj.cells #[] 29)) a xs := h0.pure (by go_grown)
  have own0 : ((w.alloc (Obj.cells #[.int .i64 x, .int .i64 y] 47)).alloc (Obj.cells #[] 29)).ownsRow (w.heap.size + 1) 29 6 (.slice (some ⟨w.heap.size + 1, 0, none⟩) 0 0) 0 (rowL (nc T) (0 * 6)) := by
    have h := World.ownsRow_made (base := w.heap.size + 1) (e := 29) (size := 6) (w.alloc (Obj.cells #[.int .i64 x, .int .i64 y] 47)) #[] 0 (by simp) (by unfold maxLen; omega) rfl
    rwa [World.size_alloc] at h
  refine (HVV.out _ V1).mono ?_
  rintro e w1 ⟨rfl, hb⟩
  have hB := below_pure hB0 hb
  replace k0 := k0.pure hb
  replace own0 := row_pure own0 hb
  have k0c := Blk.get (i := 0) k0 rfl
  have k0d := Blk.get (i := 1) k0 rfl
  have k0z := k0.lt
  clear V1 hb hB0
  go_wp2_with fail
  refine (HI.out _).mono ?_
  rintro e w2 ⟨rfl, hb⟩
  replace hB := below_pure hB hb
  replace k0 := k0.pure hb
  replace own0 := row_pure own0 hb
  clear hb k0c k0d k0z h0
  have hs0 := k0.lt
  have own1 := own0
  have hB1 := hB
  have k1 := k0
  clear own0 hB k0
  go_wp2_with fail
  go_loopw [6, 7] (fun v kv wr => ∃ k : Nat, k ≤ n ∧ kv = .int .i64 (k : Int) ∧ wr.ownsRow (w.heap.size + 1) 29 6 v k (rowL (nc T) (k * 6)) ∧ Hid (∀ (j : Nat) (m : N6), j < k → xs[j]? = some m → shK x y m = true) ∧ Blk wr w.heap.size 47 #[.int .i64 x, .int .i64 y] ∧ Below w.heap.size w wr) (fun _ kv _ => n - (intOf kv).toNat)
  case atStart => exact ⟨0, Nat.zero_le _, rfl, own1, Lib.hid (fun j m hj => absurd hj (Nat.not_lt_zero _)), k1, hB1⟩
  case round =>
    clear own1 hB1 k1 hs0
    obtain ⟨k, hk, rfl, own, HK, k0, hB⟩ := hrel
    have hsz := hB.size
    by_cases hlt : k < n
    rotate_left
    · obtain rfl : k = n := by omega
      have HB := Lib.hid (HTT.out (fun j m hm => HK.out j m (by have := (List.getElem?_eq_some_iff.1 hm).1; have := HX.out; omega) hm))
      have OWN := Lib.hid own
      clear own k0
      go_wp2
      go_ret2
      rw [HEQ.out HB.out, HB.out]
      exact rowPost2_mk HTL.out hB OWN.out
    obtain ⟨⟨r, s, p, o, t, d⟩, hxk⟩ := nth (xs := xs) (k := k) (by have := HX.out; omega)
    have hat := HAT.out k _ hxk
    have HNO := Lib.hid (fun (hk : shK x y (r, s, p, o, t, d) = false) => shB_3 (x := x) (y := y) hxk hk)
    have HYES := Lib.hid (fun (hkk : shK x y (r, s, p, o, t, d) = true) => (show ∀ (j : Nat) (m : N6), j < k + 1 → xs[j]? = some m → shK x y m = true from fun j m hj hm => by
      rcases Nat.lt_or_eq_of_le (Nat.le_of_lt_succ hj) with h | h
      · exact HK.out j m h hm
      · subst h
        rw [hxk] at hm
        cases hm
        exact hkk))
    obtain ⟨g, off, rfl, hc⟩ := (HS.out.pure hB) (by omega)
    obtain ⟨c0, c1, c2, c3, c4, c5⟩ := at6 hc hlt hxk
    have hzz := cell_lt c0
    have k0z := k0.lt
    have hi1 : (k : Int) < (n : Int) := by omega
    have hi2 : (0 : Int) ≤ (k : Int) := by omega
    clear hxk hc HK
    cases r
    rotate_left
    · rw [sh_rest] at hat
      have HR3 := Lib.hid (n_row hat)
      have HY := Lib.hid (HYES.out rfl)
      have OWN := Lib.hid own
      have HB1 := Lib.hid hB
      have HK0 := Lib.hid k0
      have hnb : u6.ownBlock ≠ some w.heap.size := by
        intro e
        have := (own.lt _ e).1
        omega
      clear own hB k0 hat HYES HNO
      go_wp2_with (at_builtin; refine wpList_append_lies _ rfl _ _ 35 rfl (w.heap.size + 1) 29 i0 (.agg #[.bool false, .int .i64 0, .int .i64 0, .int .i64 0, .int .i64 0, .bool false]) 6 48 Try.underlying35 hi hz0 hz1 hz2 rfl (by omega) u6 (k) (rowL (nc T) ((k) * 6)) rfl ((World.ownsRow.alloc OWN.out _).alloc _) ⟨wr.heap.size + 1, 0, none⟩ 1 1 [.bool true, .int .i64 s, .int .i64 p, .int .i64 o, .int .i64 t, .bool d] rfl rfl (World.news_of_block (news2 _ _ _ _)) (one6 _ _ _ _ _ _) (by omega) (by unfold maxLen; omega) (by omega) (by simp; omega) (wr.heap.size + 1 + 1) (by simp) ?_; intro g' cap' w5 own5 hgrow hat hglt)
      rw [HR3.out] at own5
      have hB5 := below_append (show Below w.heap.size w (wr.alloc (.cells #[.bool true, .int .i64 s, .int .i64 p, .int .i64 o, .int .i64 t, .bool d] 29)) by have := HB1.out; go_grown) (by simp; omega) hgrow (fun j hj => by have := (OWN.out.lt j hj).1; omega)
      have k5 := Lib.hid (Blk.grown ((HK0.out.alloc _).alloc _) hgrow (fun e => hnb e.symm))
      have own6 := Lib.hid own5
      clear own5 hgrow hglt OWN HR3 c0 c1 c2 c3 c4 c5 hnb
      go_wp2_with fail
      go_roundw
      case rel => exact ⟨k + 1, by omega, by go_num, own6.out, HY, k5.out, hB5⟩
      case measure => simp [intOf]; omega
    · rw [sh_note] at hat
      have HA := fun W => specAddInterval_any s p o x y W _ _ rfl rfl
      have OWN := Lib.hid own
      have HB1 := Lib.hid hB
      have HK0 := Lib.hid k0
      have q0 := Blk.get (i := 0) k0 rfl
      have q1 := Blk.get (i := 1) k0 rfl
      clear own hB k0
      cases hadd : addB s p o x y
      · rw [hadd] at HA
        have HAH := Lib.hid HA
        have HN := Lib.hid (HNO.out hadd)
        clear HA hat HYES HNO hadd
        go_wp2_with fail
        refine (HAH.out _).mono ?_
        rintro e w3 ⟨rfl, hb⟩
        have hB := below_pure (w := w) (by have := HB1.out; go_grown) hb
        clear hb HB1 HK0 OWN q0 q1 c0 c1 c2 c3 c4 c5
        have hsz3 := hB.size
        go_wp2
        go_ret2
        rw [shL_f HN.out, HN.out]
        exact rowPost2_nil _ _ _ _ (by go_grown) (by unfold maxLen; omega)
      · rw [hadd] at HA
        simp only [ofX, if_pos] at HA
        have HR3 := Lib.hid (n_row hat)
        have HY := Lib.hid (HYES.out hadd)
        generalize (placeV s p o + x) % 7 = s2 at *
        generalize keyV s p o + y - natu (placeV s p o + x) = p2 at *
        generalize (placeV s p o + x) / 7 = o2 at *
        have HAH := Lib.hid HA
        clear HA hat HYES HNO hadd
        go_wp2_with fail
        refine (HAH.out _).mono ?_
        rintro e w3 ⟨rfl, hb⟩
        have kx : Blk w3 wr.heap.size 29 #[.bool false, .int .i64 s, .int .i64 p, .int .i64 o, .int .i64 t, .bool d] := (Blk.new _ _ _).pure hb
        have own := row_pure (World.ownsRow.alloc OWN.out _) hb
        have k3 := (HK0.out.alloc _).pure hb
        have hB := below_pure (w := w) (by have := HB1.out; go_grown) hb
        have hown : ∀ j, u6.ownBlock = some j → w.heap.size + 1 ≤ j ∧ j < wr.heap.size := fun j hj => OWN.out.lt j hj
        clear hb HB1 HK0 OWN q0 q1 c0 c1 c2 c3 c4 c5
        generalize hnb : wr.heap.size = nb at *
        have hzk := kx.lt
        have hnw : nb ≠ w.heap.size := by omega
        have hob : u6.ownBlock ≠ some nb := by
          intro e
          have := (hown _ e).2
          omega
        have hob2 : u6.ownBlock ≠ some w.heap.size := by
          intro e
          have := (hown _ e).1
          omega
        have OWN := Lib.hid (World.ownsRow.alloc (row_far (row_far (row_far own (p := ⟨nb, 1, none⟩) hob (.int .i64 s2)) (p := ⟨nb, 2, none⟩) hob (.int .i64 p2)) (p := ⟨nb, 3, none⟩) hob (.int .i64 o2)) (.cells #[.int .i64 s2, .int .i64 p2, .int .i64 o2] 27))
        have KX := Lib.hid ((Blk.put13 (y := .int .i64 s2) (z := .int .i64 p2) (u := .int .i64 o2) kx).alloc (.cells #[.int .i64 s2, .int .i64 p2, .int .i64 o2] 27))
        have K3 := Lib.hid ((((k3.ne (j := 1) hnw.symm (.int .i64 s2)).ne (j := 2) hnw.symm (.int .i64 p2)).ne (j := 3) hnw.symm (.int .i64 o2)).alloc (.cells #[.int .i64 s2, .int .i64 p2, .int .i64 o2] 27))
        have hs3 := hB.size
        have HB := Lib.hid ((((hB.setCell (p := ⟨nb, 1, none⟩) (show w.heap.size ≤ nb by omega) (.int .i64 s2)).setCell (p := ⟨nb, 2, none⟩) (show w.heap.size ≤ nb by omega) (.int .i64 p2)).setCell (p := ⟨nb, 3, none⟩) (show w.heap.size ≤ nb by omega) (.int .i64 o2)).alloc (by simpa [World.setCell] using hs3) (.cells #[.int .i64 s2, .int .i64 p2, .int .i64 o2] 27))
        have f1 := Blk.frozen kx 1
        have f2 := Blk.frozen kx 2
        have f3 := Blk.frozen kx 3
        have b1 := Blk.get (i := 1) kx rfl
        have b2 := Blk.get (i := 2) kx rfl
        have b3 := Blk.get (i := 3) kx rfl
        clear own kx k3 hB hown
        go_upto_region 13 with fail
        clear f1 f2 f3 b1 b2 b3 hzk
        have OWN2 := OWN.out
        have KX2 := KX.out
        have K32 := K3.out
        have HB2 := HB.out
        clear OWN KX K3 HB
        generalize (((w3.setCell ⟨nb, 1, none⟩ (.int .i64 s2)).setCell ⟨nb, 2, none⟩ (.int .i64 p2)).setCell ⟨nb, 3, none⟩ (.int .i64 o2)).alloc (Obj.cells #[.int .i64 s2, .int .i64 p2, .int .i64 o2] 27) = w4 at *
        have b0 := Blk.get (i := 0) KX2 rfl
        have b1 := Blk.get (i := 1) KX2 rfl
        have b2 := Blk.get (i := 2) KX2 rfl
        have b3 := Blk.get (i := 3) KX2 rfl
        have b4 := Blk.get (i := 4) KX2 rfl
        have b5 := Blk.get (i := 5) KX2 rfl
        have hzk := KX2.lt
        have OWN := Lib.hid OWN2
        have HK0 := Lib.hid K32
        have HB1 := Lib.hid HB2
        have hs4 := HB2.size
        clear OWN2 KX2 K32 HB2
        go_wp2_with (at_builtin; refine wpList_append_lies _ rfl _ _ 35 rfl (w.heap.size + 1) 29 i0 (.agg #[.bool false, .int .i64 0, .int .i64 0, .int .i64 0, .int .i64 0, .bool false]) 6 48 Try.underlying35 hi hz0 hz1 hz2 rfl (by omega) u6 (k) (rowL (nc T) ((k) * 6)) rfl (World.ownsRow.alloc OWN.out _) ⟨w4.heap.size, 0, none⟩ 1 1 [.bool false, .int .i64 s2, .int .i64 p2, .int .i64 o2, .int .i64 t, .bool d] rfl rfl (World.news_of_block (heap_alloc_new _ _)) (one6 _ _ _ _ _ _) (by omega) (by unfold maxLen; omega) (by omega) (by simp; omega) (w4.heap.size + 1) (by simp) ?_; intro g' cap' w5 own5 hgrow hat hglt)
        rw [HR3.out] at own5
        have hB5 := below_append (show Below w.heap.size w w4 from HB1.out) (by omega) hgrow (fun j hj => by have := (OWN.out.lt j hj).1; omega)
        have k5 := Lib.hid (Blk.grown (HK0.out.alloc _) hgrow (fun e => hob2 e.symm))
        have own6 := Lib.hid own5
        clear own5 hgrow hglt OWN HR3 b0 b1 b2 b3 b4 b5 hob hob2
        go_wp2_with fail
        go_roundw
        case rel => exact ⟨k + 1, by omega, by go_num, own6.out, HY, k5.out, hB5⟩
        case measure => simp [intOf]; omega

end Go.Proofs.Ytmkkhbplfedpoaa
