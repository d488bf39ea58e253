/- The reference's reader of texts of pitches, at every string. Condition: the string is no longer than any machine allows. -/
import Derived.Test.YtgogpjlemaajeaaRs
namespace Go.Proofs.Ytgogpjlemaajeaa
open Go.RowKit

/-- The reference's block under way. -/
def PB (w W : World) (s a o : Int) : Prop :=
  Blk W (w.heap.size + 1) 25 #[.int .i64 s, .int .i64 a, .int .i64 o] ∧ Blk W w.heap.size 25 #[.int .i64 0, .int .i64 0, .int .i64 0] ∧ Below w.heap.size w W
theorem PB.set_ {w W : World} {s a o : Int} (h : PB w W s a o) (i : Nat) (u : Value) {s' a' o' : Int} (e : (#[.int .i64 s, .int .i64 a, .int .i64 o] : Array Value).setIfInBounds i u = #[.int .i64 s', .int .i64 a', .int .i64 o']) :
    PB w (W.setCell ⟨w.heap.size + 1, i, none⟩ u) s' a' o' := by
  obtain ⟨h1, h2, h3⟩ := h
  refine ⟨?_, h2.ne (by omega) _, h3.setCell (by simp) _⟩
  rw [← e]
  exact h1.set_ i u
theorem PB.drew {w W : World} {s a o : Int} (h : PB w W s a o) : PB w W.drew s a o := ⟨h.1, h.2.1, h.2.2.drew⟩

set_option maxHeartbeats 8000000 in
set_option maxRecDepth 100000 in
theorem specReadPitch_mid (x : ByteArray) (h0 : 0 < x.size) (hm : x.size ≤ maxLen) (w : World) (s : Int) (FS : Nat → Int × Int) (K : Nat)
    (HS : Hid (stp ((x[0]'h0).toNat : Int) 7 = s)) (H1 : FS 0 = (0, 0)) (HK : K + 1 = x.size ∨ K = 4) (HK4 : K ≤ 4) (HKx : K + 1 ≤ x.size)
    (HF : Hid (∀ k (h : k + 1 < x.size), FS (k + 1) = sgn (FS k) (x[k + 1]'h))) (HB : Hid (∀ k, k ≤ 4 → -9 ≤ (FS k).1 ∧ (FS k).1 ≤ 9)) (b : Bool)
    (HT : Hid (((S (txtL s (FS K).1 (FS K).2)).toList == x.toList) = b)) :
    Calls Try.prog 22 #[.string x] w (Gives (rdV b s (FS K).1 (FS K).2) w) := by
  unfold maxLen at hm
  have n1 : x.toList ≠ [] := by
    rw [ByteArray.toList_eq]
    intro h
    have h1 : x.data.toList.length = 0 := by rw [h]; rfl
    have h2 : x.size = x.data.toList.length := by rw [Array.length_toList]; rfl
    omega
  have n2 : x.toList.isEmpty = false := by
    cases e : x.toList.isEmpty
    · rfl
    · exact absurd (List.isEmpty_iff.1 e) n1
  have H1h := Lib.hid H1
  have HKh := Lib.hid HK
  clear H1 HK
  go_enter Try.func22, Try.ntmps22
  go_wp2_with fail
  have P0 : PB w ((w.alloc (.cells #[.int .i64 0, .int .i64 0, .int .i64 0] 25)).alloc (.cells #[.int .i64 (-1), .int .i64 0, .int .i64 0] 25)) (-1) 0 0 := ⟨Blk.new' (by simp), Blk.alloc (Blk.new _ _ _) _, by go_grown⟩
  go_loopw [5] (fun iv wr => ∃ k : Nat, k ≤ 7 ∧ iv = .int .i64 k ∧ PB w wr (stp ((x[0]'h0).toNat : Int) k) 0 0) (fun iv _ => 7 - (intOf iv).toNat)
  case atStart => exact ⟨0, by omega, rfl, P0⟩
  case round =>
    clear P0
    obtain ⟨k, hk, rfl, hP⟩ := hrel
    have hsb := stp_bd ((x[0]'h0).toNat : Int) k
    by_cases hlt : k < 7
    · have hP2 := hP
      obtain ⟨hb, hz, hB⟩ := hP
      have b0 : wr.cell? ⟨w.heap.size + 1, 0, none⟩ = some (.int .i64 (stp ((x[0]'h0).toNat : Int) k)) := Blk.get hb rfl
      have f0 := Blk.frozen hb 0
      have bl := hb.lt
      clear hb hz hB hsb
      have hk7 : k = 0 ∨ k = 1 ∨ k = 2 ∨ k = 3 ∨ k = 4 ∨ k = 5 ∨ k = 6 := by omega
      cases hL : (lit k == ((x[0]'h0).toNat : Int))
      · have E := stp_no hL
        have hN : PB w wr (stp ((x[0]'h0).toNat : Int) (k + 1)) 0 0 := by rw [E]; exact hP2
        clear E hP2
        rcases hk7 with rfl | rfl | rfl | rfl | rfl | rfl | rfl
        · replace hL : ((((⟨#[67, 68, 69, 70, 71, 65, 66]⟩ : ByteArray)[0]'(by decide)).toNat : Int) == ((x[0]'h0).toNat : Int)) = false := hL
          go_upto_region 5 with fail
          go_region
          all_goals
            go_wp2_with fail
            go_roundw
            case rel => exact ⟨1, by omega, rfl, hN.drew⟩
            case measure => simp [intOf]
        · replace hL : ((((⟨#[67, 68, 69, 70, 71, 65, 66]⟩ : ByteArray)[1]'(by decide)).toNat : Int) == ((x[0]'h0).toNat : Int)) = false := hL
          go_upto_region 5 with fail
          go_region
          all_goals
            go_wp2_with fail
            go_roundw
            case rel => exact ⟨2, by omega, rfl, hN.drew⟩
            case measure => simp [intOf]
        · replace hL : ((((⟨#[67, 68, 69, 70, 71, 65, 66]⟩ : ByteArray)[2]'(by decide)).toNat : Int) == ((x[0]'h0).toNat : Int)) = false := hL
          go_upto_region 5 with fail
          go_region
          all_goals
            go_wp2_with fail
            go_roundw
            case rel => exact ⟨3, by omega, rfl, hN.drew⟩
            case measure => simp [intOf]
        · replace hL : ((((⟨#[67, 68, 69, 70, 71, 65, 66]⟩ : ByteArray)[3]'(by decide)).toNat : Int) == ((x[0]'h0).toNat : Int)) = false := hL
          go_upto_region 5 with fail
          go_region
          all_goals
            go_wp2_with fail
            go_roundw
            case rel => exact ⟨4, by omega, rfl, hN.drew⟩
            case measure => simp [intOf]
        · replace hL : ((((⟨#[67, 68, 69, 70, 71, 65, 66]⟩ : ByteArray)[4]'(by decide)).toNat : Int) == ((x[0]'h0).toNat : Int)) = false := hL
          go_upto_region 5 with fail
          go_region
          all_goals
            go_wp2_with fail
            go_roundw
            case rel => exact ⟨5, by omega, rfl, hN.drew⟩
            case measure => simp [intOf]
        · replace hL : ((((⟨#[67, 68, 69, 70, 71, 65, 66]⟩ : ByteArray)[5]'(by decide)).toNat : Int) == ((x[0]'h0).toNat : Int)) = false := hL
          go_upto_region 5 with fail
          go_region
          all_goals
            go_wp2_with fail
            go_roundw
            case rel => exact ⟨6, by omega, rfl, hN.drew⟩
            case measure => simp [intOf]
        · replace hL : ((((⟨#[67, 68, 69, 70, 71, 65, 66]⟩ : ByteArray)[6]'(by decide)).toNat : Int) == ((x[0]'h0).toNat : Int)) = false := hL
          go_upto_region 5 with fail
          go_region
          all_goals
            go_wp2_with fail
            go_roundw
            case rel => exact ⟨7, by omega, rfl, hN.drew⟩
            case measure => simp [intOf]
      · have E := stp_yes hL
        have hN : ∀ W, PB w W (k : Int) 0 0 → PB w W (stp ((x[0]'h0).toNat : Int) (k + 1)) 0 0 := fun W h => by rw [E]; exact h
        have hS := hP2.drew.set_ 0 (.int .i64 (k : Int)) rfl
        clear E hP2
        rcases hk7 with rfl | rfl | rfl | rfl | rfl | rfl | rfl
        · replace hL : ((((⟨#[67, 68, 69, 70, 71, 65, 66]⟩ : ByteArray)[0]'(by decide)).toNat : Int) == ((x[0]'h0).toNat : Int)) = true := hL
          go_upto_region 5 with fail
          go_region
          all_goals
            go_wp2_with fail
            go_roundw
            case rel => exact ⟨1, by omega, rfl, hN _ hS⟩
            case measure => simp [intOf]
        · replace hL : ((((⟨#[67, 68, 69, 70, 71, 65, 66]⟩ : ByteArray)[1]'(by decide)).toNat : Int) == ((x[0]'h0).toNat : Int)) = true := hL
          go_upto_region 5 with fail
          go_region
          all_goals
            go_wp2_with fail
            go_roundw
            case rel => exact ⟨2, by omega, rfl, hN _ hS⟩
            case measure => simp [intOf]
        · replace hL : ((((⟨#[67, 68, 69, 70, 71, 65, 66]⟩ : ByteArray)[2]'(by decide)).toNat : Int) == ((x[0]'h0).toNat : Int)) = true := hL
          go_upto_region 5 with fail
          go_region
          all_goals
            go_wp2_with fail
            go_roundw
            case rel => exact ⟨3, by omega, rfl, hN _ hS⟩
            case measure => simp [intOf]
        · replace hL : ((((⟨#[67, 68, 69, 70, 71, 65, 66]⟩ : ByteArray)[3]'(by decide)).toNat : Int) == ((x[0]'h0).toNat : Int)) = true := hL
          go_upto_region 5 with fail
          go_region
          all_goals
            go_wp2_with fail
            go_roundw
            case rel => exact ⟨4, by omega, rfl, hN _ hS⟩
            case measure => simp [intOf]
        · replace hL : ((((⟨#[67, 68, 69, 70, 71, 65, 66]⟩ : ByteArray)[4]'(by decide)).toNat : Int) == ((x[0]'h0).toNat : Int)) = true := hL
          go_upto_region 5 with fail
          go_region
          all_goals
            go_wp2_with fail
            go_roundw
            case rel => exact ⟨5, by omega, rfl, hN _ hS⟩
            case measure => simp [intOf]
        · replace hL : ((((⟨#[67, 68, 69, 70, 71, 65, 66]⟩ : ByteArray)[5]'(by decide)).toNat : Int) == ((x[0]'h0).toNat : Int)) = true := hL
          go_upto_region 5 with fail
          go_region
          all_goals
            go_wp2_with fail
            go_roundw
            case rel => exact ⟨6, by omega, rfl, hN _ hS⟩
            case measure => simp [intOf]
        · replace hL : ((((⟨#[67, 68, 69, 70, 71, 65, 66]⟩ : ByteArray)[6]'(by decide)).toNat : Int) == ((x[0]'h0).toNat : Int)) = true := hL
          go_upto_region 5 with fail
          go_region
          all_goals
            go_wp2_with fail
            go_roundw
            case rel => exact ⟨7, by omega, rfl, hN _ hS⟩
            case measure => simp [intOf]
    · have e7 : k = 7 := by omega
      have q7 : ¬ (k : Int) < 7 := by omega
      rw [e7, HS.out] at hP
      clear e7 hsb hlt hk
      go_wp2_with fail
      have hfin : PB w wr s (FS 0).1 (FS 0).2 := by rw [H1h.out]; exact hP
      go_loopw [6] (fun iv wr => ∃ k : Nat, k ≤ K ∧ iv = .int .i64 ((k : Int) + 1) ∧ PB w wr s (FS k).1 (FS k).2) (fun iv _ => 9 - (intOf iv).toNat)
      case atStart => exact ⟨0, by omega, rfl, hfin⟩
      case round =>
        clear hfin hP
        obtain ⟨k, hk, rfl, hP⟩ := hrel
        by_cases hlt : k < K
        · have i1 : (k : Int) + 1 < (x.size : Int) := by omega
          have i2 : (k : Int) + 1 < 5 := by omega
          have i3 : k + 1 < x.size := by omega
          have HFk := HF.out k i3
          have HBk := HB.out k (by omega)
          obtain ⟨fa, hfa⟩ : ∃ v, (FS k).1 = v := ⟨_, rfl⟩
          obtain ⟨fo, hfo⟩ : ∃ v, (FS k).2 = v := ⟨_, rfl⟩
          rw [hfa, hfo] at hP
          rw [hfa] at HBk
          obtain ⟨g1, g2⟩ := HBk
          have hcb := byte_bd (x[k + 1]'i3)
          obtain ⟨g3, g4⟩ := hcb
          have hP2 := hP
          obtain ⟨hb, hz, hB⟩ := hP
          have b1 : wr.cell? ⟨w.heap.size + 1, 1, none⟩ = some (.int .i64 fa) := Blk.get hb rfl
          have b2 : wr.cell? ⟨w.heap.size + 1, 2, none⟩ = some (.int .i64 fo) := Blk.get hb rfl
          have f1 := Blk.frozen hb 1
          have f2 := Blk.frozen hb 2
          have bl := hb.lt
          clear hb hz hB
          cases hc : (((x[k + 1]'i3).toNat : Int) == 35)
          · cases hd : (((x[k + 1]'i3).toNat : Int) == 98)
            · have E := sgn_oc (p := FS k) hc hd
              rw [← HFk, hfa] at E
              have E1 := Lib.hid (congrArg Prod.fst E)
              have E2 := Lib.hid (congrArg Prod.snd E)
              clear E HFk hfa hfo
              have hS := hP2.set_ 2 (.int .i64 (((x[k + 1]'i3).toNat : Int) - 48)) rfl
              clear hP2
              go_wp2_with fail
              go_roundw
              case rel => exact ⟨k + 1, by omega, by go_num, by rw [E1.out, E2.out]; exact hS⟩
              case measure => simp [intOf]; omega
            · have E := sgn_dn (p := FS k) hc hd
              rw [← HFk, hfa, hfo] at E
              have E1 := Lib.hid (congrArg Prod.fst E)
              have E2 := Lib.hid (congrArg Prod.snd E)
              clear E HFk hfa hfo
              have hS := hP2.set_ 1 (.int .i64 (fa - 1)) rfl
              clear hP2
              go_wp2_with fail
              go_roundw
              case rel => exact ⟨k + 1, by omega, by go_num, by rw [E1.out, E2.out]; exact hS⟩
              case measure => simp [intOf]; omega
          · have E := sgn_up (p := FS k) hc
            rw [← HFk, hfa, hfo] at E
            have E1 := Lib.hid (congrArg Prod.fst E)
            have E2 := Lib.hid (congrArg Prod.snd E)
            clear E HFk hfa hfo
            have hS := hP2.set_ 1 (.int .i64 (fa + 1)) rfl
            clear hP2
            go_wp2_with fail
            go_roundw
            case rel => exact ⟨k + 1, by omega, by go_num, by rw [E1.out, E2.out]; exact hS⟩
            case measure => simp [intOf]; omega
        · obtain rfl : k = K := by omega
          clear hlt hk
          have HKs := HKh.out
          clear HKh HF HB H1h HS
          generalize (FS k).1 = fa at *
          generalize (FS k).2 = fo at *
          obtain ⟨hb, hz, hB⟩ := hP
          have b0 : wr.cell? ⟨w.heap.size + 1, 0, none⟩ = some (.int .i64 s) := Blk.get hb rfl
          have b1 : wr.cell? ⟨w.heap.size + 1, 1, none⟩ = some (.int .i64 fa) := Blk.get hb rfl
          have b2 : wr.cell? ⟨w.heap.size + 1, 2, none⟩ = some (.int .i64 fo) := Blk.get hb rfl
          have bl := hb.lt
          by_cases hx : (k : Int) + 1 < (x.size : Int)
          all_goals
            have i2 : ((k : Int) + 1 < (x.size : Int) → ¬ (k : Int) + 1 < 5) := by omega
            have i2h := Lib.hid i2
            clear i2
            try have i3 : ¬ (k : Int) + 1 < 5 := i2h.out hx
            clear i2h
            clear HKs
            go_wp2_with fail
            refine (specPitchText_any s fa fo _).mono ?_
            rintro e w2 ⟨rfl, hb2⟩
            replace hB := below_pure (w := w) (by go_grown) hb2
            replace hb := Blk.pure hb hb2
            replace hz := Blk.pure hz hb2
            clear b0 b1 b2 bl hb2
            obtain ⟨y, hy⟩ : ∃ y, S (txtL s fa fo) = y := ⟨_, rfl⟩
            have hyx : (y.toList == x.toList) = b := by rw [← hy]; exact HT.out
            rw [hy]
            have b0 : w2.cell? ⟨w.heap.size + 1, 0, none⟩ = some (.int .i64 s) := Blk.get hb rfl
            have b1 : w2.cell? ⟨w.heap.size + 1, 1, none⟩ = some (.int .i64 fa) := Blk.get hb rfl
            have b2 : w2.cell? ⟨w.heap.size + 1, 2, none⟩ = some (.int .i64 fo) := Blk.get hb rfl
            have z0 := Blk.get (i := 0) hz rfl
            have z1 := Blk.get (i := 1) hz rfl
            have z2 := Blk.get (i := 2) hz rfl
            have f0 := Blk.frozen hz 0
            have f1 := Blk.frozen hz 1
            have f2 := Blk.frozen hz 2
            have zl := hz.lt
            clear hb hz hy
            cases b
            · go_wp2_with fail
              refine bodyPost_ret (v := .tuple #[.agg #[.int .i64 0, .int .i64 0, .int .i64 0], .bool false]) (by simp [results, Try.results22, go_sem, *]) rfl ⟨rfl, by go_grown⟩
            · go_wp2_with fail
              refine bodyPost_ret (v := .tuple #[.agg #[.int .i64 s, .int .i64 fa, .int .i64 fo], .bool true]) (by simp [results, Try.results22, go_sem, *]) rfl ⟨rfl, by go_grown⟩

end Go.Proofs.Ytgogpjlemaajeaa
