/- The walk of the reference's SpellKey: for every key and both directions it returns the pitch that the plain functions name. No condition. -/
import Derived.Test.YtgogpjlemaajeaaSk
namespace Go.Proofs.Ytgogpjlemaajeaa
open Go.RowKit

theorem natu_lt {a b : Int} (h : a < b) : natu a < natu b := by
  unfold natu
  by_cases hd : a / 7 = b / 7
  · have := half_lt (a := a % 7) (b := b % 7) (by omega) (by omega) (by omega)
    omega
  · have h1 := half_bd (a % 7)
    have h2 := half_bd (b % 7)
    omega
theorem natu_no {key p : Int} (hn : ¬ 0 ≤ nst (key % 12)) : natu p ≠ key := fun e => by
  have h2 := half_bd (p % 7)
  have e2 : key % 12 = half (p % 7) := by unfold natu at e; omega
  exact half_no (k := p % 7) (r := key % 12) (by omega) (by omega) hn (by omega) (by omega) e2.symm
theorem natu_at {q h : Int} (h0 : 0 ≤ h) (h6 : h ≤ 6) : natu (7 * q + h) = 12 * q + half h := by
  rw [natu_of h q h0 h6]

set_option maxHeartbeats 4000000 in
theorem specSpellKey_any (key : Int) (b : Bool) (w : World) :
    Calls Try.prog 27 #[.int .i64 key, .bool b] w (Gives (.tuple #[.agg #[.int .i64 (skS key b), .int .i64 (skA key b), .int .i64 (skO key)], .bool (inR key 0 107)]) w) := by
  cases hk : inR key 0 107
  · obtain ⟨e1, e2, e3⟩ := sk_f b hk
    rw [e1, e2, e3]
    clear e1 e2 e3
    go_enter Try.func27, Try.ntmps27
    go_wp2_with fail
    refine wp_loop_rounds 1 ?_
    rw [rounds_succ]
    go_wp2_with (go_call (l1In_any _ _ _ _) as e w1 ⟨rfl, rfl⟩)
    refine wp_loop_rounds 1 ?_
    rw [rounds_succ]
    go_wp2_with (go_call (l1In_any _ _ _ _) as e w1 ⟨rfl, rfl⟩)
    refine bodyPost_ret (v := .tuple #[.agg #[.int .i64 0, .int .i64 0, .int .i64 0], .bool false]) (by simp [results, Try.results27, go_sem]) rfl ⟨rfl, by go_grown⟩
  obtain ⟨e1, e2, e3⟩ := sk_t b hk
  rw [e1, e2, e3]
  clear e1 e2 e3
  obtain ⟨k0, k1⟩ := inR_t hk
  have r0 : 0 ≤ key % 12 := by omega
  have r1 : key % 12 ≤ 11 := by omega
  by_cases hn : 0 ≤ nst (key % 12)
  · obtain ⟨n0, n1, n2⟩ := nst_nat r0 r1 hn
    obtain ⟨e1, e2⟩ := spS_nat b hn
    rw [e1, e2]
    clear e1 e2 hn
    generalize nst (key % 12) = h at n0 n1 n2 ⊢
    obtain ⟨g, hg⟩ : ∃ g, g = 7 * (key / 12) + h := ⟨_, rfl⟩
    have g0 : 0 ≤ g := by omega
    have g1 : g ≤ 62 := by omega
    have gm : g % 7 = h := by omega
    have gd : g / 7 = key / 12 := by omega
    have gk : natu g = key := by rw [hg, natu_at n0 n1]; omega
    rw [← gm, ← gd]
    have GK := Lib.hid gk
    clear gk gd gm hg n2 n0 n1
    go_enter Try.func27, Try.ntmps27
    go_wp2_with fail
    have b0 : Blk (w.alloc (Obj.cells #[.int .i64 0, .int .i64 0, .int .i64 0] 25)) w.heap.size 25 #[.int .i64 0, .int .i64 0, .int .i64 0] := Blk.new _ _ _
    have hB : Below w.heap.size w (w.alloc (Obj.cells #[.int .i64 0, .int .i64 0, .int .i64 0] 25)) := by go_grown
    go_loopw [6] (fun i wr => ∃ k : Int, 0 ≤ k ∧ k ≤ g ∧ i = .int .i64 k ∧ Blk wr w.heap.size 25 #[.int .i64 0, .int .i64 0, .int .i64 0] ∧ Below w.heap.size w wr) (fun i _ => 63 - (intOf i).toNat)
    case atStart => exact ⟨0, by omega, by omega, rfl, b0, hB⟩
    case round =>
      clear b0 hB
      obtain ⟨k, q0, q1, rfl, b0, hB⟩ := hrel
      obtain ⟨n0, n1⟩ := natu_bd k q0 (by omega)
      by_cases hkg : k = g
      · have gk := GK.out
        obtain rfl : g = k := hkg.symm
        clear hkg
        go_wp2_with (go_call (l1In_any _ _ _ _) as e w1 ⟨rfl, rfl⟩)
        go_call (l1Natural_any _ (by omega) (by omega) _) as e w1 ⟨rfl, hb⟩
        replace b0 := Blk.pure b0 hb
        replace hB := below_pure hB hb
        clear hb
        have c0 := Blk.get (i := 0) b0 rfl
        have c1 := Blk.get (i := 1) b0 rfl
        have c2 := Blk.get (i := 2) b0 rfl
        have f0 := Blk.frozen b0 0
        have f1 := Blk.frozen b0 1
        have f2 := Blk.frozen b0 2
        have zl := b0.lt
        clear b0
        go_wp2_with fail
        refine bodyPost_ret (v := .tuple #[.agg #[.int .i64 (g % 7), .int .i64 0, .int .i64 (g / 7)], .bool true]) (by simp [results, Try.results27, go_sem, *]) rfl ⟨rfl, by go_grown⟩
      · have hlt : k < g := by omega
        have ht : ¬ key - natu k = 0 := by have h1 := GK.out; have h2 := natu_lt hlt; omega
        have ht' := beq_f ht
        clear hkg ht
        go_wp2_with (go_call (l1In_any _ _ _ _) as e w1 ⟨rfl, rfl⟩)
        go_call (l1Natural_any _ (by omega) (by omega) _) as e w1 ⟨rfl, hb⟩
        replace b0 := Blk.pure b0 hb
        replace hB := below_pure hB hb
        clear hb
        go_wp2_with fail
        go_roundw
        case rel => exact ⟨k + 1, by omega, by omega, by go_num, b0, hB⟩
        case measure => simp [intOf]; omega
  · obtain ⟨n0, n1, n2⟩ := nst_alt b r0 r1 hn
    rw [spA_alt b hn]
    have HN := Lib.hid (fun (p : Int) => natu_no (p := p) hn)
    clear hn
    generalize spS (key % 12) b = h at n0 n1 n2 ⊢
    obtain ⟨g, hg⟩ : ∃ g, g = 7 * (key / 12) + h := ⟨_, rfl⟩
    have g0 : 0 ≤ g := by omega
    have g1 : g ≤ 62 := by omega
    have gm : g % 7 = h := by omega
    have gd : g / 7 = key / 12 := by omega
    have gk : natu g + sgn b = key := by rw [hg, natu_at n0 n1]; omega
    rw [← gm, ← gd]
    have GK := Lib.hid gk
    clear gk gd gm hg n2 n0 n1
    cases b
    · simp only [sgn, if_false, Bool.false_eq_true] at GK ⊢
      go_enter Try.func27, Try.ntmps27
      go_wp2_with fail
      have b0 : Blk (w.alloc (Obj.cells #[.int .i64 0, .int .i64 0, .int .i64 0] 25)) w.heap.size 25 #[.int .i64 0, .int .i64 0, .int .i64 0] := Blk.new _ _ _
      have hB : Below w.heap.size w (w.alloc (Obj.cells #[.int .i64 0, .int .i64 0, .int .i64 0] 25)) := by go_grown
      go_loopw [6] (fun i wr => ∃ k : Int, 0 ≤ k ∧ k ≤ 63 ∧ i = .int .i64 k ∧ Blk wr w.heap.size 25 #[.int .i64 0, .int .i64 0, .int .i64 0] ∧ Below w.heap.size w wr) (fun i _ => 63 - (intOf i).toNat)
      case atStart => exact ⟨0, by omega, by omega, rfl, b0, hB⟩
      case round =>
        clear b0 hB
        obtain ⟨k, q0, q1, rfl, b0, hB⟩ := hrel
        by_cases hk63 : k < 63
        · obtain ⟨n0, n1⟩ := natu_bd k q0 (by omega)
          have ht' := beq_f (show key - natu k ≠ 0 by have h1 := HN.out k; omega)
          go_wp2_with (go_call (l1In_any _ _ _ _) as e w1 ⟨rfl, rfl⟩)
          go_call (l1Natural_any _ (by omega) (by omega) _) as e w1 ⟨rfl, hb⟩
          replace b0 := Blk.pure b0 hb
          replace hB := below_pure hB hb
          clear hb
          go_wp2_with fail
          go_roundw
          case rel => exact ⟨k + 1, by omega, by omega, by go_num, b0, hB⟩
          case measure => simp [intOf]; omega
        · go_wp2_with fail
          go_loopw [8] (fun i wr => ∃ k : Int, 0 ≤ k ∧ k ≤ g ∧ i = .int .i64 k ∧ Blk wr w.heap.size 25 #[.int .i64 0, .int .i64 0, .int .i64 0] ∧ Below w.heap.size w wr) (fun i _ => 63 - (intOf i).toNat)
          case atStart => exact ⟨0, by omega, by omega, rfl, b0, hB⟩
          case round =>
            clear b0 hB
            obtain ⟨j, j0, j1, rfl, b0, hB⟩ := hrel
            obtain ⟨n0, n1⟩ := natu_bd j j0 (by omega)
            by_cases hjg : j = g
            · have gk : key - natu g = 1 := by have := GK.out; omega
              obtain rfl : g = j := hjg.symm
              clear hjg
              go_wp2_with (go_call (l1In_any _ _ _ _) as e w1 ⟨rfl, rfl⟩)
              go_call (l1Natural_any _ (by omega) (by omega) _) as e w1 ⟨rfl, hb⟩
              replace b0 := Blk.pure b0 hb
              replace hB := below_pure hB hb
              clear hb
              have c0 := Blk.get (i := 0) b0 rfl
              have c1 := Blk.get (i := 1) b0 rfl
              have c2 := Blk.get (i := 2) b0 rfl
              have f0 := Blk.frozen b0 0
              have f1 := Blk.frozen b0 1
              have f2 := Blk.frozen b0 2
              have zl := b0.lt
              clear b0
              go_wp2_with fail
              refine bodyPost_ret (v := .tuple #[.agg #[.int .i64 (g % 7), .int .i64 (1), .int .i64 (g / 7)], .bool true]) (by simp [results, Try.results27, go_sem, *]) rfl ⟨rfl, by go_grown⟩
            · have hlt : j < g := by omega
              have ht' := beq_f (show key - natu j ≠ 1 by have h1 := GK.out; have h2 := natu_lt hlt; omega)
              clear hjg
              go_wp2_with (go_call (l1In_any _ _ _ _) as e w1 ⟨rfl, rfl⟩)
              go_call (l1Natural_any _ (by omega) (by omega) _) as e w1 ⟨rfl, hb⟩
              replace b0 := Blk.pure b0 hb
              replace hB := below_pure hB hb
              clear hb
              go_wp2_with fail
              all_goals
                go_roundw
                case rel => exact ⟨j + 1, by omega, by omega, by go_num, b0, hB⟩
                case measure => simp [intOf]; omega
    · simp only [sgn, if_true] at GK ⊢
      go_enter Try.func27, Try.ntmps27
      go_wp2_with fail
      have b0 : Blk (w.alloc (Obj.cells #[.int .i64 0, .int .i64 0, .int .i64 0] 25)) w.heap.size 25 #[.int .i64 0, .int .i64 0, .int .i64 0] := Blk.new _ _ _
      have hB : Below w.heap.size w (w.alloc (Obj.cells #[.int .i64 0, .int .i64 0, .int .i64 0] 25)) := by go_grown
      go_loopw [6] (fun i wr => ∃ k : Int, 0 ≤ k ∧ k ≤ 63 ∧ i = .int .i64 k ∧ Blk wr w.heap.size 25 #[.int .i64 0, .int .i64 0, .int .i64 0] ∧ Below w.heap.size w wr) (fun i _ => 63 - (intOf i).toNat)
      case atStart => exact ⟨0, by omega, by omega, rfl, b0, hB⟩
      case round =>
        clear b0 hB
        obtain ⟨k, q0, q1, rfl, b0, hB⟩ := hrel
        by_cases hk63 : k < 63
        · obtain ⟨n0, n1⟩ := natu_bd k q0 (by omega)
          have ht' := beq_f (show key - natu k ≠ 0 by have h1 := HN.out k; omega)
          go_wp2_with (go_call (l1In_any _ _ _ _) as e w1 ⟨rfl, rfl⟩)
          go_call (l1Natural_any _ (by omega) (by omega) _) as e w1 ⟨rfl, hb⟩
          replace b0 := Blk.pure b0 hb
          replace hB := below_pure hB hb
          clear hb
          go_wp2_with fail
          go_roundw
          case rel => exact ⟨k + 1, by omega, by omega, by go_num, b0, hB⟩
          case measure => simp [intOf]; omega
        · go_wp2_with fail
          go_loopw [8] (fun i wr => ∃ k : Int, 0 ≤ k ∧ k ≤ g ∧ i = .int .i64 k ∧ Blk wr w.heap.size 25 #[.int .i64 0, .int .i64 0, .int .i64 0] ∧ Below w.heap.size w wr) (fun i _ => 63 - (intOf i).toNat)
          case atStart => exact ⟨0, by omega, by omega, rfl, b0, hB⟩
          case round =>
            clear b0 hB
            obtain ⟨j, j0, j1, rfl, b0, hB⟩ := hrel
            obtain ⟨n0, n1⟩ := natu_bd j j0 (by omega)
            by_cases hjg : j = g
            · have gk : key - natu g = -1 := by have := GK.out; omega
              obtain rfl : g = j := hjg.symm
              clear hjg
              go_wp2_with (go_call (l1In_any _ _ _ _) as e w1 ⟨rfl, rfl⟩)
              go_call (l1Natural_any _ (by omega) (by omega) _) as e w1 ⟨rfl, hb⟩
              replace b0 := Blk.pure b0 hb
              replace hB := below_pure hB hb
              clear hb
              have c0 := Blk.get (i := 0) b0 rfl
              have c1 := Blk.get (i := 1) b0 rfl
              have c2 := Blk.get (i := 2) b0 rfl
              have f0 := Blk.frozen b0 0
              have f1 := Blk.frozen b0 1
              have f2 := Blk.frozen b0 2
              have zl := b0.lt
              clear b0
              go_wp2_with fail
              refine bodyPost_ret (v := .tuple #[.agg #[.int .i64 (g % 7), .int .i64 (-1), .int .i64 (g / 7)], .bool true]) (by simp [results, Try.results27, go_sem, *]) rfl ⟨rfl, by go_grown⟩
            · have hlt : j < g := by omega
              have ht' := beq_f (show key - natu j ≠ -1 by have h1 := GK.out; have h2 := natu_lt hlt; omega)
              clear hjg
              go_wp2_with (go_call (l1In_any _ _ _ _) as e w1 ⟨rfl, rfl⟩)
              go_call (l1Natural_any _ (by omega) (by omega) _) as e w1 ⟨rfl, hb⟩
              replace b0 := Blk.pure b0 hb
              replace hB := below_pure hB hb
              clear hb
              go_wp2_with fail
              all_goals
                go_roundw
                case rel => exact ⟨j + 1, by omega, by omega, by go_num, b0, hB⟩
                case measure => simp [intOf]; omega

end Go.Proofs.Ytgogpjlemaajeaa
