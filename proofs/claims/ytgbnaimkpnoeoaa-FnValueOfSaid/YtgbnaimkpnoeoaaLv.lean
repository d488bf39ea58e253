/- The walks of the lists of all values, of the program and of the reference: thirty values in a row of the call's own. No condition. -/
import Derived.Test.YtgbnaimkpnoeoaaLb
import Derived.Test.YtgbnaimkpnoeoaaRo
namespace Go.Proofs.Ytgbnaimkpnoeoaa
open Go.RowKit

def ic (f : Nat → Int) (i : Nat) : Value := .int .i64 (f i)
def vB (q : Nat) : Int := ((2 ^ (q % 5) : Nat) : Int)
def vD (q : Nat) : Int := ((q / 5 % 3 : Nat) : Int)
def vT (q : Nat) : Int := if q < 15 then 1 else 3
def vI (i : Nat) : Int := if i % 3 = 0 then vB (i / 3) else if i % 3 = 1 then vD (i / 3) else vT (i / 3)
theorem vI_0 (q : Nat) : vI (q * 3) = vB q := by unfold vI; rw [if_pos (by omega), show q * 3 / 3 = q by omega]
theorem vI_1 (q : Nat) : vI (q * 3 + 1) = vD q := by unfold vI; rw [if_neg (by omega), if_pos (by omega), show (q * 3 + 1) / 3 = q by omega]
theorem vI_2 (q : Nat) : vI (q * 3 + 2) = vT q := by unfold vI; rw [if_neg (by omega), if_neg (by omega), show (q * 3 + 2) / 3 = q by omega]
theorem v_row {q : Nat} {b d t : Int} (hb : vB q = b) (hd : vD q = d) (ht : vT q = t) : rowL (ic vI) (q * 3) ++ [.int .i64 b, .int .i64 d, .int .i64 t] = rowL (ic vI) ((q + 1) * 3) := by
  rw [show (q + 1) * 3 = q * 3 + 3 by omega, rowL_3]
  unfold ic
  rw [vI_0, vI_1, vI_2, hb, hd, ht]
theorem infoV : (Try.prog.info? 26).map (fun i => (i.zero, i.size, i.bytes)) = some (some (.agg #[.int .i64 0, .int .i64 0, .int .i64 0]), 3, 24) := by kernel_rfl
theorem one3 (x y z : Int) : ∀ u ∈ [Value.int .i64 x, Value.int .i64 y, Value.int .i64 z], u.oneCell' = true := by
  intro u hu
  simp only [List.mem_cons, List.not_mem_nil, or_false] at hu
  rcases hu with rfl | rfl | rfl <;> rfl

/-- What the list of all values leaves. -/
def ValuesPost (w : World) (e : Ending) (w' : World) : Prop :=
  ∃ a cap, e = .returned (.slice a 30 cap) ∧ Below w.heap.size w w' ∧ Owns w' w.heap.size a (30 * 3) (ic vI) ∧ 30 ≤ cap ∧ cap ≤ maxLen
/-- How far the list has come. -/
def VRow (w wr : World) (v : Value) (q : Nat) : Prop := wr.ownsRow w.heap.size 26 3 v q (rowL (ic vI) (q * 3)) ∧ Below w.heap.size w wr

set_option maxHeartbeats 4000000 in
theorem values_any (w : World) : Calls Try.prog 36 #[] w (ValuesPost w) := by
  obtain ⟨i0, hi, hz0, hz1, hz2⟩ := info_parts infoV
  have ix0 : ∀ w, (Instr.index 53 (.agg #[.int .i64 1, .int .i64 3]) (.int .i64 0)).run Try.prog w = .ok (.int .i64 1) w := fun _ => by kernel_rfl
  have ix1 : ∀ w, (Instr.index 53 (.agg #[.int .i64 1, .int .i64 3]) (.int .i64 1)).run Try.prog w = .ok (.int .i64 3) w := fun _ => by kernel_rfl
  go_enter Try.func36, Try.ntmps36
  go_wp2_with fail
  have own0 : VRow w (w.alloc (Obj.cells #[] 26)) (.slice (some ⟨w.heap.size, 0, none⟩) 0 0) 0 := ⟨World.ownsRow_made w #[] 0 (Nat.le_refl _) (by unfold maxLen; omega) rfl, by go_grown⟩
  go_loopw [1, 8] (fun v i wr => ∃ q : Nat, (q = 0 ∧ i = .int .i64 0 ∨ q = 1 ∧ i = .int .i64 1 ∨ q = 2 ∧ i = .int .i64 2) ∧ VRow w wr v (q * 15)) (fun _ i _ => 2 - (intOf i).toNat)
  case atStart => exact ⟨0, .inl ⟨rfl, rfl⟩, own0⟩
  case round =>
    clear own0
    obtain ⟨q, hq, own⟩ := hrel
    obtain ⟨wo, rfl⟩ : ∃ wo : World, wo = wr := ⟨_, rfl⟩
    rcases hq with ⟨rfl, rfl⟩ | ⟨rfl, rfl⟩ | ⟨rfl, rfl⟩
    · go_wp2_with fail
      go_loopw [1, 11] (fun v i wr => ∃ p : Nat, p ≤ 3 ∧ i = .int .i64 p ∧ VRow w wr v (p * 5)) (fun _ i _ => 3 - (intOf i).toNat)
      case atStart => exact ⟨0, by omega, rfl, own⟩
      case round =>
        clear own
        obtain ⟨p, hp, rfl, own⟩ := hrel
        obtain ⟨wm, rfl⟩ : ∃ wm : World, wm = wr := ⟨_, rfl⟩
        by_cases hp3 : p < 3
        · have hd : decide ((p : Int) < 3) = true := by simp; omega
          have hd2 : decide ((p : Int) ≤ 2) = true := by simp; omega
          go_wp2_with fail
          go_loopw [1, 5] (fun v i wr => ∃ (e : Nat) (b : Int), (e = 0 ∧ b = 1 ∨ e = 1 ∧ b = 2 ∨ e = 2 ∧ b = 4 ∨ e = 3 ∧ b = 8 ∨ e = 4 ∧ b = 16 ∨ e = 5 ∧ b = 32) ∧ i = .int .i64 b ∧ VRow w wr v (p * 5 + e)) (fun _ i _ => 32 - (intOf i).toNat)
          case atStart => exact ⟨0, 1, .inl ⟨rfl, rfl⟩, rfl, own⟩
          case round =>
            clear own
            obtain ⟨e, b, heb, rfl, own, hB⟩ := hrel
            have hsz := hB.size
            rcases heb with ⟨rfl, rfl⟩ | ⟨rfl, rfl⟩ | ⟨rfl, rfl⟩ | ⟨rfl, rfl⟩ | ⟨rfl, rfl⟩ | ⟨rfl, rfl⟩
            · have f0 : vB (p * 5 + 0) = 1 := by
                obtain rfl | rfl | rfl : p = 0 ∨ p = 1 ∨ p = 2 := by omega
                all_goals rfl
              have f1 : vD (p * 5 + 0) = (p : Int) := by
                obtain rfl | rfl | rfl : p = 0 ∨ p = 1 ∨ p = 2 := by omega
                all_goals rfl
              have f2 : vT (p * 5 + 0) = 1 := by
                obtain rfl | rfl | rfl : p = 0 ∨ p = 1 ∨ p = 2 := by omega
                all_goals rfl
              have HR := Lib.hid (v_row f0 f1 f2)
              have OWN := Lib.hid own
              clear f0 f1 f2 own
              go_wp2_with (at_builtin; refine wpList_append_lies _ rfl _ _ 44 rfl w.heap.size 26 i0 (.agg #[.int .i64 0, .int .i64 0, .int .i64 0]) 3 24 Try.underlying44 hi hz0 hz1 hz2 rfl (by omega) u1 (p * 5 + 0) (rowL (ic vI) ((p * 5 + 0) * 3)) rfl (OWN.out.alloc _) ⟨wr.heap.size, 0, none⟩ 1 1 [.int .i64 1, .int .i64 (p : Int), .int .i64 1] rfl rfl (World.news_of_block (heap_alloc_new wr _)) (one3 _ _ _) (by omega) (by unfold maxLen; omega) (by omega) (by simp; omega) (wr.heap.size + 1) (by simp) ?_; intro g cap w3 own3 hgrow hat hglt)
              rw [HR.out] at own3
              have hB3 := below_append hB hsz hgrow (fun j hj => (OWN.out.lt j hj).1)
              clear hgrow hat hglt hB hsz OWN HR
              go_wp2_with fail
              go_roundw
              case rel => exact ⟨1, 2, by omega, by go_num, own3, hB3⟩
              case measure => simp [intOf]
            · have f0 : vB (p * 5 + 1) = 2 := by
                obtain rfl | rfl | rfl : p = 0 ∨ p = 1 ∨ p = 2 := by omega
                all_goals rfl
              have f1 : vD (p * 5 + 1) = (p : Int) := by
                obtain rfl | rfl | rfl : p = 0 ∨ p = 1 ∨ p = 2 := by omega
                all_goals rfl
              have f2 : vT (p * 5 + 1) = 1 := by
                obtain rfl | rfl | rfl : p = 0 ∨ p = 1 ∨ p = 2 := by omega
                all_goals rfl
              have HR := Lib.hid (v_row f0 f1 f2)
              have OWN := Lib.hid own
              clear f0 f1 f2 own
              go_wp2_with (at_builtin; refine wpList_append_lies _ rfl _ _ 44 rfl w.heap.size 26 i0 (.agg #[.int .i64 0, .int .i64 0, .int .i64 0]) 3 24 Try.underlying44 hi hz0 hz1 hz2 rfl (by omega) u1 (p * 5 + 1) (rowL (ic vI) ((p * 5 + 1) * 3)) rfl (OWN.out.alloc _) ⟨wr.heap.size, 0, none⟩ 1 1 [.int .i64 2, .int .i64 (p : Int), .int .i64 1] rfl rfl (World.news_of_block (heap_alloc_new wr _)) (one3 _ _ _) (by omega) (by unfold maxLen; omega) (by omega) (by simp; omega) (wr.heap.size + 1) (by simp) ?_; intro g cap w3 own3 hgrow hat hglt)
              rw [HR.out] at own3
              have hB3 := below_append hB hsz hgrow (fun j hj => (OWN.out.lt j hj).1)
              clear hgrow hat hglt hB hsz OWN HR
              go_wp2_with fail
              go_roundw
              case rel => exact ⟨2, 4, by omega, by go_num, own3, hB3⟩
              case measure => simp [intOf]
            · have f0 : vB (p * 5 + 2) = 4 := by
                obtain rfl | rfl | rfl : p = 0 ∨ p = 1 ∨ p = 2 := by omega
                all_goals rfl
              have f1 : vD (p * 5 + 2) = (p : Int) := by
                obtain rfl | rfl | rfl : p = 0 ∨ p = 1 ∨ p = 2 := by omega
                all_goals rfl
              have f2 : vT (p * 5 + 2) = 1 := by
                obtain rfl | rfl | rfl : p = 0 ∨ p = 1 ∨ p = 2 := by omega
                all_goals rfl
              have HR := Lib.hid (v_row f0 f1 f2)
              have OWN := Lib.hid own
              clear f0 f1 f2 own
              go_wp2_with (at_builtin; refine wpList_append_lies _ rfl _ _ 44 rfl w.heap.size 26 i0 (.agg #[.int .i64 0, .int .i64 0, .int .i64 0]) 3 24 Try.underlying44 hi hz0 hz1 hz2 rfl (by omega) u1 (p * 5 + 2) (rowL (ic vI) ((p * 5 + 2) * 3)) rfl (OWN.out.alloc _) ⟨wr.heap.size, 0, none⟩ 1 1 [.int .i64 4, .int .i64 (p : Int), .int .i64 1] rfl rfl (World.news_of_block (heap_alloc_new wr _)) (one3 _ _ _) (by omega) (by unfold maxLen; omega) (by omega) (by simp; omega) (wr.heap.size + 1) (by simp) ?_; intro g cap w3 own3 hgrow hat hglt)
              rw [HR.out] at own3
              have hB3 := below_append hB hsz hgrow (fun j hj => (OWN.out.lt j hj).1)
              clear hgrow hat hglt hB hsz OWN HR
              go_wp2_with fail
              go_roundw
              case rel => exact ⟨3, 8, by omega, by go_num, own3, hB3⟩
              case measure => simp [intOf]
            · have f0 : vB (p * 5 + 3) = 8 := by
                obtain rfl | rfl | rfl : p = 0 ∨ p = 1 ∨ p = 2 := by omega
                all_goals rfl
              have f1 : vD (p * 5 + 3) = (p : Int) := by
                obtain rfl | rfl | rfl : p = 0 ∨ p = 1 ∨ p = 2 := by omega
                all_goals rfl
              have f2 : vT (p * 5 + 3) = 1 := by
                obtain rfl | rfl | rfl : p = 0 ∨ p = 1 ∨ p = 2 := by omega
                all_goals rfl
              have HR := Lib.hid (v_row f0 f1 f2)
              have OWN := Lib.hid own
              clear f0 f1 f2 own
              go_wp2_with (at_builtin; refine wpList_append_lies _ rfl _ _ 44 rfl w.heap.size 26 i0 (.agg #[.int .i64 0, .int .i64 0, .int .i64 0]) 3 24 Try.underlying44 hi hz0 hz1 hz2 rfl (by omega) u1 (p * 5 + 3) (rowL (ic vI) ((p * 5 + 3) * 3)) rfl (OWN.out.alloc _) ⟨wr.heap.size, 0, none⟩ 1 1 [.int .i64 8, .int .i64 (p : Int), .int .i64 1] rfl rfl (World.news_of_block (heap_alloc_new wr _)) (one3 _ _ _) (by omega) (by unfold maxLen; omega) (by omega) (by simp; omega) (wr.heap.size + 1) (by simp) ?_; intro g cap w3 own3 hgrow hat hglt)
              rw [HR.out] at own3
              have hB3 := below_append hB hsz hgrow (fun j hj => (OWN.out.lt j hj).1)
              clear hgrow hat hglt hB hsz OWN HR
              go_wp2_with fail
              go_roundw
              case rel => exact ⟨4, 16, by omega, by go_num, own3, hB3⟩
              case measure => simp [intOf]
            · have f0 : vB (p * 5 + 4) = 16 := by
                obtain rfl | rfl | rfl : p = 0 ∨ p = 1 ∨ p = 2 := by omega
                all_goals rfl
              have f1 : vD (p * 5 + 4) = (p : Int) := by
                obtain rfl | rfl | rfl : p = 0 ∨ p = 1 ∨ p = 2 := by omega
                all_goals rfl
              have f2 : vT (p * 5 + 4) = 1 := by
                obtain rfl | rfl | rfl : p = 0 ∨ p = 1 ∨ p = 2 := by omega
                all_goals rfl
              have HR := Lib.hid (v_row f0 f1 f2)
              have OWN := Lib.hid own
              clear f0 f1 f2 own
              go_wp2_with (at_builtin; refine wpList_append_lies _ rfl _ _ 44 rfl w.heap.size 26 i0 (.agg #[.int .i64 0, .int .i64 0, .int .i64 0]) 3 24 Try.underlying44 hi hz0 hz1 hz2 rfl (by omega) u1 (p * 5 + 4) (rowL (ic vI) ((p * 5 + 4) * 3)) rfl (OWN.out.alloc _) ⟨wr.heap.size, 0, none⟩ 1 1 [.int .i64 16, .int .i64 (p : Int), .int .i64 1] rfl rfl (World.news_of_block (heap_alloc_new wr _)) (one3 _ _ _) (by omega) (by unfold maxLen; omega) (by omega) (by simp; omega) (wr.heap.size + 1) (by simp) ?_; intro g cap w3 own3 hgrow hat hglt)
              rw [HR.out] at own3
              have hB3 := below_append hB hsz hgrow (fun j hj => (OWN.out.lt j hj).1)
              clear hgrow hat hglt hB hsz OWN HR
              go_wp2_with fail
              go_roundw
              case rel => exact ⟨5, 32, by omega, by go_num, own3, hB3⟩
              case measure => simp [intOf]
            · go_wp2_with fail
              go_roundw
              case rel => exact ⟨p + 1, by omega, by go_num, by rw [show (p + 1) * 5 = p * 5 + 5 by omega]; exact ⟨own, hB⟩⟩
              case measure => simp [intOf]; omega
        · obtain rfl : p = 3 := by omega
          go_wp2_with fail
          go_roundw
          case rel => exact ⟨1, .inr (.inl ⟨rfl, rfl⟩), own⟩
          case measure => simp [intOf]
    · go_wp2_with fail
      go_loopw [1, 11] (fun v i wr => ∃ p : Nat, p ≤ 3 ∧ i = .int .i64 p ∧ VRow w wr v (15 + p * 5)) (fun _ i _ => 3 - (intOf i).toNat)
      case atStart => exact ⟨0, by omega, rfl, own⟩
      case round =>
        clear own
        obtain ⟨p, hp, rfl, own⟩ := hrel
        obtain ⟨wm, rfl⟩ : ∃ wm : World, wm = wr := ⟨_, rfl⟩
        by_cases hp3 : p < 3
        · have hd : decide ((p : Int) < 3) = true := by simp; omega
          have hd2 : decide ((p : Int) ≤ 2) = true := by simp; omega
          go_wp2_with fail
          go_loopw [1, 5] (fun v i wr => ∃ (e : Nat) (b : Int), (e = 0 ∧ b = 1 ∨ e = 1 ∧ b = 2 ∨ e = 2 ∧ b = 4 ∨ e = 3 ∧ b = 8 ∨ e = 4 ∧ b = 16 ∨ e = 5 ∧ b = 32) ∧ i = .int .i64 b ∧ VRow w wr v (15 + p * 5 + e)) (fun _ i _ => 32 - (intOf i).toNat)
          case atStart => exact ⟨0, 1, .inl ⟨rfl, rfl⟩, rfl, own⟩
          case round =>
            clear own
            obtain ⟨e, b, heb, rfl, own, hB⟩ := hrel
            have hsz := hB.size
            rcases heb with ⟨rfl, rfl⟩ | ⟨rfl, rfl⟩ | ⟨rfl, rfl⟩ | ⟨rfl, rfl⟩ | ⟨rfl, rfl⟩ | ⟨rfl, rfl⟩
            · have f0 : vB (15 + p * 5 + 0) = 1 := by
                obtain rfl | rfl | rfl : p = 0 ∨ p = 1 ∨ p = 2 := by omega
                all_goals rfl
              have f1 : vD (15 + p * 5 + 0) = (p : Int) := by
                obtain rfl | rfl | rfl : p = 0 ∨ p = 1 ∨ p = 2 := by omega
                all_goals rfl
              have f2 : vT (15 + p * 5 + 0) = 3 := by
                obtain rfl | rfl | rfl : p = 0 ∨ p = 1 ∨ p = 2 := by omega
                all_goals rfl
              have HR := Lib.hid (v_row f0 f1 f2)
              have OWN := Lib.hid own
              clear f0 f1 f2 own
              go_wp2_with (at_builtin; refine wpList_append_lies _ rfl _ _ 44 rfl w.heap.size 26 i0 (.agg #[.int .i64 0, .int .i64 0, .int .i64 0]) 3 24 Try.underlying44 hi hz0 hz1 hz2 rfl (by omega) u1 (15 + p * 5 + 0) (rowL (ic vI) ((15 + p * 5 + 0) * 3)) rfl (OWN.out.alloc _) ⟨wr.heap.size, 0, none⟩ 1 1 [.int .i64 1, .int .i64 (p : Int), .int .i64 3] rfl rfl (World.news_of_block (heap_alloc_new wr _)) (one3 _ _ _) (by omega) (by unfold maxLen; omega) (by omega) (by simp; omega) (wr.heap.size + 1) (by simp) ?_; intro g cap w3 own3 hgrow hat hglt)
              rw [HR.out] at own3
              have hB3 := below_append hB hsz hgrow (fun j hj => (OWN.out.lt j hj).1)
              clear hgrow hat hglt hB hsz OWN HR
              go_wp2_with fail
              go_roundw
              case rel => exact ⟨1, 2, by omega, by go_num, own3, hB3⟩
              case measure => simp [intOf]
            · have f0 : vB (15 + p * 5 + 1) = 2 := by
                obtain rfl | rfl | rfl : p = 0 ∨ p = 1 ∨ p = 2 := by omega
                all_goals rfl
              have f1 : vD (15 + p * 5 + 1) = (p : Int) := by
                obtain rfl | rfl | rfl : p = 0 ∨ p = 1 ∨ p = 2 := by omega
                all_goals rfl
              have f2 : vT (15 + p * 5 + 1) = 3 := by
                obtain rfl | rfl | rfl : p = 0 ∨ p = 1 ∨ p = 2 := by omega
                all_goals rfl
              have HR := Lib.hid (v_row f0 f1 f2)
              have OWN := Lib.hid own
              clear f0 f1 f2 own
              go_wp2_with (at_builtin; refine wpList_append_lies _ rfl _ _ 44 rfl w.heap.size 26 i0 (.agg #[.int .i64 0, .int .i64 0, .int .i64 0]) 3 24 Try.underlying44 hi hz0 hz1 hz2 rfl (by omega) u1 (15 + p * 5 + 1) (rowL (ic vI) ((15 + p * 5 + 1) * 3)) rfl (OWN.out.alloc _) ⟨wr.heap.size, 0, none⟩ 1 1 [.int .i64 2, .int .i64 (p : Int), .int .i64 3] rfl rfl (World.news_of_block (heap_alloc_new wr _)) (one3 _ _ _) (by omega) (by unfold maxLen; omega) (by omega) (by simp; omega) (wr.heap.size + 1) (by simp) ?_; intro g cap w3 own3 hgrow hat hglt)
              rw [HR.out] at own3
              have hB3 := below_append hB hsz hgrow (fun j hj => (OWN.out.lt j hj).1)
              clear hgrow hat hglt hB hsz OWN HR
              go_wp2_with fail
              go_roundw
              case rel => exact ⟨2, 4, by omega, by go_num, own3, hB3⟩
              case measure => simp [intOf]
            · have f0 : vB (15 + p * 5 + 2) = 4 := by
                obtain rfl | rfl | rfl : p = 0 ∨ p = 1 ∨ p = 2 := by omega
                all_goals rfl
              have f1 : vD (15 + p * 5 + 2) = (p : Int) := by
                obtain rfl | rfl | rfl : p = 0 ∨ p = 1 ∨ p = 2 := by omega
                all_goals rfl
              have f2 : vT (15 + p * 5 + 2) = 3 := by
                obtain rfl | rfl | rfl : p = 0 ∨ p = 1 ∨ p = 2 := by omega
                all_goals rfl
              have HR := Lib.hid (v_row f0 f1 f2)
              have OWN := Lib.hid own
              clear f0 f1 f2 own
              go_wp2_with (at_builtin; refine wpList_append_lies _ rfl _ _ 44 rfl w.heap.size 26 i0 (.agg #[.int .i64 0, .int .i64 0, .int .i64 0]) 3 24 Try.underlying44 hi hz0 hz1 hz2 rfl (by omega) u1 (15 + p * 5 + 2) (rowL (ic vI) ((15 + p * 5 + 2) * 3)) rfl (OWN.out.alloc _) ⟨wr.heap.size, 0, none⟩ 1 1 [.int .i64 4, .int .i64 (p : Int), .int .i64 3] rfl rfl (World.news_of_block (heap_alloc_new wr _)) (one3 _ _ _) (by omega) (by unfold maxLen; omega) (by omega) (by simp; omega) (wr.heap.size + 1) (by simp) ?_; intro g cap w3 own3 hgrow hat hglt)
              rw [HR.out] at own3
              have hB3 := below_append hB hsz hgrow (fun j hj => (OWN.out.lt j hj).1)
              clear hgrow hat hglt hB hsz OWN HR
              go_wp2_with fail
              go_roundw
              case rel => exact ⟨3, 8, by omega, by go_num, own3, hB3⟩
              case measure => simp [intOf]
            · have f0 : vB (15 + p * 5 + 3) = 8 := by
                obtain rfl | rfl | rfl : p = 0 ∨ p = 1 ∨ p = 2 := by omega
                all_goals rfl
              have f1 : vD (15 + p * 5 + 3) = (p : Int) := by
                obtain rfl | rfl | rfl : p = 0 ∨ p = 1 ∨ p = 2 := by omega
                all_goals rfl
              have f2 : vT (15 + p * 5 + 3) = 3 := by
                obtain rfl | rfl | rfl : p = 0 ∨ p = 1 ∨ p = 2 := by omega
                all_goals rfl
              have HR := Lib.hid (v_row f0 f1 f2)
              have OWN := Lib.hid own
              clear f0 f1 f2 own
              go_wp2_with (at_builtin; refine wpList_append_lies _ rfl _ _ 44 rfl w.heap.size 26 i0 (.agg #[.int .i64 0, .int .i64 0, .int .i64 0]) 3 24 Try.underlying44 hi hz0 hz1 hz2 rfl (by omega) u1 (15 + p * 5 + 3) (rowL (ic vI) ((15 + p * 5 + 3) * 3)) rfl (OWN.out.alloc _) ⟨wr.heap.size, 0, none⟩ 1 1 [.int .i64 8, .int .i64 (p : Int), .int .i64 3] rfl rfl (World.news_of_block (heap_alloc_new wr _)) (one3 _ _ _) (by omega) (by unfold maxLen; omega) (by omega) (by simp; omega) (wr.heap.size + 1) (by simp) ?_; intro g cap w3 own3 hgrow hat hglt)
              rw [HR.out] at own3
              have hB3 := below_append hB hsz hgrow (fun j hj => (OWN.out.lt j hj).1)
              clear hgrow hat hglt hB hsz OWN HR
              go_wp2_with fail
              go_roundw
              case rel => exact ⟨4, 16, by omega, by go_num, own3, hB3⟩
              case measure => simp [intOf]
            · have f0 : vB (15 + p * 5 + 4) = 16 := by
                obtain rfl | rfl | rfl : p = 0 ∨ p = 1 ∨ p = 2 := by omega
                all_goals rfl
              have f1 : vD (15 + p * 5 + 4) = (p : Int) := by
                obtain rfl | rfl | rfl : p = 0 ∨ p = 1 ∨ p = 2 := by omega
                all_goals rfl
              have f2 : vT (15 + p * 5 + 4) = 3 := by
                obtain rfl | rfl | rfl : p = 0 ∨ p = 1 ∨ p = 2 := by omega
                all_goals rfl
              have HR := Lib.hid (v_row f0 f1 f2)
              have OWN := Lib.hid own
              clear f0 f1 f2 own
              go_wp2_with (at_builtin; refine wpList_append_lies _ rfl _ _ 44 rfl w.heap.size 26 i0 (.agg #[.int .i64 0, .int .i64 0, .int .i64 0]) 3 24 Try.underlying44 hi hz0 hz1 hz2 rfl (by omega) u1 (15 + p * 5 + 4) (rowL (ic vI) ((15 + p * 5 + 4) * 3)) rfl (OWN.out.alloc _) ⟨wr.heap.size, 0, none⟩ 1 1 [.int .i64 16, .int .i64 (p : Int), .int .i64 3] rfl rfl (World.news_of_block (heap_alloc_new wr _)) (one3 _ _ _) (by omega) (by unfold maxLen; omega) (by omega) (by simp; omega) (wr.heap.size + 1) (by simp) ?_; intro g cap w3 own3 hgrow hat hglt)
              rw [HR.out] at own3
              have hB3 := below_append hB hsz hgrow (fun j hj => (OWN.out.lt j hj).1)
              clear hgrow hat hglt hB hsz OWN HR
              go_wp2_with fail
              go_roundw
              case rel => exact ⟨5, 32, by omega, by go_num, own3, hB3⟩
              case measure => simp [intOf]
            · go_wp2_with fail
              go_roundw
              case rel => exact ⟨p + 1, by omega, by go_num, by rw [show 15 + (p + 1) * 5 = 15 + p * 5 + 5 by omega]; exact ⟨own, hB⟩⟩
              case measure => simp [intOf]; omega
        · obtain rfl : p = 3 := by omega
          go_wp2_with fail
          go_roundw
          case rel => exact ⟨2, .inr (.inr ⟨rfl, rfl⟩), own⟩
          case measure => simp [intOf]
    · obtain ⟨own, hB⟩ := own
      go_wp2
      go_ret
      obtain ⟨a, cap, rfl, h1, h2, h3⟩ := owns_of_row own
      exact ⟨a, cap, rfl, hB, h3, h1, h2⟩

set_option maxHeartbeats 4000000 in
theorem l4Values_any (w : World) : Calls Try.prog 35 #[] w (ValuesPost w) := by
  obtain ⟨i0, hi, hz0, hz1, hz2⟩ := info_parts infoV
  go_enter Try.func35, Try.ntmps35
  go_wp2_with fail
  have own0 : VRow w (w.alloc (Obj.cells #[] 26)) (.slice (some ⟨w.heap.size, 0, none⟩) 0 0) 0 := ⟨World.ownsRow_made w #[] 0 (Nat.le_refl _) (by unfold maxLen; omega) rfl, by go_grown⟩
  go_loopw [1, 2] (fun v i wr => ∃ q : Nat, (q = 0 ∧ i = .int .i64 1 ∨ q = 1 ∧ i = .int .i64 3 ∨ q = 2 ∧ i = .int .i64 5) ∧ VRow w wr v (q * 15)) (fun _ i _ => 5 - (intOf i).toNat)
  case atStart => exact ⟨0, .inl ⟨rfl, rfl⟩, own0⟩
  case round =>
    clear own0
    obtain ⟨q, hq, own⟩ := hrel
    obtain ⟨wo, rfl⟩ : ∃ wo : World, wo = wr := ⟨_, rfl⟩
    rcases hq with ⟨rfl, rfl⟩ | ⟨rfl, rfl⟩ | ⟨rfl, rfl⟩
    · go_wp2_with fail
      go_loopw [1, 3] (fun v i wr => ∃ p : Nat, p ≤ 3 ∧ i = .int .i64 p ∧ VRow w wr v (p * 5)) (fun _ i _ => 3 - (intOf i).toNat)
      case atStart => exact ⟨0, by omega, rfl, own⟩
      case round =>
        clear own
        obtain ⟨p, hp, rfl, own⟩ := hrel
        obtain ⟨wm, rfl⟩ : ∃ wm : World, wm = wr := ⟨_, rfl⟩
        by_cases hp3 : p < 3
        · have hd : decide ((p : Int) < 3) = true := by simp; omega
          have hd2 : decide ((p : Int) ≤ 2) = true := by simp; omega
          go_wp2_with fail
          go_loopw [1, 4] (fun v i wr => ∃ (e : Nat) (b : Int), (e = 0 ∧ b = 1 ∨ e = 1 ∧ b = 2 ∨ e = 2 ∧ b = 4 ∨ e = 3 ∧ b = 8 ∨ e = 4 ∧ b = 16 ∨ e = 5 ∧ b = 32) ∧ i = .int .i64 b ∧ VRow w wr v (p * 5 + e)) (fun _ i _ => 32 - (intOf i).toNat)
          case atStart => exact ⟨0, 1, .inl ⟨rfl, rfl⟩, rfl, own⟩
          case round =>
            clear own
            obtain ⟨e, b, heb, rfl, own, hB⟩ := hrel
            have hsz := hB.size
            rcases heb with ⟨rfl, rfl⟩ | ⟨rfl, rfl⟩ | ⟨rfl, rfl⟩ | ⟨rfl, rfl⟩ | ⟨rfl, rfl⟩ | ⟨rfl, rfl⟩
            · have f0 : vB (p * 5 + 0) = 1 := by
                obtain rfl | rfl | rfl : p = 0 ∨ p = 1 ∨ p = 2 := by omega
                all_goals rfl
              have f1 : vD (p * 5 + 0) = (p : Int) := by
                obtain rfl | rfl | rfl : p = 0 ∨ p = 1 ∨ p = 2 := by omega
                all_goals rfl
              have f2 : vT (p * 5 + 0) = 1 := by
                obtain rfl | rfl | rfl : p = 0 ∨ p = 1 ∨ p = 2 := by omega
                all_goals rfl
              have HR := Lib.hid (v_row f0 f1 f2)
              have OWN := Lib.hid own
              clear f0 f1 f2 own
              go_wp2_with (at_builtin; refine wpList_append_lies _ rfl _ _ 44 rfl w.heap.size 26 i0 (.agg #[.int .i64 0, .int .i64 0, .int .i64 0]) 3 24 Try.underlying44 hi hz0 hz1 hz2 rfl (by omega) u1 (p * 5 + 0) (rowL (ic vI) ((p * 5 + 0) * 3)) rfl (OWN.out.alloc _) ⟨wr.heap.size, 0, none⟩ 1 1 [.int .i64 1, .int .i64 (p : Int), .int .i64 1] rfl rfl (World.news_of_block (heap_alloc_new wr _)) (one3 _ _ _) (by omega) (by unfold maxLen; omega) (by omega) (by simp; omega) (wr.heap.size + 1) (by simp) ?_; intro g cap w3 own3 hgrow hat hglt)
              rw [HR.out] at own3
              have hB3 := below_append hB hsz hgrow (fun j hj => (OWN.out.lt j hj).1)
              clear hgrow hat hglt hB hsz OWN HR
              go_wp2_with fail
              go_roundw
              case rel => exact ⟨1, 2, by omega, by go_num, own3, hB3⟩
              case measure => simp [intOf]
            · have f0 : vB (p * 5 + 1) = 2 := by
                obtain rfl | rfl | rfl : p = 0 ∨ p = 1 ∨ p = 2 := by omega
                all_goals rfl
              have f1 : vD (p * 5 + 1) = (p : Int) := by
                obtain rfl | rfl | rfl : p = 0 ∨ p = 1 ∨ p = 2 := by omega
                all_goals rfl
              have f2 : vT (p * 5 + 1) = 1 := by
                obtain rfl | rfl | rfl : p = 0 ∨ p = 1 ∨ p = 2 := by omega
                all_goals rfl
              have HR := Lib.hid (v_row f0 f1 f2)
              have OWN := Lib.hid own
              clear f0 f1 f2 own
              go_wp2_with (at_builtin; refine wpList_append_lies _ rfl _ _ 44 rfl w.heap.size 26 i0 (.agg #[.int .i64 0, .int .i64 0, .int .i64 0]) 3 24 Try.underlying44 hi hz0 hz1 hz2 rfl (by omega) u1 (p * 5 + 1) (rowL (ic vI) ((p * 5 + 1) * 3)) rfl (OWN.out.alloc _) ⟨wr.heap.size, 0, none⟩ 1 1 [.int .i64 2, .int .i64 (p : Int), .int .i64 1] rfl rfl (World.news_of_block (heap_alloc_new wr _)) (one3 _ _ _) (by omega) (by unfold maxLen; omega) (by omega) (by simp; omega) (wr.heap.size + 1) (by simp) ?_; intro g cap w3 own3 hgrow hat hglt)
              rw [HR.out] at own3
              have hB3 := below_append hB hsz hgrow (fun j hj => (OWN.out.lt j hj).1)
              clear hgrow hat hglt hB hsz OWN HR
              go_wp2_with fail
              go_roundw
              case rel => exact ⟨2, 4, by omega, by go_num, own3, hB3⟩
              case measure => simp [intOf]
            · have f0 : vB (p * 5 + 2) = 4 := by
                obtain rfl | rfl | rfl : p = 0 ∨ p = 1 ∨ p = 2 := by omega
                all_goals rfl
              have f1 : vD (p * 5 + 2) = (p : Int) := by
                obtain rfl | rfl | rfl : p = 0 ∨ p = 1 ∨ p = 2 := by omega
                all_goals rfl
              have f2 : vT (p * 5 + 2) = 1 := by
                obtain rfl | rfl | rfl : p = 0 ∨ p = 1 ∨ p = 2 := by omega
                all_goals rfl
              have HR := Lib.hid (v_row f0 f1 f2)
              have OWN := Lib.hid own
              clear f0 f1 f2 own
              go_wp2_with (at_builtin; refine wpList_append_lies _ rfl _ _ 44 rfl w.heap.size 26 i0 (.agg #[.int .i64 0, .int .i64 0, .int .i64 0]) 3 24 Try.underlying44 hi hz0 hz1 hz2 rfl (by omega) u1 (p * 5 + 2) (rowL (ic vI) ((p * 5 + 2) * 3)) rfl (OWN.out.alloc _) ⟨wr.heap.size, 0, none⟩ 1 1 [.int .i64 4, .int .i64 (p : Int), .int .i64 1] rfl rfl (World.news_of_block (heap_alloc_new wr _)) (one3 _ _ _) (by omega) (by unfold maxLen; omega) (by omega) (by simp; omega) (wr.heap.size + 1) (by simp) ?_; intro g cap w3 own3 hgrow hat hglt)
              rw [HR.out] at own3
              have hB3 := below_append hB hsz hgrow (fun j hj => (OWN.out.lt j hj).1)
              clear hgrow hat hglt hB hsz OWN HR
              go_wp2_with fail
              go_roundw
              case rel => exact ⟨3, 8, by omega, by go_num, own3, hB3⟩
              case measure => simp [intOf]
            · have f0 : vB (p * 5 + 3) = 8 := by
                obtain rfl | rfl | rfl : p = 0 ∨ p = 1 ∨ p = 2 := by omega
                all_goals rfl
              have f1 : vD (p * 5 + 3) = (p : Int) := by
                obtain rfl | rfl | rfl : p = 0 ∨ p = 1 ∨ p = 2 := by omega
                all_goals rfl
              have f2 : vT (p * 5 + 3) = 1 := by
                obtain rfl | rfl | rfl : p = 0 ∨ p = 1 ∨ p = 2 := by omega
                all_goals rfl
              have HR := Lib.hid (v_row f0 f1 f2)
              have OWN := Lib.hid own
              clear f0 f1 f2 own
              go_wp2_with (at_builtin; refine wpList_append_lies _ rfl _ _ 44 rfl w.heap.size 26 i0 (.agg #[.int .i64 0, .int .i64 0, .int .i64 0]) 3 24 Try.underlying44 hi hz0 hz1 hz2 rfl (by omega) u1 (p * 5 + 3) (rowL (ic vI) ((p * 5 + 3) * 3)) rfl (OWN.out.alloc _) ⟨wr.heap.size, 0, none⟩ 1 1 [.int .i64 8, .int .i64 (p : Int), .int .i64 1] rfl rfl (World.news_of_block (heap_alloc_new wr _)) (one3 _ _ _) (by omega) (by unfold maxLen; omega) (by omega) (by simp; omega) (wr.heap.size + 1) (by simp) ?_; intro g cap w3 own3 hgrow hat hglt)
              rw [HR.out] at own3
              have hB3 := below_append hB hsz hgrow (fun j hj => (OWN.out.lt j hj).1)
              clear hgrow hat hglt hB hsz OWN HR
              go_wp2_with fail
              go_roundw
              case rel => exact ⟨4, 16, by omega, by go_num, own3, hB3⟩
              case measure => simp [intOf]
            · have f0 : vB (p * 5 + 4) = 16 := by
                obtain rfl | rfl | rfl : p = 0 ∨ p = 1 ∨ p = 2 := by omega
                all_goals rfl
              have f1 : vD (p * 5 + 4) = (p : Int) := by
                obtain rfl | rfl | rfl : p = 0 ∨ p = 1 ∨ p = 2 := by omega
                all_goals rfl
              have f2 : vT (p * 5 + 4) = 1 := by
                obtain rfl | rfl | rfl : p = 0 ∨ p = 1 ∨ p = 2 := by omega
                all_goals rfl
              have HR := Lib.hid (v_row f0 f1 f2)
              have OWN := Lib.hid own
              clear f0 f1 f2 own
              go_wp2_with (at_builtin; refine wpList_append_lies _ rfl _ _ 44 rfl w.heap.size 26 i0 (.agg #[.int .i64 0, .int .i64 0, .int .i64 0]) 3 24 Try.underlying44 hi hz0 hz1 hz2 rfl (by omega) u1 (p * 5 + 4) (rowL (ic vI) ((p * 5 + 4) * 3)) rfl (OWN.out.alloc _) ⟨wr.heap.size, 0, none⟩ 1 1 [.int .i64 16, .int .i64 (p : Int), .int .i64 1] rfl rfl (World.news_of_block (heap_alloc_new wr _)) (one3 _ _ _) (by omega) (by unfold maxLen; omega) (by omega) (by simp; omega) (wr.heap.size + 1) (by simp) ?_; intro g cap w3 own3 hgrow hat hglt)
              rw [HR.out] at own3
              have hB3 := below_append hB hsz hgrow (fun j hj => (OWN.out.lt j hj).1)
              clear hgrow hat hglt hB hsz OWN HR
              go_wp2_with fail
              go_roundw
              case rel => exact ⟨5, 32, by omega, by go_num, own3, hB3⟩
              case measure => simp [intOf]
            · go_wp2_with fail
              go_roundw
              case rel => exact ⟨p + 1, by omega, by go_num, by rw [show (p + 1) * 5 = p * 5 + 5 by omega]; exact ⟨own, hB⟩⟩
              case measure => simp [intOf]; omega
        · obtain rfl : p = 3 := by omega
          go_wp2_with fail
          go_roundw
          case rel => exact ⟨1, .inr (.inl ⟨rfl, rfl⟩), own⟩
          case measure => simp [intOf]
    · go_wp2_with fail
      go_loopw [1, 3] (fun v i wr => ∃ p : Nat, p ≤ 3 ∧ i = .int .i64 p ∧ VRow w wr v (15 + p * 5)) (fun _ i _ => 3 - (intOf i).toNat)
      case atStart => exact ⟨0, by omega, rfl, own⟩
      case round =>
        clear own
        obtain ⟨p, hp, rfl, own⟩ := hrel
        obtain ⟨wm, rfl⟩ : ∃ wm : World, wm = wr := ⟨_, rfl⟩
        by_cases hp3 : p < 3
        · have hd : decide ((p : Int) < 3) = true := by simp; omega
          have hd2 : decide ((p : Int) ≤ 2) = true := by simp; omega
          go_wp2_with fail
          go_loopw [1, 4] (fun v i wr => ∃ (e : Nat) (b : Int), (e = 0 ∧ b = 1 ∨ e = 1 ∧ b = 2 ∨ e = 2 ∧ b = 4 ∨ e = 3 ∧ b = 8 ∨ e = 4 ∧ b = 16 ∨ e = 5 ∧ b = 32) ∧ i = .int .i64 b ∧ VRow w wr v (15 + p * 5 + e)) (fun _ i _ => 32 - (intOf i).toNat)
          case atStart => exact ⟨0, 1, .inl ⟨rfl, rfl⟩, rfl, own⟩
          case round =>
            clear own
            obtain ⟨e, b, heb, rfl, own, hB⟩ := hrel
            have hsz := hB.size
            rcases heb with ⟨rfl, rfl⟩ | ⟨rfl, rfl⟩ | ⟨rfl, rfl⟩ | ⟨rfl, rfl⟩ | ⟨rfl, rfl⟩ | ⟨rfl, rfl⟩
            · have f0 : vB (15 + p * 5 + 0) = 1 := by
                obtain rfl | rfl | rfl : p = 0 ∨ p = 1 ∨ p = 2 := by omega
                all_goals rfl
              have f1 : vD (15 + p * 5 + 0) = (p : Int) := by
                obtain rfl | rfl | rfl : p = 0 ∨ p = 1 ∨ p = 2 := by omega
                all_goals rfl
              have f2 : vT (15 + p * 5 + 0) = 3 := by
                obtain rfl | rfl | rfl : p = 0 ∨ p = 1 ∨ p = 2 := by omega
                all_goals rfl
              have HR := Lib.hid (v_row f0 f1 f2)
              have OWN := Lib.hid own
              clear f0 f1 f2 own
              go_wp2_with (at_builtin; refine wpList_append_lies _ rfl _ _ 44 rfl w.heap.size 26 i0 (.agg #[.int .i64 0, .int .i64 0, .int .i64 0]) 3 24 Try.underlying44 hi hz0 hz1 hz2 rfl (by omega) u1 (15 + p * 5 + 0) (rowL (ic vI) ((15 + p * 5 + 0) * 3)) rfl (OWN.out.alloc _) ⟨wr.heap.size, 0, none⟩ 1 1 [.int .i64 1, .int .i64 (p : Int), .int .i64 3] rfl rfl (World.news_of_block (heap_alloc_new wr _)) (one3 _ _ _) (by omega) (by unfold maxLen; omega) (by omega) (by simp; omega) (wr.heap.size + 1) (by simp) ?_; intro g cap w3 own3 hgrow hat hglt)
              rw [HR.out] at own3
              have hB3 := below_append hB hsz hgrow (fun j hj => (OWN.out.lt j hj).1)
              clear hgrow hat hglt hB hsz OWN HR
              go_wp2_with fail
              go_roundw
              case rel => exact ⟨1, 2, by omega, by go_num, own3, hB3⟩
              case measure => simp [intOf]
            · have f0 : vB (15 + p * 5 + 1) = 2 := by
                obtain rfl | rfl | rfl : p = 0 ∨ p = 1 ∨ p = 2 := by omega
                all_goals rfl
              have f1 : vD (15 + p * 5 + 1) = (p : Int) := by
                obtain rfl | rfl | rfl : p = 0 ∨ p = 1 ∨ p = 2 := by omega
                all_goals rfl
              have f2 : vT (15 + p * 5 + 1) = 3 := by
                obtain rfl | rfl | rfl : p = 0 ∨ p = 1 ∨ p = 2 := by omega
                all_goals rfl
              have HR := Lib.hid (v_row f0 f1 f2)
              have OWN := Lib.hid own
              clear f0 f1 f2 own
              go_wp2_with (at_builtin; refine wpList_append_lies _ rfl _ _ 44 rfl w.heap.size 26 i0 (.agg #[.int .i64 0, .int .i64 0, .int .i64 0]) 3 24 Try.underlying44 hi hz0 hz1 hz2 rfl (by omega) u1 (15 + p * 5 + 1) (rowL (ic vI) ((15 + p * 5 + 1) * 3)) rfl (OWN.out.alloc _) ⟨wr.heap.size, 0, none⟩ 1 1 [.int .i64 2, .int .i64 (p : Int), .int .i64 3] rfl rfl (World.news_of_block (heap_alloc_new wr _)) (one3 _ _ _) (by omega) (by unfold maxLen; omega) (by omega) (by simp; omega) (wr.heap.size + 1) (by simp) ?_; intro g cap w3 own3 hgrow hat hglt)
              rw [HR.out] at own3
              have hB3 := below_append hB hsz hgrow (fun j hj => (OWN.out.lt j hj).1)
              clear hgrow hat hglt hB hsz OWN HR
              go_wp2_with fail
              go_roundw
              case rel => exact ⟨2, 4, by omega, by go_num, own3, hB3⟩
              case measure => simp [intOf]
            · have f0 : vB (15 + p * 5 + 2) = 4 := by
                obtain rfl | rfl | rfl : p = 0 ∨ p = 1 ∨ p = 2 := by omega
                all_goals rfl
              have f1 : vD (15 + p * 5 + 2) = (p : Int) := by
                obtain rfl | rfl | rfl : p = 0 ∨ p = 1 ∨ p = 2 := by omega
                all_goals rfl
              have f2 : vT (15 + p * 5 + 2) = 3 := by
                obtain rfl | rfl | rfl : p = 0 ∨ p = 1 ∨ p = 2 := by omega
                all_goals rfl
              have HR := Lib.hid (v_row f0 f1 f2)
              have OWN := Lib.hid own
              clear f0 f1 f2 own
              go_wp2_with (at_builtin; refine wpList_append_lies _ rfl _ _ 44 rfl w.heap.size 26 i0 (.agg #[.int .i64 0, .int .i64 0, .int .i64 0]) 3 24 Try.underlying44 hi hz0 hz1 hz2 rfl (by omega) u1 (15 + p * 5 + 2) (rowL (ic vI) ((15 + p * 5 + 2) * 3)) rfl (OWN.out.alloc _) ⟨wr.heap.size, 0, none⟩ 1 1 [.int .i64 4, .int .i64 (p : Int), .int .i64 3] rfl rfl (World.news_of_block (heap_alloc_new wr _)) (one3 _ _ _) (by omega) (by unfold maxLen; omega) (by omega) (by simp; omega) (wr.heap.size + 1) (by simp) ?_; intro g cap w3 own3 hgrow hat hglt)
              rw [HR.out] at own3
              have hB3 := below_append hB hsz hgrow (fun j hj => (OWN.out.lt j hj).1)
              clear hgrow hat hglt hB hsz OWN HR
              go_wp2_with fail
              go_roundw
              case rel => exact ⟨3, 8, by omega, by go_num, own3, hB3⟩
              case measure => simp [intOf]
            · have f0 : vB (15 + p * 5 + 3) = 8 := by
                obtain rfl | rfl | rfl : p = 0 ∨ p = 1 ∨ p = 2 := by omega
                all_goals rfl
              have f1 : vD (15 + p * 5 + 3) = (p : Int) := by
                obtain rfl | rfl | rfl : p = 0 ∨ p = 1 ∨ p = 2 := by omega
                all_goals rfl
              have f2 : vT (15 + p * 5 + 3) = 3 := by
                obtain rfl | rfl | rfl : p = 0 ∨ p = 1 ∨ p = 2 := by omega
                all_goals rfl
              have HR := Lib.hid (v_row f0 f1 f2)
              have OWN := Lib.hid own
              clear f0 f1 f2 own
              go_wp2_with (at_builtin; refine wpList_append_lies _ rfl _ _ 44 rfl w.heap.size 26 i0 (.agg #[.int .i64 0, .int .i64 0, .int .i64 0]) 3 24 Try.underlying44 hi hz0 hz1 hz2 rfl (by omega) u1 (15 + p * 5 + 3) (rowL (ic vI) ((15 + p * 5 + 3) * 3)) rfl (OWN.out.alloc _) ⟨wr.heap.size, 0, none⟩ 1 1 [.int .i64 8, .int .i64 (p : Int), .int .i64 3] rfl rfl (World.news_of_block (heap_alloc_new wr _)) (one3 _ _ _) (by omega) (by unfold maxLen; omega) (by omega) (by simp; omega) (wr.heap.size + 1) (by simp) ?_; intro g cap w3 own3 hgrow hat hglt)
              rw [HR.out] at own3
              have hB3 := below_append hB hsz hgrow (fun j hj => (OWN.out.lt j hj).1)
              clear hgrow hat hglt hB hsz OWN HR
              go_wp2_with fail
              go_roundw
              case rel => exact ⟨4, 16, by omega, by go_num, own3, hB3⟩
              case measure => simp [intOf]
            · have f0 : vB (15 + p * 5 + 4) = 16 := by
                obtain rfl | rfl | rfl : p = 0 ∨ p = 1 ∨ p = 2 := by omega
                all_goals rfl
              have f1 : vD (15 + p * 5 + 4) = (p : Int) := by
                obtain rfl | rfl | rfl : p = 0 ∨ p = 1 ∨ p = 2 := by omega
                all_goals rfl
              have f2 : vT (15 + p * 5 + 4) = 3 := by
                obtain rfl | rfl | rfl : p = 0 ∨ p = 1 ∨ p = 2 := by omega
                all_goals rfl
              have HR := Lib.hid (v_row f0 f1 f2)
              have OWN := Lib.hid own
              clear f0 f1 f2 own
              go_wp2_with (at_builtin; refine wpList_append_lies _ rfl _ _ 44 rfl w.heap.size 26 i0 (.agg #[.int .i64 0, .int .i64 0, .int .i64 0]) 3 24 Try.underlying44 hi hz0 hz1 hz2 rfl (by omega) u1 (15 + p * 5 + 4) (rowL (ic vI) ((15 + p * 5 + 4) * 3)) rfl (OWN.out.alloc _) ⟨wr.heap.size, 0, none⟩ 1 1 [.int .i64 16, .int .i64 (p : Int), .int .i64 3] rfl rfl (World.news_of_block (heap_alloc_new wr _)) (one3 _ _ _) (by omega) (by unfold maxLen; omega) (by omega) (by simp; omega) (wr.heap.size + 1) (by simp) ?_; intro g cap w3 own3 hgrow hat hglt)
              rw [HR.out] at own3
              have hB3 := below_append hB hsz hgrow (fun j hj => (OWN.out.lt j hj).1)
              clear hgrow hat hglt hB hsz OWN HR
              go_wp2_with fail
              go_roundw
              case rel => exact ⟨5, 32, by omega, by go_num, own3, hB3⟩
              case measure => simp [intOf]
            · go_wp2_with fail
              go_roundw
              case rel => exact ⟨p + 1, by omega, by go_num, by rw [show 15 + (p + 1) * 5 = 15 + p * 5 + 5 by omega]; exact ⟨own, hB⟩⟩
              case measure => simp [intOf]; omega
        · obtain rfl : p = 3 := by omega
          go_wp2_with fail
          go_roundw
          case rel => exact ⟨2, .inr (.inr ⟨rfl, rfl⟩), own⟩
          case measure => simp [intOf]
    · obtain ⟨own, hB⟩ := own
      go_wp2
      go_ret
      obtain ⟨a, cap, rfl, h1, h2, h3⟩ := owns_of_row own
      exact ⟨a, cap, rfl, hB, h3, h1, h2⟩

end Go.Proofs.Ytgbnaimkpnoeoaa
