/- The walk of the law FnValueOf: it returns true, and nothing that was there turns. No condition. -/
import Derived.Test.YtgbnaimkpnoeoaaDx
import Derived.Test.YtgbnaimkpnoeoaaAl
import Derived.Test.YtgbnaimkpnoeoaaLo
namespace Go.Proofs.Ytgbnaimkpnoeoaa
open Go.RowKit

/-- A base below 16 by its number. -/
def pw2 (j : Nat) : Int := ((2 ^ j : Nat) : Int)
theorem q_of (j d : Nat) (hj : j < 5) (hd : d < 3) : valB (pw2 j) d 1 = true ∧ tick (pw2 j) d 1 = tq (5 * d + j) := by
  have key : ∀ (j : Fin 5) (d : Fin 3), valB (pw2 j.val) (d.val : Int) 1 = true ∧ tick (pw2 j.val) (d.val : Int) 1 = tq (5 * d.val + j.val) := by decide
  exact key ⟨j, hj⟩ ⟨d, hd⟩
theorem pw2_next (j : Nat) (hj : j < 5) : 2 * pw2 j = pw2 (j + 1) ∧ 1 ≤ pw2 j ∧ pw2 j ≤ 16 ∧ IntKind.i64.wrap (2 * pw2 j) = 2 * pw2 j := by
  have key : ∀ j : Fin 5, 2 * pw2 j.val = pw2 (j.val + 1) ∧ 1 ≤ pw2 j.val ∧ pw2 j.val ≤ 16 ∧ IntKind.i64.wrap (2 * pw2 j.val) = 2 * pw2 j.val := by decide
  exact key ⟨j, hj⟩
theorem vT_three {q : Nat} (h : vT q = 3) : 15 ≤ q := by
  unfold vT at h
  by_cases hq : q < 15
  · rw [if_pos hq] at h
    omega
  · omega

set_option maxHeartbeats 2000000 in
set_option maxRecDepth 100000 in
theorem fnValueOf_walk (a : Option Addr) (len cap : Nat) (w : World) (hC : Code' w a len cap) :
    Calls Try.prog 10 #[.slice a len cap] w (Gives (.bool true) w) := by
  by_cases hlen : 1048576 < len
  · have hcap : len ≤ 9223372036854775807 := by have h1 := hC.2.1; have h2 := hC.2.2; unfold maxLen at h2; omega
    go_enter Try.func10, Try.ntmps10
    go_wp2
    go_ret
    exact ⟨rfl, by go_grown⟩
  have hlen' : len ≤ 1048576 := by omega
  have HC := Lib.hid hC
  clear hC
  go_enter Try.func10, Try.ntmps10
  go_wp2_with fail
  refine (drawValueOf_any _ _ _ _ HC.out hlen').mono ?_
  rintro e c1 ⟨n, rfl, hb⟩
  have hB : Below w.heap.size w c1 := by have h := below_pure (w := w) (by go_grown) hb; exact h
  have hsz := hB.size
  clear hb HC
  have HT := fun W => valueOf_any n W
  have HS := fun W => specValueOf_any n W
  cases hv : voB n
  · obtain ⟨hz, -⟩ := vo_f hv
    rw [hv, hz, hz, hz] at HT HS
    have HTh := Lib.hid HT
    have HSh := Lib.hid HS
    clear HT HS hz hv
    go_wp2_with fail
    go_call (HTh.out _) as e c2 ⟨rfl, hb⟩
    replace hB := below_pure (w := w) (by go_grown) hb
    clear hb; replace hsz := hB.size
    go_wp2_with fail
    go_call (HSh.out _) as e c3 ⟨rfl, hb⟩
    have k0 : Blk c3 (c2.heap.size) 26 #[.int .i64 0, .int .i64 0, .int .i64 0] := Blk.pure (by repeat' (first | (with_reducible assumption) | (with_reducible exact Blk.new _ _ _) | (with_reducible exact Blk.new' (by simp)) | (with_reducible refine Blk.alloc ?_ _) | (with_reducible refine Blk.drew ?_) | (with_reducible refine Blk.drewN ?_ _) | (with_reducible refine Blk.ne ?_ ?_ _) | omega | (simp; omega))) hb
    replace hB := below_pure (w := w) (by go_grown) hb
    clear hb; replace hsz := hB.size
    have k0_c0 : c3.cell? ⟨c2.heap.size, 0, none⟩ = some (.int .i64 0) := Blk.get k0 rfl
    have k0_f0 : c3.frozen? ⟨c2.heap.size, 0, none⟩ = false := Blk.frozen k0 0
    have k0_c1 : c3.cell? ⟨c2.heap.size, 1, none⟩ = some (.int .i64 0) := Blk.get k0 rfl
    have k0_f1 : c3.frozen? ⟨c2.heap.size, 1, none⟩ = false := Blk.frozen k0 1
    have k0_c2 : c3.cell? ⟨c2.heap.size, 2, none⟩ = some (.int .i64 0) := Blk.get k0 rfl
    have k0_f2 : c3.frozen? ⟨c2.heap.size, 2, none⟩ = false := Blk.frozen k0 2
    have k0_z : c2.heap.size < c3.heap.size := Blk.lt k0
    go_wp2_with fail
    go_call (alive_any _) as e c4 ⟨rfl, hb⟩
    replace k0 : Blk c4 (c2.heap.size) 26 #[.int .i64 0, .int .i64 0, .int .i64 0] := Blk.pure (by repeat' (first | (with_reducible assumption) | (with_reducible exact Blk.new _ _ _) | (with_reducible exact Blk.new' (by simp)) | (with_reducible refine Blk.alloc ?_ _) | (with_reducible refine Blk.drew ?_) | (with_reducible refine Blk.drewN ?_ _) | (with_reducible refine Blk.ne ?_ ?_ _) | omega | (simp; omega))) hb
    have k1 : Blk c4 (c3.heap.size) 26 #[.int .i64 0, .int .i64 0, .int .i64 0] := Blk.pure (by repeat' (first | (with_reducible assumption) | (with_reducible exact Blk.new _ _ _) | (with_reducible exact Blk.new' (by simp)) | (with_reducible refine Blk.alloc ?_ _) | (with_reducible refine Blk.drew ?_) | (with_reducible refine Blk.drewN ?_ _) | (with_reducible refine Blk.ne ?_ ?_ _) | omega | (simp; omega))) hb
    replace hB := below_pure (w := w) (by go_grown) hb
    clear hb; replace hsz := hB.size
    clear k0_c0 k0_f0 k0_c1 k0_f1 k0_c2 k0_f2 k0_z
    have k0_c0 : c4.cell? ⟨c2.heap.size, 0, none⟩ = some (.int .i64 0) := Blk.get k0 rfl
    have k0_f0 : c4.frozen? ⟨c2.heap.size, 0, none⟩ = false := Blk.frozen k0 0
    have k0_c1 : c4.cell? ⟨c2.heap.size, 1, none⟩ = some (.int .i64 0) := Blk.get k0 rfl
    have k0_f1 : c4.frozen? ⟨c2.heap.size, 1, none⟩ = false := Blk.frozen k0 1
    have k0_c2 : c4.cell? ⟨c2.heap.size, 2, none⟩ = some (.int .i64 0) := Blk.get k0 rfl
    have k0_f2 : c4.frozen? ⟨c2.heap.size, 2, none⟩ = false := Blk.frozen k0 2
    have k0_z : c2.heap.size < c4.heap.size := Blk.lt k0
    have k1_c0 : c4.cell? ⟨c3.heap.size, 0, none⟩ = some (.int .i64 0) := Blk.get k1 rfl
    have k1_f0 : c4.frozen? ⟨c3.heap.size, 0, none⟩ = false := Blk.frozen k1 0
    have k1_c1 : c4.cell? ⟨c3.heap.size, 1, none⟩ = some (.int .i64 0) := Blk.get k1 rfl
    have k1_f1 : c4.frozen? ⟨c3.heap.size, 1, none⟩ = false := Blk.frozen k1 1
    have k1_c2 : c4.cell? ⟨c3.heap.size, 2, none⟩ = some (.int .i64 0) := Blk.get k1 rfl
    have k1_f2 : c4.frozen? ⟨c3.heap.size, 2, none⟩ = false := Blk.frozen k1 2
    have k1_z : c3.heap.size < c4.heap.size := Blk.lt k1
    go_wp2
    go_ret
    exact ⟨rfl, by go_grown⟩
  · obtain ⟨q, hq, hn, hP, hless⟩ := vo_t hv
    rw [hv, hP, hP, hP] at HT HS
    have HTh := Lib.hid HT
    have HSh := Lib.hid HS
    have HL : Hid (vT q = 3 → ∀ j d : Nat, j < 5 → d < 3 → (tick (pw2 j) d 1 == n) = false) := Lib.hid (fun h3 j d hj hd => by rw [(q_of j d hj hd).2]; exact hless _ (by have := vT_three h3; omega))
    have HE := fun W => ticksOf_any (vB q) (vD q) (vT q) W
    rw [tickV_t (valB_q hq), show tick (vB q) (vD q) (vT q) = n from hn] at HE
    have HEh := Lib.hid HE
    clear HT HS HE hP hv hless hn hq
    generalize vB q = vb at *
    generalize vD q = vd at *
    generalize vT q = vt at *
    go_wp2_with fail
    go_call (HTh.out _) as e c2 ⟨rfl, hb⟩
    replace hB := below_pure (w := w) (by go_grown) hb
    clear hb; replace hsz := hB.size
    go_wp2_with fail
    go_call (HSh.out _) as e c3 ⟨rfl, hb⟩
    have k0 : Blk c3 (c2.heap.size) 26 #[.int .i64 vb, .int .i64 vd, .int .i64 vt] := Blk.pure (by repeat' (first | (with_reducible assumption) | (with_reducible exact Blk.new _ _ _) | (with_reducible exact Blk.new' (by simp)) | (with_reducible refine Blk.alloc ?_ _) | (with_reducible refine Blk.drew ?_) | (with_reducible refine Blk.drewN ?_ _) | (with_reducible refine Blk.ne ?_ ?_ _) | omega | (simp; omega))) hb
    replace hB := below_pure (w := w) (by go_grown) hb
    clear hb; replace hsz := hB.size
    have k0_c0 : c3.cell? ⟨c2.heap.size, 0, none⟩ = some (.int .i64 vb) := Blk.get k0 rfl
    have k0_f0 : c3.frozen? ⟨c2.heap.size, 0, none⟩ = false := Blk.frozen k0 0
    have k0_c1 : c3.cell? ⟨c2.heap.size, 1, none⟩ = some (.int .i64 vd) := Blk.get k0 rfl
    have k0_f1 : c3.frozen? ⟨c2.heap.size, 1, none⟩ = false := Blk.frozen k0 1
    have k0_c2 : c3.cell? ⟨c2.heap.size, 2, none⟩ = some (.int .i64 vt) := Blk.get k0 rfl
    have k0_f2 : c3.frozen? ⟨c2.heap.size, 2, none⟩ = false := Blk.frozen k0 2
    have k0_z : c2.heap.size < c3.heap.size := Blk.lt k0
    clear HTh HSh
    go_wp2_with fail
    have g0 : c2.heap.size < c3.heap.size := k0.lt
    have K1 : Blk (c3.alloc (.cells #[.int .i64 vb, .int .i64 vd, .int .i64 vt] 26)) c2.heap.size 26 #[.int .i64 vb, .int .i64 vd, .int .i64 vt] := k0.alloc _
    clear k0_c0 k0_f0 k0_c1 k0_f1 k0_c2 k0_f2 k0_z k0
    have hB1 : Below w.heap.size w (c3.alloc (.cells #[.int .i64 vb, .int .i64 vd, .int .i64 vt] 26)) := by go_grown
    clear hB hsz
    generalize c3.alloc (.cells #[.int .i64 vb, .int .i64 vd, .int .i64 vt] 26) = c4 at *
    generalize c2.heap.size = g at *
    clear g0
    go_loopw [8] (fun bv wr => ∃ j : Nat, j ≤ 5 ∧ bv = .int .i64 (pw2 j) ∧ Blk wr g 26 #[.int .i64 vb, .int .i64 vd, .int .i64 vt] ∧ Below w.heap.size w wr) (fun bv _ => (32 - intOf bv).toNat)
    case atStart => exact ⟨0, by omega, rfl, K1, hB1⟩
    case round =>
      clear K1 hB1
      obtain ⟨j, hj, rfl, K1, hB1⟩ := hrel
      by_cases hlt : j < 5
      · obtain ⟨m1, m2, m3, -⟩ := pw2_next j hlt
        have HN := Lib.hid m1
        have HLj : Hid (vt = 3 → ∀ d : Nat, d < 3 → (tick (pw2 j) d 1 == n) = false) := Lib.hid (fun h3 d hd => HL.out h3 j d hlt hd)
        have HVj : Hid (∀ d : Nat, d < 3 → valB (pw2 j) d 1 = true) := Lib.hid (fun d hd => (q_of j d hlt hd).1)
        clear m1
        generalize pw2 j = bs at *
        go_wp2_with fail
        go_loopw [9] (fun dv wr => ∃ d : Nat, d ≤ 3 ∧ dv = .int .i64 (d : Int) ∧ Blk wr g 26 #[.int .i64 vb, .int .i64 vd, .int .i64 vt] ∧ Below w.heap.size w wr) (fun dv _ => 3 - (intOf dv).toNat)
        case atStart => exact ⟨0, by omega, rfl, K1, hB1⟩
        case round =>
          clear K1 hB1
          obtain ⟨d, hd, rfl, K1, hB1⟩ := hrel
          by_cases hd3 : d < 3
          · have d2 : (d : Int) ≤ 2 := by omega
            have y2 : wr.cell? ⟨g, 2, none⟩ = some (.int .i64 vt) := Blk.get K1 rfl
            have yl := K1.lt
            by_cases h3 : vt = 3
            · have h3b : (vt == 3) = true := by simpa using h3
              have hne := HLj.out h3 d hd3
              have HT := fun W => ticksOf_any bs d 1 W
              rw [tickV_t (HVj.out d hd3)] at HT
              generalize tick bs d 1 = m at *
              have HTh := Lib.hid HT
              clear HT h3
              go_wp2_with fail
              refine (HTh.out _).mono ?_
              rintro e c5 ⟨rfl, hb⟩
              replace K1 := Blk.pure K1 hb
              replace hB1 := below_pure (w := w) (by go_grown) hb
              clear hb y2 yl
              go_wp2_with fail
              go_roundw
              case rel => exact ⟨d + 1, by omega, by go_num, K1, hB1⟩
              case measure => simp [intOf]; omega
            · have h3b : (vt == 3) = false := by simpa using h3
              clear h3
              go_wp2_with fail
              go_roundw
              case rel => exact ⟨d + 1, by omega, by go_num, K1, hB1⟩
              case measure => simp [intOf]; omega
          · have d2 : ¬ (d : Int) ≤ 2 := by omega
            clear hd3
            go_wp2_with fail
            go_roundw
            case rel => exact ⟨j + 1, by omega, by rw [HN.out], K1, hB1⟩
            case measure => simp [intOf]; omega
      · obtain rfl : j = 5 := by omega
        have hbs : (16 : Int) < pw2 5 := by decide
        generalize pw2 5 = bs at *
        clear hlt hj
        have y0 : wr.cell? ⟨g, 0, none⟩ = some (.int .i64 vb) := Blk.get K1 rfl
        have y1 : wr.cell? ⟨g, 1, none⟩ = some (.int .i64 vd) := Blk.get K1 rfl
        have y2 : wr.cell? ⟨g, 2, none⟩ = some (.int .i64 vt) := Blk.get K1 rfl
        have yl := K1.lt
        go_wp2_with fail
        refine (HEh.out _).mono ?_
        rintro e c5 ⟨rfl, hb⟩
        replace hB1 := below_pure (w := w) (by go_grown) hb
        clear hb y0 y1 y2 yl
        go_wp2_with fail
        go_ret
        exact ⟨rfl, by go_grown⟩
end Go.Proofs.Ytgbnaimkpnoeoaa
