/- The walks of the reader that opens, and of the draw of one in n. Conditions: the code's bytes lie in memory as a slice of bytes that came in does. -/
import Derived.Test.YtgogpjlemaajeaaRd
namespace Go.Proofs.Ytgogpjlemaajeaa
open Go.RowKit

/-- What 'odd' leaves: some answer (no for n = 0), and the reader at most one step on. -/
def OddPost (w : World) (R K : Nat) (n : Int) (e : Ending) (w' : World) : Prop :=
  ∃ b : Bool, e = .returned (.bool b) ∧ (n < 1 → b = false) ∧ w.grownBy w' (some R) ∧ RdOk w' R (K + 1)

set_option maxHeartbeats 400000 in
theorem odd_any (R K : Nat) (n : Int) (w : World) (h : RdOk w R K) (hK : K ≤ 100000) (hn : 0 ≤ n) (hn' : n ≤ 100000) :
    Calls Try.prog 45 #[.pointer (some ⟨R, 0, none⟩), .int .i64 n] w (OddPost w R K n) := by
  by_cases h1 : n < 1
  · have h0 : ¬ 0 < n := by omega
    go_enter Try.func45, Try.ntmps45
    go_wp2
    go_ret
    exact ⟨false, rfl, fun _ => rfl, World.grownBy.refl w _, h.mono (Nat.le_succ _)⟩
  · have h0 : 0 < n := by omega
    go_enter Try.func45, Try.ntmps45
    go_wp2_with fail
    refine (pick_any R K n w h hK hn hn').mono ?_
    rintro e w1 ⟨v, rfl, v0, v1, -, hg, hr⟩
    go_wp2
    go_ret
    exact ⟨_, rfl, fun hh => by omega, hg, hr⟩

theorem Bytes.less {w : World} {B : Nat} {a : Option Addr} {len n : Nat} (h : Bytes w B a len) (hn : n ≤ len) : Bytes w B a n := fun h0 => by
  obtain ⟨b, off, e, hb, hz⟩ := h (by omega)
  exact ⟨b, off, e, hb, fun i hi => hz i (by omega)⟩
theorem open_mk {w : World} {T : TypeId} {a : Option Addr} {len cap : Nat} (h : Bytes w w.heap.size a len) (hl : len ≤ 2000) : RdOk (w.alloc (.cells #[.slice a len cap, .int .i64 0] T)) w.heap.size 0 := by
  have k := Blk.new w T #[.slice a len cap, .int .i64 0]
  refine ⟨a, len, cap, 0, Blk.get k rfl, Blk.get k rfl, Blk.frozen k 1, k.lt, hl, Nat.le_refl _, h.keep fun b o hb => ?_⟩
  exact World.cell?_alloc_lt w _ ⟨b, o, none⟩ hb

set_option maxHeartbeats 400000 in
theorem open_any (a : Option Addr) (len cap : Nat) (w : World) (h : Bytes w w.heap.size a len) (hl : len ≤ 1048576) (hc : len ≤ cap) (hm : cap ≤ maxLen) :
    Calls Try.prog 44 #[.slice a len cap] w fun e w' => ∃ R, e = .returned (.pointer (some ⟨R, 0, none⟩)) ∧ w.heap.size ≤ R ∧ Below w.heap.size w w' ∧ RdOk w' R 0 := by
  unfold maxLen at hm
  by_cases h2 : 2000 < len
  · go_enter Try.func44, Try.ntmps44
    go_wp2
    go_ret
    exact ⟨w.heap.size, rfl, Nat.le_refl _, by go_grown, open_mk (h.less (by omega)) (Nat.le_refl _)⟩
  · go_enter Try.func44, Try.ntmps44
    go_wp2
    go_ret
    exact ⟨w.heap.size, rfl, Nat.le_refl _, by go_grown, open_mk h (by omega)⟩

end Go.Proofs.Ytgogpjlemaajeaa
