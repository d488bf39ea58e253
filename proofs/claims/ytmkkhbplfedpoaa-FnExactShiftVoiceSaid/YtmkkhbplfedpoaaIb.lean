/- The walks of the functions that answer with intervals. No condition. -/
import Derived.Test.YtmkkhbplfedpoaaIa
namespace Go.Proofs.Ytmkkhbplfedpoaa
open Go.RowKit

def qualV (s h : Int) : Int := if intB s h then qual s h else -9
theorem qualV_t {s h : Int} (hi : intB s h = true) : qualV s h = qual s h := by unfold qualV; rw [if_pos hi]
theorem qualV_f {s h : Int} (hi : intB s h = false) : qualV s h = -9 := by unfold qualV; rw [hi]; rfl
def backS (s h : Int) : Int := if intB s h then -s else 0
def backH (s h : Int) : Int := if intB s h then -h else 0
theorem backS_t {s h : Int} (hi : intB s h = true) : backS s h = -s := by unfold backS; rw [if_pos hi]
theorem backS_f {s h : Int} (hi : intB s h = false) : backS s h = 0 := by unfold backS; rw [hi]; rfl
theorem backH_t {s h : Int} (hi : intB s h = true) : backH s h = -h := by unfold backH; rw [if_pos hi]
theorem backH_f {s h : Int} (hi : intB s h = false) : backH s h = 0 := by unfold backH; rw [hi]; rfl
def restB (s h : Int) : Bool := intB s h && inR s 0 7 && intB (7 - s) (12 - h)
def restS (s h : Int) : Int := if restB s h then 7 - s else 0
def restH (s h : Int) : Int := if restB s h then 12 - h else 0
theorem restS_t {s h : Int} (hi : restB s h = true) : restS s h = 7 - s := by unfold restS; rw [if_pos hi]
theorem restS_f {s h : Int} (hi : restB s h = false) : restS s h = 0 := by unfold restS; rw [hi]; rfl
theorem restH_t {s h : Int} (hi : restB s h = true) : restH s h = 12 - h := by unfold restH; rw [if_pos hi]
theorem restH_f {s h : Int} (hi : restB s h = false) : restH s h = 0 := by unfold restH; rw [hi]; rfl

set_option maxHeartbeats 400000 in
theorem toInterval_any (s h : Int) (w : World) :
    Calls Try.prog 36 #[.agg #[.int .i64 s, .int .i64 h]] w (Gives (.agg #[.int .i64 s, .int .i64 h]) w) := by
  go_enter Try.func36, Try.ntmps36
  go_wp2
  go_returns
  exact ⟨rfl, by go_grown⟩
end Go.Proofs.Ytmkkhbplfedpoaa
