/- The walks of the functions that answer with intervals. No condition. -/
import Derived.Test.YtelmcidbengcdaaIa
namespace Go.Proofs.Ytelmcidbengcdaa
open Go.RowKit

def qualV (s h : Int) : Int := if intB s h then qual s h else -9
theorem qualV_t {s h : Int} (hi : intB s h = true) : qualV s h = qual s h := by unfold qualV; rw [if_pos hi]
theorem qualV_f {s h : Int} (hi : intB s h = false) : qualV s h = -9 := by unfold qualV; rw [hi]; rfl
def backS (s h : Int) : Int := if intB s h then -s else 0
def backH (s h : Int) : Int := if intB s h then -h else 0
theorem backS_t {s h : Int} (hi : intB s h = true) : backS s h = -s := by unfold backS; rw [if_pos hi]
theorem backS_f {s h : Int} (hi : intB s h = false) : backS s h = 0 := by unfold backS; rw [hi]; rfl
theorem backH_t {s h : Int} (hi : intB s h = true) : backH s h = -h := by unfold backH; rw [if_pos hi]
theorem backH_f {s h : Int} (hi : intB s h = false) : backH s h = 0 := by unfold backH; rw [hi]; rfl
def restB (s h : Int) : Bool := intB s h && inR s 0 7 && intB (7 - s) (12 - h)
def restS (s h : Int) : Int := if restB s h then 7 - s else 0
def restH (s h : Int) : Int := if restB s h then 12 - h else 0
theorem restS_t {s h : Int} (hi : restB s h = true) : restS s h = 7 - s := by unfold restS; rw [if_pos hi]
theorem restS_f {s h : Int} (hi : restB s h = false) : restS s h = 0 := by unfold restS; rw [hi]; rfl
theorem restH_t {s h : Int} (hi : restB s h = true) : restH s h = 12 - h := by unfold restH; rw [if_pos hi]
theorem restH_f {s h : Int} (hi : restB s h = false) : restH s h = 0 := by unfold restH; rw [hi]; rfl

set_option maxHeartbeats 400000 in
theorem intervalQuality_any (s h : Int) (w : World) :
    Calls Try.prog 19 #[.agg #[.int .i64 s, .int .i64 h]] w (Gives (.int .i64 (qualV s h)) w) := by
  cases hv : intB s h
  · rw [qualV_f hv]
    go_enter Try.func19, Try.ntmps19
    go_wp2_with (go_call (intervalValid_any _ _ _) as e w1 ⟨rfl, hb⟩; obtain ⟨hB, hz, hc, hf⟩ := after (w := w) (n := w.heap.size) hb (by go_grown) (by go_size) (by go_size))
    go_ret
    exact ⟨rfl, hB⟩
  · rw [qualV_t hv]
    obtain ⟨b0, b1, b2, b3, b4, b5⟩ := intB_t hv
    go_enter Try.func19, Try.ntmps19
    go_wp2_with ((first | go_call (intervalValid_any _ _ _) as e w1 ⟨rfl, hb⟩ | go_call (quality_any _ _ b0 b1 b2 b3 _) as e w1 ⟨rfl, hb⟩); obtain ⟨hB, hz, hc, hf⟩ := after (w := w) (n := w.heap.size) hb (by go_grown) (by go_size) (by go_size))
    go_ret
    exact ⟨rfl, hB⟩

set_option maxHeartbeats 400000 in
theorem specIntervalQuality_any (s h : Int) (w : World) :
    Calls Try.prog 18 #[.agg #[.int .i64 s, .int .i64 h]] w (Gives (.int .i64 (qualV s h)) w) := by
  cases hv : intB s h
  · rw [qualV_f hv]
    go_enter Try.func18, Try.ntmps18
    go_wp2_with (go_call (specIntervalValid_any _ _ _) as e w1 ⟨rfl, hb⟩; obtain ⟨hB, hz, hc, hf⟩ := after (w := w) (n := w.heap.size) hb (by go_grown) (by go_size) (by go_size))
    go_ret
    exact ⟨rfl, hB⟩
  · rw [qualV_t hv]
    obtain ⟨b0, b1, b2, b3, b4, b5⟩ := intB_t hv
    go_enter Try.func18, Try.ntmps18
    go_wp2_with ((first | go_call (specIntervalValid_any _ _ _) as e w1 ⟨rfl, hb⟩ | go_call (l2Quality_any _ _ b0 b1 b2 b3 _) as e w1 ⟨rfl, hb⟩); obtain ⟨hB, hz, hc, hf⟩ := after (w := w) (n := w.heap.size) hb (by go_grown) (by go_size) (by go_size))
    go_ret
    exact ⟨rfl, hB⟩

set_option maxHeartbeats 400000 in
theorem intervalBack_any (s h : Int) (w : World) :
    Calls Try.prog 21 #[.agg #[.int .i64 s, .int .i64 h]] w (Gives (.agg #[.int .i64 (backS s h), .int .i64 (backH s h)]) w) := by
  cases hv : intB s h
  · rw [backS_f hv, backH_f hv]
    go_enter Try.func21, Try.ntmps21
    go_wp2_with (go_call (intervalValid_any _ _ _) as e w1 ⟨rfl, hb⟩; obtain ⟨hB, hz, hc, hf⟩ := after (w := w) (n := w.heap.size + 1) hb (by go_grown) (by go_size) (by go_size); have hz' : w.heap.size < w1.heap.size := by omega)
    refine bodyPost_ret (v := .agg #[.int .i64 0, .int .i64 0]) (by simp [results, Try.results21, go_sem, *]) rfl ⟨rfl, by go_grown⟩
  · rw [backS_t hv, backH_t hv]
    obtain ⟨b0, b1, b2, b3, b4, b5⟩ := intB_t hv
    go_enter Try.func21, Try.ntmps21
    go_wp2_with (go_call (intervalValid_any _ _ _) as e w1 ⟨rfl, hb⟩; obtain ⟨hB, hz, hc, hf⟩ := after (w := w) (n := w.heap.size + 1) hb (by go_grown) (by go_size) (by go_size); have hz' : w.heap.size < w1.heap.size := by omega)
    refine bodyPost_ret (v := .agg #[.int .i64 (-s), .int .i64 (-h)]) (by simp [results, Try.results21, go_sem, *]) rfl ⟨rfl, by go_grown⟩

set_option maxHeartbeats 400000 in
theorem specIntervalBack_any (s h : Int) (w : World) :
    Calls Try.prog 20 #[.agg #[.int .i64 s, .int .i64 h]] w (Gives (.agg #[.int .i64 (backS s h), .int .i64 (backH s h)]) w) := by
  cases hv : intB s h
  · rw [backS_f hv, backH_f hv]
    go_enter Try.func20, Try.ntmps20
    go_wp2_with (go_call (specIntervalValid_any _ _ _) as e w1 ⟨rfl, hb⟩; obtain ⟨hB, hz, hc, hf⟩ := after (w := w) (n := w.heap.size + 1) hb (by go_grown) (by go_size) (by go_size); have hz' : w.heap.size < w1.heap.size := by omega)
    refine bodyPost_ret (v := .agg #[.int .i64 0, .int .i64 0]) (by simp [results, Try.results20, go_sem, *]) rfl ⟨rfl, by go_grown⟩
  · rw [backS_t hv, backH_t hv]
    obtain ⟨b0, b1, b2, b3, b4, b5⟩ := intB_t hv
    go_enter Try.func20, Try.ntmps20
    go_wp2_with (go_call (specIntervalValid_any _ _ _) as e w1 ⟨rfl, hb⟩; obtain ⟨hB, hz, hc, hf⟩ := after (w := w) (n := w.heap.size + 1) hb (by go_grown) (by go_size) (by go_size); have hz' : w.heap.size < w1.heap.size := by omega)
    refine bodyPost_ret (v := .agg #[.int .i64 (-s), .int .i64 (-h)]) (by simp [results, Try.results20, go_sem, *]) rfl ⟨rfl, by go_grown⟩

set_option maxHeartbeats 400000 in
theorem intervalRest_any (s h : Int) (w : World) :
    Calls Try.prog 24 #[.agg #[.int .i64 s, .int .i64 h]] w (Gives (.tuple #[.agg #[.int .i64 (restS s h), .int .i64 (restH s h)], .bool (restB s h)]) w) := by
  cases hv : intB s h
  · have hr : restB s h = false := by unfold restB; rw [hv]; rfl
    rw [restS_f hr, restH_f hr, hr]
    clear hr
    go_enter Try.func24, Try.ntmps24
    go_wp2_with (first | (go_call (intervalValid_any _ _ _) as e w1 ⟨rfl, hb⟩; obtain ⟨hB, hz, hc, hf⟩ := after (w := w) (n := w.heap.size + 2) hb (by go_grown) (by go_size) (by go_size); have hz' : w.heap.size < w1.heap.size := (by omega); have hz'' : w.heap.size + 1 < w1.heap.size := by omega) | go_call (within_any _ _ _ _) as e w1 ⟨rfl, rfl⟩)
    refine bodyPost_ret (v := .tuple #[.agg #[.int .i64 0, .int .i64 0], .bool false]) (by simp [results, Try.results24, go_sem, *]) rfl ⟨rfl, by go_grown⟩
  obtain ⟨b0, b1, b2, b3, b4, b5⟩ := intB_t hv
  cases hs : inR s 0 7
  · have hr : restB s h = false := by unfold restB; rw [hv, hs]; rfl
    rw [restS_f hr, restH_f hr, hr]
    clear hr
    go_enter Try.func24, Try.ntmps24
    go_wp2_with (first | (go_call (intervalValid_any _ _ _) as e w1 ⟨rfl, hb⟩; obtain ⟨hB, hz, hc, hf⟩ := after (w := w) (n := w.heap.size + 2) hb (by go_grown) (by go_size) (by go_size); have hz' : w.heap.size < w1.heap.size := (by omega); have hz'' : w.heap.size + 1 < w1.heap.size := by omega) | go_call (within_any _ _ _ _) as e w1 ⟨rfl, rfl⟩)
    refine bodyPost_ret (v := .tuple #[.agg #[.int .i64 0, .int .i64 0], .bool false]) (by simp [results, Try.results24, go_sem, *]) rfl ⟨rfl, by go_grown⟩
  cases hq : intB (7 - s) (12 - h)
  · have hr : restB s h = false := by unfold restB; rw [hv, hs, hq]; rfl
    rw [restS_f hr, restH_f hr, hr]
    clear hr
    go_enter Try.func24, Try.ntmps24
    go_wp2_with (first | (go_call (intervalValid_any _ _ _) as e w1 ⟨rfl, hb⟩; obtain ⟨hB, hz, hc, hf⟩ := after (w := w) (n := w.heap.size + 2) hb (by go_grown) (by go_size) (by go_size); have hz' : w.heap.size < w1.heap.size := (by omega); have hz'' : w.heap.size + 1 < w1.heap.size := by omega) | go_call (within_any _ _ _ _) as e w1 ⟨rfl, rfl⟩)
    refine bodyPost_ret (v := .tuple #[.agg #[.int .i64 0, .int .i64 0], .bool false]) (by simp [results, Try.results24, go_sem, *]) rfl ⟨rfl, by go_grown⟩
  · have hr : restB s h = true := by unfold restB; rw [hv, hs, hq]; rfl
    rw [restS_t hr, restH_t hr, hr]
    clear hr
    go_enter Try.func24, Try.ntmps24
    go_wp2_with (first | (go_call (intervalValid_any _ _ _) as e w1 ⟨rfl, hb⟩; obtain ⟨hB, hz, hc, hf⟩ := after (w := w) (n := w.heap.size + 2) hb (by go_grown) (by go_size) (by go_size); have hz' : w.heap.size < w1.heap.size := (by omega); have hz'' : w.heap.size + 1 < w1.heap.size := by omega) | go_call (within_any _ _ _ _) as e w1 ⟨rfl, rfl⟩)
    refine bodyPost_ret (v := .tuple #[.agg #[.int .i64 (7 - s), .int .i64 (12 - h)], .bool true]) (by simp [results, Try.results24, go_sem, *]) rfl ⟨rfl, by go_grown⟩

set_option maxHeartbeats 400000 in
theorem specIntervalRest_any (s h : Int) (w : World) :
    Calls Try.prog 23 #[.agg #[.int .i64 s, .int .i64 h]] w (Gives (.tuple #[.agg #[.int .i64 (restS s h), .int .i64 (restH s h)], .bool (restB s h)]) w) := by
  cases hv : intB s h
  · have hr : restB s h = false := by unfold restB; rw [hv]; rfl
    rw [restS_f hr, restH_f hr, hr]
    clear hr
    go_enter Try.func23, Try.ntmps23
    go_wp2_with (first | (go_call (specIntervalValid_any _ _ _) as e w1 ⟨rfl, hb⟩; obtain ⟨hB, hz, hc, hf⟩ := after (w := w) (n := w.heap.size + 2) hb (by go_grown) (by go_size) (by go_size); have hz' : w.heap.size < w1.heap.size := (by omega); have hz'' : w.heap.size + 1 < w1.heap.size := by omega) | go_call (l1In_any _ _ _ _) as e w1 ⟨rfl, rfl⟩)
    refine bodyPost_ret (v := .tuple #[.agg #[.int .i64 0, .int .i64 0], .bool false]) (by simp [results, Try.results23, go_sem, *]) rfl ⟨rfl, by go_grown⟩
  obtain ⟨b0, b1, b2, b3, b4, b5⟩ := intB_t hv
  cases hs : inR s 0 7
  · have hr : restB s h = false := by unfold restB; rw [hv, hs]; rfl
    rw [restS_f hr, restH_f hr, hr]
    clear hr
    go_enter Try.func23, Try.ntmps23
    go_wp2_with (first | (go_call (specIntervalValid_any _ _ _) as e w1 ⟨rfl, hb⟩; obtain ⟨hB, hz, hc, hf⟩ := after (w := w) (n := w.heap.size + 2) hb (by go_grown) (by go_size) (by go_size); have hz' : w.heap.size < w1.heap.size := (by omega); have hz'' : w.heap.size + 1 < w1.heap.size := by omega) | go_call (l1In_any _ _ _ _) as e w1 ⟨rfl, rfl⟩)
    refine bodyPost_ret (v := .tuple #[.agg #[.int .i64 0, .int .i64 0], .bool false]) (by simp [results, Try.results23, go_sem, *]) rfl ⟨rfl, by go_grown⟩
  cases hq : intB (7 - s) (12 - h)
  · have hr : restB s h = false := by unfold restB; rw [hv, hs, hq]; rfl
    rw [restS_f hr, restH_f hr, hr]
    clear hr
    go_enter Try.func23, Try.ntmps23
    go_wp2_with (first | (go_call (specIntervalValid_any _ _ _) as e w1 ⟨rfl, hb⟩; obtain ⟨hB, hz, hc, hf⟩ := after (w := w) (n := w.heap.size + 2) hb (by go_grown) (by go_size) (by go_size); have hz' : w.heap.size < w1.heap.size := (by omega); have hz'' : w.heap.size + 1 < w1.heap.size := by omega) | go_call (l1In_any _ _ _ _) as e w1 ⟨rfl, rfl⟩)
    refine bodyPost_ret (v := .tuple #[.agg #[.int .i64 0, .int .i64 0], .bool false]) (by simp [results, Try.results23, go_sem, *]) rfl ⟨rfl, by go_grown⟩
  · have hr : restB s h = true := by unfold restB; rw [hv, hs, hq]; rfl
    rw [restS_t hr, restH_t hr, hr]
    clear hr
    go_enter Try.func23, Try.ntmps23
    go_wp2_with (first | (go_call (specIntervalValid_any _ _ _) as e w1 ⟨rfl, hb⟩; obtain ⟨hB, hz, hc, hf⟩ := after (w := w) (n := w.heap.size + 2) hb (by go_grown) (by go_size) (by go_size); have hz' : w.heap.size < w1.heap.size := (by omega); have hz'' : w.heap.size + 1 < w1.heap.size := by omega) | go_call (l1In_any _ _ _ _) as e w1 ⟨rfl, rfl⟩)
    refine bodyPost_ret (v := .tuple #[.agg #[.int .i64 (7 - s), .int .i64 (12 - h)], .bool true]) (by simp [results, Try.results23, go_sem, *]) rfl ⟨rfl, by go_grown⟩

set_option maxHeartbeats 400000 in
theorem eqInterval_same (s h : Int) (w : World) :
    Calls Try.prog 22 #[.agg #[.int .i64 s, .int .i64 h], .agg #[.int .i64 s, .int .i64 h]] w (Gives (.bool true) w) := by
  go_enter Try.func22, Try.ntmps22
  go_wp2
  go_ret
  exact ⟨rfl, by go_grown⟩

set_option maxHeartbeats 400000 in
theorem toInterval_any (s h : Int) (w : World) :
    Calls Try.prog 16 #[.agg #[.int .i64 s, .int .i64 h]] w (Gives (.agg #[.int .i64 s, .int .i64 h]) w) := by
  go_enter Try.func16, Try.ntmps16
  go_wp2
  go_returns
  exact ⟨rfl, by go_grown⟩
end Go.Proofs.Ytelmcidbengcdaa
