/- The walk of the law FnExactMuxNode. -/
import Derived.Test.YtnnkbpcfjjijbaaSpec2
set_option linter.unusedVariables false
set_option linter.unusedSimpArgs false
namespace Go.Proofs.Ytnnkbpcfjjijbaa
open Go.RowKit
set_option maxHeartbeats 1000000 in
theorem walk_FnExactMuxNode (d : Dev) (t m : Int) (w : World) :
    Calls Try.prog 7 #[.agg #[.int .i64 d.W, .int .i64 d.H, .int .i64 d.T, .int .i64 d.R], .int .i64 t, .int .i64 m] w fun e w' => e = .returned (.bool true) ∧ Below w.heap.size w w' := by
  go_enter Try.func7, Try.ntmps7
  go_wp2_with fail
  refine (toDevice_any d _).mono ?_
  rintro e w1 ⟨rfl, hb1⟩
  obtain ⟨hc1, hf1, hz1⟩ := bcell hb1
  have hy1 := bel_lt hb1
  go_wp2_with fail
  refine (specMuxNode_any d t m _).mono ?_
  rintro e w2 ⟨rfl, hb2⟩
  obtain ⟨hc2, hf2, hz2⟩ := bcell hb2
  have hy2 := lt_bel hb2 hy1
  go_wp2_with fail
  refine (toDevice_any d _).mono ?_
  rintro e w3 ⟨rfl, hb3⟩
  obtain ⟨hc3, hf3, hz3⟩ := bcell hb3
  have hy3 := lt_bel hb3 hy2
  go_wp2_with fail
  refine (implMuxNode_any d t m _).mono ?_
  rintro e w4 ⟨rfl, hb4⟩
  go_wp2
  go_ret
  exact ⟨rfl, bel_trans (bel_trans (bel_trans (bel_trans (bel_alloc (Below.refl _ _) _) hb1) hb2) hb3) hb4⟩
end Go.Proofs.Ytnnkbpcfjjijbaa
