/- Numbers of multiplexers and words: the walks. -/
import Derived.Test.YtnnkbpcfjjijbaaDev
set_option linter.unusedVariables false
set_option linter.unusedSimpArgs false
namespace Go.Proofs.Ytnnkbpcfjjijbaa
open Go.RowKit
set_option maxHeartbeats 400000 in
theorem toDevice_any (d : Dev) (w : World) :
    Calls Try.prog 26 #[.agg #[.int .i64 d.W, .int .i64 d.H, .int .i64 d.T, .int .i64 d.R]] w fun e w' => e = .returned (.agg #[.int .i64 d.W, .int .i64 d.H, .int .i64 d.T, .int .i64 d.R]) ∧ Below w.heap.size w w' := by
  go_enter Try.func26, Try.ntmps26
  go_wp2
  refine bodyPost_ret (v := .agg #[.int .i64 d.W, .int .i64 d.H, .int .i64 d.T, .int .i64 d.R]) (by simp [results, Try.results26, go_sem]) rfl ⟨rfl, ?_⟩
  exact bel_alloc (bel_alloc (bel_alloc (Below.refl _ _) _) _) _
set_option maxHeartbeats 400000 in
theorem implMux_any (d : Dev) (hd : devB d = true) (w : World) :
    Calls Try.prog 81 #[.agg #[.int .i64 d.W, .int .i64 d.H, .int .i64 d.T, .int .i64 d.R]] w fun e w' => e = .returned (.int .i64 (5 + 4 * d.T)) ∧ Below w.heap.size w w' := by
  obtain ⟨-, -, ⟨h1, h2⟩, -⟩ := (devB_iff d).1 hd
  clear hd
  go_enter Try.func81, Try.ntmps81
  go_wp2
  go_ret
  exact ⟨rfl, bel_alloc (Below.refl _ _) _⟩
set_option maxHeartbeats 400000 in
theorem implMuxCount_no (d : Dev) (hd : devB d = false) (w : World) :
    Calls Try.prog 67 #[.agg #[.int .i64 d.W, .int .i64 d.H, .int .i64 d.T, .int .i64 d.R]] w fun e w' => e = .returned (.int .i64 0) ∧ Below w.heap.size w w' := by
  go_enter Try.func67, Try.ntmps67
  go_wp2_with (first
    | (go_at_call 23; refine (implDeviceOk_any d _).mono ?_; rintro e w1 ⟨rfl, hb1⟩; obtain ⟨hc1, hf1, hz1⟩ := bcell hb1; (try simp at hz1)))
  go_ret
  exact ⟨rfl, bel_trans (bel_alloc (Below.refl _ _) _) hb1⟩
set_option maxHeartbeats 400000 in
theorem implFrameWords_no (d : Dev) (hd : devB d = false) (w : World) :
    Calls Try.prog 70 #[.agg #[.int .i64 d.W, .int .i64 d.H, .int .i64 d.T, .int .i64 d.R]] w fun e w' => e = .returned (.int .i64 0) ∧ Below w.heap.size w w' := by
  go_enter Try.func70, Try.ntmps70
  go_wp2_with (first
    | (go_at_call 23; refine (implDeviceOk_any d _).mono ?_; rintro e w1 ⟨rfl, hb1⟩; obtain ⟨hc1, hf1, hz1⟩ := bcell hb1; (try simp at hz1)))
  go_ret
  exact ⟨rfl, bel_trans (bel_alloc (Below.refl _ _) _) hb1⟩
set_option maxHeartbeats 400000 in
theorem specMuxCount_no (d : Dev) (hd : devB d = false) (w : World) :
    Calls Try.prog 80 #[.agg #[.int .i64 d.W, .int .i64 d.H, .int .i64 d.T, .int .i64 d.R]] w fun e w' => e = .returned (.int .i64 0) ∧ Below w.heap.size w w' := by
  go_enter Try.func80, Try.ntmps80
  go_wp2_with (first
    | (go_at_call 79; refine (specDeviceOk_any d _).mono ?_; rintro e w1 ⟨rfl, hb1⟩; obtain ⟨hc1, hf1, hz1⟩ := bcell hb1; (try simp at hz1)))
  go_ret
  exact ⟨rfl, bel_trans (bel_alloc (Below.refl _ _) _) hb1⟩
set_option maxHeartbeats 400000 in
theorem specFrameWords_no (d : Dev) (hd : devB d = false) (w : World) :
    Calls Try.prog 102 #[.agg #[.int .i64 d.W, .int .i64 d.H, .int .i64 d.T, .int .i64 d.R]] w fun e w' => e = .returned (.int .i64 0) ∧ Below w.heap.size w w' := by
  go_enter Try.func102, Try.ntmps102
  go_wp2_with (first
    | (go_at_call 79; refine (specDeviceOk_any d _).mono ?_; rintro e w1 ⟨rfl, hb1⟩; obtain ⟨hc1, hf1, hz1⟩ := bcell hb1; (try simp at hz1)))
  go_ret
  exact ⟨rfl, bel_trans (bel_alloc (Below.refl _ _) _) hb1⟩
set_option maxHeartbeats 400000 in
theorem implMuxCount_yes (d : Dev) (hd : devB d = true) (w : World) :
    Calls Try.prog 67 #[.agg #[.int .i64 d.W, .int .i64 d.H, .int .i64 d.T, .int .i64 d.R]] w fun e w' => e = .returned (.int .i64 (5 + 4 * d.T)) ∧ Below w.heap.size w w' := by
  go_enter Try.func67, Try.ntmps67
  go_wp2_with (first
    | (go_at_call 23; refine (implDeviceOk_any d _).mono ?_; rintro e w1 ⟨rfl, hb1⟩; obtain ⟨hc1, hf1, hz1⟩ := bcell hb1; (try simp at hz1))
    | (go_at_call 81; refine (implMux_any d hd _).mono ?_; rintro e w2 ⟨rfl, hb2⟩; obtain ⟨hc2, hf2, hz2⟩ := bcell hb2; (try simp at hz2)))
  go_ret
  exact ⟨rfl, bel_trans (bel_trans (bel_alloc (Below.refl _ _) _) hb1) hb2⟩
set_option maxHeartbeats 400000 in
theorem specMuxCount_yes (d : Dev) (hd : devB d = true) (w : World) :
    Calls Try.prog 80 #[.agg #[.int .i64 d.W, .int .i64 d.H, .int .i64 d.T, .int .i64 d.R]] w fun e w' => e = .returned (.int .i64 (5 + 4 * d.T)) ∧ Below w.heap.size w w' := by
  obtain ⟨-, -, ⟨h1, h2⟩, -⟩ := (devB_iff d).1 hd
  go_enter Try.func80, Try.ntmps80
  go_wp2_with (first
    | (go_at_call 79; refine (specDeviceOk_any d _).mono ?_; rintro e w1 ⟨rfl, hb1⟩; obtain ⟨hc1, hf1, hz1⟩ := bcell hb1; (try simp at hz1)))
  go_ret
  exact ⟨rfl, bel_trans (bel_alloc (Below.refl _ _) _) hb1⟩
set_option maxHeartbeats 400000 in
theorem implFrame_any (d : Dev) (hd : devB d = true) (w : World) :
    Calls Try.prog 105 #[.agg #[.int .i64 d.W, .int .i64 d.H, .int .i64 d.T, .int .i64 d.R]] w fun e w' => e = .returned (.int .i64 ((5 * (5 + 4 * d.T) + 67 + 15) / 16)) ∧ Below w.heap.size w w' := by
  obtain ⟨-, -, ⟨h1, h2⟩, -⟩ := (devB_iff d).1 hd
  go_enter Try.func105, Try.ntmps105
  go_wp2_with (first
    | (go_at_call 81; refine (implMux_any d hd _).mono ?_; rintro e w1 ⟨rfl, hb1⟩; obtain ⟨hc1, hf1, hz1⟩ := bcell hb1; (try simp at hz1)))
  go_ret
  exact ⟨rfl, bel_trans (bel_alloc (Below.refl _ _) _) hb1⟩
set_option maxHeartbeats 400000 in
theorem implFrameWords_yes (d : Dev) (hd : devB d = true) (w : World) :
    Calls Try.prog 70 #[.agg #[.int .i64 d.W, .int .i64 d.H, .int .i64 d.T, .int .i64 d.R]] w fun e w' => e = .returned (.int .i64 ((5 * (5 + 4 * d.T) + 67 + 15) / 16)) ∧ Below w.heap.size w w' := by
  obtain ⟨-, -, ⟨h1, h2⟩, -⟩ := (devB_iff d).1 hd
  go_enter Try.func70, Try.ntmps70
  go_wp2_with (first
    | (go_at_call 23; refine (implDeviceOk_any d _).mono ?_; rintro e w1 ⟨rfl, hb1⟩; obtain ⟨hc1, hf1, hz1⟩ := bcell hb1; (try simp at hz1))
    | (go_at_call 105; refine (implFrame_any d hd _).mono ?_; rintro e w2 ⟨rfl, hb2⟩; obtain ⟨hc2, hf2, hz2⟩ := bcell hb2; (try simp at hz2)))
  go_ret
  exact ⟨rfl, bel_trans (bel_trans (bel_alloc (Below.refl _ _) _) hb1) hb2⟩
set_option maxHeartbeats 400000 in
theorem specFrameWords_yes (d : Dev) (hd : devB d = true) (w : World) :
    Calls Try.prog 102 #[.agg #[.int .i64 d.W, .int .i64 d.H, .int .i64 d.T, .int .i64 d.R]] w fun e w' => e = .returned (.int .i64 ((5 * (5 + 4 * d.T) + 67 + 15) / 16)) ∧ Below w.heap.size w w' := by
  obtain ⟨-, -, ⟨h1, h2⟩, -⟩ := (devB_iff d).1 hd
  go_enter Try.func102, Try.ntmps102
  go_wp2_with (first
    | (go_at_call 79; refine (specDeviceOk_any d _).mono ?_; rintro e w1 ⟨rfl, hb1⟩; obtain ⟨hc1, hf1, hz1⟩ := bcell hb1; (try simp at hz1))
    | (go_at_call 80; refine (specMuxCount_yes d hd _).mono ?_; rintro e w2 ⟨rfl, hb2⟩; obtain ⟨hc2, hf2, hz2⟩ := bcell hb2; (try simp at hz2)))
  go_ret
  exact ⟨rfl, bel_trans (bel_trans (bel_alloc (Below.refl _ _) _) hb1) hb2⟩
end Go.Proofs.Ytnnkbpcfjjijbaa
