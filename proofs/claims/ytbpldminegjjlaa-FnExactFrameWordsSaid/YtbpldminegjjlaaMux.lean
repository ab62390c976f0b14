/- Numbers of multiplexers and words: the walks. -/
import Derived.Test.YtbpldminegjjlaaDev
set_option linter.unusedVariables false
namespace Go.Proofs.Ytbpldminegjjlaa
open Go.RowKit
set_option maxHeartbeats 400000 in
theorem toDevice_any (d : Dev) (w : World) :
    Calls Try.prog 30 #[.agg #[.int .i64 d.W, .int .i64 d.H, .int .i64 d.T, .int .i64 d.R]] w fun e w' => e = .returned (.agg #[.int .i64 d.W, .int .i64 d.H, .int .i64 d.T, .int .i64 d.R]) ∧ Below w.heap.size w w' := by
  go_enter Try.func30, Try.ntmps30
  go_wp2
  refine bodyPost_ret (v := .agg #[.int .i64 d.W, .int .i64 d.H, .int .i64 d.T, .int .i64 d.R]) (by simp [results, Try.results30, go_sem]) rfl ⟨rfl, ?_⟩
  exact bel_alloc (bel_alloc (bel_alloc (Below.refl _ _) _) _) _
set_option maxHeartbeats 400000 in
theorem implMux_any (d : Dev) (hd : devB d = true) (w : World) :
    Calls Try.prog 45 #[.agg #[.int .i64 d.W, .int .i64 d.H, .int .i64 d.T, .int .i64 d.R]] w fun e w' => e = .returned (.int .i64 (5 + 4 * d.T)) ∧ Below w.heap.size w w' := by
  obtain ⟨-, -, ⟨h1, h2⟩, -⟩ := (devB_iff d).1 hd
  clear hd
  go_enter Try.func45, Try.ntmps45
  go_wp2
  go_ret
  exact ⟨rfl, bel_alloc (Below.refl _ _) _⟩
set_option maxHeartbeats 400000 in
theorem implMuxCount_no (d : Dev) (hd : devB d = false) (w : World) :
    Calls Try.prog 31 #[.agg #[.int .i64 d.W, .int .i64 d.H, .int .i64 d.T, .int .i64 d.R]] w fun e w' => e = .returned (.int .i64 0) ∧ Below w.heap.size w w' := by
  go_enter Try.func31, Try.ntmps31
  go_wp2_with (first
    | (go_at_call 44; refine (implDeviceOk_any d _).mono ?_; rintro e w1 ⟨rfl, hb1⟩; obtain ⟨hc1, hf1, hz1⟩ := bcell hb1; (try simp at hz1)))
  go_ret
  exact ⟨rfl, bel_trans (bel_alloc (Below.refl _ _) _) hb1⟩
set_option maxHeartbeats 400000 in
theorem implFrameWords_no (d : Dev) (hd : devB d = false) (w : World) :
    Calls Try.prog 33 #[.agg #[.int .i64 d.W, .int .i64 d.H, .int .i64 d.T, .int .i64 d.R]] w fun e w' => e = .returned (.int .i64 0) ∧ Below w.heap.size w w' := by
  go_enter Try.func33, Try.ntmps33
  go_wp2_with (first
    | (go_at_call 44; refine (implDeviceOk_any d _).mono ?_; rintro e w1 ⟨rfl, hb1⟩; obtain ⟨hc1, hf1, hz1⟩ := bcell hb1; (try simp at hz1)))
  go_ret
  exact ⟨rfl, bel_trans (bel_alloc (Below.refl _ _) _) hb1⟩
set_option maxHeartbeats 400000 in
theorem specMuxCount_no (d : Dev) (hd : devB d = false) (w : World) :
    Calls Try.prog 29 #[.agg #[.int .i64 d.W, .int .i64 d.H, .int .i64 d.T, .int .i64 d.R]] w fun e w' => e = .returned (.int .i64 0) ∧ Below w.heap.size w w' := by
  go_enter Try.func29, Try.ntmps29
  go_wp2_with (first
    | (go_at_call 43; refine (specDeviceOk_any d _).mono ?_; rintro e w1 ⟨rfl, hb1⟩; obtain ⟨hc1, hf1, hz1⟩ := bcell hb1; (try simp at hz1)))
  go_ret
  exact ⟨rfl, bel_trans (bel_alloc (Below.refl _ _) _) hb1⟩
set_option maxHeartbeats 400000 in
theorem specFrameWords_no (d : Dev) (hd : devB d = false) (w : World) :
    Calls Try.prog 32 #[.agg #[.int .i64 d.W, .int .i64 d.H, .int .i64 d.T, .int .i64 d.R]] w fun e w' => e = .returned (.int .i64 0) ∧ Below w.heap.size w w' := by
  go_enter Try.func32, Try.ntmps32
  go_wp2_with (first
    | (go_at_call 43; refine (specDeviceOk_any d _).mono ?_; rintro e w1 ⟨rfl, hb1⟩; obtain ⟨hc1, hf1, hz1⟩ := bcell hb1; (try simp at hz1)))
  go_ret
  exact ⟨rfl, bel_trans (bel_alloc (Below.refl _ _) _) hb1⟩
set_option maxHeartbeats 400000 in
theorem implMuxCount_yes (d : Dev) (hd : devB d = true) (w : World) :
    Calls Try.prog 31 #[.agg #[.int .i64 d.W, .int .i64 d.H, .int .i64 d.T, .int .i64 d.R]] w fun e w' => e = .returned (.int .i64 (5 + 4 * d.T)) ∧ Below w.heap.size w w' := by
  go_enter Try.func31, Try.ntmps31
  go_wp2_with (first
    | (go_at_call 44; refine (implDeviceOk_any d _).mono ?_; rintro e w1 ⟨rfl, hb1⟩; obtain ⟨hc1, hf1, hz1⟩ := bcell hb1; (try simp at hz1))
    | (go_at_call 45; refine (implMux_any d hd _).mono ?_; rintro e w2 ⟨rfl, hb2⟩; obtain ⟨hc2, hf2, hz2⟩ := bcell hb2; (try simp at hz2)))
  go_ret
  exact ⟨rfl, bel_trans (bel_trans (bel_alloc (Below.refl _ _) _) hb1) hb2⟩
set_option maxHeartbeats 400000 in
theorem specMuxCount_yes (d : Dev) (hd : devB d = true) (w : World) :
    Calls Try.prog 29 #[.agg #[.int .i64 d.W, .int .i64 d.H, .int .i64 d.T, .int .i64 d.R]] w fun e w' => e = .returned (.int .i64 (5 + 4 * d.T)) ∧ Below w.heap.size w w' := by
  obtain ⟨-, -, ⟨h1, h2⟩, -⟩ := (devB_iff d).1 hd
  go_enter Try.func29, Try.ntmps29
  go_wp2_with (first
    | (go_at_call 43; refine (specDeviceOk_any d _).mono ?_; rintro e w1 ⟨rfl, hb1⟩; obtain ⟨hc1, hf1, hz1⟩ := bcell hb1; (try simp at hz1)))
  go_ret
  exact ⟨rfl, bel_trans (bel_alloc (Below.refl _ _) _) hb1⟩
set_option maxHeartbeats 400000 in
theorem implFrame_any (d : Dev) (hd : devB d = true) (w : World) :
    Calls Try.prog 46 #[.agg #[.int .i64 d.W, .int .i64 d.H, .int .i64 d.T, .int .i64 d.R]] w fun e w' => e = .returned (.int .i64 ((5 * (5 + 4 * d.T) + 67 + 15) / 16)) ∧ Below w.heap.size w w' := by
  obtain ⟨-, -, ⟨h1, h2⟩, -⟩ := (devB_iff d).1 hd
  go_enter Try.func46, Try.ntmps46
  go_wp2_with (first
    | (go_at_call 45; refine (implMux_any d hd _).mono ?_; rintro e w1 ⟨rfl, hb1⟩; obtain ⟨hc1, hf1, hz1⟩ := bcell hb1; (try simp at hz1)))
  go_ret
  exact ⟨rfl, bel_trans (bel_alloc (Below.refl _ _) _) hb1⟩
set_option maxHeartbeats 400000 in
theorem implFrameWords_yes (d : Dev) (hd : devB d = true) (w : World) :
    Calls Try.prog 33 #[.agg #[.int .i64 d.W, .int .i64 d.H, .int .i64 d.T, .int .i64 d.R]] w fun e w' => e = .returned (.int .i64 ((5 * (5 + 4 * d.T) + 67 + 15) / 16)) ∧ Below w.heap.size w w' := by
  obtain ⟨-, -, ⟨h1, h2⟩, -⟩ := (devB_iff d).1 hd
  go_enter Try.func33, Try.ntmps33
  go_wp2_with (first
    | (go_at_call 44; refine (implDeviceOk_any d _).mono ?_; rintro e w1 ⟨rfl, hb1⟩; obtain ⟨hc1, hf1, hz1⟩ := bcell hb1; (try simp at hz1))
    | (go_at_call 46; refine (implFrame_any d hd _).mono ?_; rintro e w2 ⟨rfl, hb2⟩; obtain ⟨hc2, hf2, hz2⟩ := bcell hb2; (try simp at hz2)))
  go_ret
  exact ⟨rfl, bel_trans (bel_trans (bel_alloc (Below.refl _ _) _) hb1) hb2⟩
set_option maxHeartbeats 400000 in
theorem specFrameWords_yes (d : Dev) (hd : devB d = true) (w : World) :
    Calls Try.prog 32 #[.agg #[.int .i64 d.W, .int .i64 d.H, .int .i64 d.T, .int .i64 d.R]] w fun e w' => e = .returned (.int .i64 ((5 * (5 + 4 * d.T) + 67 + 15) / 16)) ∧ Below w.heap.size w w' := by
  obtain ⟨-, -, ⟨h1, h2⟩, -⟩ := (devB_iff d).1 hd
  go_enter Try.func32, Try.ntmps32
  go_wp2_with (first
    | (go_at_call 43; refine (specDeviceOk_any d _).mono ?_; rintro e w1 ⟨rfl, hb1⟩; obtain ⟨hc1, hf1, hz1⟩ := bcell hb1; (try simp at hz1))
    | (go_at_call 29; refine (specMuxCount_yes d hd _).mono ?_; rintro e w2 ⟨rfl, hb2⟩; obtain ⟨hc2, hf2, hz2⟩ := bcell hb2; (try simp at hz2)))
  go_ret
  exact ⟨rfl, bel_trans (bel_trans (bel_alloc (Below.refl _ _) _) hb1) hb2⟩
set_option maxHeartbeats 400000 in
theorem walk_FnExactMuxCount_yes (d : Dev) (hd : devB d = true) (w : World) :
    Calls Try.prog 11 #[.agg #[.int .i64 d.W, .int .i64 d.H, .int .i64 d.T, .int .i64 d.R]] w fun e w' => e = .returned (.bool true) ∧ Below w.heap.size w w' := by
  obtain ⟨-, -, ⟨h1, h2⟩, -⟩ := (devB_iff d).1 hd
  go_enter Try.func11, Try.ntmps11
  go_wp2_with fail
  refine (toDevice_any d _).mono ?_
  rintro e w1 ⟨rfl, hb1⟩
  obtain ⟨hc1, hf1, hz1⟩ := bcell hb1
  have hy1 := bel_lt hb1
  go_wp2_with fail
  refine (specMuxCount_yes d hd _).mono ?_
  rintro e w2 ⟨rfl, hb2⟩
  obtain ⟨hc2, hf2, hz2⟩ := bcell hb2
  have hy2 := lt_bel hb2 hy1
  go_wp2_with fail
  refine (toDevice_any d _).mono ?_
  rintro e w3 ⟨rfl, hb3⟩
  obtain ⟨hc3, hf3, hz3⟩ := bcell hb3
  have hy3 := lt_bel hb3 hy2
  go_wp2_with fail
  refine (implMuxCount_yes d hd _).mono ?_
  rintro e w4 ⟨rfl, hb4⟩
  go_wp2
  go_ret
  exact ⟨rfl, bel_trans (bel_trans (bel_trans (bel_trans (bel_alloc (Below.refl _ _) _) hb1) hb2) hb3) hb4⟩
set_option maxHeartbeats 400000 in
theorem walk_FnExactMuxCount_no (d : Dev) (hd : devB d = false) (w : World) :
    Calls Try.prog 11 #[.agg #[.int .i64 d.W, .int .i64 d.H, .int .i64 d.T, .int .i64 d.R]] w fun e w' => e = .returned (.bool true) ∧ Below w.heap.size w w' := by
  go_enter Try.func11, Try.ntmps11
  go_wp2_with fail
  refine (toDevice_any d _).mono ?_
  rintro e w1 ⟨rfl, hb1⟩
  obtain ⟨hc1, hf1, hz1⟩ := bcell hb1
  have hy1 := bel_lt hb1
  go_wp2_with fail
  refine (specMuxCount_no d hd _).mono ?_
  rintro e w2 ⟨rfl, hb2⟩
  obtain ⟨hc2, hf2, hz2⟩ := bcell hb2
  have hy2 := lt_bel hb2 hy1
  go_wp2_with fail
  refine (toDevice_any d _).mono ?_
  rintro e w3 ⟨rfl, hb3⟩
  obtain ⟨hc3, hf3, hz3⟩ := bcell hb3
  have hy3 := lt_bel hb3 hy2
  go_wp2_with fail
  refine (implMuxCount_no d hd _).mono ?_
  rintro e w4 ⟨rfl, hb4⟩
  go_wp2
  go_ret
  exact ⟨rfl, bel_trans (bel_trans (bel_trans (bel_trans (bel_alloc (Below.refl _ _) _) hb1) hb2) hb3) hb4⟩
theorem walk_FnExactMuxCount (d : Dev) (w : World) :
    Calls Try.prog 11 #[.agg #[.int .i64 d.W, .int .i64 d.H, .int .i64 d.T, .int .i64 d.R]] w fun e w' => e = .returned (.bool true) ∧ Below w.heap.size w w' := by
  rcases Bool.eq_false_or_eq_true (devB d) with h | h
  · exact walk_FnExactMuxCount_yes d h w
  · exact walk_FnExactMuxCount_no d h w
set_option maxHeartbeats 400000 in
theorem walk_FnExactFrameWords_yes (d : Dev) (hd : devB d = true) (w : World) :
    Calls Try.prog 12 #[.agg #[.int .i64 d.W, .int .i64 d.H, .int .i64 d.T, .int .i64 d.R]] w fun e w' => e = .returned (.bool true) ∧ Below w.heap.size w w' := by
  obtain ⟨-, -, ⟨h1, h2⟩, -⟩ := (devB_iff d).1 hd
  go_enter Try.func12, Try.ntmps12
  go_wp2_with fail
  refine (toDevice_any d _).mono ?_
  rintro e w1 ⟨rfl, hb1⟩
  obtain ⟨hc1, hf1, hz1⟩ := bcell hb1
  have hy1 := bel_lt hb1
  go_wp2_with fail
  refine (specFrameWords_yes d hd _).mono ?_
  rintro e w2 ⟨rfl, hb2⟩
  obtain ⟨hc2, hf2, hz2⟩ := bcell hb2
  have hy2 := lt_bel hb2 hy1
  go_wp2_with fail
  refine (toDevice_any d _).mono ?_
  rintro e w3 ⟨rfl, hb3⟩
  obtain ⟨hc3, hf3, hz3⟩ := bcell hb3
  have hy3 := lt_bel hb3 hy2
  go_wp2_with fail
  refine (implFrameWords_yes d hd _).mono ?_
  rintro e w4 ⟨rfl, hb4⟩
  go_wp2
  go_ret
  exact ⟨rfl, bel_trans (bel_trans (bel_trans (bel_trans (bel_alloc (Below.refl _ _) _) hb1) hb2) hb3) hb4⟩
set_option maxHeartbeats 400000 in
theorem walk_FnExactFrameWords_no (d : Dev) (hd : devB d = false) (w : World) :
    Calls Try.prog 12 #[.agg #[.int .i64 d.W, .int .i64 d.H, .int .i64 d.T, .int .i64 d.R]] w fun e w' => e = .returned (.bool true) ∧ Below w.heap.size w w' := by
  go_enter Try.func12, Try.ntmps12
  go_wp2_with fail
  refine (toDevice_any d _).mono ?_
  rintro e w1 ⟨rfl, hb1⟩
  obtain ⟨hc1, hf1, hz1⟩ := bcell hb1
  have hy1 := bel_lt hb1
  go_wp2_with fail
  refine (specFrameWords_no d hd _).mono ?_
  rintro e w2 ⟨rfl, hb2⟩
  obtain ⟨hc2, hf2, hz2⟩ := bcell hb2
  have hy2 := lt_bel hb2 hy1
  go_wp2_with fail
  refine (toDevice_any d _).mono ?_
  rintro e w3 ⟨rfl, hb3⟩
  obtain ⟨hc3, hf3, hz3⟩ := bcell hb3
  have hy3 := lt_bel hb3 hy2
  go_wp2_with fail
  refine (implFrameWords_no d hd _).mono ?_
  rintro e w4 ⟨rfl, hb4⟩
  go_wp2
  go_ret
  exact ⟨rfl, bel_trans (bel_trans (bel_trans (bel_trans (bel_alloc (Below.refl _ _) _) hb1) hb2) hb3) hb4⟩
theorem walk_FnExactFrameWords (d : Dev) (w : World) :
    Calls Try.prog 12 #[.agg #[.int .i64 d.W, .int .i64 d.H, .int .i64 d.T, .int .i64 d.R]] w fun e w' => e = .returned (.bool true) ∧ Below w.heap.size w w' := by
  rcases Bool.eq_false_or_eq_true (devB d) with h | h
  · exact walk_FnExactFrameWords_yes d h w
  · exact walk_FnExactFrameWords_no d h w
end Go.Proofs.Ytbpldminegjjlaa
