/- The law FnImplicantInPrime: the walk. -/
import Derived.Test.YteccnnpcigkmhaaCov3
set_option linter.unusedVariables false
set_option linter.unusedSimpArgs false
namespace Go.Proofs.Yteccnnpcigkmhaa
open Go.RowKit

theorem any_snoc {α : Type} {l : List α} {k : Nat} (d : α) (f : α → Bool) (h : k < l.length) : (l.take (k + 1)).any f = ((l.take k).any f || f (l.getD k d)) := by
  rw [take_snoc d h, List.any_append]; simp
theorem in_yes {b : Bool} {p : Nat × Nat} {ca va : Nat} (h : b = true) : true = (b || cov1 p (ca, va)) := by rw [h]; rfl
theorem in_no1 {b : Bool} {p : Nat × Nat} {ca va : Nat} (h0 : b = false) (hx : p.1 < 16) (hy : ca < 16) (h : bits BinOp.andNot IntKind.i64 (p.1 : Int) (ca : Int) ≠ 0) : false = (b || cov1 p (ca, va)) := by
  have h2 : cov1 p (ca, va) = false := by unfold cov1; rw [Bool.and_eq_false_iff]; left; exact beq_false_of_ne (fun e => h ((an_iff hx hy).2 e))
  simp [h2, h0]
theorem in_no2 {b : Bool} {p : Nat × Nat} {ca va : Nat} (h0 : b = false) (h : ((va &&& p.1 : Nat) : Int) ≠ (p.2 : Int)) : false = (b || cov1 p (ca, va)) := by
  have h2 : cov1 p (ca, va) = false := by unfold cov1; rw [Bool.and_eq_false_iff]; right; exact beq_false_of_ne (fun e => h (by dsimp only at e; omega))
  simp [h2, h0]
theorem in_ok {b : Bool} {p : Nat × Nat} {ca va : Nat} (hx : p.1 < 16) (hy : ca < 16) (h : bits BinOp.andNot IntKind.i64 (p.1 : Int) (ca : Int) = 0) (h3 : ((va &&& p.1 : Nat) : Int) = (p.2 : Int)) : true = (b || cov1 p (ca, va)) := by
  have h4 : cov1 p (ca, va) = true := by unfold cov1; rw [(an_iff hx hy).1 h]; simp; omega
  simp [h4]
set_option maxHeartbeats 4000000 in
set_option maxRecDepth 100000 in
theorem walk_FnImplicantInPrime (a0 : Option Addr) (len0 cap0 : Nat) (z0 : List Int) (w : World) (hbr : BRow .u8 w a0 len0 cap0 z0) :
    Calls Try.prog 3 #[.slice a0 len0 cap0] w (Ans w (.bool true)) := by
  have hcd0 := cod_le hbr 0
  have hcd1 := cod_le hbr 1
  refine calls_hc (N := 96) (args := [.slice a0 len0 cap0]) Try.func3 rfl rfl ?_
  refine hc_less _ (sub_cons (d := 0) rfl (sub_nil _)) (.refl _) ?_
  refine hc_seq ?_
  refine hc_region ?_
  refine hl_v rfl rfl rfl (rv_ev rfl) ?_
  refine hl_less (sub_cons (d := 0) rfl (sub_cons (d := 2) rfl (sub_nil _))) (.refl _) ?_
  refine hl_nil ?_
  refine hq_then ?_
  refine hc_seq ?_
  refine hc_seq ?_
  refine hc_region ?_
  refine hl_v rfl rfl rfl (rv_ev rfl) ?_
  refine hl_callV rfl rfl rfl (rq_call (by kernel_rfl) rfl (fun w hm => ret_ans (ans_of (big_any a0 len0 cap0 w (hbr.len_le))))) ?_
  refine hl_bool (fun h1 => ?_) (fun h1 => ?_)
  ·
    have h1p := of_decide_eq_true h1
    refine hl_less (sub_cons (d := 0) rfl (sub_cons (d := 2) rfl (sub_cons (d := 13) rfl (sub_nil _)))) (.refl _) ?_
    refine hl_nil ?_
    refine hq_then ?_
    refine hc_true rfl ?_
    refine hc_seq ?_
    refine hc_region ?_
    refine hl_v rfl rfl rfl (rv_ev rfl) ?_
    refine hl_less (sub_cons (d := 0) rfl (sub_cons (d := 2) rfl (sub_cons (d := 13) rfl (sub_nil _)))) (.refl _) ?_
    refine hl_nil ?_
    refine hq_then ?_
    refine hc_ret ?_
    refine hq_then_ret ?_
    exact hq_ans rfl rfl rfl
  ·
    have h1p := of_decide_eq_false h1
    refine hl_less (sub_cons (d := 0) rfl (sub_cons (d := 2) rfl (sub_cons (d := 13) rfl (sub_nil _)))) (.refl _) ?_
    refine hl_nil ?_
    refine hq_then ?_
    refine hc_false rfl ?_
    refine hc_skip ?_
    refine hq_then ?_
    refine hc_seq ?_
    refine hc_region ?_
    refine hl_v rfl rfl rfl (rv_ev rfl) ?_
    refine hl_q rfl rfl rfl (rq_call (by kernel_rfl) rfl (fun w hm => DrawTable_ret _ _ _ z0 w (hbr.below hm.bel) (by omega))) ?_
    intro v2 p3 hR4
    obtain ⟨rfl, t, tx, ht, rfl⟩ := hR4
    have hn := ht.1
    have hp := pn_rng hn
    refine hl_v rfl rfl rfl (rv_ev rfl) ?_
    refine hl_v rfl rfl rfl (rv_ev rfl) ?_
    refine hl_v rfl rfl rfl (rv_ev rfl) ?_
    refine hl_box rfl rfl rfl (rq_alloc (z := .agg #[.int .i64 0, .int .i64 0]) rfl (by kernel_rfl)) ?_
    intro b5
    refine hl_storeBoxN (i := 0) (off := 0) (us := [.int .i64 t.N, .int .i64 t.B]) (l' := [boxE b5 #[.int .i64 t.N, .int .i64 t.B] 25]) rfl rfl rfl (by kernel_rfl) rfl rfl rfl (all_cons rfl (all_cons rfl all_nil)) rfl rfl rfl ?_
    refine hl_v rfl rfl rfl (rv_ev rfl) ?_
    refine hl_less (sub_cons (d := 0) rfl (sub_cons (d := 2) rfl (sub_cons (d := 3) rfl (sub_cons (d := 13) rfl (sub_nil _))))) (.refl _) ?_
    refine hl_nil ?_
    refine hq_then ?_
    refine hc_seq ?_
    refine hc_draw (by kernel_rfl) 6 [0, 1, 2, 3, 4, 5] (List.take 6 _) (List.drop 6 _) [[], [0], [], [2], [3], [1, 4]] [19, 20, 21, 22, 23, 24] (fun i vs_ v_ p_ => match i with | 0 => v_ = .slice a0 len0 cap0 ∧ p_ = [] | 1 => v_ = .int .i64 (cod z0 len0 0 : Int) ∧ p_ = [] | 2 => v_ = .pointer (some ⟨b5, 0 + 0, none⟩) ∧ p_ = [] | 3 => v_ = .int .i64 t.N ∧ p_ = [] | 4 => v_ = .int .i64 (pn t.N : Int) ∧ p_ = [] | 5 => v_ = .int .i64 ((cod z0 len0 0 : Int) % (pn t.N : Int)) ∧ p_ = [] | _ => True) (List.take_append_drop 6 _).symm (by kernel_rfl) (by kernel_rfl) rfl rfl ?_ ?_
    ·
      refine ⟨?_, ?_, ?_, ?_, ?_, ?_, trivial⟩
      ·
        intro vf pf hR
        refine Or.inl ⟨rfl, ?_⟩
        refine rq_less (l' := [boxE b5 #[.int .i64 t.N, .int .i64 t.B] 25]) (sub_cons (d := 0) rfl (sub_nil _)) (List.sublist_append_right _ _) ?_
        exact rq_v (rv_ev rfl)
      ·
        intro vf pf hR
        have e0 : (vf 0) = .slice a0 len0 cap0 ∧ (pf 0) = [] := hR 0 (by decide)
        refine Or.inl ⟨rfl, ?_⟩
        refine rq_less (l' := [boxE b5 #[.int .i64 t.N, .int .i64 t.B] 25]) (sub_cons (d := 19) (congrArg some e0.1) (sub_nil _)) (List.sublist_append_right _ _) ?_
        exact (rq_call (by kernel_rfl) rfl (fun w hm => ret_ans (at_ans hbr 0 (by omega) w hm)))
      ·
        intro vf pf hR
        refine Or.inl ⟨rfl, ?_⟩
        refine rq_less (l' := [boxE b5 #[.int .i64 t.N, .int .i64 t.B] 25]) (sub_cons (d := 3) rfl (sub_nil _)) (List.sublist_append_right _ _) ?_
        exact rq_v (rv_field (k0 := 0) rfl (by kernel_rfl) rfl)
      ·
        intro vf pf hR
        have e2 : (vf 2) = .pointer (some ⟨b5, 0 + 0, none⟩) ∧ (pf 2) = [] := hR 2 (by decide)
        refine Or.inl ⟨rfl, ?_⟩
        refine rq_less (l' := [boxE b5 #[.int .i64 t.N, .int .i64 t.B] 25]) (sub_cons (d := 21) (congrArg some e2.1) (sub_nil _)) (List.sublist_append_right _ _) ?_
        exact rq_v (rv_load rfl (by kernel_rfl) rfl (box_cell 0 rfl rfl))
      ·
        intro vf pf hR
        have e3 : (vf 3) = .int .i64 t.N ∧ (pf 3) = [] := hR 3 (by decide)
        refine Or.inl ⟨rfl, ?_⟩
        refine rq_less (l' := [boxE b5 #[.int .i64 t.N, .int .i64 t.B] 25]) (sub_cons (d := 22) (congrArg some e3.1) (sub_nil _)) (List.sublist_append_right _ _) ?_
        exact rq_v (rv_shlG (k := .i64) (kk := .i64) (r := (pn t.N : Int)) rfl rfl rfl rfl (by omega) (wr1 hn))
      ·
        intro vf pf hR
        have e1 : (vf 1) = .int .i64 (cod z0 len0 0 : Int) ∧ (pf 1) = [] := hR 1 (by decide)
        have e4 : (vf 4) = .int .i64 (pn t.N : Int) ∧ (pf 4) = [] := hR 4 (by decide)
        refine Or.inl ⟨rfl, ?_⟩
        refine rq_less (l' := [boxE b5 #[.int .i64 t.N, .int .i64 t.B] 25]) (sub_cons (d := 20) (congrArg some e1.1) (sub_cons (d := 23) (congrArg some e4.1) (sub_nil _))) (List.sublist_append_right _ _) ?_
        exact rq_v (rv_rem rfl rfl rfl (by constructor <;> omega))
    ·
      intro vf pf hR
      have e5 : (vf 5) = .int .i64 ((cod z0 len0 0 : Int) % (pn t.N : Int)) ∧ (pf 5) = [] := hR 5 (by decide)
      refine hl_less (l' := [boxE b5 #[.int .i64 t.N, .int .i64 t.B] 25]) (sub_cons (d := 0) rfl (sub_cons (d := 2) rfl (sub_cons (d := 3) rfl (sub_cons (d := 13) rfl (sub_cons (d := 24) (congrArg some e5.1) (sub_nil _)))))) (List.sublist_append_right _ _) ?_
      simp only [List.drop_succ_cons, List.drop_zero]
      refine hl_v rfl rfl rfl (rv_ev rfl) ?_
      obtain ⟨ca, hcad⟩ : ∃ k, k = cod z0 len0 0 % pn t.N := ⟨_, rfl⟩
      have hce : (cod z0 len0 0 : Int) % (pn t.N : Int) = (ca : Int) := by rw [hcad]; simp
      rw [hce]
      have hca : ca < pn t.N := by rw [hcad]; exact Nat.mod_lt _ (by omega)
      refine hl_less (sub_cons (d := 0) rfl (sub_cons (d := 2) rfl (sub_cons (d := 3) rfl (sub_cons (d := 5) rfl (sub_cons (d := 13) rfl (sub_nil _)))))) (.refl _) ?_
      refine hl_nil ?_
      refine hq_then ?_
      refine hc_seq ?_
      refine hc_region ?_
      refine hl_v rfl rfl rfl (rv_ev rfl) ?_
      refine hl_v rfl rfl rfl (rv_ev rfl) ?_
      refine hl_callV rfl rfl rfl (rq_call (by kernel_rfl) rfl (fun w hm => ret_ans (at_ans hbr 1 (by omega) w hm))) ?_
      refine hl_v rfl rfl rfl (rv_ev rfl) ?_
      refine hl_v rfl rfl rfl (rv_bits rfl (by decide) rfl rfl (r := ((cod z0 len0 1 &&& ca : Nat) : Int)) (Bit.and_nat _ _ (by omega) (by omega))) ?_
      obtain ⟨va, hvad⟩ : ∃ k, k = cod z0 len0 1 &&& ca := ⟨_, rfl⟩
      rw [← hvad]
      have hva : va < pn t.N := by have := Nat.and_le_right (n := cod z0 len0 1) (m := ca); omega
      have hcv : va &&& ca = va := by rw [hvad, Nat.and_assoc, Nat.and_self]
      have hpl : (primesN t).length ≤ 300 := by have h1 := outN_len (allA (tabB t) (pn t.N) (pn t.N)) (allA (tabB t) (pn t.N) (pn t.N)).length; have h2 := allA_len (tabB t) (pn t.N) (pn t.N) (by omega); unfold primesN; omega
      refine hl_v rfl rfl rfl (rv_build (cs := #[.int .i64 (ca : Int), .int .i64 (va : Int)]) rfl rfl (by kernel_rfl)) ?_
      refine hl_box rfl rfl rfl (rq_alloc (z := .agg #[.int .i64 0, .int .i64 0]) rfl (by kernel_rfl)) ?_
      intro b6
      refine hl_storeBoxN (i := 0) (off := 0) (us := [.int .i64 (ca : Int), .int .i64 (va : Int)]) (l' := [boxE b6 #[.int .i64 (ca : Int), .int .i64 (va : Int)] 30, boxE b5 #[.int .i64 t.N, .int .i64 t.B] 25]) rfl rfl rfl (by kernel_rfl) rfl rfl rfl (all_cons rfl (all_cons rfl all_nil)) rfl rfl rfl ?_
      refine hl_less (sub_cons (d := 0) rfl (sub_cons (d := 2) rfl (sub_cons (d := 3) rfl (sub_cons (d := 5) rfl (sub_cons (d := 6) rfl (sub_cons (d := 13) rfl (sub_nil _))))))) (.refl _) ?_
      refine hl_nil ?_
      refine hq_then ?_
      refine hc_seq ?_
      refine hc_region ?_
      refine hl_v rfl rfl rfl (rv_ev rfl) ?_
      refine hl_less (sub_cons (d := 0) rfl (sub_cons (d := 2) rfl (sub_cons (d := 3) rfl (sub_cons (d := 5) rfl (sub_cons (d := 6) rfl (sub_cons (d := 7) rfl (sub_cons (d := 13) rfl (sub_nil _)))))))) (.refl _) ?_
      refine hl_nil ?_
      refine hq_then ?_
      refine hc_seq ?_
      refine hc_seq ?_
      refine hc_region ?_
      refine hl_v rfl rfl rfl (rv_ev rfl) ?_
      refine hl_less (sub_cons (d := 0) rfl (sub_cons (d := 2) rfl (sub_cons (d := 3) rfl (sub_cons (d := 5) rfl (sub_cons (d := 6) rfl (sub_cons (d := 7) rfl (sub_cons (d := 8) rfl (sub_cons (d := 13) rfl (sub_nil _))))))))) (.refl _) ?_
      refine hl_nil ?_
      refine hq_then ?_
      refine hc_block ?_
      refine hc_loop2 (α := Nat) (β := Bool) (fun k b => [boxE b6 #[.int .i64 (ca : Int), .int .i64 (va : Int)] 30, boxE b5 #[.int .i64 t.N, .int .i64 t.B] 25]) (fun k b => [(0, .slice a0 len0 cap0), (2, .bool false), (3, .pointer (some ⟨b5, 0, none⟩)), (5, .int .i64 (ca : Int)), (6, .pointer (some ⟨b6, 0, none⟩)), (7, .bool b), (8, .int .i64 (k : Int)), (13, .bool false)]) (fun k b => k ≤ pn t.N ∧ b = impN (tabB t) ca va k) (fun k b => pn t.N - k) 0 true ⟨by omega, rfl⟩ (sub_cons (d := 0) rfl (sub_cons (d := 2) rfl (sub_cons (d := 3) rfl (sub_cons (d := 5) rfl (sub_cons (d := 6) rfl (sub_cons (d := 7) rfl (sub_cons (d := 8) rfl (sub_cons (d := 13) rfl (sub_nil _))))))))) ((.cons_cons _ (.cons_cons _ .slnil))) ?_
      intro k b hi7
      obtain ⟨hk, hb⟩ := hi7
      refine hc_seq ?_
      refine hc_seq ?_
      refine hc_region ?_
      refine hl_v rfl rfl rfl (rv_ev rfl) ?_
      refine hl_v rfl rfl rfl (rv_field (k0 := 0) rfl (by kernel_rfl) rfl) ?_
      refine hl_v rfl rfl rfl (rv_load rfl (by kernel_rfl) rfl (box_cell 1 rfl rfl)) ?_
      refine hl_v rfl rfl rfl (rv_shlG (k := .i64) (kk := .i64) (r := (pn t.N : Int)) rfl rfl rfl rfl (by omega) (wr1 hn)) ?_
      refine hl_lss rfl rfl rfl rfl rfl rfl (fun h8 => ?_) (fun h8 => ?_)
      ·
        refine hl_less (sub_cons (d := 0) rfl (sub_cons (d := 2) rfl (sub_cons (d := 3) rfl (sub_cons (d := 5) rfl (sub_cons (d := 6) rfl (sub_cons (d := 7) rfl (sub_cons (d := 8) rfl (sub_cons (d := 13) rfl (sub_cons (d := 35) rfl (sub_nil _)))))))))) (.refl _) ?_
        refine hl_nil ?_
        refine hq_then ?_
        refine hc_true rfl ?_
        refine hc_skip ?_
        refine hq_then ?_
        refine hc_seq ?_
        refine hc_block ?_
        refine hc_seq ?_
        refine hc_region ?_
        refine hl_v rfl rfl rfl (rv_field (k0 := 0) rfl (by kernel_rfl) rfl) ?_
        refine hl_v rfl rfl rfl (rv_load rfl (by kernel_rfl) rfl (box_cell 1 rfl rfl)) ?_
        refine hl_v rfl rfl rfl (rv_loadN (cs := [.int .i64 (ca : Int), .int .i64 (va : Int)]) rfl (by kernel_rfl) (by kernel_rfl) rfl rfl (box_part 0 rfl 0 rfl)) ?_
        refine hl_v rfl rfl rfl (rv_ev rfl) ?_
        refine hl_callV rfl rfl rfl (rq_call (by kernel_rfl) rfl (fun w hm => ret_ans (specCubeHas_ans t.N ca va k w hn hca hva hcv (by omega)))) ?_
        refine hl_bool (fun h9 => ?_) (fun h9 => ?_)
        ·
          refine hl_v rfl rfl rfl (rv_ev rfl) ?_
          refine hl_v rfl rfl rfl (rv_loadN (cs := [.int .i64 t.N, .int .i64 t.B]) rfl (by kernel_rfl) (by kernel_rfl) rfl rfl (box_part 1 rfl 0 rfl)) ?_
          refine hl_v rfl rfl rfl (rv_ev rfl) ?_
          refine hl_callV rfl rfl rfl (rq_call (by kernel_rfl) rfl (fun w hm => ret_ans (specTableEval_ans t k w ht (by omega)))) ?_
          refine hl_bool (fun h10 => ?_) (fun h10 => ?_)
          ·
            refine hl_v rfl rfl rfl (rv_ev rfl) ?_
            refine hl_v rfl rfl rfl (rv_ev rfl) ?_
            refine hl_less (sub_cons (d := 0) rfl (sub_cons (d := 2) rfl (sub_cons (d := 3) rfl (sub_cons (d := 5) rfl (sub_cons (d := 6) rfl (sub_cons (d := 7) rfl (sub_cons (d := 8) rfl (sub_cons (d := 13) rfl (sub_cons (d := 35) rfl (sub_cons (d := 48) rfl (sub_nil _))))))))))) (.refl _) ?_
            refine hl_nil ?_
            refine hq_then ?_
            refine hc_false rfl ?_
            refine hc_skip ?_
            refine hq_block_normal ?_
            refine hq_then ?_
            refine hc_region ?_
            refine hl_v rfl rfl rfl (rv_ev rfl) ?_
            refine hl_v rfl rfl rfl (rv_add rfl rfl rfl (by constructor <;> omega)) ?_
            refine hl_v rfl rfl rfl (rv_ev rfl) ?_
            refine hl_less (sub_cons (d := 0) rfl (sub_cons (d := 2) rfl (sub_cons (d := 3) rfl (sub_cons (d := 5) rfl (sub_cons (d := 6) rfl (sub_cons (d := 7) rfl (sub_cons (d := 8) rfl (sub_cons (d := 13) rfl (sub_cons (d := 35) rfl (sub_cons (d := 48) rfl (sub_nil _))))))))))) (.refl _) ?_
            refine hl_nil ?_
            exact hq_round2 (k + 1) b ⟨by omega, by rw [impN_succ, ← hb]; first | (rw [show tabB t k = true by assumption]; simp; done) | (rw [show tabB t k = false by assumption, show (k &&& ca) = va from of_decide_eq_true (by assumption)]; simp; done) | (rw [beq_false_of_ne (of_decide_eq_false (by assumption))]; simp; done)⟩ (by omega) (sub_cons (d := 0) rfl (sub_cons (d := 2) rfl (sub_cons (d := 3) rfl (sub_cons (d := 5) rfl (sub_cons (d := 6) rfl (sub_cons (d := 7) rfl (sub_cons (d := 8) rfl (sub_cons (d := 13) rfl (sub_nil _))))))))) ((.cons_cons _ (.cons_cons _ .slnil)))
          ·
            refine hl_v rfl rfl rfl (rv_ev rfl) ?_
            refine hl_v rfl rfl rfl (rv_ev rfl) ?_
            refine hl_less (sub_cons (d := 0) rfl (sub_cons (d := 2) rfl (sub_cons (d := 3) rfl (sub_cons (d := 5) rfl (sub_cons (d := 6) rfl (sub_cons (d := 7) rfl (sub_cons (d := 8) rfl (sub_cons (d := 13) rfl (sub_cons (d := 35) rfl (sub_cons (d := 48) rfl (sub_nil _))))))))))) (.refl _) ?_
            refine hl_nil ?_
            refine hq_then ?_
            refine hc_true rfl ?_
            refine hc_region ?_
            refine hl_v rfl rfl rfl (rv_ev rfl) ?_
            refine hl_less (sub_cons (d := 0) rfl (sub_cons (d := 2) rfl (sub_cons (d := 3) rfl (sub_cons (d := 5) rfl (sub_cons (d := 6) rfl (sub_cons (d := 7) rfl (sub_cons (d := 8) rfl (sub_cons (d := 13) rfl (sub_cons (d := 35) rfl (sub_cons (d := 48) rfl (sub_nil _))))))))))) (.refl _) ?_
            refine hl_nil ?_
            refine hq_block_normal ?_
            refine hq_then ?_
            refine hc_region ?_
            refine hl_v rfl rfl rfl (rv_ev rfl) ?_
            refine hl_v rfl rfl rfl (rv_add rfl rfl rfl (by constructor <;> omega)) ?_
            refine hl_v rfl rfl rfl (rv_ev rfl) ?_
            refine hl_less (sub_cons (d := 0) rfl (sub_cons (d := 2) rfl (sub_cons (d := 3) rfl (sub_cons (d := 5) rfl (sub_cons (d := 6) rfl (sub_cons (d := 7) rfl (sub_cons (d := 8) rfl (sub_cons (d := 13) rfl (sub_cons (d := 35) rfl (sub_cons (d := 48) rfl (sub_nil _))))))))))) (.refl _) ?_
            refine hl_nil ?_
            exact hq_round2 (k + 1) false ⟨by omega, by rw [impN_succ, ← hb]; first | (rw [show tabB t k = true by assumption]; simp; done) | (rw [show tabB t k = false by assumption, show (k &&& ca) = va from of_decide_eq_true (by assumption)]; simp; done) | (rw [beq_false_of_ne (of_decide_eq_false (by assumption))]; simp; done)⟩ (by omega) (sub_cons (d := 0) rfl (sub_cons (d := 2) rfl (sub_cons (d := 3) rfl (sub_cons (d := 5) rfl (sub_cons (d := 6) rfl (sub_cons (d := 7) rfl (sub_cons (d := 8) rfl (sub_cons (d := 13) rfl (sub_nil _))))))))) ((.cons_cons _ (.cons_cons _ .slnil)))
        ·
          refine hl_v rfl rfl rfl (rv_ev rfl) ?_
          refine hl_skip rfl rfl rfl ?_
          refine hl_skip rfl rfl rfl ?_
          refine hl_skip rfl rfl rfl ?_
          refine hl_skip rfl rfl rfl ?_
          refine hl_v rfl rfl rfl (rv_ev rfl) ?_
          refine hl_less (sub_cons (d := 0) rfl (sub_cons (d := 2) rfl (sub_cons (d := 3) rfl (sub_cons (d := 5) rfl (sub_cons (d := 6) rfl (sub_cons (d := 7) rfl (sub_cons (d := 8) rfl (sub_cons (d := 13) rfl (sub_cons (d := 35) rfl (sub_cons (d := 48) rfl (sub_nil _))))))))))) (.refl _) ?_
          refine hl_nil ?_
          refine hq_then ?_
          refine hc_false rfl ?_
          refine hc_skip ?_
          refine hq_block_normal ?_
          refine hq_then ?_
          refine hc_region ?_
          refine hl_v rfl rfl rfl (rv_ev rfl) ?_
          refine hl_v rfl rfl rfl (rv_add rfl rfl rfl (by constructor <;> omega)) ?_
          refine hl_v rfl rfl rfl (rv_ev rfl) ?_
          refine hl_less (sub_cons (d := 0) rfl (sub_cons (d := 2) rfl (sub_cons (d := 3) rfl (sub_cons (d := 5) rfl (sub_cons (d := 6) rfl (sub_cons (d := 7) rfl (sub_cons (d := 8) rfl (sub_cons (d := 13) rfl (sub_cons (d := 35) rfl (sub_cons (d := 48) rfl (sub_nil _))))))))))) (.refl _) ?_
          refine hl_nil ?_
          exact hq_round2 (k + 1) b ⟨by omega, by rw [impN_succ, ← hb]; first | (rw [show tabB t k = true by assumption]; simp; done) | (rw [show tabB t k = false by assumption, show (k &&& ca) = va from of_decide_eq_true (by assumption)]; simp; done) | (rw [beq_false_of_ne (of_decide_eq_false (by assumption))]; simp; done)⟩ (by omega) (sub_cons (d := 0) rfl (sub_cons (d := 2) rfl (sub_cons (d := 3) rfl (sub_cons (d := 5) rfl (sub_cons (d := 6) rfl (sub_cons (d := 7) rfl (sub_cons (d := 8) rfl (sub_cons (d := 13) rfl (sub_nil _))))))))) ((.cons_cons _ (.cons_cons _ .slnil)))
      ·
        refine hl_less (sub_cons (d := 0) rfl (sub_cons (d := 2) rfl (sub_cons (d := 3) rfl (sub_cons (d := 5) rfl (sub_cons (d := 6) rfl (sub_cons (d := 7) rfl (sub_cons (d := 8) rfl (sub_cons (d := 13) rfl (sub_cons (d := 35) rfl (sub_nil _)))))))))) (.refl _) ?_
        refine hl_nil ?_
        refine hq_then ?_
        refine hc_false rfl ?_
        refine hc_exit ?_
        refine hq_then_exit ?_
        refine hq_then_exit ?_
        refine hq_block_exit ?_
        refine hq_then ?_
        refine hc_seq ?_
        refine hc_region ?_
        refine hl_v rfl rfl rfl (rv_loadN (cs := [.int .i64 t.N, .int .i64 t.B]) rfl (by kernel_rfl) (by kernel_rfl) rfl rfl (box_part 1 rfl 0 rfl)) ?_
        refine hl_q rfl rfl rfl (rq_call (by kernel_rfl) rfl (fun w hm => PrimeCubes_ret t w ht)) ?_
        intro v11 p12 hR13
        subst hR13
        refine hl_v rfl rfl rfl (rv_ev rfl) ?_
        refine hl_less (sub_cons (d := 0) rfl (sub_cons (d := 2) rfl (sub_cons (d := 3) rfl (sub_cons (d := 5) rfl (sub_cons (d := 6) rfl (sub_cons (d := 7) rfl (sub_cons (d := 8) rfl (sub_cons (d := 9) rfl (sub_cons (d := 13) rfl (sub_cons (d := 35) rfl (sub_nil _))))))))))) (.refl _) ?_
        refine hl_nil ?_
        refine hq_then ?_
        refine hc_seq ?_
        refine hc_region ?_
        refine hl_v rfl rfl rfl (rv_ev rfl) ?_
        refine hl_less (sub_cons (d := 0) rfl (sub_cons (d := 2) rfl (sub_cons (d := 3) rfl (sub_cons (d := 5) rfl (sub_cons (d := 6) rfl (sub_cons (d := 7) rfl (sub_cons (d := 8) rfl (sub_cons (d := 9) rfl (sub_cons (d := 10) rfl (sub_cons (d := 13) rfl (sub_cons (d := 35) rfl (sub_nil _)))))))))))) (.refl _) ?_
        refine hl_nil ?_
        refine hq_then ?_
        refine hc_seq ?_
        refine hc_seq ?_
        refine hc_region ?_
        refine hl_v rfl rfl rfl (rv_ev rfl) ?_
        refine hl_less (sub_cons (d := 0) rfl (sub_cons (d := 2) rfl (sub_cons (d := 3) rfl (sub_cons (d := 5) rfl (sub_cons (d := 6) rfl (sub_cons (d := 7) rfl (sub_cons (d := 8) rfl (sub_cons (d := 9) rfl (sub_cons (d := 10) rfl (sub_cons (d := 11) rfl (sub_cons (d := 13) rfl (sub_cons (d := 35) rfl (sub_nil _))))))))))))) (.refl _) ?_
        refine hl_nil ?_
        refine hq_then ?_
        refine hc_block ?_
        refine hc_loop2 (α := Nat) (β := Bool) (fun j ib => [rowE 30 2 v11 ((primesN t).length) ((primesN t).flatMap cubC), boxE b6 #[.int .i64 (ca : Int), .int .i64 (va : Int)] 30, boxE b5 #[.int .i64 t.N, .int .i64 t.B] 25]) (fun j ib => [(0, .slice a0 len0 cap0), (2, .bool false), (3, .pointer (some ⟨b5, 0, none⟩)), (5, .int .i64 (ca : Int)), (6, .pointer (some ⟨b6, 0, none⟩)), (7, .bool b), (8, .int .i64 (k : Int)), (9, v11), (10, .bool ib), (11, .int .i64 (j : Int)), (13, .bool false), (35, .bool false)]) (fun j ib => j ≤ (primesN t).length ∧ ib = ((primesN t).take j).any (fun p => cov1 p (ca, va))) (fun j ib => (primesN t).length - j) 0 false ⟨by omega, by simp⟩ (sub_cons (d := 0) rfl (sub_cons (d := 2) rfl (sub_cons (d := 3) rfl (sub_cons (d := 5) rfl (sub_cons (d := 6) rfl (sub_cons (d := 7) rfl (sub_cons (d := 8) rfl (sub_cons (d := 9) rfl (sub_cons (d := 10) rfl (sub_cons (d := 11) rfl (sub_cons (d := 13) rfl (sub_cons (d := 35) rfl (sub_nil _))))))))))))) ((.cons_cons _ (.cons_cons _ (.cons_cons _ .slnil)))) ?_
        intro j ib hi14
        obtain ⟨hj, hi⟩ := hi14
        refine hc_seq ?_
        refine hc_seq ?_
        refine hc_region ?_
        refine hl_v rfl rfl rfl (rv_ev rfl) ?_
        refine hl_v rfl rfl rfl (rv_ev rfl) ?_
        refine hl_v rfl rfl rfl (rv_len rfl Try.underlying33 rfl (rd_row 0 rfl)) ?_
        refine hl_lss rfl rfl rfl rfl rfl rfl (fun h15 => ?_) (fun h15 => ?_)
        ·
          refine hl_less (sub_cons (d := 0) rfl (sub_cons (d := 2) rfl (sub_cons (d := 3) rfl (sub_cons (d := 5) rfl (sub_cons (d := 6) rfl (sub_cons (d := 7) rfl (sub_cons (d := 8) rfl (sub_cons (d := 9) rfl (sub_cons (d := 10) rfl (sub_cons (d := 11) rfl (sub_cons (d := 13) rfl (sub_cons (d := 35) rfl (sub_cons (d := 54) rfl (sub_nil _)))))))))))))) (.refl _) ?_
          refine hl_nil ?_
          refine hq_then ?_
          refine hc_true rfl ?_
          refine hc_skip ?_
          refine hq_then ?_
          refine hc_seq ?_
          refine hc_block ?_
          refine hc_seq ?_
          refine hc_seq ?_
          have hjm := mem_allA.1 (primes_mem (getD_mem' (es := primesN t) (d := c0) (show j < _ by omega)))
          have hj3 : ((primesN t).getD j c0).1 < pn t.N ∧ ((primesN t).getD j c0).2 < pn t.N ∧ ((primesN t).getD j c0).2 &&& ((primesN t).getD j c0).1 = ((primesN t).getD j c0).2 := ⟨hjm.1, by have := hjm.2.1; have := hjm.1; omega, hjm.2.2.1⟩
          have hj16 : ((primesN t).getD j c0).1 < 16 ∧ ((primesN t).getD j c0).2 < 16 := by omega
          refine hc_draw (by kernel_rfl) 8 [0, 1, 2, 3, 4, 5, 6, 7] (List.take 8 _) (List.drop 8 _) [[], [0], [], [], [2, 3], [4], [1, 5], [6]] [57, 58, 59, 60, 61, 62, 63, 64] (fun i vs_ v_ p_ => match i with | 0 => v_ = .pointer (some ⟨b5, 0 + 0, none⟩) ∧ p_ = [] | 1 => v_ = .int .i64 t.N ∧ p_ = [] | 2 => v_ = v11 ∧ p_ = [] | 3 => v_ = .int .i64 (j : Int) ∧ p_ = [] | 4 => v_ = elP v11 (((j : Int)).toNat * 2) ∧ p_ = [] | 5 => v_ = .agg #[.int .i64 (((primesN t).getD j c0).1 : Int), .int .i64 (((primesN t).getD j c0).2 : Int)] ∧ p_ = [] | 6 => v_ = .bool true ∧ p_ = [] | 7 => v_ = .bool false ∧ p_ = [] | _ => True) (List.take_append_drop 8 _).symm (by kernel_rfl) (by kernel_rfl) rfl rfl ?_ ?_
          ·
            refine ⟨?_, ?_, ?_, ?_, ?_, ?_, ?_, ?_, trivial⟩
            ·
              intro vf pf hR
              refine Or.inl ⟨rfl, ?_⟩
              refine rq_less (l' := [rowE 30 2 v11 ((primesN t).length) ((primesN t).flatMap cubC), boxE b6 #[.int .i64 (ca : Int), .int .i64 (va : Int)] 30, boxE b5 #[.int .i64 t.N, .int .i64 t.B] 25]) (sub_cons (d := 3) rfl (sub_nil _)) (List.sublist_append_right _ _) ?_
              exact rq_v (rv_field (k0 := 0) rfl (by kernel_rfl) rfl)
            ·
              intro vf pf hR
              have e0 : (vf 0) = .pointer (some ⟨b5, 0 + 0, none⟩) ∧ (pf 0) = [] := hR 0 (by decide)
              refine Or.inl ⟨rfl, ?_⟩
              refine rq_less (l' := [rowE 30 2 v11 ((primesN t).length) ((primesN t).flatMap cubC), boxE b6 #[.int .i64 (ca : Int), .int .i64 (va : Int)] 30, boxE b5 #[.int .i64 t.N, .int .i64 t.B] 25]) (sub_cons (d := 57) (congrArg some e0.1) (sub_nil _)) (List.sublist_append_right _ _) ?_
              exact rq_v (rv_load rfl (by kernel_rfl) rfl (box_cell 2 rfl rfl))
            ·
              intro vf pf hR
              refine Or.inl ⟨rfl, ?_⟩
              refine rq_less (l' := [rowE 30 2 v11 ((primesN t).length) ((primesN t).flatMap cubC), boxE b6 #[.int .i64 (ca : Int), .int .i64 (va : Int)] 30, boxE b5 #[.int .i64 t.N, .int .i64 t.B] 25]) (sub_cons (d := 9) rfl (sub_nil _)) (List.sublist_append_right _ _) ?_
              exact rq_v (rv_ev rfl)
            ·
              intro vf pf hR
              refine Or.inl ⟨rfl, ?_⟩
              refine rq_less (l' := [rowE 30 2 v11 ((primesN t).length) ((primesN t).flatMap cubC), boxE b6 #[.int .i64 (ca : Int), .int .i64 (va : Int)] 30, boxE b5 #[.int .i64 t.N, .int .i64 t.B] 25]) (sub_cons (d := 11) rfl (sub_nil _)) (List.sublist_append_right _ _) ?_
              exact rq_v (rv_ev rfl)
            ·
              intro vf pf hR
              have e2 : (vf 2) = v11 ∧ (pf 2) = [] := hR 2 (by decide)
              have e3 : (vf 3) = .int .i64 (j : Int) ∧ (pf 3) = [] := hR 3 (by decide)
              refine Or.inl ⟨rfl, ?_⟩
              refine rq_less (l' := [rowE 30 2 v11 ((primesN t).length) ((primesN t).flatMap cubC), boxE b6 #[.int .i64 (ca : Int), .int .i64 (va : Int)] 30, boxE b5 #[.int .i64 t.N, .int .i64 t.B] 25]) (sub_cons (d := 59) (congrArg some e2.1) (sub_cons (d := 60) (congrArg some e3.1) (sub_nil _))) (List.sublist_append_right _ _) ?_
              exact rq_v (rv_index (s := 2) rfl Try.underlying33 (by kernel_rfl) rfl rfl (rd_row 0 rfl) (by omega) (by first | omega | (simp only [List.length_set]; omega)))
            ·
              intro vf pf hR
              have e4 : (vf 4) = elP v11 (((j : Int)).toNat * 2) ∧ (pf 4) = [] := hR 4 (by decide)
              refine Or.inl ⟨rfl, ?_⟩
              refine rq_less (l' := [rowE 30 2 v11 ((primesN t).length) ((primesN t).flatMap cubC), boxE b6 #[.int .i64 (ca : Int), .int .i64 (va : Int)] 30, boxE b5 #[.int .i64 t.N, .int .i64 t.B] 25]) (sub_cons (d := 61) (congrArg some e4.1) (sub_nil _)) (List.sublist_append_right _ _) ?_
              exact rq_v (rv_loadElN (us := [.int .i64 (((primesN t).getD j c0).1 : Int), .int .i64 (((primesN t).getD j c0).2 : Int)]) rfl (by kernel_rfl) (by kernel_rfl) rfl (rd_row 0 rfl) (by omega) rfl (flat_atN cubC 2 (fun _ => rfl) (primesN t) c0 (show j < _ by first | omega | (simp only [List.length_set]; omega)) rfl))
            ·
              intro vf pf hR
              have e1 : (vf 1) = .int .i64 t.N ∧ (pf 1) = [] := hR 1 (by decide)
              have e5 : (vf 5) = .agg #[.int .i64 (((primesN t).getD j c0).1 : Int), .int .i64 (((primesN t).getD j c0).2 : Int)] ∧ (pf 5) = [] := hR 5 (by decide)
              refine Or.inl ⟨rfl, ?_⟩
              refine rq_less (l' := [rowE 30 2 v11 ((primesN t).length) ((primesN t).flatMap cubC), boxE b6 #[.int .i64 (ca : Int), .int .i64 (va : Int)] 30, boxE b5 #[.int .i64 t.N, .int .i64 t.B] 25]) (sub_cons (d := 58) (congrArg some e1.1) (sub_cons (d := 62) (congrArg some e5.1) (sub_nil _))) (List.sublist_append_right _ _) ?_
              exact (rq_call (by kernel_rfl) rfl (fun w hm => ret_ans (implCubeOk_yes t.N _ _ w hn hj3.1 hj3.2.1 hj3.2.2)))
            ·
              intro vf pf hR
              have e6 : (vf 6) = .bool true ∧ (pf 6) = [] := hR 6 (by decide)
              refine Or.inl ⟨rfl, ?_⟩
              refine rq_less (l' := [rowE 30 2 v11 ((primesN t).length) ((primesN t).flatMap cubC), boxE b6 #[.int .i64 (ca : Int), .int .i64 (va : Int)] 30, boxE b5 #[.int .i64 t.N, .int .i64 t.B] 25]) (sub_cons (d := 63) (congrArg some e6.1) (sub_nil _)) (List.sublist_append_right _ _) ?_
              exact rq_v (rv_ev rfl)
          ·
            intro vf pf hR
            have e7 : (vf 7) = .bool false ∧ (pf 7) = [] := hR 7 (by decide)
            refine hl_less (l' := [rowE 30 2 v11 ((primesN t).length) ((primesN t).flatMap cubC), boxE b6 #[.int .i64 (ca : Int), .int .i64 (va : Int)] 30, boxE b5 #[.int .i64 t.N, .int .i64 t.B] 25]) (sub_cons (d := 0) rfl (sub_cons (d := 2) rfl (sub_cons (d := 3) rfl (sub_cons (d := 5) rfl (sub_cons (d := 6) rfl (sub_cons (d := 7) rfl (sub_cons (d := 8) rfl (sub_cons (d := 9) rfl (sub_cons (d := 10) rfl (sub_cons (d := 11) rfl (sub_cons (d := 13) rfl (sub_cons (d := 35) rfl (sub_cons (d := 54) rfl (sub_cons (d := 64) (congrArg some e7.1) (sub_nil _))))))))))))))) (List.sublist_append_right _ _) ?_
            simp only [List.drop_succ_cons, List.drop_zero]
            refine hl_less (sub_cons (d := 0) rfl (sub_cons (d := 2) rfl (sub_cons (d := 3) rfl (sub_cons (d := 5) rfl (sub_cons (d := 6) rfl (sub_cons (d := 7) rfl (sub_cons (d := 8) rfl (sub_cons (d := 9) rfl (sub_cons (d := 10) rfl (sub_cons (d := 11) rfl (sub_cons (d := 13) rfl (sub_cons (d := 35) rfl (sub_cons (d := 54) rfl (sub_cons (d := 64) rfl (sub_nil _))))))))))))))) (.refl _) ?_
            refine hl_nil ?_
            refine hq_then ?_
            refine hc_false rfl ?_
            refine hc_skip ?_
            refine hq_then ?_
            rcases Bool.eq_false_or_eq_true (ib) with hb16 | hb16
            ·
              refine hc_draw (by kernel_rfl) 28 [0, 1, 2, 3, 4, 5, 6, 7, 8, 9, 10, 11, 12, 13, 14, 15, 16, 17, 18, 19, 20, 21, 22, 23, 24, 25, 26, 27] (List.take 28 _) (List.drop 28 _) [[], [0], [1], [1], [1], [1], [1], [1], [1], [1], [1], [1], [11], [11], [11], [11], [11], [11], [11], [11], [11], [11], [11], [11], [11], [11], [1], [1, 26]] [65, 66, 67, 68, 69, 70, 71, 72, 73, 74, 75, 76, 77, 78, 79, 80, 81, 82, 83, 84, 85, 86, 87, 88, 89, 90, 91, 92] (fun i vs_ v_ p_ => match i with | 0 => v_ = .bool true ∧ p_ = [] | 1 => v_ = .bool true ∧ p_ = [] | 2 => v_ = undef ∧ p_ = [] | 3 => v_ = undef ∧ p_ = [] | 4 => v_ = undef ∧ p_ = [] | 5 => v_ = undef ∧ p_ = [] | 6 => v_ = undef ∧ p_ = [] | 7 => v_ = undef ∧ p_ = [] | 8 => v_ = undef ∧ p_ = [] | 9 => v_ = undef ∧ p_ = [] | 10 => v_ = undef ∧ p_ = [] | 11 => v_ = undef ∧ p_ = [] | 12 => v_ = undef ∧ p_ = [] | 13 => v_ = undef ∧ p_ = [] | 14 => v_ = undef ∧ p_ = [] | 15 => v_ = undef ∧ p_ = [] | 16 => v_ = undef ∧ p_ = [] | 17 => v_ = undef ∧ p_ = [] | 18 => v_ = undef ∧ p_ = [] | 19 => v_ = undef ∧ p_ = [] | 20 => v_ = undef ∧ p_ = [] | 21 => v_ = undef ∧ p_ = [] | 22 => v_ = undef ∧ p_ = [] | 23 => v_ = undef ∧ p_ = [] | 24 => v_ = undef ∧ p_ = [] | 25 => v_ = undef ∧ p_ = [] | 26 => v_ = undef ∧ p_ = [] | 27 => v_ = .bool true ∧ p_ = [] | _ => True) (List.take_append_drop 28 _).symm (by kernel_rfl) (by kernel_rfl) rfl rfl ?_ ?_
              ·
                refine ⟨?_, ?_, ?_, ?_, ?_, ?_, ?_, ?_, ?_, ?_, ?_, ?_, ?_, ?_, ?_, ?_, ?_, ?_, ?_, ?_, ?_, ?_, ?_, ?_, ?_, ?_, ?_, ?_, trivial⟩
                ·
                  intro vf pf hR
                  refine Or.inl ⟨rfl, ?_⟩
                  refine rq_less (l' := [rowE 30 2 v11 ((primesN t).length) ((primesN t).flatMap cubC), boxE b6 #[.int .i64 (ca : Int), .int .i64 (va : Int)] 30, boxE b5 #[.int .i64 t.N, .int .i64 t.B] 25]) (sub_cons (d := 10) rfl (sub_nil _)) (List.sublist_append_right _ _) ?_
                  exact rq_mono (rq_v (rv_ev rfl)) (fun _ _ h => ⟨h.1.trans (congrArg Value.bool hb16), h.2⟩)
                ·
                  intro vf pf hR
                  have e0 : (vf 0) = .bool true ∧ (pf 0) = [] := hR 0 (by decide)
                  refine Or.inl ⟨rfl, ?_⟩
                  refine rq_less (l' := [rowE 30 2 v11 ((primesN t).length) ((primesN t).flatMap cubC), boxE b6 #[.int .i64 (ca : Int), .int .i64 (va : Int)] 30, boxE b5 #[.int .i64 t.N, .int .i64 t.B] 25]) (sub_cons (d := 65) (congrArg some e0.1) (sub_nil _)) (List.sublist_append_right _ _) ?_
                  exact rq_v (rv_ev rfl)
                ·
                  intro vf pf hR
                  have e1 : (vf 1) = .bool true ∧ (pf 1) = [] := hR 1 (by decide)
                  exact Or.inr ⟨want_of (congrArg some e1.1) rfl, rfl, rfl⟩
                ·
                  intro vf pf hR
                  have e1 : (vf 1) = .bool true ∧ (pf 1) = [] := hR 1 (by decide)
                  exact Or.inr ⟨want_of (congrArg some e1.1) rfl, rfl, rfl⟩
                ·
                  intro vf pf hR
                  have e1 : (vf 1) = .bool true ∧ (pf 1) = [] := hR 1 (by decide)
                  exact Or.inr ⟨want_of (congrArg some e1.1) rfl, rfl, rfl⟩
                ·
                  intro vf pf hR
                  have e1 : (vf 1) = .bool true ∧ (pf 1) = [] := hR 1 (by decide)
                  exact Or.inr ⟨want_of (congrArg some e1.1) rfl, rfl, rfl⟩
                ·
                  intro vf pf hR
                  have e1 : (vf 1) = .bool true ∧ (pf 1) = [] := hR 1 (by decide)
                  exact Or.inr ⟨want_of (congrArg some e1.1) rfl, rfl, rfl⟩
                ·
                  intro vf pf hR
                  have e1 : (vf 1) = .bool true ∧ (pf 1) = [] := hR 1 (by decide)
                  exact Or.inr ⟨want_of (congrArg some e1.1) rfl, rfl, rfl⟩
                ·
                  intro vf pf hR
                  have e1 : (vf 1) = .bool true ∧ (pf 1) = [] := hR 1 (by decide)
                  exact Or.inr ⟨want_of (congrArg some e1.1) rfl, rfl, rfl⟩
                ·
                  intro vf pf hR
                  have e1 : (vf 1) = .bool true ∧ (pf 1) = [] := hR 1 (by decide)
                  exact Or.inr ⟨want_of (congrArg some e1.1) rfl, rfl, rfl⟩
                ·
                  intro vf pf hR
                  have e1 : (vf 1) = .bool true ∧ (pf 1) = [] := hR 1 (by decide)
                  exact Or.inr ⟨want_of (congrArg some e1.1) rfl, rfl, rfl⟩
                ·
                  intro vf pf hR
                  have e1 : (vf 1) = .bool true ∧ (pf 1) = [] := hR 1 (by decide)
                  exact Or.inr ⟨want_of (congrArg some e1.1) rfl, rfl, rfl⟩
                ·
                  intro vf pf hR
                  have e11 : (vf 11) = undef ∧ (pf 11) = [] := hR 11 (by decide)
                  exact Or.inr ⟨want_un (congrArg some e11.1), rfl, rfl⟩
                ·
                  intro vf pf hR
                  have e11 : (vf 11) = undef ∧ (pf 11) = [] := hR 11 (by decide)
                  exact Or.inr ⟨want_un (congrArg some e11.1), rfl, rfl⟩
                ·
                  intro vf pf hR
                  have e11 : (vf 11) = undef ∧ (pf 11) = [] := hR 11 (by decide)
                  exact Or.inr ⟨want_un (congrArg some e11.1), rfl, rfl⟩
                ·
                  intro vf pf hR
                  have e11 : (vf 11) = undef ∧ (pf 11) = [] := hR 11 (by decide)
                  exact Or.inr ⟨want_un (congrArg some e11.1), rfl, rfl⟩
                ·
                  intro vf pf hR
                  have e11 : (vf 11) = undef ∧ (pf 11) = [] := hR 11 (by decide)
                  exact Or.inr ⟨want_un (congrArg some e11.1), rfl, rfl⟩
                ·
                  intro vf pf hR
                  have e11 : (vf 11) = undef ∧ (pf 11) = [] := hR 11 (by decide)
                  exact Or.inr ⟨want_un (congrArg some e11.1), rfl, rfl⟩
                ·
                  intro vf pf hR
                  have e11 : (vf 11) = undef ∧ (pf 11) = [] := hR 11 (by decide)
                  exact Or.inr ⟨want_un (congrArg some e11.1), rfl, rfl⟩
                ·
                  intro vf pf hR
                  have e11 : (vf 11) = undef ∧ (pf 11) = [] := hR 11 (by decide)
                  exact Or.inr ⟨want_un (congrArg some e11.1), rfl, rfl⟩
                ·
                  intro vf pf hR
                  have e11 : (vf 11) = undef ∧ (pf 11) = [] := hR 11 (by decide)
                  exact Or.inr ⟨want_un (congrArg some e11.1), rfl, rfl⟩
                ·
                  intro vf pf hR
                  have e11 : (vf 11) = undef ∧ (pf 11) = [] := hR 11 (by decide)
                  exact Or.inr ⟨want_un (congrArg some e11.1), rfl, rfl⟩
                ·
                  intro vf pf hR
                  have e11 : (vf 11) = undef ∧ (pf 11) = [] := hR 11 (by decide)
                  exact Or.inr ⟨want_un (congrArg some e11.1), rfl, rfl⟩
                ·
                  intro vf pf hR
                  have e11 : (vf 11) = undef ∧ (pf 11) = [] := hR 11 (by decide)
                  exact Or.inr ⟨want_un (congrArg some e11.1), rfl, rfl⟩
                ·
                  intro vf pf hR
                  have e11 : (vf 11) = undef ∧ (pf 11) = [] := hR 11 (by decide)
                  exact Or.inr ⟨want_un (congrArg some e11.1), rfl, rfl⟩
                ·
                  intro vf pf hR
                  have e11 : (vf 11) = undef ∧ (pf 11) = [] := hR 11 (by decide)
                  exact Or.inr ⟨want_un (congrArg some e11.1), rfl, rfl⟩
                ·
                  intro vf pf hR
                  have e1 : (vf 1) = .bool true ∧ (pf 1) = [] := hR 1 (by decide)
                  exact Or.inr ⟨want_of (congrArg some e1.1) rfl, rfl, rfl⟩
                ·
                  intro vf pf hR
                  have e1 : (vf 1) = .bool true ∧ (pf 1) = [] := hR 1 (by decide)
                  have e26 : (vf 26) = undef ∧ (pf 26) = [] := hR 26 (by decide)
                  refine Or.inl ⟨rfl, ?_⟩
                  refine rq_less (l' := [rowE 30 2 v11 ((primesN t).length) ((primesN t).flatMap cubC), boxE b6 #[.int .i64 (ca : Int), .int .i64 (va : Int)] 30, boxE b5 #[.int .i64 t.N, .int .i64 t.B] 25]) (sub_cons (d := 66) (congrArg some e1.1) (sub_cons (d := 91) (congrArg some e26.1) (sub_nil _))) (List.sublist_append_right _ _) ?_
                  exact rq_v (rv_ev rfl)
              ·
                intro vf pf hR
                have e27 : (vf 27) = .bool true ∧ (pf 27) = [] := hR 27 (by decide)
                refine hl_less (l' := [rowE 30 2 v11 ((primesN t).length) ((primesN t).flatMap cubC), boxE b6 #[.int .i64 (ca : Int), .int .i64 (va : Int)] 30, boxE b5 #[.int .i64 t.N, .int .i64 t.B] 25]) (sub_cons (d := 0) rfl (sub_cons (d := 2) rfl (sub_cons (d := 3) rfl (sub_cons (d := 5) rfl (sub_cons (d := 6) rfl (sub_cons (d := 7) rfl (sub_cons (d := 8) rfl (sub_cons (d := 9) rfl (sub_cons (d := 10) rfl (sub_cons (d := 11) rfl (sub_cons (d := 13) rfl (sub_cons (d := 35) rfl (sub_cons (d := 54) rfl (sub_cons (d := 64) rfl (sub_cons (d := 92) (congrArg some e27.1) (sub_nil _)))))))))))))))) (List.sublist_append_right _ _) ?_
                simp only [List.drop_succ_cons, List.drop_zero]
                refine hl_v rfl rfl rfl (rv_ev rfl) ?_
                refine hl_less (sub_cons (d := 0) rfl (sub_cons (d := 2) rfl (sub_cons (d := 3) rfl (sub_cons (d := 5) rfl (sub_cons (d := 6) rfl (sub_cons (d := 7) rfl (sub_cons (d := 8) rfl (sub_cons (d := 9) rfl (sub_cons (d := 10) rfl (sub_cons (d := 11) rfl (sub_cons (d := 13) rfl (sub_cons (d := 35) rfl (sub_cons (d := 54) rfl (sub_cons (d := 64) rfl (sub_nil _))))))))))))))) (.refl _) ?_
                refine hl_nil ?_
                refine hq_block_normal ?_
                refine hq_then ?_
                refine hc_region ?_
                refine hl_v rfl rfl rfl (rv_ev rfl) ?_
                refine hl_v rfl rfl rfl (rv_add rfl rfl rfl (by constructor <;> omega)) ?_
                refine hl_v rfl rfl rfl (rv_ev rfl) ?_
                refine hl_less (sub_cons (d := 0) rfl (sub_cons (d := 2) rfl (sub_cons (d := 3) rfl (sub_cons (d := 5) rfl (sub_cons (d := 6) rfl (sub_cons (d := 7) rfl (sub_cons (d := 8) rfl (sub_cons (d := 9) rfl (sub_cons (d := 10) rfl (sub_cons (d := 11) rfl (sub_cons (d := 13) rfl (sub_cons (d := 35) rfl (sub_cons (d := 54) rfl (sub_cons (d := 64) rfl (sub_nil _))))))))))))))) (.refl _) ?_
                refine hl_nil ?_
                have hst : true = (ib || cov1 ((primesN t).getD j c0) (ca, va)) := by first | exact in_yes (p := ((primesN t).getD j c0)) (ca := ca) (va := va) (by assumption) | exact in_ok (p := ((primesN t).getD j c0)) (ca := ca) (va := va) hj16.1 (by omega) (by assumption) (by omega)
                exact hq_round2 (j + 1) true ⟨by omega, by rw [any_snoc c0 _ (by omega), ← hi]; exact hst⟩ (by omega) (sub_cons (d := 0) rfl (sub_cons (d := 2) rfl (sub_cons (d := 3) rfl (sub_cons (d := 5) rfl (sub_cons (d := 6) rfl (sub_cons (d := 7) rfl (sub_cons (d := 8) rfl (sub_cons (d := 9) rfl (sub_cons (d := 10) rfl (sub_cons (d := 11) rfl (sub_cons (d := 13) rfl (sub_cons (d := 35) rfl (sub_nil _))))))))))))) ((.cons_cons _ (.cons_cons _ (.cons_cons _ .slnil))))
            ·
              rcases Bool.eq_false_or_eq_true ((bits .andNot .i64 (((primesN t).getD j c0).1 : Int) (ca : Int)) == 0) with hb17 | hb17
              ·
                have hb17p : bits .andNot .i64 (((primesN t).getD j c0).1 : Int) (ca : Int) = 0 := beq_iff_eq.1 hb17
                rcases Bool.eq_false_or_eq_true (((va &&& ((primesN t).getD j c0).1 : Nat) : Int) == (((primesN t).getD j c0).2 : Int)) with hb18 | hb18
                ·
                  have hb18p : ((va &&& ((primesN t).getD j c0).1 : Nat) : Int) = (((primesN t).getD j c0).2 : Int) := beq_iff_eq.1 hb18
                  refine hc_draw (by kernel_rfl) 28 [0, 1, 2, 3, 4, 5, 6, 7, 8, 9, 10, 11, 12, 13, 14, 15, 16, 17, 18, 19, 20, 21, 22, 23, 24, 25, 26, 27] (List.take 28 _) (List.drop 28 _) [[], [0], [1], [1], [1, 2, 3], [1, 4], [1, 5], [1], [1, 7], [1, 6, 8], [1, 9], [1, 10], [11], [11, 12], [11], [11], [11, 14, 15], [11, 16], [11, 17], [11, 13, 18], [11], [11], [11, 20, 21], [11, 22], [11, 23], [11, 19, 24], [1, 11, 25], [1, 26]] [65, 66, 67, 68, 69, 70, 71, 72, 73, 74, 75, 76, 77, 78, 79, 80, 81, 82, 83, 84, 85, 86, 87, 88, 89, 90, 91, 92] (fun i vs_ v_ p_ => match i with | 0 => v_ = .bool false ∧ p_ = [] | 1 => v_ = .bool false ∧ p_ = [] | 2 => v_ = v11 ∧ p_ = [] | 3 => v_ = .int .i64 (j : Int) ∧ p_ = [] | 4 => v_ = elP v11 (((j : Int)).toNat * 2) ∧ p_ = [] | 5 => v_ = elP v11 (((j : Int)).toNat * 2 + 0) ∧ p_ = [] | 6 => v_ = .int .i64 (((primesN t).getD j c0).1 : Int) ∧ p_ = [] | 7 => v_ = .pointer (some ⟨b6, 0 + 0, none⟩) ∧ p_ = [] | 8 => v_ = .int .i64 (ca : Int) ∧ p_ = [] | 9 => v_ = .int .i64 (bits .andNot .i64 (((primesN t).getD j c0).1 : Int) (ca : Int)) ∧ p_ = [] | 10 => v_ = .bool true ∧ p_ = [] | 11 => v_ = .bool true ∧ p_ = [] | 12 => v_ = .pointer (some ⟨b6, 0 + 1, none⟩) ∧ p_ = [] | 13 => v_ = .int .i64 (va : Int) ∧ p_ = [] | 14 => v_ = v11 ∧ p_ = [] | 15 => v_ = .int .i64 (j : Int) ∧ p_ = [] | 16 => v_ = elP v11 (((j : Int)).toNat * 2) ∧ p_ = [] | 17 => v_ = elP v11 (((j : Int)).toNat * 2 + 0) ∧ p_ = [] | 18 => v_ = .int .i64 (((primesN t).getD j c0).1 : Int) ∧ p_ = [] | 19 => v_ = .int .i64 ((va &&& ((primesN t).getD j c0).1 : Nat) : Int) ∧ p_ = [] | 20 => v_ = v11 ∧ p_ = [] | 21 => v_ = .int .i64 (j : Int) ∧ p_ = [] | 22 => v_ = elP v11 (((j : Int)).toNat * 2) ∧ p_ = [] | 23 => v_ = elP v11 (((j : Int)).toNat * 2 + 1) ∧ p_ = [] | 24 => v_ = .int .i64 (((primesN t).getD j c0).2 : Int) ∧ p_ = [] | 25 => v_ = .bool true ∧ p_ = [] | 26 => v_ = .bool true ∧ p_ = [] | 27 => v_ = .bool true ∧ p_ = [] | _ => True) (List.take_append_drop 28 _).symm (by kernel_rfl) (by kernel_rfl) rfl rfl ?_ ?_
                  ·
                    refine ⟨?_, ?_, ?_, ?_, ?_, ?_, ?_, ?_, ?_, ?_, ?_, ?_, ?_, ?_, ?_, ?_, ?_, ?_, ?_, ?_, ?_, ?_, ?_, ?_, ?_, ?_, ?_, ?_, trivial⟩
                    ·
                      intro vf pf hR
                      refine Or.inl ⟨rfl, ?_⟩
                      refine rq_less (l' := [rowE 30 2 v11 ((primesN t).length) ((primesN t).flatMap cubC), boxE b6 #[.int .i64 (ca : Int), .int .i64 (va : Int)] 30, boxE b5 #[.int .i64 t.N, .int .i64 t.B] 25]) (sub_cons (d := 10) rfl (sub_nil _)) (List.sublist_append_right _ _) ?_
                      exact rq_mono (rq_v (rv_ev rfl)) (fun _ _ h => ⟨h.1.trans (congrArg Value.bool hb16), h.2⟩)
                    ·
                      intro vf pf hR
                      have e0 : (vf 0) = .bool false ∧ (pf 0) = [] := hR 0 (by decide)
                      refine Or.inl ⟨rfl, ?_⟩
                      refine rq_less (l' := [rowE 30 2 v11 ((primesN t).length) ((primesN t).flatMap cubC), boxE b6 #[.int .i64 (ca : Int), .int .i64 (va : Int)] 30, boxE b5 #[.int .i64 t.N, .int .i64 t.B] 25]) (sub_cons (d := 65) (congrArg some e0.1) (sub_nil _)) (List.sublist_append_right _ _) ?_
                      exact rq_v (rv_ev rfl)
                    ·
                      intro vf pf hR
                      have e1 : (vf 1) = .bool false ∧ (pf 1) = [] := hR 1 (by decide)
                      refine Or.inl ⟨want_of (congrArg some e1.1) rfl, ?_⟩
                      refine rq_less (l' := [rowE 30 2 v11 ((primesN t).length) ((primesN t).flatMap cubC), boxE b6 #[.int .i64 (ca : Int), .int .i64 (va : Int)] 30, boxE b5 #[.int .i64 t.N, .int .i64 t.B] 25]) (sub_cons (d := 9) rfl (sub_nil _)) (List.sublist_append_right _ _) ?_
                      exact rq_v (rv_ev rfl)
                    ·
                      intro vf pf hR
                      have e1 : (vf 1) = .bool false ∧ (pf 1) = [] := hR 1 (by decide)
                      refine Or.inl ⟨want_of (congrArg some e1.1) rfl, ?_⟩
                      refine rq_less (l' := [rowE 30 2 v11 ((primesN t).length) ((primesN t).flatMap cubC), boxE b6 #[.int .i64 (ca : Int), .int .i64 (va : Int)] 30, boxE b5 #[.int .i64 t.N, .int .i64 t.B] 25]) (sub_cons (d := 11) rfl (sub_nil _)) (List.sublist_append_right _ _) ?_
                      exact rq_v (rv_ev rfl)
                    ·
                      intro vf pf hR
                      have e1 : (vf 1) = .bool false ∧ (pf 1) = [] := hR 1 (by decide)
                      have e2 : (vf 2) = v11 ∧ (pf 2) = [] := hR 2 (by decide)
                      have e3 : (vf 3) = .int .i64 (j : Int) ∧ (pf 3) = [] := hR 3 (by decide)
                      refine Or.inl ⟨want_of (congrArg some e1.1) rfl, ?_⟩
                      refine rq_less (l' := [rowE 30 2 v11 ((primesN t).length) ((primesN t).flatMap cubC), boxE b6 #[.int .i64 (ca : Int), .int .i64 (va : Int)] 30, boxE b5 #[.int .i64 t.N, .int .i64 t.B] 25]) (sub_cons (d := 67) (congrArg some e2.1) (sub_cons (d := 68) (congrArg some e3.1) (sub_nil _))) (List.sublist_append_right _ _) ?_
                      exact rq_v (rv_index (s := 2) rfl Try.underlying33 (by kernel_rfl) rfl rfl (rd_row 0 rfl) (by omega) (by first | omega | (simp only [List.length_set]; omega)))
                    ·
                      intro vf pf hR
                      have e1 : (vf 1) = .bool false ∧ (pf 1) = [] := hR 1 (by decide)
                      have e4 : (vf 4) = elP v11 (((j : Int)).toNat * 2) ∧ (pf 4) = [] := hR 4 (by decide)
                      refine Or.inl ⟨want_of (congrArg some e1.1) rfl, ?_⟩
                      refine rq_less (l' := [rowE 30 2 v11 ((primesN t).length) ((primesN t).flatMap cubC), boxE b6 #[.int .i64 (ca : Int), .int .i64 (va : Int)] 30, boxE b5 #[.int .i64 t.N, .int .i64 t.B] 25]) (sub_cons (d := 69) (congrArg some e4.1) (sub_nil _)) (List.sublist_append_right _ _) ?_
                      exact rq_v (rv_fieldEl (k0 := 0) rfl (by kernel_rfl) rfl (rd_row 0 rfl) (by first | omega | (simp only [List.length_set]; omega)))
                    ·
                      intro vf pf hR
                      have e1 : (vf 1) = .bool false ∧ (pf 1) = [] := hR 1 (by decide)
                      have e5 : (vf 5) = elP v11 (((j : Int)).toNat * 2 + 0) ∧ (pf 5) = [] := hR 5 (by decide)
                      refine Or.inl ⟨want_of (congrArg some e1.1) rfl, ?_⟩
                      refine rq_less (l' := [rowE 30 2 v11 ((primesN t).length) ((primesN t).flatMap cubC), boxE b6 #[.int .i64 (ca : Int), .int .i64 (va : Int)] 30, boxE b5 #[.int .i64 t.N, .int .i64 t.B] 25]) (sub_cons (d := 70) (congrArg some e5.1) (sub_nil _)) (List.sublist_append_right _ _) ?_
                      exact rq_v (rv_loadEl (u := .int .i64 (((primesN t).getD j c0).1 : Int)) rfl (by kernel_rfl) rfl (rd_row 0 rfl) ((flat_at cubC 2 (fun _ => rfl) (primesN t) c0 (show j < _ by first | omega | (simp only [List.length_set]; omega)) (by decide)).trans rfl))
                    ·
                      intro vf pf hR
                      have e1 : (vf 1) = .bool false ∧ (pf 1) = [] := hR 1 (by decide)
                      refine Or.inl ⟨want_of (congrArg some e1.1) rfl, ?_⟩
                      refine rq_less (l' := [rowE 30 2 v11 ((primesN t).length) ((primesN t).flatMap cubC), boxE b6 #[.int .i64 (ca : Int), .int .i64 (va : Int)] 30, boxE b5 #[.int .i64 t.N, .int .i64 t.B] 25]) (sub_cons (d := 6) rfl (sub_nil _)) (List.sublist_append_right _ _) ?_
                      exact rq_v (rv_field (k0 := 0) rfl (by kernel_rfl) rfl)
                    ·
                      intro vf pf hR
                      have e1 : (vf 1) = .bool false ∧ (pf 1) = [] := hR 1 (by decide)
                      have e7 : (vf 7) = .pointer (some ⟨b6, 0 + 0, none⟩) ∧ (pf 7) = [] := hR 7 (by decide)
                      refine Or.inl ⟨want_of (congrArg some e1.1) rfl, ?_⟩
                      refine rq_less (l' := [rowE 30 2 v11 ((primesN t).length) ((primesN t).flatMap cubC), boxE b6 #[.int .i64 (ca : Int), .int .i64 (va : Int)] 30, boxE b5 #[.int .i64 t.N, .int .i64 t.B] 25]) (sub_cons (d := 72) (congrArg some e7.1) (sub_nil _)) (List.sublist_append_right _ _) ?_
                      exact rq_v (rv_load rfl (by kernel_rfl) rfl (box_cell 1 rfl rfl))
                    ·
                      intro vf pf hR
                      have e1 : (vf 1) = .bool false ∧ (pf 1) = [] := hR 1 (by decide)
                      have e6 : (vf 6) = .int .i64 (((primesN t).getD j c0).1 : Int) ∧ (pf 6) = [] := hR 6 (by decide)
                      have e8 : (vf 8) = .int .i64 (ca : Int) ∧ (pf 8) = [] := hR 8 (by decide)
                      refine Or.inl ⟨want_of (congrArg some e1.1) rfl, ?_⟩
                      refine rq_less (l' := [rowE 30 2 v11 ((primesN t).length) ((primesN t).flatMap cubC), boxE b6 #[.int .i64 (ca : Int), .int .i64 (va : Int)] 30, boxE b5 #[.int .i64 t.N, .int .i64 t.B] 25]) (sub_cons (d := 71) (congrArg some e6.1) (sub_cons (d := 73) (congrArg some e8.1) (sub_nil _))) (List.sublist_append_right _ _) ?_
                      exact rq_v (rv_bits rfl (by decide) rfl rfl (r := bits .andNot .i64 (((primesN t).getD j c0).1 : Int) (ca : Int)) rfl)
                    ·
                      intro vf pf hR
                      have e1 : (vf 1) = .bool false ∧ (pf 1) = [] := hR 1 (by decide)
                      have e9 : (vf 9) = .int .i64 (bits .andNot .i64 (((primesN t).getD j c0).1 : Int) (ca : Int)) ∧ (pf 9) = [] := hR 9 (by decide)
                      refine Or.inl ⟨want_of (congrArg some e1.1) rfl, ?_⟩
                      refine rq_less (l' := [rowE 30 2 v11 ((primesN t).length) ((primesN t).flatMap cubC), boxE b6 #[.int .i64 (ca : Int), .int .i64 (va : Int)] 30, boxE b5 #[.int .i64 t.N, .int .i64 t.B] 25]) (sub_cons (d := 74) (congrArg some e9.1) (sub_nil _)) (List.sublist_append_right _ _) ?_
                      exact rq_mono (rq_v (rv_cmp rfl rfl rfl rfl)) (fun _ _ h => ⟨h.1.trans (congrArg Value.bool hb17), h.2⟩)
                    ·
                      intro vf pf hR
                      have e1 : (vf 1) = .bool false ∧ (pf 1) = [] := hR 1 (by decide)
                      have e10 : (vf 10) = .bool true ∧ (pf 10) = [] := hR 10 (by decide)
                      refine Or.inl ⟨want_of (congrArg some e1.1) rfl, ?_⟩
                      refine rq_less (l' := [rowE 30 2 v11 ((primesN t).length) ((primesN t).flatMap cubC), boxE b6 #[.int .i64 (ca : Int), .int .i64 (va : Int)] 30, boxE b5 #[.int .i64 t.N, .int .i64 t.B] 25]) (sub_cons (d := 75) (congrArg some e10.1) (sub_nil _)) (List.sublist_append_right _ _) ?_
                      exact rq_v (rv_ev rfl)
                    ·
                      intro vf pf hR
                      have e11 : (vf 11) = .bool true ∧ (pf 11) = [] := hR 11 (by decide)
                      refine Or.inl ⟨want_of (congrArg some e11.1) rfl, ?_⟩
                      refine rq_less (l' := [rowE 30 2 v11 ((primesN t).length) ((primesN t).flatMap cubC), boxE b6 #[.int .i64 (ca : Int), .int .i64 (va : Int)] 30, boxE b5 #[.int .i64 t.N, .int .i64 t.B] 25]) (sub_cons (d := 6) rfl (sub_nil _)) (List.sublist_append_right _ _) ?_
                      exact rq_v (rv_field (k0 := 1) rfl (by kernel_rfl) rfl)
                    ·
                      intro vf pf hR
                      have e11 : (vf 11) = .bool true ∧ (pf 11) = [] := hR 11 (by decide)
                      have e12 : (vf 12) = .pointer (some ⟨b6, 0 + 1, none⟩) ∧ (pf 12) = [] := hR 12 (by decide)
                      refine Or.inl ⟨want_of (congrArg some e11.1) rfl, ?_⟩
                      refine rq_less (l' := [rowE 30 2 v11 ((primesN t).length) ((primesN t).flatMap cubC), boxE b6 #[.int .i64 (ca : Int), .int .i64 (va : Int)] 30, boxE b5 #[.int .i64 t.N, .int .i64 t.B] 25]) (sub_cons (d := 77) (congrArg some e12.1) (sub_nil _)) (List.sublist_append_right _ _) ?_
                      exact rq_v (rv_load rfl (by kernel_rfl) rfl (box_cell 1 rfl rfl))
                    ·
                      intro vf pf hR
                      have e11 : (vf 11) = .bool true ∧ (pf 11) = [] := hR 11 (by decide)
                      refine Or.inl ⟨want_of (congrArg some e11.1) rfl, ?_⟩
                      refine rq_less (l' := [rowE 30 2 v11 ((primesN t).length) ((primesN t).flatMap cubC), boxE b6 #[.int .i64 (ca : Int), .int .i64 (va : Int)] 30, boxE b5 #[.int .i64 t.N, .int .i64 t.B] 25]) (sub_cons (d := 9) rfl (sub_nil _)) (List.sublist_append_right _ _) ?_
                      exact rq_v (rv_ev rfl)
                    ·
                      intro vf pf hR
                      have e11 : (vf 11) = .bool true ∧ (pf 11) = [] := hR 11 (by decide)
                      refine Or.inl ⟨want_of (congrArg some e11.1) rfl, ?_⟩
                      refine rq_less (l' := [rowE 30 2 v11 ((primesN t).length) ((primesN t).flatMap cubC), boxE b6 #[.int .i64 (ca : Int), .int .i64 (va : Int)] 30, boxE b5 #[.int .i64 t.N, .int .i64 t.B] 25]) (sub_cons (d := 11) rfl (sub_nil _)) (List.sublist_append_right _ _) ?_
                      exact rq_v (rv_ev rfl)
                    ·
                      intro vf pf hR
                      have e11 : (vf 11) = .bool true ∧ (pf 11) = [] := hR 11 (by decide)
                      have e14 : (vf 14) = v11 ∧ (pf 14) = [] := hR 14 (by decide)
                      have e15 : (vf 15) = .int .i64 (j : Int) ∧ (pf 15) = [] := hR 15 (by decide)
                      refine Or.inl ⟨want_of (congrArg some e11.1) rfl, ?_⟩
                      refine rq_less (l' := [rowE 30 2 v11 ((primesN t).length) ((primesN t).flatMap cubC), boxE b6 #[.int .i64 (ca : Int), .int .i64 (va : Int)] 30, boxE b5 #[.int .i64 t.N, .int .i64 t.B] 25]) (sub_cons (d := 79) (congrArg some e14.1) (sub_cons (d := 80) (congrArg some e15.1) (sub_nil _))) (List.sublist_append_right _ _) ?_
                      exact rq_v (rv_index (s := 2) rfl Try.underlying33 (by kernel_rfl) rfl rfl (rd_row 0 rfl) (by omega) (by first | omega | (simp only [List.length_set]; omega)))
                    ·
                      intro vf pf hR
                      have e11 : (vf 11) = .bool true ∧ (pf 11) = [] := hR 11 (by decide)
                      have e16 : (vf 16) = elP v11 (((j : Int)).toNat * 2) ∧ (pf 16) = [] := hR 16 (by decide)
                      refine Or.inl ⟨want_of (congrArg some e11.1) rfl, ?_⟩
                      refine rq_less (l' := [rowE 30 2 v11 ((primesN t).length) ((primesN t).flatMap cubC), boxE b6 #[.int .i64 (ca : Int), .int .i64 (va : Int)] 30, boxE b5 #[.int .i64 t.N, .int .i64 t.B] 25]) (sub_cons (d := 81) (congrArg some e16.1) (sub_nil _)) (List.sublist_append_right _ _) ?_
                      exact rq_v (rv_fieldEl (k0 := 0) rfl (by kernel_rfl) rfl (rd_row 0 rfl) (by first | omega | (simp only [List.length_set]; omega)))
                    ·
                      intro vf pf hR
                      have e11 : (vf 11) = .bool true ∧ (pf 11) = [] := hR 11 (by decide)
                      have e17 : (vf 17) = elP v11 (((j : Int)).toNat * 2 + 0) ∧ (pf 17) = [] := hR 17 (by decide)
                      refine Or.inl ⟨want_of (congrArg some e11.1) rfl, ?_⟩
                      refine rq_less (l' := [rowE 30 2 v11 ((primesN t).length) ((primesN t).flatMap cubC), boxE b6 #[.int .i64 (ca : Int), .int .i64 (va : Int)] 30, boxE b5 #[.int .i64 t.N, .int .i64 t.B] 25]) (sub_cons (d := 82) (congrArg some e17.1) (sub_nil _)) (List.sublist_append_right _ _) ?_
                      exact rq_v (rv_loadEl (u := .int .i64 (((primesN t).getD j c0).1 : Int)) rfl (by kernel_rfl) rfl (rd_row 0 rfl) ((flat_at cubC 2 (fun _ => rfl) (primesN t) c0 (show j < _ by first | omega | (simp only [List.length_set]; omega)) (by decide)).trans rfl))
                    ·
                      intro vf pf hR
                      have e11 : (vf 11) = .bool true ∧ (pf 11) = [] := hR 11 (by decide)
                      have e13 : (vf 13) = .int .i64 (va : Int) ∧ (pf 13) = [] := hR 13 (by decide)
                      have e18 : (vf 18) = .int .i64 (((primesN t).getD j c0).1 : Int) ∧ (pf 18) = [] := hR 18 (by decide)
                      refine Or.inl ⟨want_of (congrArg some e11.1) rfl, ?_⟩
                      refine rq_less (l' := [rowE 30 2 v11 ((primesN t).length) ((primesN t).flatMap cubC), boxE b6 #[.int .i64 (ca : Int), .int .i64 (va : Int)] 30, boxE b5 #[.int .i64 t.N, .int .i64 t.B] 25]) (sub_cons (d := 78) (congrArg some e13.1) (sub_cons (d := 83) (congrArg some e18.1) (sub_nil _))) (List.sublist_append_right _ _) ?_
                      exact rq_v (rv_bits rfl (by decide) rfl rfl (r := ((va &&& ((primesN t).getD j c0).1 : Nat) : Int)) (Bit.and_nat _ _ (by omega) (by omega)))
                    ·
                      intro vf pf hR
                      have e11 : (vf 11) = .bool true ∧ (pf 11) = [] := hR 11 (by decide)
                      refine Or.inl ⟨want_of (congrArg some e11.1) rfl, ?_⟩
                      refine rq_less (l' := [rowE 30 2 v11 ((primesN t).length) ((primesN t).flatMap cubC), boxE b6 #[.int .i64 (ca : Int), .int .i64 (va : Int)] 30, boxE b5 #[.int .i64 t.N, .int .i64 t.B] 25]) (sub_cons (d := 9) rfl (sub_nil _)) (List.sublist_append_right _ _) ?_
                      exact rq_v (rv_ev rfl)
                    ·
                      intro vf pf hR
                      have e11 : (vf 11) = .bool true ∧ (pf 11) = [] := hR 11 (by decide)
                      refine Or.inl ⟨want_of (congrArg some e11.1) rfl, ?_⟩
                      refine rq_less (l' := [rowE 30 2 v11 ((primesN t).length) ((primesN t).flatMap cubC), boxE b6 #[.int .i64 (ca : Int), .int .i64 (va : Int)] 30, boxE b5 #[.int .i64 t.N, .int .i64 t.B] 25]) (sub_cons (d := 11) rfl (sub_nil _)) (List.sublist_append_right _ _) ?_
                      exact rq_v (rv_ev rfl)
                    ·
                      intro vf pf hR
                      have e11 : (vf 11) = .bool true ∧ (pf 11) = [] := hR 11 (by decide)
                      have e20 : (vf 20) = v11 ∧ (pf 20) = [] := hR 20 (by decide)
                      have e21 : (vf 21) = .int .i64 (j : Int) ∧ (pf 21) = [] := hR 21 (by decide)
                      refine Or.inl ⟨want_of (congrArg some e11.1) rfl, ?_⟩
                      refine rq_less (l' := [rowE 30 2 v11 ((primesN t).length) ((primesN t).flatMap cubC), boxE b6 #[.int .i64 (ca : Int), .int .i64 (va : Int)] 30, boxE b5 #[.int .i64 t.N, .int .i64 t.B] 25]) (sub_cons (d := 85) (congrArg some e20.1) (sub_cons (d := 86) (congrArg some e21.1) (sub_nil _))) (List.sublist_append_right _ _) ?_
                      exact rq_v (rv_index (s := 2) rfl Try.underlying33 (by kernel_rfl) rfl rfl (rd_row 0 rfl) (by omega) (by first | omega | (simp only [List.length_set]; omega)))
                    ·
                      intro vf pf hR
                      have e11 : (vf 11) = .bool true ∧ (pf 11) = [] := hR 11 (by decide)
                      have e22 : (vf 22) = elP v11 (((j : Int)).toNat * 2) ∧ (pf 22) = [] := hR 22 (by decide)
                      refine Or.inl ⟨want_of (congrArg some e11.1) rfl, ?_⟩
                      refine rq_less (l' := [rowE 30 2 v11 ((primesN t).length) ((primesN t).flatMap cubC), boxE b6 #[.int .i64 (ca : Int), .int .i64 (va : Int)] 30, boxE b5 #[.int .i64 t.N, .int .i64 t.B] 25]) (sub_cons (d := 87) (congrArg some e22.1) (sub_nil _)) (List.sublist_append_right _ _) ?_
                      exact rq_v (rv_fieldEl (k0 := 1) rfl (by kernel_rfl) rfl (rd_row 0 rfl) (by first | omega | (simp only [List.length_set]; omega)))
                    ·
                      intro vf pf hR
                      have e11 : (vf 11) = .bool true ∧ (pf 11) = [] := hR 11 (by decide)
                      have e23 : (vf 23) = elP v11 (((j : Int)).toNat * 2 + 1) ∧ (pf 23) = [] := hR 23 (by decide)
                      refine Or.inl ⟨want_of (congrArg some e11.1) rfl, ?_⟩
                      refine rq_less (l' := [rowE 30 2 v11 ((primesN t).length) ((primesN t).flatMap cubC), boxE b6 #[.int .i64 (ca : Int), .int .i64 (va : Int)] 30, boxE b5 #[.int .i64 t.N, .int .i64 t.B] 25]) (sub_cons (d := 88) (congrArg some e23.1) (sub_nil _)) (List.sublist_append_right _ _) ?_
                      exact rq_v (rv_loadEl (u := .int .i64 (((primesN t).getD j c0).2 : Int)) rfl (by kernel_rfl) rfl (rd_row 0 rfl) ((flat_at cubC 2 (fun _ => rfl) (primesN t) c0 (show j < _ by first | omega | (simp only [List.length_set]; omega)) (by decide)).trans rfl))
                    ·
                      intro vf pf hR
                      have e11 : (vf 11) = .bool true ∧ (pf 11) = [] := hR 11 (by decide)
                      have e19 : (vf 19) = .int .i64 ((va &&& ((primesN t).getD j c0).1 : Nat) : Int) ∧ (pf 19) = [] := hR 19 (by decide)
                      have e24 : (vf 24) = .int .i64 (((primesN t).getD j c0).2 : Int) ∧ (pf 24) = [] := hR 24 (by decide)
                      refine Or.inl ⟨want_of (congrArg some e11.1) rfl, ?_⟩
                      refine rq_less (l' := [rowE 30 2 v11 ((primesN t).length) ((primesN t).flatMap cubC), boxE b6 #[.int .i64 (ca : Int), .int .i64 (va : Int)] 30, boxE b5 #[.int .i64 t.N, .int .i64 t.B] 25]) (sub_cons (d := 84) (congrArg some e19.1) (sub_cons (d := 89) (congrArg some e24.1) (sub_nil _))) (List.sublist_append_right _ _) ?_
                      exact rq_mono (rq_v (rv_cmp rfl rfl rfl rfl)) (fun _ _ h => ⟨h.1.trans (congrArg Value.bool hb18), h.2⟩)
                    ·
                      intro vf pf hR
                      have e1 : (vf 1) = .bool false ∧ (pf 1) = [] := hR 1 (by decide)
                      have e11 : (vf 11) = .bool true ∧ (pf 11) = [] := hR 11 (by decide)
                      have e25 : (vf 25) = .bool true ∧ (pf 25) = [] := hR 25 (by decide)
                      refine Or.inl ⟨want_of (congrArg some e1.1) rfl, ?_⟩
                      refine rq_less (l' := [rowE 30 2 v11 ((primesN t).length) ((primesN t).flatMap cubC), boxE b6 #[.int .i64 (ca : Int), .int .i64 (va : Int)] 30, boxE b5 #[.int .i64 t.N, .int .i64 t.B] 25]) (sub_cons (d := 76) (congrArg some e11.1) (sub_cons (d := 90) (congrArg some e25.1) (sub_nil _))) (List.sublist_append_right _ _) ?_
                      exact rq_v (rv_ev rfl)
                    ·
                      intro vf pf hR
                      have e1 : (vf 1) = .bool false ∧ (pf 1) = [] := hR 1 (by decide)
                      have e26 : (vf 26) = .bool true ∧ (pf 26) = [] := hR 26 (by decide)
                      refine Or.inl ⟨rfl, ?_⟩
                      refine rq_less (l' := [rowE 30 2 v11 ((primesN t).length) ((primesN t).flatMap cubC), boxE b6 #[.int .i64 (ca : Int), .int .i64 (va : Int)] 30, boxE b5 #[.int .i64 t.N, .int .i64 t.B] 25]) (sub_cons (d := 66) (congrArg some e1.1) (sub_cons (d := 91) (congrArg some e26.1) (sub_nil _))) (List.sublist_append_right _ _) ?_
                      exact rq_v (rv_ev rfl)
                  ·
                    intro vf pf hR
                    have e27 : (vf 27) = .bool true ∧ (pf 27) = [] := hR 27 (by decide)
                    refine hl_less (l' := [rowE 30 2 v11 ((primesN t).length) ((primesN t).flatMap cubC), boxE b6 #[.int .i64 (ca : Int), .int .i64 (va : Int)] 30, boxE b5 #[.int .i64 t.N, .int .i64 t.B] 25]) (sub_cons (d := 0) rfl (sub_cons (d := 2) rfl (sub_cons (d := 3) rfl (sub_cons (d := 5) rfl (sub_cons (d := 6) rfl (sub_cons (d := 7) rfl (sub_cons (d := 8) rfl (sub_cons (d := 9) rfl (sub_cons (d := 10) rfl (sub_cons (d := 11) rfl (sub_cons (d := 13) rfl (sub_cons (d := 35) rfl (sub_cons (d := 54) rfl (sub_cons (d := 64) rfl (sub_cons (d := 92) (congrArg some e27.1) (sub_nil _)))))))))))))))) (List.sublist_append_right _ _) ?_
                    simp only [List.drop_succ_cons, List.drop_zero]
                    refine hl_v rfl rfl rfl (rv_ev rfl) ?_
                    refine hl_less (sub_cons (d := 0) rfl (sub_cons (d := 2) rfl (sub_cons (d := 3) rfl (sub_cons (d := 5) rfl (sub_cons (d := 6) rfl (sub_cons (d := 7) rfl (sub_cons (d := 8) rfl (sub_cons (d := 9) rfl (sub_cons (d := 10) rfl (sub_cons (d := 11) rfl (sub_cons (d := 13) rfl (sub_cons (d := 35) rfl (sub_cons (d := 54) rfl (sub_cons (d := 64) rfl (sub_nil _))))))))))))))) (.refl _) ?_
                    refine hl_nil ?_
                    refine hq_block_normal ?_
                    refine hq_then ?_
                    refine hc_region ?_
                    refine hl_v rfl rfl rfl (rv_ev rfl) ?_
                    refine hl_v rfl rfl rfl (rv_add rfl rfl rfl (by constructor <;> omega)) ?_
                    refine hl_v rfl rfl rfl (rv_ev rfl) ?_
                    refine hl_less (sub_cons (d := 0) rfl (sub_cons (d := 2) rfl (sub_cons (d := 3) rfl (sub_cons (d := 5) rfl (sub_cons (d := 6) rfl (sub_cons (d := 7) rfl (sub_cons (d := 8) rfl (sub_cons (d := 9) rfl (sub_cons (d := 10) rfl (sub_cons (d := 11) rfl (sub_cons (d := 13) rfl (sub_cons (d := 35) rfl (sub_cons (d := 54) rfl (sub_cons (d := 64) rfl (sub_nil _))))))))))))))) (.refl _) ?_
                    refine hl_nil ?_
                    have hst : true = (ib || cov1 ((primesN t).getD j c0) (ca, va)) := by first | exact in_yes (p := ((primesN t).getD j c0)) (ca := ca) (va := va) (by assumption) | exact in_ok (p := ((primesN t).getD j c0)) (ca := ca) (va := va) hj16.1 (by omega) (by assumption) (by omega)
                    exact hq_round2 (j + 1) true ⟨by omega, by rw [any_snoc c0 _ (by omega), ← hi]; exact hst⟩ (by omega) (sub_cons (d := 0) rfl (sub_cons (d := 2) rfl (sub_cons (d := 3) rfl (sub_cons (d := 5) rfl (sub_cons (d := 6) rfl (sub_cons (d := 7) rfl (sub_cons (d := 8) rfl (sub_cons (d := 9) rfl (sub_cons (d := 10) rfl (sub_cons (d := 11) rfl (sub_cons (d := 13) rfl (sub_cons (d := 35) rfl (sub_nil _))))))))))))) ((.cons_cons _ (.cons_cons _ (.cons_cons _ .slnil))))
                ·
                  have hb18p : ((va &&& ((primesN t).getD j c0).1 : Nat) : Int) ≠ (((primesN t).getD j c0).2 : Int) := beq_eq_false_iff_ne.1 hb18
                  refine hc_draw (by kernel_rfl) 28 [0, 1, 2, 3, 4, 5, 6, 7, 8, 9, 10, 11, 12, 13, 14, 15, 16, 17, 18, 19, 20, 21, 22, 23, 24, 25, 26, 27] (List.take 28 _) (List.drop 28 _) [[], [0], [1], [1], [1, 2, 3], [1, 4], [1, 5], [1], [1, 7], [1, 6, 8], [1, 9], [1, 10], [11], [11, 12], [11], [11], [11, 14, 15], [11, 16], [11, 17], [11, 13, 18], [11], [11], [11, 20, 21], [11, 22], [11, 23], [11, 19, 24], [1, 11, 25], [1, 26]] [65, 66, 67, 68, 69, 70, 71, 72, 73, 74, 75, 76, 77, 78, 79, 80, 81, 82, 83, 84, 85, 86, 87, 88, 89, 90, 91, 92] (fun i vs_ v_ p_ => match i with | 0 => v_ = .bool false ∧ p_ = [] | 1 => v_ = .bool false ∧ p_ = [] | 2 => v_ = v11 ∧ p_ = [] | 3 => v_ = .int .i64 (j : Int) ∧ p_ = [] | 4 => v_ = elP v11 (((j : Int)).toNat * 2) ∧ p_ = [] | 5 => v_ = elP v11 (((j : Int)).toNat * 2 + 0) ∧ p_ = [] | 6 => v_ = .int .i64 (((primesN t).getD j c0).1 : Int) ∧ p_ = [] | 7 => v_ = .pointer (some ⟨b6, 0 + 0, none⟩) ∧ p_ = [] | 8 => v_ = .int .i64 (ca : Int) ∧ p_ = [] | 9 => v_ = .int .i64 (bits .andNot .i64 (((primesN t).getD j c0).1 : Int) (ca : Int)) ∧ p_ = [] | 10 => v_ = .bool true ∧ p_ = [] | 11 => v_ = .bool true ∧ p_ = [] | 12 => v_ = .pointer (some ⟨b6, 0 + 1, none⟩) ∧ p_ = [] | 13 => v_ = .int .i64 (va : Int) ∧ p_ = [] | 14 => v_ = v11 ∧ p_ = [] | 15 => v_ = .int .i64 (j : Int) ∧ p_ = [] | 16 => v_ = elP v11 (((j : Int)).toNat * 2) ∧ p_ = [] | 17 => v_ = elP v11 (((j : Int)).toNat * 2 + 0) ∧ p_ = [] | 18 => v_ = .int .i64 (((primesN t).getD j c0).1 : Int) ∧ p_ = [] | 19 => v_ = .int .i64 ((va &&& ((primesN t).getD j c0).1 : Nat) : Int) ∧ p_ = [] | 20 => v_ = v11 ∧ p_ = [] | 21 => v_ = .int .i64 (j : Int) ∧ p_ = [] | 22 => v_ = elP v11 (((j : Int)).toNat * 2) ∧ p_ = [] | 23 => v_ = elP v11 (((j : Int)).toNat * 2 + 1) ∧ p_ = [] | 24 => v_ = .int .i64 (((primesN t).getD j c0).2 : Int) ∧ p_ = [] | 25 => v_ = .bool false ∧ p_ = [] | 26 => v_ = .bool false ∧ p_ = [] | 27 => v_ = .bool false ∧ p_ = [] | _ => True) (List.take_append_drop 28 _).symm (by kernel_rfl) (by kernel_rfl) rfl rfl ?_ ?_
                  ·
                    refine ⟨?_, ?_, ?_, ?_, ?_, ?_, ?_, ?_, ?_, ?_, ?_, ?_, ?_, ?_, ?_, ?_, ?_, ?_, ?_, ?_, ?_, ?_, ?_, ?_, ?_, ?_, ?_, ?_, trivial⟩
                    ·
                      intro vf pf hR
                      refine Or.inl ⟨rfl, ?_⟩
                      refine rq_less (l' := [rowE 30 2 v11 ((primesN t).length) ((primesN t).flatMap cubC), boxE b6 #[.int .i64 (ca : Int), .int .i64 (va : Int)] 30, boxE b5 #[.int .i64 t.N, .int .i64 t.B] 25]) (sub_cons (d := 10) rfl (sub_nil _)) (List.sublist_append_right _ _) ?_
                      exact rq_mono (rq_v (rv_ev rfl)) (fun _ _ h => ⟨h.1.trans (congrArg Value.bool hb16), h.2⟩)
                    ·
                      intro vf pf hR
                      have e0 : (vf 0) = .bool false ∧ (pf 0) = [] := hR 0 (by decide)
                      refine Or.inl ⟨rfl, ?_⟩
                      refine rq_less (l' := [rowE 30 2 v11 ((primesN t).length) ((primesN t).flatMap cubC), boxE b6 #[.int .i64 (ca : Int), .int .i64 (va : Int)] 30, boxE b5 #[.int .i64 t.N, .int .i64 t.B] 25]) (sub_cons (d := 65) (congrArg some e0.1) (sub_nil _)) (List.sublist_append_right _ _) ?_
                      exact rq_v (rv_ev rfl)
                    ·
                      intro vf pf hR
                      have e1 : (vf 1) = .bool false ∧ (pf 1) = [] := hR 1 (by decide)
                      refine Or.inl ⟨want_of (congrArg some e1.1) rfl, ?_⟩
                      refine rq_less (l' := [rowE 30 2 v11 ((primesN t).length) ((primesN t).flatMap cubC), boxE b6 #[.int .i64 (ca : Int), .int .i64 (va : Int)] 30, boxE b5 #[.int .i64 t.N, .int .i64 t.B] 25]) (sub_cons (d := 9) rfl (sub_nil _)) (List.sublist_append_right _ _) ?_
                      exact rq_v (rv_ev rfl)
                    ·
                      intro vf pf hR
                      have e1 : (vf 1) = .bool false ∧ (pf 1) = [] := hR 1 (by decide)
                      refine Or.inl ⟨want_of (congrArg some e1.1) rfl, ?_⟩
                      refine rq_less (l' := [rowE 30 2 v11 ((primesN t).length) ((primesN t).flatMap cubC), boxE b6 #[.int .i64 (ca : Int), .int .i64 (va : Int)] 30, boxE b5 #[.int .i64 t.N, .int .i64 t.B] 25]) (sub_cons (d := 11) rfl (sub_nil _)) (List.sublist_append_right _ _) ?_
                      exact rq_v (rv_ev rfl)
                    ·
                      intro vf pf hR
                      have e1 : (vf 1) = .bool false ∧ (pf 1) = [] := hR 1 (by decide)
                      have e2 : (vf 2) = v11 ∧ (pf 2) = [] := hR 2 (by decide)
                      have e3 : (vf 3) = .int .i64 (j : Int) ∧ (pf 3) = [] := hR 3 (by decide)
                      refine Or.inl ⟨want_of (congrArg some e1.1) rfl, ?_⟩
                      refine rq_less (l' := [rowE 30 2 v11 ((primesN t).length) ((primesN t).flatMap cubC), boxE b6 #[.int .i64 (ca : Int), .int .i64 (va : Int)] 30, boxE b5 #[.int .i64 t.N, .int .i64 t.B] 25]) (sub_cons (d := 67) (congrArg some e2.1) (sub_cons (d := 68) (congrArg some e3.1) (sub_nil _))) (List.sublist_append_right _ _) ?_
                      exact rq_v (rv_index (s := 2) rfl Try.underlying33 (by kernel_rfl) rfl rfl (rd_row 0 rfl) (by omega) (by first | omega | (simp only [List.length_set]; omega)))
                    ·
                      intro vf pf hR
                      have e1 : (vf 1) = .bool false ∧ (pf 1) = [] := hR 1 (by decide)
                      have e4 : (vf 4) = elP v11 (((j : Int)).toNat * 2) ∧ (pf 4) = [] := hR 4 (by decide)
                      refine Or.inl ⟨want_of (congrArg some e1.1) rfl, ?_⟩
                      refine rq_less (l' := [rowE 30 2 v11 ((primesN t).length) ((primesN t).flatMap cubC), boxE b6 #[.int .i64 (ca : Int), .int .i64 (va : Int)] 30, boxE b5 #[.int .i64 t.N, .int .i64 t.B] 25]) (sub_cons (d := 69) (congrArg some e4.1) (sub_nil _)) (List.sublist_append_right _ _) ?_
                      exact rq_v (rv_fieldEl (k0 := 0) rfl (by kernel_rfl) rfl (rd_row 0 rfl) (by first | omega | (simp only [List.length_set]; omega)))
                    ·
                      intro vf pf hR
                      have e1 : (vf 1) = .bool false ∧ (pf 1) = [] := hR 1 (by decide)
                      have e5 : (vf 5) = elP v11 (((j : Int)).toNat * 2 + 0) ∧ (pf 5) = [] := hR 5 (by decide)
                      refine Or.inl ⟨want_of (congrArg some e1.1) rfl, ?_⟩
                      refine rq_less (l' := [rowE 30 2 v11 ((primesN t).length) ((primesN t).flatMap cubC), boxE b6 #[.int .i64 (ca : Int), .int .i64 (va : Int)] 30, boxE b5 #[.int .i64 t.N, .int .i64 t.B] 25]) (sub_cons (d := 70) (congrArg some e5.1) (sub_nil _)) (List.sublist_append_right _ _) ?_
                      exact rq_v (rv_loadEl (u := .int .i64 (((primesN t).getD j c0).1 : Int)) rfl (by kernel_rfl) rfl (rd_row 0 rfl) ((flat_at cubC 2 (fun _ => rfl) (primesN t) c0 (show j < _ by first | omega | (simp only [List.length_set]; omega)) (by decide)).trans rfl))
                    ·
                      intro vf pf hR
                      have e1 : (vf 1) = .bool false ∧ (pf 1) = [] := hR 1 (by decide)
                      refine Or.inl ⟨want_of (congrArg some e1.1) rfl, ?_⟩
                      refine rq_less (l' := [rowE 30 2 v11 ((primesN t).length) ((primesN t).flatMap cubC), boxE b6 #[.int .i64 (ca : Int), .int .i64 (va : Int)] 30, boxE b5 #[.int .i64 t.N, .int .i64 t.B] 25]) (sub_cons (d := 6) rfl (sub_nil _)) (List.sublist_append_right _ _) ?_
                      exact rq_v (rv_field (k0 := 0) rfl (by kernel_rfl) rfl)
                    ·
                      intro vf pf hR
                      have e1 : (vf 1) = .bool false ∧ (pf 1) = [] := hR 1 (by decide)
                      have e7 : (vf 7) = .pointer (some ⟨b6, 0 + 0, none⟩) ∧ (pf 7) = [] := hR 7 (by decide)
                      refine Or.inl ⟨want_of (congrArg some e1.1) rfl, ?_⟩
                      refine rq_less (l' := [rowE 30 2 v11 ((primesN t).length) ((primesN t).flatMap cubC), boxE b6 #[.int .i64 (ca : Int), .int .i64 (va : Int)] 30, boxE b5 #[.int .i64 t.N, .int .i64 t.B] 25]) (sub_cons (d := 72) (congrArg some e7.1) (sub_nil _)) (List.sublist_append_right _ _) ?_
                      exact rq_v (rv_load rfl (by kernel_rfl) rfl (box_cell 1 rfl rfl))
                    ·
                      intro vf pf hR
                      have e1 : (vf 1) = .bool false ∧ (pf 1) = [] := hR 1 (by decide)
                      have e6 : (vf 6) = .int .i64 (((primesN t).getD j c0).1 : Int) ∧ (pf 6) = [] := hR 6 (by decide)
                      have e8 : (vf 8) = .int .i64 (ca : Int) ∧ (pf 8) = [] := hR 8 (by decide)
                      refine Or.inl ⟨want_of (congrArg some e1.1) rfl, ?_⟩
                      refine rq_less (l' := [rowE 30 2 v11 ((primesN t).length) ((primesN t).flatMap cubC), boxE b6 #[.int .i64 (ca : Int), .int .i64 (va : Int)] 30, boxE b5 #[.int .i64 t.N, .int .i64 t.B] 25]) (sub_cons (d := 71) (congrArg some e6.1) (sub_cons (d := 73) (congrArg some e8.1) (sub_nil _))) (List.sublist_append_right _ _) ?_
                      exact rq_v (rv_bits rfl (by decide) rfl rfl (r := bits .andNot .i64 (((primesN t).getD j c0).1 : Int) (ca : Int)) rfl)
                    ·
                      intro vf pf hR
                      have e1 : (vf 1) = .bool false ∧ (pf 1) = [] := hR 1 (by decide)
                      have e9 : (vf 9) = .int .i64 (bits .andNot .i64 (((primesN t).getD j c0).1 : Int) (ca : Int)) ∧ (pf 9) = [] := hR 9 (by decide)
                      refine Or.inl ⟨want_of (congrArg some e1.1) rfl, ?_⟩
                      refine rq_less (l' := [rowE 30 2 v11 ((primesN t).length) ((primesN t).flatMap cubC), boxE b6 #[.int .i64 (ca : Int), .int .i64 (va : Int)] 30, boxE b5 #[.int .i64 t.N, .int .i64 t.B] 25]) (sub_cons (d := 74) (congrArg some e9.1) (sub_nil _)) (List.sublist_append_right _ _) ?_
                      exact rq_mono (rq_v (rv_cmp rfl rfl rfl rfl)) (fun _ _ h => ⟨h.1.trans (congrArg Value.bool hb17), h.2⟩)
                    ·
                      intro vf pf hR
                      have e1 : (vf 1) = .bool false ∧ (pf 1) = [] := hR 1 (by decide)
                      have e10 : (vf 10) = .bool true ∧ (pf 10) = [] := hR 10 (by decide)
                      refine Or.inl ⟨want_of (congrArg some e1.1) rfl, ?_⟩
                      refine rq_less (l' := [rowE 30 2 v11 ((primesN t).length) ((primesN t).flatMap cubC), boxE b6 #[.int .i64 (ca : Int), .int .i64 (va : Int)] 30, boxE b5 #[.int .i64 t.N, .int .i64 t.B] 25]) (sub_cons (d := 75) (congrArg some e10.1) (sub_nil _)) (List.sublist_append_right _ _) ?_
                      exact rq_v (rv_ev rfl)
                    ·
                      intro vf pf hR
                      have e11 : (vf 11) = .bool true ∧ (pf 11) = [] := hR 11 (by decide)
                      refine Or.inl ⟨want_of (congrArg some e11.1) rfl, ?_⟩
                      refine rq_less (l' := [rowE 30 2 v11 ((primesN t).length) ((primesN t).flatMap cubC), boxE b6 #[.int .i64 (ca : Int), .int .i64 (va : Int)] 30, boxE b5 #[.int .i64 t.N, .int .i64 t.B] 25]) (sub_cons (d := 6) rfl (sub_nil _)) (List.sublist_append_right _ _) ?_
                      exact rq_v (rv_field (k0 := 1) rfl (by kernel_rfl) rfl)
                    ·
                      intro vf pf hR
                      have e11 : (vf 11) = .bool true ∧ (pf 11) = [] := hR 11 (by decide)
                      have e12 : (vf 12) = .pointer (some ⟨b6, 0 + 1, none⟩) ∧ (pf 12) = [] := hR 12 (by decide)
                      refine Or.inl ⟨want_of (congrArg some e11.1) rfl, ?_⟩
                      refine rq_less (l' := [rowE 30 2 v11 ((primesN t).length) ((primesN t).flatMap cubC), boxE b6 #[.int .i64 (ca : Int), .int .i64 (va : Int)] 30, boxE b5 #[.int .i64 t.N, .int .i64 t.B] 25]) (sub_cons (d := 77) (congrArg some e12.1) (sub_nil _)) (List.sublist_append_right _ _) ?_
                      exact rq_v (rv_load rfl (by kernel_rfl) rfl (box_cell 1 rfl rfl))
                    ·
                      intro vf pf hR
                      have e11 : (vf 11) = .bool true ∧ (pf 11) = [] := hR 11 (by decide)
                      refine Or.inl ⟨want_of (congrArg some e11.1) rfl, ?_⟩
                      refine rq_less (l' := [rowE 30 2 v11 ((primesN t).length) ((primesN t).flatMap cubC), boxE b6 #[.int .i64 (ca : Int), .int .i64 (va : Int)] 30, boxE b5 #[.int .i64 t.N, .int .i64 t.B] 25]) (sub_cons (d := 9) rfl (sub_nil _)) (List.sublist_append_right _ _) ?_
                      exact rq_v (rv_ev rfl)
                    ·
                      intro vf pf hR
                      have e11 : (vf 11) = .bool true ∧ (pf 11) = [] := hR 11 (by decide)
                      refine Or.inl ⟨want_of (congrArg some e11.1) rfl, ?_⟩
                      refine rq_less (l' := [rowE 30 2 v11 ((primesN t).length) ((primesN t).flatMap cubC), boxE b6 #[.int .i64 (ca : Int), .int .i64 (va : Int)] 30, boxE b5 #[.int .i64 t.N, .int .i64 t.B] 25]) (sub_cons (d := 11) rfl (sub_nil _)) (List.sublist_append_right _ _) ?_
                      exact rq_v (rv_ev rfl)
                    ·
                      intro vf pf hR
                      have e11 : (vf 11) = .bool true ∧ (pf 11) = [] := hR 11 (by decide)
                      have e14 : (vf 14) = v11 ∧ (pf 14) = [] := hR 14 (by decide)
                      have e15 : (vf 15) = .int .i64 (j : Int) ∧ (pf 15) = [] := hR 15 (by decide)
                      refine Or.inl ⟨want_of (congrArg some e11.1) rfl, ?_⟩
                      refine rq_less (l' := [rowE 30 2 v11 ((primesN t).length) ((primesN t).flatMap cubC), boxE b6 #[.int .i64 (ca : Int), .int .i64 (va : Int)] 30, boxE b5 #[.int .i64 t.N, .int .i64 t.B] 25]) (sub_cons (d := 79) (congrArg some e14.1) (sub_cons (d := 80) (congrArg some e15.1) (sub_nil _))) (List.sublist_append_right _ _) ?_
                      exact rq_v (rv_index (s := 2) rfl Try.underlying33 (by kernel_rfl) rfl rfl (rd_row 0 rfl) (by omega) (by first | omega | (simp only [List.length_set]; omega)))
                    ·
                      intro vf pf hR
                      have e11 : (vf 11) = .bool true ∧ (pf 11) = [] := hR 11 (by decide)
                      have e16 : (vf 16) = elP v11 (((j : Int)).toNat * 2) ∧ (pf 16) = [] := hR 16 (by decide)
                      refine Or.inl ⟨want_of (congrArg some e11.1) rfl, ?_⟩
                      refine rq_less (l' := [rowE 30 2 v11 ((primesN t).length) ((primesN t).flatMap cubC), boxE b6 #[.int .i64 (ca : Int), .int .i64 (va : Int)] 30, boxE b5 #[.int .i64 t.N, .int .i64 t.B] 25]) (sub_cons (d := 81) (congrArg some e16.1) (sub_nil _)) (List.sublist_append_right _ _) ?_
                      exact rq_v (rv_fieldEl (k0 := 0) rfl (by kernel_rfl) rfl (rd_row 0 rfl) (by first | omega | (simp only [List.length_set]; omega)))
                    ·
                      intro vf pf hR
                      have e11 : (vf 11) = .bool true ∧ (pf 11) = [] := hR 11 (by decide)
                      have e17 : (vf 17) = elP v11 (((j : Int)).toNat * 2 + 0) ∧ (pf 17) = [] := hR 17 (by decide)
                      refine Or.inl ⟨want_of (congrArg some e11.1) rfl, ?_⟩
                      refine rq_less (l' := [rowE 30 2 v11 ((primesN t).length) ((primesN t).flatMap cubC), boxE b6 #[.int .i64 (ca : Int), .int .i64 (va : Int)] 30, boxE b5 #[.int .i64 t.N, .int .i64 t.B] 25]) (sub_cons (d := 82) (congrArg some e17.1) (sub_nil _)) (List.sublist_append_right _ _) ?_
                      exact rq_v (rv_loadEl (u := .int .i64 (((primesN t).getD j c0).1 : Int)) rfl (by kernel_rfl) rfl (rd_row 0 rfl) ((flat_at cubC 2 (fun _ => rfl) (primesN t) c0 (show j < _ by first | omega | (simp only [List.length_set]; omega)) (by decide)).trans rfl))
                    ·
                      intro vf pf hR
                      have e11 : (vf 11) = .bool true ∧ (pf 11) = [] := hR 11 (by decide)
                      have e13 : (vf 13) = .int .i64 (va : Int) ∧ (pf 13) = [] := hR 13 (by decide)
                      have e18 : (vf 18) = .int .i64 (((primesN t).getD j c0).1 : Int) ∧ (pf 18) = [] := hR 18 (by decide)
                      refine Or.inl ⟨want_of (congrArg some e11.1) rfl, ?_⟩
                      refine rq_less (l' := [rowE 30 2 v11 ((primesN t).length) ((primesN t).flatMap cubC), boxE b6 #[.int .i64 (ca : Int), .int .i64 (va : Int)] 30, boxE b5 #[.int .i64 t.N, .int .i64 t.B] 25]) (sub_cons (d := 78) (congrArg some e13.1) (sub_cons (d := 83) (congrArg some e18.1) (sub_nil _))) (List.sublist_append_right _ _) ?_
                      exact rq_v (rv_bits rfl (by decide) rfl rfl (r := ((va &&& ((primesN t).getD j c0).1 : Nat) : Int)) (Bit.and_nat _ _ (by omega) (by omega)))
                    ·
                      intro vf pf hR
                      have e11 : (vf 11) = .bool true ∧ (pf 11) = [] := hR 11 (by decide)
                      refine Or.inl ⟨want_of (congrArg some e11.1) rfl, ?_⟩
                      refine rq_less (l' := [rowE 30 2 v11 ((primesN t).length) ((primesN t).flatMap cubC), boxE b6 #[.int .i64 (ca : Int), .int .i64 (va : Int)] 30, boxE b5 #[.int .i64 t.N, .int .i64 t.B] 25]) (sub_cons (d := 9) rfl (sub_nil _)) (List.sublist_append_right _ _) ?_
                      exact rq_v (rv_ev rfl)
                    ·
                      intro vf pf hR
                      have e11 : (vf 11) = .bool true ∧ (pf 11) = [] := hR 11 (by decide)
                      refine Or.inl ⟨want_of (congrArg some e11.1) rfl, ?_⟩
                      refine rq_less (l' := [rowE 30 2 v11 ((primesN t).length) ((primesN t).flatMap cubC), boxE b6 #[.int .i64 (ca : Int), .int .i64 (va : Int)] 30, boxE b5 #[.int .i64 t.N, .int .i64 t.B] 25]) (sub_cons (d := 11) rfl (sub_nil _)) (List.sublist_append_right _ _) ?_
                      exact rq_v (rv_ev rfl)
                    ·
                      intro vf pf hR
                      have e11 : (vf 11) = .bool true ∧ (pf 11) = [] := hR 11 (by decide)
                      have e20 : (vf 20) = v11 ∧ (pf 20) = [] := hR 20 (by decide)
                      have e21 : (vf 21) = .int .i64 (j : Int) ∧ (pf 21) = [] := hR 21 (by decide)
                      refine Or.inl ⟨want_of (congrArg some e11.1) rfl, ?_⟩
                      refine rq_less (l' := [rowE 30 2 v11 ((primesN t).length) ((primesN t).flatMap cubC), boxE b6 #[.int .i64 (ca : Int), .int .i64 (va : Int)] 30, boxE b5 #[.int .i64 t.N, .int .i64 t.B] 25]) (sub_cons (d := 85) (congrArg some e20.1) (sub_cons (d := 86) (congrArg some e21.1) (sub_nil _))) (List.sublist_append_right _ _) ?_
                      exact rq_v (rv_index (s := 2) rfl Try.underlying33 (by kernel_rfl) rfl rfl (rd_row 0 rfl) (by omega) (by first | omega | (simp only [List.length_set]; omega)))
                    ·
                      intro vf pf hR
                      have e11 : (vf 11) = .bool true ∧ (pf 11) = [] := hR 11 (by decide)
                      have e22 : (vf 22) = elP v11 (((j : Int)).toNat * 2) ∧ (pf 22) = [] := hR 22 (by decide)
                      refine Or.inl ⟨want_of (congrArg some e11.1) rfl, ?_⟩
                      refine rq_less (l' := [rowE 30 2 v11 ((primesN t).length) ((primesN t).flatMap cubC), boxE b6 #[.int .i64 (ca : Int), .int .i64 (va : Int)] 30, boxE b5 #[.int .i64 t.N, .int .i64 t.B] 25]) (sub_cons (d := 87) (congrArg some e22.1) (sub_nil _)) (List.sublist_append_right _ _) ?_
                      exact rq_v (rv_fieldEl (k0 := 1) rfl (by kernel_rfl) rfl (rd_row 0 rfl) (by first | omega | (simp only [List.length_set]; omega)))
                    ·
                      intro vf pf hR
                      have e11 : (vf 11) = .bool true ∧ (pf 11) = [] := hR 11 (by decide)
                      have e23 : (vf 23) = elP v11 (((j : Int)).toNat * 2 + 1) ∧ (pf 23) = [] := hR 23 (by decide)
                      refine Or.inl ⟨want_of (congrArg some e11.1) rfl, ?_⟩
                      refine rq_less (l' := [rowE 30 2 v11 ((primesN t).length) ((primesN t).flatMap cubC), boxE b6 #[.int .i64 (ca : Int), .int .i64 (va : Int)] 30, boxE b5 #[.int .i64 t.N, .int .i64 t.B] 25]) (sub_cons (d := 88) (congrArg some e23.1) (sub_nil _)) (List.sublist_append_right _ _) ?_
                      exact rq_v (rv_loadEl (u := .int .i64 (((primesN t).getD j c0).2 : Int)) rfl (by kernel_rfl) rfl (rd_row 0 rfl) ((flat_at cubC 2 (fun _ => rfl) (primesN t) c0 (show j < _ by first | omega | (simp only [List.length_set]; omega)) (by decide)).trans rfl))
                    ·
                      intro vf pf hR
                      have e11 : (vf 11) = .bool true ∧ (pf 11) = [] := hR 11 (by decide)
                      have e19 : (vf 19) = .int .i64 ((va &&& ((primesN t).getD j c0).1 : Nat) : Int) ∧ (pf 19) = [] := hR 19 (by decide)
                      have e24 : (vf 24) = .int .i64 (((primesN t).getD j c0).2 : Int) ∧ (pf 24) = [] := hR 24 (by decide)
                      refine Or.inl ⟨want_of (congrArg some e11.1) rfl, ?_⟩
                      refine rq_less (l' := [rowE 30 2 v11 ((primesN t).length) ((primesN t).flatMap cubC), boxE b6 #[.int .i64 (ca : Int), .int .i64 (va : Int)] 30, boxE b5 #[.int .i64 t.N, .int .i64 t.B] 25]) (sub_cons (d := 84) (congrArg some e19.1) (sub_cons (d := 89) (congrArg some e24.1) (sub_nil _))) (List.sublist_append_right _ _) ?_
                      exact rq_mono (rq_v (rv_cmp rfl rfl rfl rfl)) (fun _ _ h => ⟨h.1.trans (congrArg Value.bool hb18), h.2⟩)
                    ·
                      intro vf pf hR
                      have e1 : (vf 1) = .bool false ∧ (pf 1) = [] := hR 1 (by decide)
                      have e11 : (vf 11) = .bool true ∧ (pf 11) = [] := hR 11 (by decide)
                      have e25 : (vf 25) = .bool false ∧ (pf 25) = [] := hR 25 (by decide)
                      refine Or.inl ⟨want_of (congrArg some e1.1) rfl, ?_⟩
                      refine rq_less (l' := [rowE 30 2 v11 ((primesN t).length) ((primesN t).flatMap cubC), boxE b6 #[.int .i64 (ca : Int), .int .i64 (va : Int)] 30, boxE b5 #[.int .i64 t.N, .int .i64 t.B] 25]) (sub_cons (d := 76) (congrArg some e11.1) (sub_cons (d := 90) (congrArg some e25.1) (sub_nil _))) (List.sublist_append_right _ _) ?_
                      exact rq_v (rv_ev rfl)
                    ·
                      intro vf pf hR
                      have e1 : (vf 1) = .bool false ∧ (pf 1) = [] := hR 1 (by decide)
                      have e26 : (vf 26) = .bool false ∧ (pf 26) = [] := hR 26 (by decide)
                      refine Or.inl ⟨rfl, ?_⟩
                      refine rq_less (l' := [rowE 30 2 v11 ((primesN t).length) ((primesN t).flatMap cubC), boxE b6 #[.int .i64 (ca : Int), .int .i64 (va : Int)] 30, boxE b5 #[.int .i64 t.N, .int .i64 t.B] 25]) (sub_cons (d := 66) (congrArg some e1.1) (sub_cons (d := 91) (congrArg some e26.1) (sub_nil _))) (List.sublist_append_right _ _) ?_
                      exact rq_v (rv_ev rfl)
                  ·
                    intro vf pf hR
                    have e27 : (vf 27) = .bool false ∧ (pf 27) = [] := hR 27 (by decide)
                    refine hl_less (l' := [rowE 30 2 v11 ((primesN t).length) ((primesN t).flatMap cubC), boxE b6 #[.int .i64 (ca : Int), .int .i64 (va : Int)] 30, boxE b5 #[.int .i64 t.N, .int .i64 t.B] 25]) (sub_cons (d := 0) rfl (sub_cons (d := 2) rfl (sub_cons (d := 3) rfl (sub_cons (d := 5) rfl (sub_cons (d := 6) rfl (sub_cons (d := 7) rfl (sub_cons (d := 8) rfl (sub_cons (d := 9) rfl (sub_cons (d := 10) rfl (sub_cons (d := 11) rfl (sub_cons (d := 13) rfl (sub_cons (d := 35) rfl (sub_cons (d := 54) rfl (sub_cons (d := 64) rfl (sub_cons (d := 92) (congrArg some e27.1) (sub_nil _)))))))))))))))) (List.sublist_append_right _ _) ?_
                    simp only [List.drop_succ_cons, List.drop_zero]
                    refine hl_v rfl rfl rfl (rv_ev rfl) ?_
                    refine hl_less (sub_cons (d := 0) rfl (sub_cons (d := 2) rfl (sub_cons (d := 3) rfl (sub_cons (d := 5) rfl (sub_cons (d := 6) rfl (sub_cons (d := 7) rfl (sub_cons (d := 8) rfl (sub_cons (d := 9) rfl (sub_cons (d := 10) rfl (sub_cons (d := 11) rfl (sub_cons (d := 13) rfl (sub_cons (d := 35) rfl (sub_cons (d := 54) rfl (sub_cons (d := 64) rfl (sub_nil _))))))))))))))) (.refl _) ?_
                    refine hl_nil ?_
                    refine hq_block_normal ?_
                    refine hq_then ?_
                    refine hc_region ?_
                    refine hl_v rfl rfl rfl (rv_ev rfl) ?_
                    refine hl_v rfl rfl rfl (rv_add rfl rfl rfl (by constructor <;> omega)) ?_
                    refine hl_v rfl rfl rfl (rv_ev rfl) ?_
                    refine hl_less (sub_cons (d := 0) rfl (sub_cons (d := 2) rfl (sub_cons (d := 3) rfl (sub_cons (d := 5) rfl (sub_cons (d := 6) rfl (sub_cons (d := 7) rfl (sub_cons (d := 8) rfl (sub_cons (d := 9) rfl (sub_cons (d := 10) rfl (sub_cons (d := 11) rfl (sub_cons (d := 13) rfl (sub_cons (d := 35) rfl (sub_cons (d := 54) rfl (sub_cons (d := 64) rfl (sub_nil _))))))))))))))) (.refl _) ?_
                    refine hl_nil ?_
                    have hst : false = (ib || cov1 ((primesN t).getD j c0) (ca, va)) := by first | exact in_no1 (p := ((primesN t).getD j c0)) (ca := ca) (va := va) (by assumption) hj16.1 (by omega) (by assumption) | exact in_no2 (p := ((primesN t).getD j c0)) (ca := ca) (va := va) (by assumption) (by omega)
                    exact hq_round2 (j + 1) false ⟨by omega, by rw [any_snoc c0 _ (by omega), ← hi]; exact hst⟩ (by omega) (sub_cons (d := 0) rfl (sub_cons (d := 2) rfl (sub_cons (d := 3) rfl (sub_cons (d := 5) rfl (sub_cons (d := 6) rfl (sub_cons (d := 7) rfl (sub_cons (d := 8) rfl (sub_cons (d := 9) rfl (sub_cons (d := 10) rfl (sub_cons (d := 11) rfl (sub_cons (d := 13) rfl (sub_cons (d := 35) rfl (sub_nil _))))))))))))) ((.cons_cons _ (.cons_cons _ (.cons_cons _ .slnil))))
              ·
                have hb17p : bits .andNot .i64 (((primesN t).getD j c0).1 : Int) (ca : Int) ≠ 0 := beq_eq_false_iff_ne.1 hb17
                refine hc_draw (by kernel_rfl) 28 [0, 1, 2, 3, 4, 5, 6, 7, 8, 9, 10, 11, 12, 13, 14, 15, 16, 17, 18, 19, 20, 21, 22, 23, 24, 25, 26, 27] (List.take 28 _) (List.drop 28 _) [[], [0], [1], [1], [1, 2, 3], [1, 4], [1, 5], [1], [1, 7], [1, 6, 8], [1, 9], [1, 10], [11], [11], [11], [11], [11], [11], [11], [11], [11], [11], [11], [11], [11], [11], [1, 11, 25], [1, 26]] [65, 66, 67, 68, 69, 70, 71, 72, 73, 74, 75, 76, 77, 78, 79, 80, 81, 82, 83, 84, 85, 86, 87, 88, 89, 90, 91, 92] (fun i vs_ v_ p_ => match i with | 0 => v_ = .bool false ∧ p_ = [] | 1 => v_ = .bool false ∧ p_ = [] | 2 => v_ = v11 ∧ p_ = [] | 3 => v_ = .int .i64 (j : Int) ∧ p_ = [] | 4 => v_ = elP v11 (((j : Int)).toNat * 2) ∧ p_ = [] | 5 => v_ = elP v11 (((j : Int)).toNat * 2 + 0) ∧ p_ = [] | 6 => v_ = .int .i64 (((primesN t).getD j c0).1 : Int) ∧ p_ = [] | 7 => v_ = .pointer (some ⟨b6, 0 + 0, none⟩) ∧ p_ = [] | 8 => v_ = .int .i64 (ca : Int) ∧ p_ = [] | 9 => v_ = .int .i64 (bits .andNot .i64 (((primesN t).getD j c0).1 : Int) (ca : Int)) ∧ p_ = [] | 10 => v_ = .bool false ∧ p_ = [] | 11 => v_ = .bool false ∧ p_ = [] | 12 => v_ = undef ∧ p_ = [] | 13 => v_ = undef ∧ p_ = [] | 14 => v_ = undef ∧ p_ = [] | 15 => v_ = undef ∧ p_ = [] | 16 => v_ = undef ∧ p_ = [] | 17 => v_ = undef ∧ p_ = [] | 18 => v_ = undef ∧ p_ = [] | 19 => v_ = undef ∧ p_ = [] | 20 => v_ = undef ∧ p_ = [] | 21 => v_ = undef ∧ p_ = [] | 22 => v_ = undef ∧ p_ = [] | 23 => v_ = undef ∧ p_ = [] | 24 => v_ = undef ∧ p_ = [] | 25 => v_ = undef ∧ p_ = [] | 26 => v_ = .bool false ∧ p_ = [] | 27 => v_ = .bool false ∧ p_ = [] | _ => True) (List.take_append_drop 28 _).symm (by kernel_rfl) (by kernel_rfl) rfl rfl ?_ ?_
                ·
                  refine ⟨?_, ?_, ?_, ?_, ?_, ?_, ?_, ?_, ?_, ?_, ?_, ?_, ?_, ?_, ?_, ?_, ?_, ?_, ?_, ?_, ?_, ?_, ?_, ?_, ?_, ?_, ?_, ?_, trivial⟩
                  ·
                    intro vf pf hR
                    refine Or.inl ⟨rfl, ?_⟩
                    refine rq_less (l' := [rowE 30 2 v11 ((primesN t).length) ((primesN t).flatMap cubC), boxE b6 #[.int .i64 (ca : Int), .int .i64 (va : Int)] 30, boxE b5 #[.int .i64 t.N, .int .i64 t.B] 25]) (sub_cons (d := 10) rfl (sub_nil _)) (List.sublist_append_right _ _) ?_
                    exact rq_mono (rq_v (rv_ev rfl)) (fun _ _ h => ⟨h.1.trans (congrArg Value.bool hb16), h.2⟩)
                  ·
                    intro vf pf hR
                    have e0 : (vf 0) = .bool false ∧ (pf 0) = [] := hR 0 (by decide)
                    refine Or.inl ⟨rfl, ?_⟩
                    refine rq_less (l' := [rowE 30 2 v11 ((primesN t).length) ((primesN t).flatMap cubC), boxE b6 #[.int .i64 (ca : Int), .int .i64 (va : Int)] 30, boxE b5 #[.int .i64 t.N, .int .i64 t.B] 25]) (sub_cons (d := 65) (congrArg some e0.1) (sub_nil _)) (List.sublist_append_right _ _) ?_
                    exact rq_v (rv_ev rfl)
                  ·
                    intro vf pf hR
                    have e1 : (vf 1) = .bool false ∧ (pf 1) = [] := hR 1 (by decide)
                    refine Or.inl ⟨want_of (congrArg some e1.1) rfl, ?_⟩
                    refine rq_less (l' := [rowE 30 2 v11 ((primesN t).length) ((primesN t).flatMap cubC), boxE b6 #[.int .i64 (ca : Int), .int .i64 (va : Int)] 30, boxE b5 #[.int .i64 t.N, .int .i64 t.B] 25]) (sub_cons (d := 9) rfl (sub_nil _)) (List.sublist_append_right _ _) ?_
                    exact rq_v (rv_ev rfl)
                  ·
                    intro vf pf hR
                    have e1 : (vf 1) = .bool false ∧ (pf 1) = [] := hR 1 (by decide)
                    refine Or.inl ⟨want_of (congrArg some e1.1) rfl, ?_⟩
                    refine rq_less (l' := [rowE 30 2 v11 ((primesN t).length) ((primesN t).flatMap cubC), boxE b6 #[.int .i64 (ca : Int), .int .i64 (va : Int)] 30, boxE b5 #[.int .i64 t.N, .int .i64 t.B] 25]) (sub_cons (d := 11) rfl (sub_nil _)) (List.sublist_append_right _ _) ?_
                    exact rq_v (rv_ev rfl)
                  ·
                    intro vf pf hR
                    have e1 : (vf 1) = .bool false ∧ (pf 1) = [] := hR 1 (by decide)
                    have e2 : (vf 2) = v11 ∧ (pf 2) = [] := hR 2 (by decide)
                    have e3 : (vf 3) = .int .i64 (j : Int) ∧ (pf 3) = [] := hR 3 (by decide)
                    refine Or.inl ⟨want_of (congrArg some e1.1) rfl, ?_⟩
                    refine rq_less (l' := [rowE 30 2 v11 ((primesN t).length) ((primesN t).flatMap cubC), boxE b6 #[.int .i64 (ca : Int), .int .i64 (va : Int)] 30, boxE b5 #[.int .i64 t.N, .int .i64 t.B] 25]) (sub_cons (d := 67) (congrArg some e2.1) (sub_cons (d := 68) (congrArg some e3.1) (sub_nil _))) (List.sublist_append_right _ _) ?_
                    exact rq_v (rv_index (s := 2) rfl Try.underlying33 (by kernel_rfl) rfl rfl (rd_row 0 rfl) (by omega) (by first | omega | (simp only [List.length_set]; omega)))
                  ·
                    intro vf pf hR
                    have e1 : (vf 1) = .bool false ∧ (pf 1) = [] := hR 1 (by decide)
                    have e4 : (vf 4) = elP v11 (((j : Int)).toNat * 2) ∧ (pf 4) = [] := hR 4 (by decide)
                    refine Or.inl ⟨want_of (congrArg some e1.1) rfl, ?_⟩
                    refine rq_less (l' := [rowE 30 2 v11 ((primesN t).length) ((primesN t).flatMap cubC), boxE b6 #[.int .i64 (ca : Int), .int .i64 (va : Int)] 30, boxE b5 #[.int .i64 t.N, .int .i64 t.B] 25]) (sub_cons (d := 69) (congrArg some e4.1) (sub_nil _)) (List.sublist_append_right _ _) ?_
                    exact rq_v (rv_fieldEl (k0 := 0) rfl (by kernel_rfl) rfl (rd_row 0 rfl) (by first | omega | (simp only [List.length_set]; omega)))
                  ·
                    intro vf pf hR
                    have e1 : (vf 1) = .bool false ∧ (pf 1) = [] := hR 1 (by decide)
                    have e5 : (vf 5) = elP v11 (((j : Int)).toNat * 2 + 0) ∧ (pf 5) = [] := hR 5 (by decide)
                    refine Or.inl ⟨want_of (congrArg some e1.1) rfl, ?_⟩
                    refine rq_less (l' := [rowE 30 2 v11 ((primesN t).length) ((primesN t).flatMap cubC), boxE b6 #[.int .i64 (ca : Int), .int .i64 (va : Int)] 30, boxE b5 #[.int .i64 t.N, .int .i64 t.B] 25]) (sub_cons (d := 70) (congrArg some e5.1) (sub_nil _)) (List.sublist_append_right _ _) ?_
                    exact rq_v (rv_loadEl (u := .int .i64 (((primesN t).getD j c0).1 : Int)) rfl (by kernel_rfl) rfl (rd_row 0 rfl) ((flat_at cubC 2 (fun _ => rfl) (primesN t) c0 (show j < _ by first | omega | (simp only [List.length_set]; omega)) (by decide)).trans rfl))
                  ·
                    intro vf pf hR
                    have e1 : (vf 1) = .bool false ∧ (pf 1) = [] := hR 1 (by decide)
                    refine Or.inl ⟨want_of (congrArg some e1.1) rfl, ?_⟩
                    refine rq_less (l' := [rowE 30 2 v11 ((primesN t).length) ((primesN t).flatMap cubC), boxE b6 #[.int .i64 (ca : Int), .int .i64 (va : Int)] 30, boxE b5 #[.int .i64 t.N, .int .i64 t.B] 25]) (sub_cons (d := 6) rfl (sub_nil _)) (List.sublist_append_right _ _) ?_
                    exact rq_v (rv_field (k0 := 0) rfl (by kernel_rfl) rfl)
                  ·
                    intro vf pf hR
                    have e1 : (vf 1) = .bool false ∧ (pf 1) = [] := hR 1 (by decide)
                    have e7 : (vf 7) = .pointer (some ⟨b6, 0 + 0, none⟩) ∧ (pf 7) = [] := hR 7 (by decide)
                    refine Or.inl ⟨want_of (congrArg some e1.1) rfl, ?_⟩
                    refine rq_less (l' := [rowE 30 2 v11 ((primesN t).length) ((primesN t).flatMap cubC), boxE b6 #[.int .i64 (ca : Int), .int .i64 (va : Int)] 30, boxE b5 #[.int .i64 t.N, .int .i64 t.B] 25]) (sub_cons (d := 72) (congrArg some e7.1) (sub_nil _)) (List.sublist_append_right _ _) ?_
                    exact rq_v (rv_load rfl (by kernel_rfl) rfl (box_cell 1 rfl rfl))
                  ·
                    intro vf pf hR
                    have e1 : (vf 1) = .bool false ∧ (pf 1) = [] := hR 1 (by decide)
                    have e6 : (vf 6) = .int .i64 (((primesN t).getD j c0).1 : Int) ∧ (pf 6) = [] := hR 6 (by decide)
                    have e8 : (vf 8) = .int .i64 (ca : Int) ∧ (pf 8) = [] := hR 8 (by decide)
                    refine Or.inl ⟨want_of (congrArg some e1.1) rfl, ?_⟩
                    refine rq_less (l' := [rowE 30 2 v11 ((primesN t).length) ((primesN t).flatMap cubC), boxE b6 #[.int .i64 (ca : Int), .int .i64 (va : Int)] 30, boxE b5 #[.int .i64 t.N, .int .i64 t.B] 25]) (sub_cons (d := 71) (congrArg some e6.1) (sub_cons (d := 73) (congrArg some e8.1) (sub_nil _))) (List.sublist_append_right _ _) ?_
                    exact rq_v (rv_bits rfl (by decide) rfl rfl (r := bits .andNot .i64 (((primesN t).getD j c0).1 : Int) (ca : Int)) rfl)
                  ·
                    intro vf pf hR
                    have e1 : (vf 1) = .bool false ∧ (pf 1) = [] := hR 1 (by decide)
                    have e9 : (vf 9) = .int .i64 (bits .andNot .i64 (((primesN t).getD j c0).1 : Int) (ca : Int)) ∧ (pf 9) = [] := hR 9 (by decide)
                    refine Or.inl ⟨want_of (congrArg some e1.1) rfl, ?_⟩
                    refine rq_less (l' := [rowE 30 2 v11 ((primesN t).length) ((primesN t).flatMap cubC), boxE b6 #[.int .i64 (ca : Int), .int .i64 (va : Int)] 30, boxE b5 #[.int .i64 t.N, .int .i64 t.B] 25]) (sub_cons (d := 74) (congrArg some e9.1) (sub_nil _)) (List.sublist_append_right _ _) ?_
                    exact rq_mono (rq_v (rv_cmp rfl rfl rfl rfl)) (fun _ _ h => ⟨h.1.trans (congrArg Value.bool hb17), h.2⟩)
                  ·
                    intro vf pf hR
                    have e1 : (vf 1) = .bool false ∧ (pf 1) = [] := hR 1 (by decide)
                    have e10 : (vf 10) = .bool false ∧ (pf 10) = [] := hR 10 (by decide)
                    refine Or.inl ⟨want_of (congrArg some e1.1) rfl, ?_⟩
                    refine rq_less (l' := [rowE 30 2 v11 ((primesN t).length) ((primesN t).flatMap cubC), boxE b6 #[.int .i64 (ca : Int), .int .i64 (va : Int)] 30, boxE b5 #[.int .i64 t.N, .int .i64 t.B] 25]) (sub_cons (d := 75) (congrArg some e10.1) (sub_nil _)) (List.sublist_append_right _ _) ?_
                    exact rq_v (rv_ev rfl)
                  ·
                    intro vf pf hR
                    have e11 : (vf 11) = .bool false ∧ (pf 11) = [] := hR 11 (by decide)
                    exact Or.inr ⟨want_of (congrArg some e11.1) rfl, rfl, rfl⟩
                  ·
                    intro vf pf hR
                    have e11 : (vf 11) = .bool false ∧ (pf 11) = [] := hR 11 (by decide)
                    exact Or.inr ⟨want_of (congrArg some e11.1) rfl, rfl, rfl⟩
                  ·
                    intro vf pf hR
                    have e11 : (vf 11) = .bool false ∧ (pf 11) = [] := hR 11 (by decide)
                    exact Or.inr ⟨want_of (congrArg some e11.1) rfl, rfl, rfl⟩
                  ·
                    intro vf pf hR
                    have e11 : (vf 11) = .bool false ∧ (pf 11) = [] := hR 11 (by decide)
                    exact Or.inr ⟨want_of (congrArg some e11.1) rfl, rfl, rfl⟩
                  ·
                    intro vf pf hR
                    have e11 : (vf 11) = .bool false ∧ (pf 11) = [] := hR 11 (by decide)
                    exact Or.inr ⟨want_of (congrArg some e11.1) rfl, rfl, rfl⟩
                  ·
                    intro vf pf hR
                    have e11 : (vf 11) = .bool false ∧ (pf 11) = [] := hR 11 (by decide)
                    exact Or.inr ⟨want_of (congrArg some e11.1) rfl, rfl, rfl⟩
                  ·
                    intro vf pf hR
                    have e11 : (vf 11) = .bool false ∧ (pf 11) = [] := hR 11 (by decide)
                    exact Or.inr ⟨want_of (congrArg some e11.1) rfl, rfl, rfl⟩
                  ·
                    intro vf pf hR
                    have e11 : (vf 11) = .bool false ∧ (pf 11) = [] := hR 11 (by decide)
                    exact Or.inr ⟨want_of (congrArg some e11.1) rfl, rfl, rfl⟩
                  ·
                    intro vf pf hR
                    have e11 : (vf 11) = .bool false ∧ (pf 11) = [] := hR 11 (by decide)
                    exact Or.inr ⟨want_of (congrArg some e11.1) rfl, rfl, rfl⟩
                  ·
                    intro vf pf hR
                    have e11 : (vf 11) = .bool false ∧ (pf 11) = [] := hR 11 (by decide)
                    exact Or.inr ⟨want_of (congrArg some e11.1) rfl, rfl, rfl⟩
                  ·
                    intro vf pf hR
                    have e11 : (vf 11) = .bool false ∧ (pf 11) = [] := hR 11 (by decide)
                    exact Or.inr ⟨want_of (congrArg some e11.1) rfl, rfl, rfl⟩
                  ·
                    intro vf pf hR
                    have e11 : (vf 11) = .bool false ∧ (pf 11) = [] := hR 11 (by decide)
                    exact Or.inr ⟨want_of (congrArg some e11.1) rfl, rfl, rfl⟩
                  ·
                    intro vf pf hR
                    have e11 : (vf 11) = .bool false ∧ (pf 11) = [] := hR 11 (by decide)
                    exact Or.inr ⟨want_of (congrArg some e11.1) rfl, rfl, rfl⟩
                  ·
                    intro vf pf hR
                    have e11 : (vf 11) = .bool false ∧ (pf 11) = [] := hR 11 (by decide)
                    exact Or.inr ⟨want_of (congrArg some e11.1) rfl, rfl, rfl⟩
                  ·
                    intro vf pf hR
                    have e1 : (vf 1) = .bool false ∧ (pf 1) = [] := hR 1 (by decide)
                    have e11 : (vf 11) = .bool false ∧ (pf 11) = [] := hR 11 (by decide)
                    have e25 : (vf 25) = undef ∧ (pf 25) = [] := hR 25 (by decide)
                    refine Or.inl ⟨want_of (congrArg some e1.1) rfl, ?_⟩
                    refine rq_less (l' := [rowE 30 2 v11 ((primesN t).length) ((primesN t).flatMap cubC), boxE b6 #[.int .i64 (ca : Int), .int .i64 (va : Int)] 30, boxE b5 #[.int .i64 t.N, .int .i64 t.B] 25]) (sub_cons (d := 76) (congrArg some e11.1) (sub_cons (d := 90) (congrArg some e25.1) (sub_nil _))) (List.sublist_append_right _ _) ?_
                    exact rq_v (rv_ev rfl)
                  ·
                    intro vf pf hR
                    have e1 : (vf 1) = .bool false ∧ (pf 1) = [] := hR 1 (by decide)
                    have e26 : (vf 26) = .bool false ∧ (pf 26) = [] := hR 26 (by decide)
                    refine Or.inl ⟨rfl, ?_⟩
                    refine rq_less (l' := [rowE 30 2 v11 ((primesN t).length) ((primesN t).flatMap cubC), boxE b6 #[.int .i64 (ca : Int), .int .i64 (va : Int)] 30, boxE b5 #[.int .i64 t.N, .int .i64 t.B] 25]) (sub_cons (d := 66) (congrArg some e1.1) (sub_cons (d := 91) (congrArg some e26.1) (sub_nil _))) (List.sublist_append_right _ _) ?_
                    exact rq_v (rv_ev rfl)
                ·
                  intro vf pf hR
                  have e27 : (vf 27) = .bool false ∧ (pf 27) = [] := hR 27 (by decide)
                  refine hl_less (l' := [rowE 30 2 v11 ((primesN t).length) ((primesN t).flatMap cubC), boxE b6 #[.int .i64 (ca : Int), .int .i64 (va : Int)] 30, boxE b5 #[.int .i64 t.N, .int .i64 t.B] 25]) (sub_cons (d := 0) rfl (sub_cons (d := 2) rfl (sub_cons (d := 3) rfl (sub_cons (d := 5) rfl (sub_cons (d := 6) rfl (sub_cons (d := 7) rfl (sub_cons (d := 8) rfl (sub_cons (d := 9) rfl (sub_cons (d := 10) rfl (sub_cons (d := 11) rfl (sub_cons (d := 13) rfl (sub_cons (d := 35) rfl (sub_cons (d := 54) rfl (sub_cons (d := 64) rfl (sub_cons (d := 92) (congrArg some e27.1) (sub_nil _)))))))))))))))) (List.sublist_append_right _ _) ?_
                  simp only [List.drop_succ_cons, List.drop_zero]
                  refine hl_v rfl rfl rfl (rv_ev rfl) ?_
                  refine hl_less (sub_cons (d := 0) rfl (sub_cons (d := 2) rfl (sub_cons (d := 3) rfl (sub_cons (d := 5) rfl (sub_cons (d := 6) rfl (sub_cons (d := 7) rfl (sub_cons (d := 8) rfl (sub_cons (d := 9) rfl (sub_cons (d := 10) rfl (sub_cons (d := 11) rfl (sub_cons (d := 13) rfl (sub_cons (d := 35) rfl (sub_cons (d := 54) rfl (sub_cons (d := 64) rfl (sub_nil _))))))))))))))) (.refl _) ?_
                  refine hl_nil ?_
                  refine hq_block_normal ?_
                  refine hq_then ?_
                  refine hc_region ?_
                  refine hl_v rfl rfl rfl (rv_ev rfl) ?_
                  refine hl_v rfl rfl rfl (rv_add rfl rfl rfl (by constructor <;> omega)) ?_
                  refine hl_v rfl rfl rfl (rv_ev rfl) ?_
                  refine hl_less (sub_cons (d := 0) rfl (sub_cons (d := 2) rfl (sub_cons (d := 3) rfl (sub_cons (d := 5) rfl (sub_cons (d := 6) rfl (sub_cons (d := 7) rfl (sub_cons (d := 8) rfl (sub_cons (d := 9) rfl (sub_cons (d := 10) rfl (sub_cons (d := 11) rfl (sub_cons (d := 13) rfl (sub_cons (d := 35) rfl (sub_cons (d := 54) rfl (sub_cons (d := 64) rfl (sub_nil _))))))))))))))) (.refl _) ?_
                  refine hl_nil ?_
                  have hst : false = (ib || cov1 ((primesN t).getD j c0) (ca, va)) := by first | exact in_no1 (p := ((primesN t).getD j c0)) (ca := ca) (va := va) (by assumption) hj16.1 (by omega) (by assumption) | exact in_no2 (p := ((primesN t).getD j c0)) (ca := ca) (va := va) (by assumption) (by omega)
                  exact hq_round2 (j + 1) false ⟨by omega, by rw [any_snoc c0 _ (by omega), ← hi]; exact hst⟩ (by omega) (sub_cons (d := 0) rfl (sub_cons (d := 2) rfl (sub_cons (d := 3) rfl (sub_cons (d := 5) rfl (sub_cons (d := 6) rfl (sub_cons (d := 7) rfl (sub_cons (d := 8) rfl (sub_cons (d := 9) rfl (sub_cons (d := 10) rfl (sub_cons (d := 11) rfl (sub_cons (d := 13) rfl (sub_cons (d := 35) rfl (sub_nil _))))))))))))) ((.cons_cons _ (.cons_cons _ (.cons_cons _ .slnil))))
        ·
          refine hl_less (sub_cons (d := 0) rfl (sub_cons (d := 2) rfl (sub_cons (d := 3) rfl (sub_cons (d := 5) rfl (sub_cons (d := 6) rfl (sub_cons (d := 7) rfl (sub_cons (d := 8) rfl (sub_cons (d := 9) rfl (sub_cons (d := 10) rfl (sub_cons (d := 11) rfl (sub_cons (d := 13) rfl (sub_cons (d := 35) rfl (sub_cons (d := 54) rfl (sub_nil _)))))))))))))) (.refl _) ?_
          refine hl_nil ?_
          refine hq_then ?_
          refine hc_false rfl ?_
          refine hc_exit ?_
          refine hq_then_exit ?_
          refine hq_then_exit ?_
          refine hq_block_exit ?_
          refine hq_then ?_
          refine hc_seq ?_
          refine hc_region ?_
          refine hl_v rfl rfl rfl (rv_ev rfl) ?_
          refine hl_bool (fun h19 => ?_) (fun h19 => ?_)
          ·
            refine hl_v rfl rfl rfl (rv_ev rfl) ?_
            refine hl_bool (fun h20 => ?_) (fun h20 => ?_)
            ·
              refine hl_v rfl rfl rfl (rv_beql rfl Try.underlying4 rfl rfl) ?_
              refine hl_v rfl rfl rfl (rv_ev rfl) ?_
              refine hl_less (sub_cons (d := 0) rfl (sub_cons (d := 2) rfl (sub_cons (d := 3) rfl (sub_cons (d := 5) rfl (sub_cons (d := 6) rfl (sub_cons (d := 7) rfl (sub_cons (d := 8) rfl (sub_cons (d := 9) rfl (sub_cons (d := 10) rfl (sub_cons (d := 11) rfl (sub_cons (d := 13) rfl (sub_cons (d := 35) rfl (sub_cons (d := 54) rfl (sub_nil _)))))))))))))) (.refl _) ?_
              refine hl_nil ?_
              refine hq_then ?_
              refine hc_ret ?_
              exact hq_ans rfl rfl rfl
            ·
              refine hl_v rfl rfl rfl (rv_beql rfl Try.underlying4 rfl rfl) ?_
              refine hl_v rfl rfl rfl (rv_ev rfl) ?_
              refine hl_less (sub_cons (d := 0) rfl (sub_cons (d := 2) rfl (sub_cons (d := 3) rfl (sub_cons (d := 5) rfl (sub_cons (d := 6) rfl (sub_cons (d := 7) rfl (sub_cons (d := 8) rfl (sub_cons (d := 9) rfl (sub_cons (d := 10) rfl (sub_cons (d := 11) rfl (sub_cons (d := 13) rfl (sub_cons (d := 35) rfl (sub_cons (d := 54) rfl (sub_nil _)))))))))))))) (.refl _) ?_
              refine hl_nil ?_
              refine hq_then ?_
              refine hc_ret ?_
              have hkn : k = pn t.N := by omega
              have hjn : j = (primesN t).length := by omega
              have hib : ib = b := by rw [hi, hb, hjn, hkn, List.take_length]; exact inside_eq hca hcv
              exact hq_ans rfl rfl (by first | rfl | exact absurd ((show ib = true by assumption).symm.trans (hib.trans (show b = false by assumption))) (by decide) | exact absurd ((show ib = false by assumption).symm.trans (hib.trans (show b = true by assumption))) (by decide) | (rw [hib]; cases b <;> rfl))
          ·
            refine hl_v rfl rfl rfl (rv_ev rfl) ?_
            refine hl_bool (fun h21 => ?_) (fun h21 => ?_)
            ·
              refine hl_v rfl rfl rfl (rv_beql rfl Try.underlying4 rfl rfl) ?_
              refine hl_v rfl rfl rfl (rv_ev rfl) ?_
              refine hl_less (sub_cons (d := 0) rfl (sub_cons (d := 2) rfl (sub_cons (d := 3) rfl (sub_cons (d := 5) rfl (sub_cons (d := 6) rfl (sub_cons (d := 7) rfl (sub_cons (d := 8) rfl (sub_cons (d := 9) rfl (sub_cons (d := 10) rfl (sub_cons (d := 11) rfl (sub_cons (d := 13) rfl (sub_cons (d := 35) rfl (sub_cons (d := 54) rfl (sub_nil _)))))))))))))) (.refl _) ?_
              refine hl_nil ?_
              refine hq_then ?_
              refine hc_ret ?_
              have hkn : k = pn t.N := by omega
              have hjn : j = (primesN t).length := by omega
              have hib : ib = b := by rw [hi, hb, hjn, hkn, List.take_length]; exact inside_eq hca hcv
              exact hq_ans rfl rfl (by first | rfl | exact absurd ((show ib = true by assumption).symm.trans (hib.trans (show b = false by assumption))) (by decide) | exact absurd ((show ib = false by assumption).symm.trans (hib.trans (show b = true by assumption))) (by decide) | (rw [hib]; cases b <;> rfl))
            ·
              refine hl_v rfl rfl rfl (rv_beql rfl Try.underlying4 rfl rfl) ?_
              refine hl_v rfl rfl rfl (rv_ev rfl) ?_
              refine hl_less (sub_cons (d := 0) rfl (sub_cons (d := 2) rfl (sub_cons (d := 3) rfl (sub_cons (d := 5) rfl (sub_cons (d := 6) rfl (sub_cons (d := 7) rfl (sub_cons (d := 8) rfl (sub_cons (d := 9) rfl (sub_cons (d := 10) rfl (sub_cons (d := 11) rfl (sub_cons (d := 13) rfl (sub_cons (d := 35) rfl (sub_cons (d := 54) rfl (sub_nil _)))))))))))))) (.refl _) ?_
              refine hl_nil ?_
              refine hq_then ?_
              refine hc_ret ?_
              exact hq_ans rfl rfl rfl
end Go.Proofs.Yteccnnpcigkmhaa
