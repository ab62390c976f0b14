/- The cursor: numbers below whatever bound. -/
import Derived.Test.YteccnnpcigkmhaaCur2
set_option linter.unusedVariables false
set_option linter.unusedSimpArgs false
namespace Go.Proofs.Yteccnnpcigkmhaa
open Go.RowKit

theorem byte_mut {w0 : World} {l : List HP} {w : World} {g : Nat} {a : Option Addr} {len cap : Nat} {z : List Int} (hm : Mem w0 (curE g a len cap :: l) w) (hb : BRow .u8 w0 a len cap z) :
    Calls Try.prog 58 #[.pointer (some ⟨g, 0, none⟩)] w (fun e_ w_ => ∃ v_ p_, e_ = .returned v_ ∧ ((∃ x : Int, v_ = .int .i64 x ∧ 0 ≤ x ∧ x < 256) ∧ p_ = curE g a len cap) ∧ Mem w0 (p_ :: l) w_) :=
  cur_mut (R' := fun v => ∃ x : Int, v = .int .i64 x ∧ 0 ≤ x ∧ x < 256) hm hb (fun w B hc => l01Byte_any B g a len cap z w hc) (fun e ⟨x, hx, he⟩ => ⟨_, he, (x : Int), rfl, by omega, by omega⟩)
set_option maxHeartbeats 4000000 in
set_option maxRecDepth 100000 in
theorem belowN_mut (g : Nat) (a : Option Addr) (len cap : Nat) (z : List Int) (n : Int) (w0 : World) (l : List HP) (w : World) (hm0 : Mem w0 (curE g a len cap :: l) w) (hb : BRow .u8 w0 a len cap z) (hn : 1 ≤ n ∧ n ≤ 4294967296) :
    Calls Try.prog 28 #[.pointer (some ⟨g, 0, none⟩), .int .i64 n] w (fun e_ w_ => ∃ v_ p_, e_ = .returned v_ ∧ (fun u_ p_ => (∃ x : Int, u_ = .int .i64 x ∧ 0 ≤ x ∧ x < n) ∧ p_ = curE g a len cap) v_ p_ ∧ Mem w0 (p_ :: l) w_) := by
  refine calls_hcM (N := 37) (args := [.pointer (some ⟨g, 0, none⟩), .int .i64 n]) Try.func28 rfl rfl hm0 ?_
  refine hc_less _ (sub_cons (d := 0) rfl (sub_cons (d := 1) rfl (sub_nil _))) (.refl _) ?_
  refine hc_seq ?_
  refine hc_region ?_
  refine hl_v rfl rfl rfl (rv_ev rfl) ?_
  refine hl_less (sub_cons (d := 0) rfl (sub_cons (d := 1) rfl (sub_cons (d := 4) rfl (sub_nil _)))) (.refl _) ?_
  refine hl_nil ?_
  refine hq_then ?_
  refine hc_seq ?_
  refine hc_seq ?_
  refine hc_region ?_
  refine hl_v rfl rfl rfl (rv_ev rfl) ?_
  refine hl_leq rfl rfl rfl rfl rfl rfl (fun h1 => absurd h1 (by omega)) (fun h1 => ?_)
  refine hl_less (sub_cons (d := 0) rfl (sub_cons (d := 1) rfl (sub_cons (d := 4) rfl (sub_cons (d := 10) rfl (sub_nil _))))) (.refl _) ?_
  refine hl_nil ?_
  refine hq_then ?_
  refine hc_false rfl ?_
  refine hc_skip ?_
  refine hq_then ?_
  refine hc_seq ?_
  refine hc_seq ?_
  refine hc_region ?_
  refine hl_v rfl rfl rfl (rv_ev rfl) ?_
  refine hl_leq rfl rfl rfl rfl rfl rfl (fun h2 => ?_) (fun h2 => ?_)
  ·
    refine hl_less (sub_cons (d := 0) rfl (sub_cons (d := 1) rfl (sub_cons (d := 4) rfl (sub_cons (d := 10) rfl (sub_cons (d := 12) rfl (sub_nil _)))))) (.refl _) ?_
    refine hl_nil ?_
    refine hq_then ?_
    refine hc_true rfl ?_
    refine hc_seq ?_
    refine hc_region ?_
    refine hl_v rfl rfl rfl (rv_ev rfl) ?_
    refine hl_callM (R := (fun u_ p_ => (∃ x : Int, u_ = .int .i64 x ∧ 0 ≤ x ∧ x < 256) ∧ p_ = curE g a len cap)) 0 rfl rfl (by kernel_rfl) rfl rfl (fun l' w hm => byte_mut hm hb) ?_
    intro v3 p4 hR5
    obtain ⟨⟨xhR5, rfl, xhR50, xhR51⟩, rfl⟩ := hR5
    refine hl_eqL (l' := (curE g a len cap :: l)) rfl ?_
    refine hl_v rfl rfl rfl (rv_ev rfl) ?_
    refine hl_v rfl rfl rfl (rv_rem rfl rfl rfl (by constructor <;> omega)) ?_
    refine hl_v rfl rfl rfl (rv_ev rfl) ?_
    refine hl_less (sub_cons (d := 0) rfl (sub_cons (d := 1) rfl (sub_cons (d := 4) rfl (sub_cons (d := 10) rfl (sub_cons (d := 12) rfl (sub_nil _)))))) (.refl _) ?_
    refine hl_nil ?_
    refine hq_then ?_
    refine hc_ret ?_
    refine hq_then_ret ?_
    exact hq_retMut (p' := curE g a len cap) rfl rfl (.refl _) ⟨⟨_, rfl, Int.emod_nonneg _ (by omega), Int.emod_lt_of_pos _ (by omega)⟩, rfl⟩
  ·
    refine hl_less (sub_cons (d := 0) rfl (sub_cons (d := 1) rfl (sub_cons (d := 4) rfl (sub_cons (d := 10) rfl (sub_cons (d := 12) rfl (sub_nil _)))))) (.refl _) ?_
    refine hl_nil ?_
    refine hq_then ?_
    refine hc_false rfl ?_
    refine hc_skip ?_
    refine hq_then ?_
    refine hc_seq ?_
    refine hc_region ?_
    refine hl_v rfl rfl rfl (rv_ev rfl) ?_
    refine hl_callM (R := (fun u_ p_ => (∃ x : Int, u_ = .int .i64 x ∧ 0 ≤ x ∧ x < 256) ∧ p_ = curE g a len cap)) 0 rfl rfl (by kernel_rfl) rfl rfl (fun l' w hm => byte_mut hm hb) ?_
    intro v6 p7 hR8
    obtain ⟨⟨xhR8, rfl, xhR80, xhR81⟩, rfl⟩ := hR8
    refine hl_eqL (l' := (curE g a len cap :: l)) rfl ?_
    refine hl_v rfl rfl rfl (rv_ev rfl) ?_
    refine hl_less (sub_cons (d := 0) rfl (sub_cons (d := 1) rfl (sub_cons (d := 4) rfl (sub_cons (d := 5) rfl (sub_cons (d := 10) rfl (sub_cons (d := 12) rfl (sub_nil _))))))) (.refl _) ?_
    refine hl_nil ?_
    refine hq_then ?_
    refine hc_seq ?_
    refine hc_region ?_
    refine hl_v rfl rfl rfl (rv_ev rfl) ?_
    refine hl_callM (R := (fun u_ p_ => (∃ x : Int, u_ = .int .i64 x ∧ 0 ≤ x ∧ x < 256) ∧ p_ = curE g a len cap)) 0 rfl rfl (by kernel_rfl) rfl rfl (fun l' w hm => byte_mut hm hb) ?_
    intro v9 p10 hR11
    obtain ⟨⟨xhR11, rfl, xhR110, xhR111⟩, rfl⟩ := hR11
    refine hl_eqL (l' := (curE g a len cap :: l)) rfl ?_
    refine hl_v rfl rfl rfl (rv_ev rfl) ?_
    refine hl_less (sub_cons (d := 0) rfl (sub_cons (d := 1) rfl (sub_cons (d := 4) rfl (sub_cons (d := 5) rfl (sub_cons (d := 6) rfl (sub_cons (d := 10) rfl (sub_cons (d := 12) rfl (sub_nil _)))))))) (.refl _) ?_
    refine hl_nil ?_
    refine hq_then ?_
    refine hc_seq ?_
    refine hc_region ?_
    refine hl_v rfl rfl rfl (rv_ev rfl) ?_
    refine hl_callM (R := (fun u_ p_ => (∃ x : Int, u_ = .int .i64 x ∧ 0 ≤ x ∧ x < 256) ∧ p_ = curE g a len cap)) 0 rfl rfl (by kernel_rfl) rfl rfl (fun l' w hm => byte_mut hm hb) ?_
    intro v12 p13 hR14
    obtain ⟨⟨xhR14, rfl, xhR140, xhR141⟩, rfl⟩ := hR14
    refine hl_eqL (l' := (curE g a len cap :: l)) rfl ?_
    refine hl_v rfl rfl rfl (rv_ev rfl) ?_
    refine hl_less (sub_cons (d := 0) rfl (sub_cons (d := 1) rfl (sub_cons (d := 4) rfl (sub_cons (d := 5) rfl (sub_cons (d := 6) rfl (sub_cons (d := 7) rfl (sub_cons (d := 10) rfl (sub_cons (d := 12) rfl (sub_nil _))))))))) (.refl _) ?_
    refine hl_nil ?_
    refine hq_then ?_
    refine hc_seq ?_
    refine hc_region ?_
    refine hl_v rfl rfl rfl (rv_ev rfl) ?_
    refine hl_callM (R := (fun u_ p_ => (∃ x : Int, u_ = .int .i64 x ∧ 0 ≤ x ∧ x < 256) ∧ p_ = curE g a len cap)) 0 rfl rfl (by kernel_rfl) rfl rfl (fun l' w hm => byte_mut hm hb) ?_
    intro v15 p16 hR17
    obtain ⟨⟨xhR17, rfl, xhR170, xhR171⟩, rfl⟩ := hR17
    refine hl_eqL (l' := (curE g a len cap :: l)) rfl ?_
    refine hl_v rfl rfl rfl (rv_ev rfl) ?_
    refine hl_less (sub_cons (d := 0) rfl (sub_cons (d := 1) rfl (sub_cons (d := 4) rfl (sub_cons (d := 5) rfl (sub_cons (d := 6) rfl (sub_cons (d := 7) rfl (sub_cons (d := 8) rfl (sub_cons (d := 10) rfl (sub_cons (d := 12) rfl (sub_nil _)))))))))) (.refl _) ?_
    refine hl_nil ?_
    refine hq_then ?_
    refine hc_seq ?_
    refine hc_region ?_
    refine hl_v rfl rfl rfl (rv_ev rfl) ?_
    refine hl_v rfl rfl rfl (rv_mul rfl rfl rfl (by constructor <;> omega)) ?_
    refine hl_v rfl rfl rfl (rv_ev rfl) ?_
    refine hl_v rfl rfl rfl (rv_mul rfl rfl rfl (by constructor <;> omega)) ?_
    refine hl_v rfl rfl rfl (rv_add rfl rfl rfl (by constructor <;> omega)) ?_
    refine hl_v rfl rfl rfl (rv_ev rfl) ?_
    refine hl_v rfl rfl rfl (rv_mul rfl rfl rfl (by constructor <;> omega)) ?_
    refine hl_v rfl rfl rfl (rv_add rfl rfl rfl (by constructor <;> omega)) ?_
    refine hl_v rfl rfl rfl (rv_ev rfl) ?_
    refine hl_v rfl rfl rfl (rv_add rfl rfl rfl (by constructor <;> omega)) ?_
    refine hl_v rfl rfl rfl (rv_ev rfl) ?_
    refine hl_v rfl rfl rfl (rv_rem rfl rfl rfl (by constructor <;> omega)) ?_
    refine hl_v rfl rfl rfl (rv_ev rfl) ?_
    refine hl_less (sub_cons (d := 0) rfl (sub_cons (d := 1) rfl (sub_cons (d := 4) rfl (sub_cons (d := 5) rfl (sub_cons (d := 6) rfl (sub_cons (d := 7) rfl (sub_cons (d := 8) rfl (sub_cons (d := 10) rfl (sub_cons (d := 12) rfl (sub_nil _)))))))))) (.refl _) ?_
    refine hl_nil ?_
    refine hq_then ?_
    refine hc_ret ?_
    exact hq_retMut (p' := curE g a len cap) rfl rfl (.refl _) ⟨⟨_, rfl, Int.emod_nonneg _ (by omega), Int.emod_lt_of_pos _ (by omega)⟩, rfl⟩
end Go.Proofs.Yteccnnpcigkmhaa
